/- One thing for a list of lists, however deep, is a list of a list of it: the statement CoerceDeep, whole: for every input, no conditions. -/
import Derived.Test.YtpalalebligmoaaGreatDoorRowV
import Derived.Test.YtpalalebligmoaaGreatDoorPostV
import Derived.Test.YtpalalebligmoaaGreatDoorS8
namespace Go.Proofs.YtpalalebligmoaaGreatDoor
open Go.ChangeShapes Go.WideShapes Go.ChangeAt Go.WideMaps Go.WideElems Go.RowKit Go.ChangeMaps Go.Cb Go.Cb.CodeA
set_option maxRecDepth 100000
set_option linter.unusedVariables false
theorem coerceDeep_lifted (os : Os) (started : os.Started) (H : Type) (enc : TypeId × Value → H) :
    ReturnsInHanded {} Tryz.checked os 7 .any (fun w args => (Rows.coerceDeepSpec.pre enc Tryz.prog Tryz.f7 [] false w args ∧ laidMetH Tryz.prog laidS w) ∧ sizedMet enc Tryz.prog Tryz.f7 (OpenSpec.ofChange Rows.coerceDeepSpec) false w args)
      (Rows.coerceDeepSpec.post enc Tryz.prog Tryz.f7 false true false false) := by
  refine returnsInHanded_of_change_and (C := Tryz.checked) (X := fun w _ => laidMetH Tryz.prog laidS w) (fun _ _ _ hh h => h.of_heap hh) own started (by kernel_rfl) Tryz.func7
    (ChangeSpec.witness_shaped (enc := enc) (C := Tryz.checked) (os := os) (X := fun w _ => laidMetH Tryz.prog laidS w) false (World.doorLaid Tryz.prog 400 os) #[.int .i32 0, .int .u8 0] 8 rfl (World.shaped_of_RefB (by kernel_rfl) (by kernel_rfl)) (by kernel_rfl) (by kernel_rfl) (by kernel_rfl) (door_met os _)) ?_
  intro W base args ds gs before hval0 hW _ _ hL _
  have hval : ∀ (j : Nat) t v, Tryz.f7.params[j]? = some t → args[j]? = some v → Value.okWide Tryz.prog W .any base t v := hval0
  have hW' := hW
  obtain ⟨p, q, hA0, hV, rfl, hfz, hnd⟩ := hW
  have hA : DataW.TrodAll enc Tryz.prog W 0 (fun _ => true) true Tryz.f7.params.toList args.toList ds p := hA0
  rw [Tryz.params7] at hA hval
  obtain ⟨v0, v1, d0, d1, a0, b0, rfl, rfl, rfl, h0, h1⟩ := trodAll_two hA
  obtain ⟨i, rfl, rfl, rfl, hi⟩ := open_int Tryz.underlying21 (hval 0 21 v0 rfl rfl) h0
  obtain ⟨k, rfl, rfl, rfl, hk⟩ := open_int Tryz.underlying5 (hval 1 5 v1 rfl rfl) h1
  obtain ⟨rfl, rfl⟩ := trodVars_none hV
  have hus : (Lit.int .u8 k).wf = true := hk
  have hui : (Lit.int .i32 i).wf = true := hi
  have hk2 : 0 ≤ k ∧ k < 256 := by
    have := hus
    simp [Lit.wf, IntKind.min, IntKind.max, IntKind.signed, IntKind.bits] at this
    omega
  have hi2 : -2147483648 ≤ i ∧ i < 2147483648 := by
    have := hui
    simp [Lit.wf, IntKind.min, IntKind.max, IntKind.signed, IntKind.bits] at this
    omega
  obtain ⟨a, st', ⟨n, hrun⟩, ha⟩ := Go.Cb.CodeA.deep_law i hi2 k hk2
  subst ha
  refine (answer prog_ok hrun (fun x hx => ?_) (globs_of_laid hL) (vs := [.int .i32 i, .int .u8 k]) ?_).mono fun e W' ⟨he, hw⟩ => ?_
  · simp only [List.mem_cons, List.not_mem_nil, or_false] at hx
    rcases hx with rfl | rfl <;> rfl
  · simp only [RelL, Rel]
    exact ⟨_, _, rfl, rfl, _, _, rfl, rfl, rfl⟩
  · subst he
    refine ⟨_, rfl, ?_⟩
    refine post_of_same2 (pa := []) (pv := []) hW' (fun _ _ _ => trodAll_mk1 (shut_bool Tryz.underlying4 _)) (fun sp _ => ?_) (fun _ _ => rfl) rfl (World.keptBut_mono (fun p hp => hp.elim) hw.kept) hw.fz (ok_one (by kernel_rfl) rfl (okWide_bool_mk Tryz.underlying4 _))
    rw [Tryz.params7]
    exact trodAll_mk2 (shut_int Tryz.underlying21 hi) (shut_int Tryz.underlying5 hk)
theorem coerceDeep_holds : Rows.CoerceDeepSaid :=
  OpenClaim.holds_of_wide 7 Tryz.f7 rfl rfl rfl rfl rfl rfl rfl ⟨rfl, rfl, rfl, rfl, rfl⟩ rfl rfl rfl rfl rfl (by kernel_rfl) Tryz.func7 (by kernel_rfl)
    (of_decide_eq_true (by kernel_rfl)) (by unfold Func.isWrapper; first | (rw [if_pos (by decide +kernel)]; kernel_rfl) | (rw [if_neg (by decide +kernel)]; exact ⟨rfl, rfl⟩))
    (fun os started H enc _ => coerceDeep_lifted os started H enc)

theorem coerceDeep_card : Rows.CoerceDeepCardSaid :=
  Claim7.holds_tied_plain_at .later [] [.data, .data, .data, .widerDeep] true (true, "c6e34d02094b78792ed9f8a82c4191022da265ddec2c26178cb5766e664b0699") false
    coerceDeep_holds (fun _ h => by cases h) (by kernel_rfl) (fun _ h => by cases h) coerceDeep_row_tie rfl ⟨rfl, rfl⟩ (by kernel_rfl) rfl
    (fun f fn hf hfn => by
      obtain rfl : f = 7 := Option.some.inj ((show Tryz.prog.funcNamed "columbary/columbarylaw10.CoerceDeep" = some 7 by kernel_rfl).symm.trans hf) |>.symm
      obtain rfl : fn = Tryz.f7 := (Option.some.inj (Tryz.func7.symm.trans hfn)).symm
      exact ⟨by kernel_rfl, fun j t ht => by
        rw [Tryz.params7] at ht
        have hm : t ∈ [21, 5] := by simpa using Array.mem_of_getElem? ht
        have hall : ([21, 5].all fun u => !Tryz.prog.wantsStandIn u) = true := by kernel_rfl
        exact (show Tryz.prog.wantsStandIn t = false by simpa using List.all_eq_true.1 hall t hm)⟩)
    (by kernel_rfl)
#print axioms coerceDeep_card
end Go.Proofs.YtpalalebligmoaaGreatDoor
