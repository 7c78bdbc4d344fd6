/- What is not given is what it is else, what is given counts, null too, and what is neither is left out, or told: the statement CoerceElse, whole: for every input, no conditions. -/
import Derived.Test.YtpalalebligmoaaGreatDoorRowV
import Derived.Test.YtpalalebligmoaaGreatDoorPostV
import Derived.Carry
import Derived.Test.YtpalalebligmoaaGreatDoorE1
namespace Go.Proofs.YtpalalebligmoaaGreatDoor
open Go.ChangeShapes Go.WideShapes Go.ChangeAt Go.WideMaps Go.WideElems Go.RowKit Go.ChangeMaps Go.Cb Go.Cb.CodeA
set_option maxRecDepth 100000
set_option linter.unusedVariables false
section
variable {H : Type} {enc : TypeId × Value → H} {P : Program} {w : World} {base : Nat} {spare : Nat → Bool} {held : Bool}
theorem trodAll_five {t t' t'' t3 t4 : TypeId} {args : Array Value} {ds : List (DataW H)} {ps : List MemPlace} (h : DataW.TrodAll enc P w base spare held [t, t', t'', t3, t4] args.toList ds ps) :
    ∃ v v' v'' v3 v4 d d' d'' d3 d4 p p' p'' p3 p4, args = #[v, v', v'', v3, v4] ∧ ds = [d, d', d'', d3, d4] ∧ ps = p ++ (p' ++ (p'' ++ (p3 ++ p4))) ∧ DataW.Trod enc P w base spare held t v d p ∧ DataW.Trod enc P w base spare held t' v' d' p' ∧ DataW.Trod enc P w base spare held t'' v'' d'' p'' ∧ DataW.Trod enc P w base spare held t3 v3 d3 p3 ∧ DataW.Trod enc P w base spare held t4 v4 d4 p4 := by
  obtain ⟨v, vs, d, ds, a, b, e1, rfl, rfl, h1, h2⟩ := trodAll_cons h
  obtain ⟨v', vs, d', ds, a', b, rfl, rfl, rfl, h1', h2⟩ := trodAll_cons h2
  obtain ⟨v'', vs, d'', ds, a'', b, rfl, rfl, rfl, h1'', h2⟩ := trodAll_cons h2
  obtain ⟨v3, vs, d3, ds, a3, b, rfl, rfl, rfl, h3, h2⟩ := trodAll_cons h2
  obtain ⟨v4, vs, d4, ds, a4, b, rfl, rfl, rfl, h4, h2⟩ := trodAll_cons h2
  obtain ⟨rfl, rfl, rfl⟩ := trodAll_nil h2
  exact ⟨v, v', v'', v3, v4, d, d', d'', d3, d4, a, a', a'', a3, a4, Array.ext' e1, rfl, by simp, h1, h1', h1'', h3, h4⟩
end
theorem coerceElse_lifted (os : Os) (started : os.Started) (H : Type) (enc : TypeId × Value → H) :
    ReturnsInHanded {} Tryz.checked os 8 .any (fun w args => (Rows.coerceElseSpec.pre enc Tryz.prog Tryz.f8 [] false w args ∧ laidMetH Tryz.prog laidS w) ∧ sizedMet enc Tryz.prog Tryz.f8 (OpenSpec.ofChange Rows.coerceElseSpec) false w args)
      (Rows.coerceElseSpec.post enc Tryz.prog Tryz.f8 false true false false) := by
  refine returnsInHanded_of_change_and (C := Tryz.checked) (X := fun w _ => laidMetH Tryz.prog laidS w) (fun _ _ _ hh h => h.of_heap hh) own started (by kernel_rfl) Tryz.func8
    (ChangeSpec.witness_shaped (enc := enc) (C := Tryz.checked) (os := os) (X := fun w _ => laidMetH Tryz.prog laidS w) false (World.doorLaid Tryz.prog 400 os) #[.bool false, .bool false, .bool false, .bool false, .int .i32 0] 8 rfl (World.shaped_of_RefB (by kernel_rfl) (by kernel_rfl)) (by kernel_rfl) (by kernel_rfl) (by kernel_rfl) (door_met os _)) ?_
  intro W base args ds gs before hval0 hW _ _ hL _
  have hval : ∀ (j : Nat) t v, Tryz.f8.params[j]? = some t → args[j]? = some v → Value.okWide Tryz.prog W .any base t v := hval0
  have hW' := hW
  obtain ⟨p, q, hA0, hV, rfl, hfz, hnd⟩ := hW
  have hA : DataW.TrodAll enc Tryz.prog W 0 (fun _ => true) true Tryz.f8.params.toList args.toList ds p := hA0
  rw [Tryz.params8] at hA hval
  obtain ⟨v0, v1, v2, v3, v4, d0, d1, d2, d3, d4, a0, a1, a2, a3, a4, rfl, rfl, rfl, h0, h1, h2, h3, h4⟩ := trodAll_five hA
  obtain ⟨c0, rfl, rfl, rfl⟩ := open_bool Tryz.underlying4 (hval 0 4 v0 rfl rfl) h0
  obtain ⟨c1, rfl, rfl, rfl⟩ := open_bool Tryz.underlying4 (hval 1 4 v1 rfl rfl) h1
  obtain ⟨c2, rfl, rfl, rfl⟩ := open_bool Tryz.underlying4 (hval 2 4 v2 rfl rfl) h2
  obtain ⟨c3, rfl, rfl, rfl⟩ := open_bool Tryz.underlying4 (hval 3 4 v3 rfl rfl) h3
  obtain ⟨i, rfl, rfl, rfl, hi⟩ := open_int Tryz.underlying21 (hval 4 21 v4 rfl rfl) h4
  obtain ⟨rfl, rfl⟩ := trodVars_none hV
  have hui : (Lit.int .i32 i).wf = true := hi
  have hi2 : -2147483648 ≤ i ∧ i < 2147483648 := by
    have := hui
    simp [Lit.wf, IntKind.min, IntKind.max, IntKind.signed, IntKind.bits] at this
    omega
  obtain ⟨a, st', ⟨n, hrun⟩, ha⟩ := Go.Cb.CodeA.else_law c0 c1 c2 c3 i hi2
  subst ha
  refine (answer prog_ok hrun (fun x hx => ?_) (globs_of_laid hL) (vs := [.bool c0, .bool c1, .bool c2, .bool c3, .int .i32 i]) ?_).mono fun e W' ⟨he, hw⟩ => ?_
  · simp only [List.mem_cons, List.not_mem_nil, or_false] at hx
    rcases hx with rfl | rfl | rfl | rfl | rfl <;> rfl
  · simp only [RelL, Rel]
    exact ⟨_, _, rfl, rfl, _, _, rfl, rfl, _, _, rfl, rfl, _, _, rfl, rfl, _, _, rfl, rfl, rfl⟩
  · subst he
    refine ⟨_, rfl, ?_⟩
    refine post_of_same2 (pa := []) (pv := []) hW' (fun _ _ _ => trodAll_mk1 (shut_bool Tryz.underlying4 _)) (fun sp _ => ?_) (fun _ _ => rfl) rfl (World.keptBut_mono (fun p hp => hp.elim) hw.kept) hw.fz (ok_one (by kernel_rfl) rfl (okWide_bool_mk Tryz.underlying4 _))
    rw [Tryz.params8]
    exact trodAll_cons_mk (p := []) (shut_bool Tryz.underlying4 _) (trodAll_mk4 (shut_bool Tryz.underlying4 _) (shut_bool Tryz.underlying4 _) (shut_bool Tryz.underlying4 _) (shut_int Tryz.underlying21 hi))
theorem coerceElse_holds : Rows.CoerceElseSaid :=
  OpenClaim.holds_of_wide 8 Tryz.f8 rfl rfl rfl rfl rfl rfl rfl ⟨rfl, rfl, rfl, rfl, rfl⟩ rfl rfl rfl rfl rfl (by kernel_rfl) Tryz.func8 (by kernel_rfl)
    (of_decide_eq_true (by kernel_rfl)) (by unfold Func.isWrapper; first | (rw [if_pos (by decide +kernel)]; kernel_rfl) | (rw [if_neg (by decide +kernel)]; exact ⟨rfl, rfl⟩))
    (fun os started H enc _ => coerceElse_lifted os started H enc)

theorem coerceElse_card : Rows.CoerceElseCardSaid :=
  Claim7.holds_tied_plain_at .later [] [.data, .data, .data, .widerDeep] true (true, "c6e34d02094b78792ed9f8a82c4191022da265ddec2c26178cb5766e664b0699") false
    coerceElse_holds (fun _ h => by cases h) (by kernel_rfl) (fun _ h => by cases h) coerceElse_row_tie rfl ⟨rfl, rfl⟩ (by kernel_rfl) rfl
    (fun f fn hf hfn => by
      obtain rfl : f = 8 := Option.some.inj ((show Tryz.prog.funcNamed "columbary/columbarylaw10.CoerceElse" = some 8 by kernel_rfl).symm.trans hf) |>.symm
      obtain rfl : fn = Tryz.f8 := (Option.some.inj (Tryz.func8.symm.trans hfn)).symm
      exact ⟨by kernel_rfl, fun j t ht => by
        rw [Tryz.params8] at ht
        have hm : t ∈ [4, 4, 4, 4, 21] := by simpa using Array.mem_of_getElem? ht
        have hall : ([4, 4, 4, 4, 21].all fun u => !Tryz.prog.wantsStandIn u) = true := by kernel_rfl
        exact (show Tryz.prog.wantsStandIn t = false by simpa using List.all_eq_true.1 hall t hm)⟩)
    (by kernel_rfl)
#print axioms coerceElse_card
end Go.Proofs.YtpalalebligmoaaGreatDoor
