/- In which order the fields of an object are given plays no part when it is made a value of an input type: the statement CoerceOrder, whole: for every input, no conditions. -/
import Derived.Test.YtpalalebligmoaaGreatDoorRowV
import Derived.Test.YtpalalebligmoaaGreatDoorPostV
import Derived.Test.YtpalalebligmoaaGreatDoorO1
import Derived.Test.YtpalalebligmoaaGreatDoorRowW
namespace Go.Proofs.YtpalalebligmoaaGreatDoor
open Go.ChangeShapes Go.WideShapes Go.ChangeAt Go.WideMaps Go.WideElems Go.RowKit Go.ChangeMaps Go.Cb Go.Cb.CodeA
set_option maxRecDepth 100000
set_option linter.unusedVariables false
theorem coerceOrder_lifted (os : Os) (started : os.Started) (H : Type) (enc : TypeId × Value → H) :
    ReturnsInHanded {} Tryz.checked os 6 .any (fun w args => (Rows.coerceOrderSpec.pre enc Tryz.prog Tryz.f6 [] false w args ∧ laidMetH Tryz.prog laidS w) ∧ sizedMet enc Tryz.prog Tryz.f6 (OpenSpec.ofChange Rows.coerceOrderSpec) false w args)
      (Rows.coerceOrderSpec.post enc Tryz.prog Tryz.f6 false true false false) := by
  refine returnsInHanded_of_change_and (C := Tryz.checked) (X := fun w _ => laidMetH Tryz.prog laidS w) (fun _ _ _ hh h => h.of_heap hh) own started (by kernel_rfl) Tryz.func6
    (ChangeSpec.witness_shaped (enc := enc) (C := Tryz.checked) (os := os) (X := fun w _ => laidMetH Tryz.prog laidS w) false (World.doorLaid Tryz.prog 400 os) #[.agg #[.int .u8 0, .int .i64 0, .string ⟨#[]⟩, .slice none 0 0, .slice none 0 0], .int .u8 0] 8 rfl (World.shaped_of_RefB (by kernel_rfl) (by kernel_rfl)) (by kernel_rfl) (by kernel_rfl) (by kernel_rfl) (door_met os _)) ?_
  intro W base args ds gs before hval0 hW _ _ hL _
  have hval : ∀ (j : Nat) t v, Tryz.f6.params[j]? = some t → args[j]? = some v → Value.okWide Tryz.prog W .any base t v := hval0
  have hW' := hW
  obtain ⟨p, q, hA0, hV, rfl, hfz, hnd⟩ := hW
  have hA : DataW.TrodAll enc Tryz.prog W 0 (fun _ => true) true Tryz.f6.params.toList args.toList ds p := hA0
  rw [Tryz.params6] at hA hval
  obtain ⟨v0, v1, d0, d1, a0, b0, rfl, rfl, rfl, h0, h1⟩ := trodAll_two hA
  obtain ⟨k, rfl, rfl, rfl, hk⟩ := open_int Tryz.underlying5 (hval 1 5 v1 rfl rfl) h1
  obtain ⟨rfl, rfl⟩ := trodVars_none hV
  obtain ⟨fuel, h0'⟩ := id h0
  obtain ⟨_, ⟨v, ⟨hv, hr⟩, rfl⟩, hrel, hone⟩ := open_value fuel 28 _ _ rfl h0'
  obtain ⟨cs, rfl⟩ : ∃ cs, v0 = .agg cs := by
    obtain ⟨_, _, _, _, _, e⟩ := v.row_cells
    rw [e] at hrel
    have hl := hrel.length
    cases v0 <;> first | exact ⟨_, rfl⟩ | (simp [Value.cells] at hl)
  have hag : Rel (gh0 W) W (.agg v.row) (.agg cs) := by simp only [Rel]; exact ⟨cs, rfl, hrel, hone⟩
  have hus : (Lit.int .u8 k).wf = true := hk
  have hk2 : 0 ≤ k ∧ k < 256 := by
    have := hus
    simp [Lit.wf, IntKind.min, IntKind.max, IntKind.signed, IntKind.bits] at this
    omega
  obtain ⟨a, st', ⟨n, hrun⟩, ha⟩ := Go.Cb.CodeA.order_law hv hr k hk2
  subst ha
  refine (answer prog_ok hrun (fun x hx => ?_) (globs_of_laid hL) (vs := [.agg cs, .int .u8 k]) ?_).mono fun e W' ⟨he, hw⟩ => ?_
  · simp only [List.mem_cons, List.not_mem_nil, or_false] at hx
    rcases hx with rfl | rfl
    · obtain ⟨_, _, _, _, _, e⟩ := v.row_cells
      rw [e]
      rfl
    · rfl
  · simp only [RelL]
    exact ⟨_, _, rfl, hag, _, _, rfl, by simp only [Rel], rfl⟩
  · subst he
    refine ⟨_, rfl, ?_⟩
    have hlt : ∀ p ∈ a0, p.block < W.heap.size := fun p hp => hW'.lt p (by simpa using hp)
    have hsame : ∀ p ∈ a0, W.sameAt W' p := fun p hp => by
      have ho := hw.old p.block (hlt p hp)
      cases p with
      | cell b off => show W'.cell? ⟨b, off, none⟩ = W.cell? ⟨b, off, none⟩; unfold World.cell?; rw [show W'.heap[b]? = W.heap[b]? from ho]
      | map b => exact ho
    refine post_of_same2 (pa := a0 ++ []) (pv := []) hW' (fun _ _ _ => trodAll_mk1 (shut_bool Tryz.underlying4 _)) (fun sp hsp => ?_) (fun _ _ => rfl) rfl (World.keptBut_mono (fun p hp => hp.elim) hw.kept) hw.fz (ok_one (by kernel_rfl) rfl (okWide_bool_mk Tryz.underlying4 _))
    rw [Tryz.params6]
    exact trodAll_mk2 (WideElems.Trod_stays (P := Tryz.prog) (by kernel_rfl) (by kernel_rfl) (of_decide_eq_true (by kernel_rfl)) h0 hsame (fun p hp => hsp p (by simpa using hp))) (shut_int Tryz.underlying5 hk)
theorem coerceOrder_holds : Rows.CoerceOrderSaid :=
  OpenClaim.holds_of_wide 6 Tryz.f6 rfl rfl rfl rfl rfl rfl rfl ⟨rfl, rfl, rfl, rfl, rfl⟩ rfl rfl rfl rfl rfl (by kernel_rfl) Tryz.func6 (by kernel_rfl)
    (of_decide_eq_true (by kernel_rfl)) (by unfold Func.isWrapper; first | (rw [if_pos (by decide +kernel)]; kernel_rfl) | (rw [if_neg (by decide +kernel)]; exact ⟨rfl, rfl⟩))
    (fun os started H enc _ => coerceOrder_lifted os started H enc)

theorem coerceOrder_card : Rows.CoerceOrderCardSaid :=
  Claim7.holds_tied_plain_at .later [] [.data, .data, .data, .widerDeep] true (true, "c6e34d02094b78792ed9f8a82c4191022da265ddec2c26178cb5766e664b0699") false
    coerceOrder_holds (fun _ h => by cases h) (by kernel_rfl) (fun _ h => by cases h) coerceOrder_row_tie rfl ⟨rfl, rfl⟩ (by kernel_rfl) rfl
    (fun f fn hf hfn => by
      obtain rfl : f = 6 := Option.some.inj ((show Tryz.prog.funcNamed "columbary/columbarylaw10.CoerceOrder" = some 6 by kernel_rfl).symm.trans hf) |>.symm
      obtain rfl : fn = Tryz.f6 := (Option.some.inj (Tryz.func6.symm.trans hfn)).symm
      exact ⟨by kernel_rfl, fun j t ht => by
        rw [Tryz.params6] at ht
        have hm : t ∈ [28, 5] := by simpa using Array.mem_of_getElem? ht
        have hall : ([28, 5].all fun u => !Tryz.prog.wantsStandIn u) = true := by kernel_rfl
        exact (show Tryz.prog.wantsStandIn t = false by simpa using List.all_eq_true.1 hall t hm)⟩)
    (by kernel_rfl)
#print axioms coerceOrder_card
end Go.Proofs.YtpalalebligmoaaGreatDoor
