/- A value without variables that fits a type becomes one of it, and one that does not fit does not: the statement CoerceFits, whole: for every input, no conditions. -/
import Derived.Test.YtpalalebligmoaaGreatDoorRowV
import Derived.Test.YtpalalebligmoaaGreatDoorPostV
import Derived.Test.YtpalalebligmoaaGreatDoorT2
import Derived.Test.YtpalalebligmoaaGreatDoorRowT
namespace Go.Proofs.YtpalalebligmoaaGreatDoor
open Go.ChangeShapes Go.WideShapes Go.ChangeAt Go.WideMaps Go.WideElems Go.RowKit Go.ChangeMaps Go.Cb Go.Cb.CodeA
set_option maxRecDepth 100000
set_option linter.unusedVariables false
theorem coerceFits_lifted (os : Os) (started : os.Started) (H : Type) (enc : TypeId × Value → H) :
    ReturnsInHanded {} Tryz.checked os 5 .any (fun w args => (Rows.coerceFitsSpec.pre enc Tryz.prog Tryz.f5 [] false w args ∧ laidMetH Tryz.prog laidS w) ∧ sizedMet enc Tryz.prog Tryz.f5 (OpenSpec.ofChange Rows.coerceFitsSpec) false w args)
      (Rows.coerceFitsSpec.post enc Tryz.prog Tryz.f5 false true false false) := by
  refine returnsInHanded_of_change_and (C := Tryz.checked) (X := fun w _ => laidMetH Tryz.prog laidS w) (fun _ _ _ hh h => h.of_heap hh) own started (by kernel_rfl) Tryz.func5
    (ChangeSpec.witness_shaped (enc := enc) (C := Tryz.checked) (os := os) (X := fun w _ => laidMetH Tryz.prog laidS w) false (World.doorLaid Tryz.prog 400 os) #[.agg #[.string ⟨#[]⟩, .slice none 0 0, .bool false], .agg #[.int .u8 0, .int .i64 0, .string ⟨#[]⟩, .slice none 0 0, .slice none 0 0]] 8 rfl (World.shaped_of_RefB (by kernel_rfl) (by kernel_rfl)) (by kernel_rfl) (by kernel_rfl) (by kernel_rfl) (door_met os _)) ?_
  intro W base args ds gs before hval0 hW _ _ hL _
  have hval : ∀ (j : Nat) t v, Tryz.f5.params[j]? = some t → args[j]? = some v → Value.okWide Tryz.prog W .any base t v := hval0
  have hW' := hW
  obtain ⟨p, q, hA0, hV, rfl, hfz, hnd⟩ := hW
  have hA : DataW.TrodAll enc Tryz.prog W 0 (fun _ => true) true Tryz.f5.params.toList args.toList ds p := hA0
  rw [Tryz.params5] at hA hval
  obtain ⟨v0, v1, d0, d1, a0, b0, rfl, rfl, rfl, h0, h1⟩ := trodAll_two hA
  obtain ⟨rfl, rfl⟩ := trodVars_none hV
  obtain ⟨fuel, h0'⟩ := id h0
  obtain ⟨_, ⟨t, ht, rfl⟩, hrelt, honet⟩ := open_tref fuel 24 _ _ rfl h0'
  obtain ⟨ct, rfl⟩ : ∃ cs, v0 = .agg cs := by
    obtain ⟨_, _, _, e⟩ := t.row_cells
    rw [e] at hrelt
    have hl := hrelt.length
    cases v0 <;> first | exact ⟨_, rfl⟩ | (simp [Value.cells] at hl)
  have hagt : Rel (gh0 W) W (.agg t.row) (.agg ct) := by simp only [Rel]; exact ⟨ct, rfl, hrelt, honet⟩
  obtain ⟨fuel, h1'⟩ := id h1
  obtain ⟨_, ⟨v, ⟨hv, hr⟩, rfl⟩, hrel, hone⟩ := open_value fuel 28 _ _ rfl h1'
  obtain ⟨cs, rfl⟩ : ∃ cs, v1 = .agg cs := by
    obtain ⟨_, _, _, _, _, e⟩ := v.row_cells
    rw [e] at hrel
    have hl := hrel.length
    cases v1 <;> first | exact ⟨_, rfl⟩ | (simp [Value.cells] at hl)
  have hag : Rel (gh0 W) W (.agg v.row) (.agg cs) := by simp only [Rel]; exact ⟨cs, rfl, hrel, hone⟩
  obtain ⟨a, st', ⟨n, hrun⟩, ha⟩ := Go.Cb.CodeA.fits_law ht hv hr
  subst ha
  refine (answer prog_ok hrun (fun x hx => ?_) (globs_of_laid hL) (vs := [.agg ct, .agg cs]) ?_).mono fun e W' ⟨he, hw⟩ => ?_
  · simp only [List.mem_cons, List.not_mem_nil, or_false] at hx
    rcases hx with rfl | rfl
    · obtain ⟨_, _, _, e⟩ := t.row_cells
      rw [e]
      rfl
    · obtain ⟨_, _, _, _, _, e⟩ := v.row_cells
      rw [e]
      rfl
  · simp only [RelL]
    exact ⟨_, _, rfl, hagt, _, _, rfl, hag, rfl⟩
  · subst he
    refine ⟨_, rfl, ?_⟩
    have hlt : ∀ p ∈ a0 ++ b0, p.block < W.heap.size := fun p hp => hW'.lt p (by simpa using hp)
    have hsame : ∀ p ∈ a0 ++ b0, W.sameAt W' p := fun p hp => by
      have ho := hw.old p.block (hlt p hp)
      cases p with
      | cell b off => show W'.cell? ⟨b, off, none⟩ = W.cell? ⟨b, off, none⟩; unfold World.cell?; rw [show W'.heap[b]? = W.heap[b]? from ho]
      | map b => exact ho
    refine post_of_same2 (pa := a0 ++ b0) (pv := []) hW' (fun _ _ _ => trodAll_mk1 (shut_bool Tryz.underlying4 _)) (fun sp hsp => ?_) (fun _ _ => rfl) rfl (World.keptBut_mono (fun p hp => hp.elim) hw.kept) hw.fz (ok_one (by kernel_rfl) rfl (okWide_bool_mk Tryz.underlying4 _))
    rw [Tryz.params5]
    exact trodAll_mk2 (WideElems.Trod_stays (P := Tryz.prog) (by kernel_rfl) (by kernel_rfl) (of_decide_eq_true (by kernel_rfl)) h0 (fun p hp => hsame p (List.mem_append_left _ hp)) (fun p hp => hsp p (by simp [hp]))) (WideElems.Trod_stays (P := Tryz.prog) (by kernel_rfl) (by kernel_rfl) (of_decide_eq_true (by kernel_rfl)) h1 (fun p hp => hsame p (List.mem_append_right _ hp)) (fun p hp => hsp p (by simp [hp])))
theorem coerceFits_holds : Rows.CoerceFitsSaid :=
  OpenClaim.holds_of_wide 5 Tryz.f5 rfl rfl rfl rfl rfl rfl rfl ⟨rfl, rfl, rfl, rfl, rfl⟩ rfl rfl rfl rfl rfl (by kernel_rfl) Tryz.func5 (by kernel_rfl)
    (of_decide_eq_true (by kernel_rfl)) (by unfold Func.isWrapper; first | (rw [if_pos (by decide +kernel)]; kernel_rfl) | (rw [if_neg (by decide +kernel)]; exact ⟨rfl, rfl⟩))
    (fun os started H enc _ => coerceFits_lifted os started H enc)

theorem coerceFits_card : Rows.CoerceFitsCardSaid :=
  Claim7.holds_tied_plain_at .later [] [.data, .data, .data, .widerDeep] true (true, "c6e34d02094b78792ed9f8a82c4191022da265ddec2c26178cb5766e664b0699") false
    coerceFits_holds (fun _ h => by cases h) (by kernel_rfl) (fun _ h => by cases h) coerceFits_row_tie rfl ⟨rfl, rfl⟩ (by kernel_rfl) rfl
    (fun f fn hf hfn => by
      obtain rfl : f = 5 := Option.some.inj ((show Tryz.prog.funcNamed "columbary/columbarylaw10.CoerceFits" = some 5 by kernel_rfl).symm.trans hf) |>.symm
      obtain rfl : fn = Tryz.f5 := (Option.some.inj (Tryz.func5.symm.trans hfn)).symm
      exact ⟨by kernel_rfl, fun j t ht => by
        rw [Tryz.params5] at ht
        have hm : t ∈ [24, 28] := by simpa using Array.mem_of_getElem? ht
        have hall : ([24, 28].all fun u => !Tryz.prog.wantsStandIn u) = true := by kernel_rfl
        exact (show Tryz.prog.wantsStandIn t = false by simpa using List.all_eq_true.1 hall t hm)⟩)
    (by kernel_rfl)
#print axioms coerceFits_card
end Go.Proofs.YtpalalebligmoaaGreatDoor
