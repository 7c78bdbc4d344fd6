/- A schema with one more object that nobody names stays one, and its types are what they were. No further conditions. -/
import Derived.Test.YtkfbiiedabbgfaaDoorRowA
import Derived.Test.YtkfbiiedabbgfaaDoorQs2
namespace Go.Proofs.YtkfbiiedabbgfaaDoor
open Go.ChangeShapes Go.WideShapes Go.ChangeAt Go.WideMaps Go.WideElems Go.RowKit Go.ChangeMaps Go.Cb Go.Cb.CodeA
set_option maxRecDepth 100000

theorem more_am (s : List Nat) : ∃ n st', callF tbl n 5 [.str s] [] = some (.bool true, st') := by
  obtain ⟨st1, st2, a1, a2⟩ := awake_evs
  obtain ⟨a, st', ⟨n, hn⟩, rfl⟩ := more_law a1 a2 s
  exact ⟨n, st', hn⟩
theorem more_lifted (os : Os) (started : os.Started) (H : Type) (enc : TypeId × Value → H) :
    ReturnsInHanded {} Tryd.checked os 5 .any (fun w args => (Rows.schemaMoreSpec.pre enc Tryd.prog Tryd.f5 [] false w args ∧ laidMetH Tryd.prog laidS w) ∧ sizedMet enc Tryd.prog Tryd.f5 (OpenSpec.ofChange Rows.schemaMoreSpec) false w args)
      (Rows.schemaMoreSpec.post enc Tryd.prog Tryd.f5 false true false false) := by
  refine returnsInHanded_of_change_and (C := Tryd.checked) (X := fun w _ => laidMetH Tryd.prog laidS w) (fun _ _ _ hh h => h.of_heap hh) own started (by kernel_rfl) Tryd.func5
    (ChangeSpec.witness_shaped (enc := enc) (C := Tryd.checked) (os := os) (X := fun w _ => laidMetH Tryd.prog laidS w) false (World.doorLaid Tryd.prog 400 os) #[.string ⟨#[]⟩] 8 rfl (World.shaped_of_RefB (by kernel_rfl) (by kernel_rfl)) (by kernel_rfl) (by kernel_rfl) (by kernel_rfl) (door_met os _)) ?_
  intro W base args ds gs before hval0 hW _ _ hL _
  have hval : ∀ (j : Nat) t v, Tryd.f5.params[j]? = some t → args[j]? = some v → Value.okWide Tryd.prog W .any base t v := hval0
  have hW' := hW
  obtain ⟨p, q, hA0, hV, rfl, hfz, hnd⟩ := hW
  have hA : DataW.TrodAll enc Tryd.prog W 0 (fun _ => true) true Tryd.f5.params.toList args.toList ds p := hA0
  rw [Tryd.params5] at hA hval
  obtain ⟨v0, d0, rfl, rfl, h0⟩ := trodAll_one hA
  obtain ⟨rfl, rfl⟩ := trodVars_none hV
  obtain ⟨s, rfl, rfl, rfl, hs⟩ := open_string Tryd.underlying9 (hval 0 9 v0 rfl rfl) h0
  obtain ⟨n, st', hrun⟩ := more_am (s.data.toList.map UInt8.toNat)
  refine (answer prog_ok hrun (fun x hx => ?_) (globs_of_laid hL) (vs := [.string s]) ?_).mono fun e W' ⟨he, hw⟩ => ?_
  · simp only [List.mem_cons, List.not_mem_nil, or_false] at hx
    subst hx
    rfl
  · simp only [RelL, Rel]
    exact ⟨_, _, rfl, ⟨s, rfl, rfl⟩, rfl⟩
  · subst he
    refine ⟨_, rfl, ?_⟩
    refine post_of_same (pa := []) (pv := []) hW' (fun _ _ _ => trodAll_mk1 (shut_bool Tryd.underlying4 _)) (fun sp _ => ?_) (fun _ _ => rfl) rfl (World.keptBut_mono (fun p hp => hp.elim) hw.kept) hw.fz (ok_one (by kernel_rfl) rfl (okWide_bool_mk Tryd.underlying4 _))
    rw [Tryd.params5]
    exact trodAll_mk1 (shut_string Tryd.underlying9 hs)
theorem more_holds : Rows.SchemaMoreSaid :=
  OpenClaim.holds_of_wide 5 Tryd.f5 rfl rfl rfl rfl rfl rfl rfl ⟨rfl, rfl, rfl, rfl, rfl⟩ rfl rfl rfl rfl rfl (by kernel_rfl) Tryd.func5 (by kernel_rfl)
    (of_decide_eq_true (by kernel_rfl)) (by unfold Func.isWrapper; first | (rw [if_pos (by decide +kernel)]; kernel_rfl) | (rw [if_neg (by decide +kernel)]; exact ⟨rfl, rfl⟩))
    (fun os started H enc _ => more_lifted os started H enc)

theorem schemaMore : Rows.SchemaMoreCardSaid :=
  Claim7.holds_tied_plain_at .later [] [.widerDeep] true (true, "cfd144c79200eb65b2f185f03a5ce11805f7c9ffe2767947bc7ab46b9f924568") false
    more_holds (fun _ h => by cases h) (by kernel_rfl) (fun _ h => by cases h) schemaMore_row_tie rfl ⟨rfl, rfl⟩ (by kernel_rfl) rfl
    (fun f fn hf hfn => by
      obtain rfl : f = 5 := Option.some.inj ((show Tryd.prog.funcNamed "columbary/columbarylaw09.SchemaMore" = some 5 by kernel_rfl).symm.trans hf) |>.symm
      obtain rfl : fn = Tryd.f5 := (Option.some.inj (Tryd.func5.symm.trans hfn)).symm
      exact ⟨by kernel_rfl, fun j t ht => by
        rw [Tryd.params5] at ht
        have hm : t ∈ [9] := by simpa using Array.mem_of_getElem? ht
        have hall : ([9].all fun u => !Tryd.prog.wantsStandIn u) = true := by kernel_rfl
        exact (show Tryd.prog.wantsStandIn t = false by simpa using List.all_eq_true.1 hall t hm)⟩)
    (by kernel_rfl)
#print axioms schemaMore
end Go.Proofs.YtkfbiiedabbgfaaDoor
