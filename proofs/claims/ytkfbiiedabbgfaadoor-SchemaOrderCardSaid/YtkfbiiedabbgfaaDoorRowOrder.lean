/- In which order types are declared plays no part in whether they go together, nor in what they are. No further conditions. -/
import Derived.Test.YtkfbiiedabbgfaaDoorRowA
import Derived.Test.YtkfbiiedabbgfaaDoorQs2
namespace Go.Proofs.YtkfbiiedabbgfaaDoor
open Go.ChangeShapes Go.WideShapes Go.ChangeAt Go.WideMaps Go.WideElems Go.RowKit Go.ChangeMaps Go.Cb Go.Cb.CodeA
set_option maxRecDepth 100000

theorem order_am (s : List Nat) (k : Int) (h0 : 0 ≤ k) (h1 : k < 256) : ∃ n st', callF tbl n 4 [.str s, .int .u8 k] [] = some (.bool true, st') := by
  obtain ⟨st1, st2, a1, a2⟩ := awake_evs
  obtain ⟨kn, rfl⟩ := Int.eq_ofNat_of_zero_le h0
  obtain ⟨a, st', ⟨n, hn⟩, rfl⟩ := order_law a1 s kn (by omega)
  exact ⟨n, st', hn⟩
theorem order_lifted (os : Os) (started : os.Started) (H : Type) (enc : TypeId × Value → H) :
    ReturnsInHanded {} Tryd.checked os 4 .any (fun w args => (Rows.schemaOrderSpec.pre enc Tryd.prog Tryd.f4 [] false w args ∧ laidMetH Tryd.prog laidS w) ∧ sizedMet enc Tryd.prog Tryd.f4 (OpenSpec.ofChange Rows.schemaOrderSpec) false w args)
      (Rows.schemaOrderSpec.post enc Tryd.prog Tryd.f4 false true false false) := by
  refine returnsInHanded_of_change_and (C := Tryd.checked) (X := fun w _ => laidMetH Tryd.prog laidS w) (fun _ _ _ hh h => h.of_heap hh) own started (by kernel_rfl) Tryd.func4
    (ChangeSpec.witness_shaped (enc := enc) (C := Tryd.checked) (os := os) (X := fun w _ => laidMetH Tryd.prog laidS w) false (World.doorLaid Tryd.prog 400 os) #[.string ⟨#[]⟩, .int .u8 0] 8 rfl (World.shaped_of_RefB (by kernel_rfl) (by kernel_rfl)) (by kernel_rfl) (by kernel_rfl) (by kernel_rfl) (door_met os _)) ?_
  intro W base args ds gs before hval0 hW _ _ hL _
  have hval : ∀ (j : Nat) t v, Tryd.f4.params[j]? = some t → args[j]? = some v → Value.okWide Tryd.prog W .any base t v := hval0
  have hW' := hW
  obtain ⟨p, q, hA0, hV, rfl, hfz, hnd⟩ := hW
  have hA : DataW.TrodAll enc Tryd.prog W 0 (fun _ => true) true Tryd.f4.params.toList args.toList ds p := hA0
  rw [Tryd.params4] at hA hval
  obtain ⟨v0, v1, d0, d1, a0, b0, rfl, rfl, rfl, h0, h1⟩ := trodAll_two hA
  obtain ⟨rfl, rfl⟩ := trodVars_none hV
  obtain ⟨s, rfl, rfl, rfl, hs⟩ := open_string Tryd.underlying9 (hval 0 9 v0 rfl rfl) h0
  obtain ⟨k, rfl, rfl, rfl, hk⟩ := open_int Tryd.underlying5 (hval 1 5 v1 rfl rfl) h1
  have hus : (Lit.int .u8 k).wf = true := hk
  have hk2 : 0 ≤ k ∧ k < 256 := by
    have := hus
    simp [Lit.wf, IntKind.min, IntKind.max, IntKind.signed, IntKind.bits] at this
    omega
  obtain ⟨n, st', hrun⟩ := order_am (s.data.toList.map UInt8.toNat) k hk2.1 hk2.2
  refine (answer prog_ok hrun (fun x hx => ?_) (globs_of_laid hL) (vs := [.string s, .int .u8 k]) ?_).mono fun e W' ⟨he, hw⟩ => ?_
  · simp only [List.mem_cons, List.not_mem_nil, or_false] at hx
    rcases hx with rfl | rfl <;> rfl
  · simp only [RelL, Rel]
    exact ⟨_, _, rfl, ⟨s, rfl, rfl⟩, _, _, rfl, rfl, rfl⟩
  · subst he
    refine ⟨_, rfl, ?_⟩
    refine post_of_same (pa := []) (pv := []) hW' (fun _ _ _ => trodAll_mk1 (shut_bool Tryd.underlying4 _)) (fun sp _ => ?_) (fun _ _ => rfl) rfl (World.keptBut_mono (fun p hp => hp.elim) hw.kept) hw.fz (ok_one (by kernel_rfl) rfl (okWide_bool_mk Tryd.underlying4 _))
    rw [Tryd.params4]
    exact trodAll_mk2 (shut_string Tryd.underlying9 hs) (shut_int Tryd.underlying5 hk)
theorem order_holds : Rows.SchemaOrderSaid :=
  OpenClaim.holds_of_wide 4 Tryd.f4 rfl rfl rfl rfl rfl rfl rfl ⟨rfl, rfl, rfl, rfl, rfl⟩ rfl rfl rfl rfl rfl (by kernel_rfl) Tryd.func4 (by kernel_rfl)
    (of_decide_eq_true (by kernel_rfl)) (by unfold Func.isWrapper; first | (rw [if_pos (by decide +kernel)]; kernel_rfl) | (rw [if_neg (by decide +kernel)]; exact ⟨rfl, rfl⟩))
    (fun os started H enc _ => order_lifted os started H enc)

theorem schemaOrder : Rows.SchemaOrderCardSaid :=
  Claim7.holds_tied_plain_at .later [] [.widerDeep] true (true, "cfd144c79200eb65b2f185f03a5ce11805f7c9ffe2767947bc7ab46b9f924568") false
    order_holds (fun _ h => by cases h) (by kernel_rfl) (fun _ h => by cases h) schemaOrder_row_tie rfl ⟨rfl, rfl⟩ (by kernel_rfl) rfl
    (fun f fn hf hfn => by
      obtain rfl : f = 4 := Option.some.inj ((show Tryd.prog.funcNamed "columbary/columbarylaw09.SchemaOrder" = some 4 by kernel_rfl).symm.trans hf) |>.symm
      obtain rfl : fn = Tryd.f4 := (Option.some.inj (Tryd.func4.symm.trans hfn)).symm
      exact ⟨by kernel_rfl, fun j t ht => by
        rw [Tryd.params4] at ht
        have hm : t ∈ [9, 5] := by simpa using Array.mem_of_getElem? ht
        have hall : ([9, 5].all fun u => !Tryd.prog.wantsStandIn u) = true := by kernel_rfl
        exact (show Tryd.prog.wantsStandIn t = false by simpa using List.all_eq_true.1 hall t hm)⟩)
    (by kernel_rfl)
#print axioms schemaOrder
end Go.Proofs.YtkfbiiedabbgfaaDoor
