/- The fields that are told stand in the order in which they first come. -/
import Derived.Test.YthnliekianmljaaGreatDoorRow0
import Derived.Test.YthnliekianmljaaGreatDoorPostV
import Derived.Test.YthnliekianmljaaGreatDoorC10
import Derived.Test.YthnliekianmljaaGreatDoorOpen
namespace Go.Proofs.YthnliekianmljaaGreatDoor
open Go.ChangeShapes Go.WideShapes Go.ChangeAt Go.WideMaps Go.WideElems Go.RowKit Go.ChangeMaps Go.Cb Go.Cb.CodeA
set_option maxRecDepth 100000
set_option linter.unusedVariables false
theorem c5 : Tryz.prog.cellsOf 5 = 1 := by kernel_rfl
theorem bytes_of : ∀ {ks : List (List AV)}, (∀ r ∈ ks, ∃ x : Nat, x < 256 ∧ r = u8Row x) → ∃ ss : List Nat, ks = ss.map u8Row ∧ ∀ x ∈ ss, x < 256
 | [], _ => ⟨[], rfl, by simp⟩
 | k :: ks, h => by
  obtain ⟨x, hx, rfl⟩ := h k (by simp)
  obtain ⟨ss, rfl, hs⟩ := bytes_of (ks := ks) fun r hr => h r (by simp [hr])
  refine ⟨x :: ss, rfl, fun u hu => ?_⟩
  rcases List.mem_cons.1 hu with rfl | hu
  · exact hx
  · exact hs u hu
section
variable {H : Type} {enc : TypeId × Value → H} {w : World} {base : Nat} {spare : Nat → Bool} {held : Bool}
theorem open_byte_row {m : Nat} {cs : List Value} {y : DataW H × List MemPlace} (h : DataW.trod enc Tryz.prog w base spare held m 5 cs = some y) : ∃ r, (∃ x : Nat, x < 256 ∧ r = u8Row x) ∧ RowRel (gh0 w) w r cs := by
 obtain ⟨k, rfl, _, wk⟩ := DataW.trod_int Tryz.underlying5 h
 have wk1 : (Lit.int .u8 k).wf = true := wk
 have hk : 0 ≤ k ∧ k < 256 := by
  simp [Lit.wf, IntKind.min, IntKind.max, IntKind.signed, IntKind.bits] at wk1
  omega
 obtain ⟨x, rfl⟩ := Int.eq_ofNat_of_zero_le hk.1
 refine ⟨u8Row x, ⟨x, by omega, rfl⟩, ?_, ?_⟩
 · simp only [u8Row, RelL, Rel]; exact ⟨_, _, rfl, rfl, rfl⟩
 · intro c hc; simp at hc; subst hc; rfl
end
theorem collectOrder_lifted (os : Os) (started : os.Started) (H : Type) (enc : TypeId × Value → H) :
 ReturnsInHanded {} Tryz.checked os 6 .any (fun w args => (Rows.collectOrderSpec.pre enc Tryz.prog Tryz.f6 [] false w args ∧ laidMetH Tryz.prog laidS w) ∧ sizedMet enc Tryz.prog Tryz.f6 (OpenSpec.ofChange Rows.collectOrderSpec) false w args)
  (Rows.collectOrderSpec.post enc Tryz.prog Tryz.f6 false true false false) := by
 refine returnsInHanded_of_change_and (C := Tryz.checked) (X := fun w _ => laidMetH Tryz.prog laidS w) (fun _ _ _ hh h => h.of_heap hh) own started (by kernel_rfl) Tryz.func6
  (ChangeSpec.witness_shaped (enc := enc) (C := Tryz.checked) (os := os) (X := fun w _ => laidMetH Tryz.prog laidS w) false (World.doorLaid Tryz.prog 400 os) #[.slice none 0 0, .int .u8 0] 8 rfl (World.shaped_of_RefB (by kernel_rfl) (by kernel_rfl)) (by kernel_rfl) (by kernel_rfl) (by kernel_rfl) (door_met os _)) ?_
 intro W base args ds gs before hval0 hW _ _ hL _
 have hval : ∀ (j : Nat) t v, Tryz.f6.params[j]? = some t → args[j]? = some v → Value.okWide Tryz.prog W .any base t v := hval0
 have hW' := hW
 obtain ⟨p, q, hA0, hV, rfl, hfz, hnd⟩ := hW
 have hA : DataW.TrodAll enc Tryz.prog W 0 (fun _ => true) true Tryz.f6.params.toList args.toList ds p := hA0
 rw [Tryz.params6] at hA hval
 obtain ⟨v0, v1, d0, d1, a0, b0, rfl, rfl, rfl, h0, h1⟩ := trodAll_two hA
 obtain ⟨k, rfl, rfl, rfl, hk⟩ := open_int Tryz.underlying5 (hval 1 5 v1 rfl rfl) h1
 obtain ⟨rfl, rfl⟩ := trodVars_none hV
 obtain ⟨fuel, h0'⟩ := id h0
 obtain ⟨v, rows, e0, hone, hlen, hrows, hrel⟩ := open_rows (R := fun r => ∃ x : Nat, x < 256 ∧ r = u8Row x) Tryz.underlying55 (by rw [c5]; decide) (fun m' cs' y _ hy => open_byte_row hy) h0'
 obtain ⟨nm, rfl, hnm⟩ := bytes_of hrows
 have hus : (Lit.int .u8 k).wf = true := hk
 have hk2 : 0 ≤ k ∧ k < 256 := by
  have := hus
  simp [Lit.wf, IntKind.min, IntKind.max, IntKind.signed, IntKind.bits] at this
  omega
 obtain ⟨kn, rfl⟩ := Int.eq_ofNat_of_zero_le hk2.1
 obtain ⟨n, st', hrun⟩ := order_am nm kn hnm (by omega)
 have hv0 : v0 = v := by
  obtain ⟨a, l, c, rfl⟩ := Go.WideShapes.okWide_slice Tryz.underlying55 (hval 0 55 v0 rfl rfl)
  simpa [Value.cells] using e0
 subst hv0
 refine (answer prog_ok hrun (fun x hx => ?_) (globs_of_laid hL) (vs := [v0, .int .u8 kn]) ?_).mono fun e W' ⟨he, hw⟩ => ?_
 · simp only [List.mem_cons, List.not_mem_nil, or_false] at hx
   rcases hx with rfl | rfl <;> rfl
 · simp only [RelL]
   exact ⟨_, _, rfl, hrel, _, _, rfl, by simp only [Rel], rfl⟩
 · subst he
   refine ⟨_, rfl, ?_⟩
   have hlt : ∀ p ∈ a0, p.block < W.heap.size := fun p hp => hW'.lt p (by simpa using hp)
   have hsame : ∀ p ∈ a0, W.sameAt W' p := fun p hp => by
    have ho := hw.old p.block (hlt p hp)
    cases p with
    | cell b off => show W'.cell? ⟨b, off, none⟩ = W.cell? ⟨b, off, none⟩; unfold World.cell?; rw [show W'.heap[b]? = W.heap[b]? from ho]
    | map b => exact ho
   refine post_of_same2 (pa := a0 ++ []) (pv := []) hW' (fun _ _ _ => trodAll_mk1 (shut_bool Tryz.underlying4 _)) (fun sp hsp => ?_) (fun _ _ => rfl) rfl (World.keptBut_mono (fun p hp => hp.elim) hw.kept) hw.fz (ok_one (by kernel_rfl) rfl (okWide_bool_mk Tryz.underlying4 _))
   rw [Tryz.params6]
   exact trodAll_mk2 (WideElems.Trod_stays (P := Tryz.prog) (by kernel_rfl) (by kernel_rfl) (of_decide_eq_true (by kernel_rfl)) h0 hsame (fun p hp => hsp p (by simpa using hp))) (shut_int Tryz.underlying5 hk)
theorem collectOrder_holds : Rows.CollectOrderSaid :=
 OpenClaim.holds_of_wide 6 Tryz.f6 rfl rfl rfl rfl rfl rfl rfl ⟨rfl, rfl, rfl, rfl, rfl⟩ rfl rfl rfl rfl rfl (by kernel_rfl) Tryz.func6 (by kernel_rfl)
  (of_decide_eq_true (by kernel_rfl)) (by unfold Func.isWrapper; first | (rw [if_pos (by decide +kernel)]; kernel_rfl) | (rw [if_neg (by decide +kernel)]; exact ⟨rfl, rfl⟩))
  (fun os started H enc _ => collectOrder_lifted os started H enc)

theorem collectOrder_card : Rows.CollectOrderCardSaid :=
 Claim7.holds_tied_plain_at .later [] [.widerDeep] true (true, "96276361df8694d8eb437e5bf23e0da8ec6d42f65fa24d02ab8c9d940cff04b7") false
  collectOrder_holds (fun _ h => by cases h) (by kernel_rfl) (fun _ h => by cases h) collectOrder_row_tie rfl ⟨rfl, rfl⟩ (by kernel_rfl) rfl
  (fun f fn hf hfn => by
   obtain rfl : f = 6 := Option.some.inj ((show Tryz.prog.funcNamed "columbary/columbarylaw12.CollectOrder" = some 6 by kernel_rfl).symm.trans hf) |>.symm
   obtain rfl : fn = Tryz.f6 := (Option.some.inj (Tryz.func6.symm.trans hfn)).symm
   exact ⟨by kernel_rfl, fun j t ht => by
    rw [Tryz.params6] at ht
    have hm : t ∈ [55, 5] := by simpa using Array.mem_of_getElem? ht
    have hall : ([55, 5].all fun u => !Tryz.prog.wantsStandIn u) = true := by kernel_rfl
    exact (show Tryz.prog.wantsStandIn t = false by simpa using List.all_eq_true.1 hall t hm)⟩)
  (by kernel_rfl)
#print axioms collectOrder_card
end Go.Proofs.YthnliekianmljaaGreatDoor
