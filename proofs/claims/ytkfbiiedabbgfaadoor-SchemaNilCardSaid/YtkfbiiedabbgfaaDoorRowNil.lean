/- Of a nil schema nothing is there: SchemaNil answers true whatever the text and the value, as its row says. No further conditions. -/
import Derived.Test.YtkfbiiedabbgfaaDoorTie
import Derived.ProofKit
import Derived.LaidMore
import Derived.OpenShut
import Derived.Stop.Joined
import Derived.SevenTiedAt
import Derived.Test.YtkfbiiedabbgfaaDoorCards
import Derived.ChangeMaps5
import Derived.Test.YtkfbiiedabbgfaaDoorRowA
import Derived.Test.YtkfbiiedabbgfaaDoorOpen
import Derived.Test.YtkfbiiedabbgfaaDoorQ2
import Derived.Test.YtkfbiiedabbgfaaDoorAwA
namespace Go.Proofs.YtkfbiiedabbgfaaDoor
open Go.ChangeShapes Go.WideShapes Go.ChangeAt Go.WideMaps Go.WideElems Go.RowKit Go.ChangeMaps Go.Cb Go.Cb.CodeA
set_option maxRecDepth 100000
set_option linter.unusedVariables false

theorem c39 : Tryd.prog.cellsOf 39 = 5 := by kernel_rfl
theorem c38 : Tryd.prog.cellsOf 38 = 5 := by kernel_rfl
theorem c9 : Tryd.prog.cellsOf 9 = 1 := by kernel_rfl
theorem c5 : Tryd.prog.cellsOf 5 = 1 := by kernel_rfl
theorem c2 : Tryd.prog.cellsOf 2 = 1 := by kernel_rfl
theorem c31 : Tryd.prog.cellsOf 31 = 1 := by kernel_rfl
theorem c37 : Tryd.prog.cellsOf 37 = 1 := by kernel_rfl

section
variable {H : Type} {enc : TypeId × Value → H} {w : World} {base : Nat} {spare : Nat → Bool} {held : Bool}
theorem open_str_row {m : Nat} {cs : List Value} {y : DataW H × List MemPlace} (h : DataW.trod enc Tryd.prog w base spare held m 9 cs = some y) : ∃ r, True ∧ RowRel (gh0 w) w r cs := by
  obtain ⟨s, rfl, _, _⟩ := DataW.trod_string Tryd.underlying9 h
  refine ⟨[.str (s.data.toList.map UInt8.toNat)], trivial, ?_, ?_⟩
  · simp only [RelL, Rel]; exact ⟨_, _, rfl, ⟨s, rfl, rfl⟩, rfl⟩
  · intro c hc; simp at hc; subst hc; rfl
theorem open_value : ∀ (n : Nat) (t : TypeId) (cs : List Value) (x : DataW H × List MemPlace), t = 39 → DataW.trod enc Tryd.prog w base spare held n t cs = some x → ∃ r, VRow r ∧ RowRel (gh0 w) w r cs := by
  intro n
  induction n using Nat.strongRecOn with
  | ind n ih =>
    rintro t cs x rfl h
    obtain ⟨xs, m, rfl, _, hlen, hxs, hf⟩ := DataW.trod_struct Tryd.underlying39 h
    rw [c39] at hlen
    match cs, hlen with
    | [q0, q1, q2, q3, q4], _ =>
      have f0 : DataW.trod enc Tryd.prog w base spare held m 5 ([q0].take 1) = xs[0]? := by
        have := hf 0 { name := "Kind", type := 5, offset := 0, embedded := false, tag := "", pkgPath := "", byteOffset := 0 } rfl
        dsimp only at this
        rw [c5] at this
        exact this
      have f1 : DataW.trod enc Tryd.prog w base spare held m 2 ([q1].take 1) = xs[1]? := by
        have := hf 1 { name := "N", type := 2, offset := 1, embedded := false, tag := "", pkgPath := "", byteOffset := 8 } rfl
        dsimp only at this
        rw [c2] at this
        exact this
      have f2 : DataW.trod enc Tryd.prog w base spare held m 9 ([q2].take 1) = xs[2]? := by
        have := hf 2 { name := "S", type := 9, offset := 2, embedded := false, tag := "", pkgPath := "", byteOffset := 16 } rfl
        dsimp only at this
        rw [c9] at this
        exact this
      have f3 : DataW.trod enc Tryd.prog w base spare held m 31 ([q3].take 1) = xs[3]? := by
        have := hf 3 { name := "K", type := 31, offset := 3, embedded := false, tag := "", pkgPath := "", byteOffset := 32 } rfl
        dsimp only at this
        rw [c31] at this
        exact this
      have f4 : DataW.trod enc Tryd.prog w base spare held m 37 ([q4].take 1) = xs[4]? := by
        have := hf 4 { name := "L", type := 37, offset := 4, embedded := false, tag := "", pkgPath := "", byteOffset := 56 } rfl
        dsimp only at this
        rw [c37] at this
        exact this
      have hsz : xs.length = 5 := hxs
      rw [List.getElem?_eq_getElem (by omega)] at f0 f1 f2 f3 f4
      obtain ⟨k, e0, _, _⟩ := DataW.trod_int Tryd.underlying5 f0
      obtain ⟨i, e1, _, _⟩ := DataW.trod_int Tryd.underlying2 f1
      obtain ⟨s, e2, _, _⟩ := DataW.trod_string Tryd.underlying9 f2
      obtain ⟨v3, ks, e3, o3, _, _, r3⟩ := open_rows (R := fun _ => True) Tryd.underlying31 (by rw [c9]; decide) (fun m' cs' y _ hy => open_str_row hy) f3
      obtain ⟨v4, ls, e4, o4, l4, h4, r4⟩ := open_rows (R := VRow) Tryd.underlying37 (by rw [c39]; decide) (fun m' cs' y hm hy => ih m' (by omega) 39 cs' y rfl hy) f4
      have e0 := (List.cons.inj (show [q0] = [_] from e0)).1
      have e1 := (List.cons.inj (show [q1] = [_] from e1)).1
      have e2 := (List.cons.inj (show [q2] = [_] from e2)).1
      have e3 := (List.cons.inj (show [q3] = [_] from e3)).1
      have e4 := (List.cons.inj (show [q4] = [_] from e4)).1
      subst e0; subst e1; subst e2; subst e3; subst e4
      refine ⟨_, .mk k i (s.data.toList.map UInt8.toNat) ks ls l4 h4, ?_, ?_⟩
      · simp only [RelL]
        exact ⟨_, _, rfl, rfl, _, _, rfl, rfl, _, _, rfl, by simp only [Rel]; exact ⟨s, rfl, rfl⟩, _, _, rfl, r3, _, _, rfl, r4, rfl⟩
      · intro c hc
        simp only [List.mem_cons, List.not_mem_nil, or_false] at hc
        rcases hc with rfl | rfl | rfl | rfl | rfl <;> first | rfl | assumption
end

theorem nil_lifted (os : Os) (started : os.Started) (H : Type) (enc : TypeId × Value → H) :
    ReturnsInHanded {} Tryd.checked os 7 .any (fun w args => (Rows.schemaNilSpec.pre enc Tryd.prog Tryd.f7 [] false w args ∧ laidMetH Tryd.prog laidS w) ∧ sizedMet enc Tryd.prog Tryd.f7 (OpenSpec.ofChange Rows.schemaNilSpec) false w args)
      (Rows.schemaNilSpec.post enc Tryd.prog Tryd.f7 false true false false) := by
  refine returnsInHanded_of_change_and (C := Tryd.checked) (X := fun w _ => laidMetH Tryd.prog laidS w) (fun _ _ _ hh h => h.of_heap hh) own started (by kernel_rfl) Tryd.func7
    (ChangeSpec.witness_shaped (enc := enc) (C := Tryd.checked) (os := os) (X := fun w _ => laidMetH Tryd.prog laidS w) false (World.doorLaid Tryd.prog 400 os) #[.string ⟨#[]⟩, .agg #[.int .u8 0, .int .i64 0, .string ⟨#[]⟩, .slice none 0 0, .slice none 0 0]] 8 rfl (World.shaped_of_RefB (by kernel_rfl) (by kernel_rfl)) (by kernel_rfl) (by kernel_rfl) (by kernel_rfl) (door_met os _)) ?_
  intro W base args ds gs before hval0 hW _ _ hL _
  have hval : ∀ (j : Nat) t v, Tryd.f7.params[j]? = some t → args[j]? = some v → Value.okWide Tryd.prog W .any base t v := hval0
  have hW' := hW
  obtain ⟨p, q, hA0, hV, rfl, hfz, hnd⟩ := hW
  have hA : DataW.TrodAll enc Tryd.prog W 0 (fun _ => true) true Tryd.f7.params.toList args.toList ds p := hA0
  rw [Tryd.params7] at hA hval
  obtain ⟨v0, v1, d0, d1, a0, b0, rfl, rfl, rfl, h0, h1⟩ := trodAll_two hA
  obtain ⟨rfl, rfl⟩ := trodVars_none hV
  obtain ⟨s, rfl, rfl, rfl, hs⟩ := open_string Tryd.underlying9 (hval 0 9 v0 rfl rfl) h0
  obtain ⟨fuel, h1'⟩ := id h1
  obtain ⟨r, hr, hrel, hone⟩ := open_value fuel 39 _ _ rfl h1'
  obtain ⟨cs, rfl⟩ : ∃ cs, v1 = .agg cs := by
    obtain ⟨_, _, _, _, _, rfl, _, _⟩ := hr.inv
    have hl := hrel.length
    cases v1 <;> first | exact ⟨_, rfl⟩ | (simp [Value.cells] at hl)
  have hag : Rel (gh0 W) W (.agg r) (.agg cs) := by simp only [Rel]; exact ⟨cs, rfl, hrel, hone⟩
  obtain ⟨a, st', ⟨n, hrun⟩, ha⟩ := nil_q awake_q (s.data.toList.map UInt8.toNat) hr
  subst ha
  refine (answer prog_ok hrun (fun x hx => ?_) (globs_of_laid hL) (vs := [.string s, .agg cs]) ?_).mono fun e W' ⟨he, hw⟩ => ?_
  · simp only [List.mem_cons, List.not_mem_nil, or_false] at hx
    rcases hx with rfl | rfl
    · rfl
    · obtain ⟨_, _, _, _, _, rfl, _, _⟩ := hr.inv
      rfl
  · simp only [RelL]
    exact ⟨_, _, rfl, by simp only [Rel]; exact ⟨s, rfl, rfl⟩, _, _, rfl, hag, rfl⟩
  · subst he
    refine ⟨_, rfl, ?_⟩
    have hlt : ∀ p ∈ b0, p.block < W.heap.size := fun p hp => hW'.lt p (by simpa using hp)
    have hsame : ∀ p ∈ b0, W.sameAt W' p := fun p hp => by
      have ho := hw.old p.block (hlt p hp)
      cases p with
      | cell b off => show W'.cell? ⟨b, off, none⟩ = W.cell? ⟨b, off, none⟩; unfold World.cell?; rw [show W'.heap[b]? = W.heap[b]? from ho]
      | map b => exact ho
    refine post_of_same (pa := [] ++ b0) (pv := []) hW' (fun _ _ _ => trodAll_mk1 (shut_bool Tryd.underlying4 _)) (fun sp hsp => ?_) (fun _ _ => rfl) rfl (World.keptBut_mono (fun p hp => hp.elim) hw.kept) hw.fz (ok_one (by kernel_rfl) rfl (okWide_bool_mk Tryd.underlying4 _))
    rw [Tryd.params7]
    exact trodAll_mk2 (shut_string Tryd.underlying9 hs) (WideElems.Trod_stays (P := Tryd.prog) (by kernel_rfl) (by kernel_rfl) (of_decide_eq_true (by kernel_rfl)) h1 hsame (fun p hp => hsp p (by simpa using hp)))
theorem nil_holds : Rows.SchemaNilSaid :=
  OpenClaim.holds_of_wide 7 Tryd.f7 rfl rfl rfl rfl rfl rfl rfl ⟨rfl, rfl, rfl, rfl, rfl⟩ rfl rfl rfl rfl rfl (by kernel_rfl) Tryd.func7 (by kernel_rfl)
    (of_decide_eq_true (by kernel_rfl)) (by unfold Func.isWrapper; first | (rw [if_pos (by decide +kernel)]; kernel_rfl) | (rw [if_neg (by decide +kernel)]; exact ⟨rfl, rfl⟩))
    (fun os started H enc _ => nil_lifted os started H enc)

theorem nil_card : Rows.SchemaNilCardSaid :=
  Claim7.holds_tied_plain_at .later [] [.widerDeep] true (true, "cfd144c79200eb65b2f185f03a5ce11805f7c9ffe2767947bc7ab46b9f924568") false
    nil_holds (fun _ h => by cases h) (by kernel_rfl) (fun _ h => by cases h) schemaNil_row_tie rfl ⟨rfl, rfl⟩ (by kernel_rfl) rfl
    (fun f fn hf hfn => by
      obtain rfl : f = 7 := Option.some.inj ((show Tryd.prog.funcNamed "columbary/columbarylaw09.SchemaNil" = some 7 by kernel_rfl).symm.trans hf) |>.symm
      obtain rfl : fn = Tryd.f7 := (Option.some.inj (Tryd.func7.symm.trans hfn)).symm
      exact ⟨by kernel_rfl, fun j t ht => by
        rw [Tryd.params7] at ht
        have hm : t ∈ [9, 39] := by simpa using Array.mem_of_getElem? ht
        have hall : ([9, 39].all fun u => !Tryd.prog.wantsStandIn u) = true := by kernel_rfl
        exact (show Tryd.prog.wantsStandIn t = false by simpa using List.all_eq_true.1 hall t hm)⟩)
    (by kernel_rfl)
#print axioms nil_card
end Go.Proofs.YtkfbiiedabbgfaaDoor
