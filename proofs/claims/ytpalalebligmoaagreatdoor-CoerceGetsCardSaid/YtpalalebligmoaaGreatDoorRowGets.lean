/- CoerceGets: for every value and every name, the first value of that name in an object is what the reference says; no conditions beyond those of the given row. -/
import Derived.Test.YtpalalebligmoaaGreatDoorRowC
import Derived.Test.YtpalalebligmoaaGreatDoorOpen
import Derived.Test.YtpalalebligmoaaGreatDoorC2
import Derived.Test.YtpalalebligmoaaGreatDoorAwA
namespace Go.Proofs.YtpalalebligmoaaGreatDoor
open Go.ChangeShapes Go.WideShapes Go.ChangeAt Go.WideMaps Go.WideElems Go.RowKit Go.ChangeMaps Go.Cb Go.Cb.CodeA
set_option maxRecDepth 100000
set_option linter.unusedVariables false

theorem strs_of : ∀ {ks : List (List AV)}, (∀ r ∈ ks, ∃ s, r = strRow s) → ∃ ss : List (List Nat), ks = ss.map strRow
  | [], _ => ⟨[], rfl⟩
  | k :: ks, h => by
    obtain ⟨s, rfl⟩ := h k (by simp)
    obtain ⟨ss, rfl⟩ := strs_of (ks := ks) fun r hr => h r (by simp [hr])
    exact ⟨s :: ss, rfl⟩
theorem vals_of : ∀ {ls : List (List AV)}, (∀ r ∈ ls, ∃ v : Val, v.Fin ∧ r = v.row) → ∃ vs : List Val, ls = vs.map Val.row ∧ ∀ v ∈ vs, v.Fin
  | [], _ => ⟨[], rfl, by simp⟩
  | k :: ks, h => by
    obtain ⟨v, hv, rfl⟩ := h k (by simp)
    obtain ⟨vs, rfl, hs⟩ := vals_of (ls := ks) fun r hr => h r (by simp [hr])
    refine ⟨v :: vs, rfl, fun u hu => ?_⟩
    rcases List.mem_cons.1 hu with rfl | hu
    · exact hv
    · exact hs u hu

theorem c28 : Tryz.prog.cellsOf 28 = 5 := by kernel_rfl
theorem c9 : Tryz.prog.cellsOf 9 = 1 := by kernel_rfl
theorem c5 : Tryz.prog.cellsOf 5 = 1 := by kernel_rfl
theorem c2 : Tryz.prog.cellsOf 2 = 1 := by kernel_rfl
theorem c25 : Tryz.prog.cellsOf 25 = 1 := by kernel_rfl
theorem c26 : Tryz.prog.cellsOf 26 = 1 := by kernel_rfl

section
variable {H : Type} {enc : TypeId × Value → H} {w : World} {base : Nat} {spare : Nat → Bool} {held : Bool}
theorem open_str_row {m : Nat} {cs : List Value} {y : DataW H × List MemPlace} (h : DataW.trod enc Tryz.prog w base spare held m 9 cs = some y) : ∃ r, (∃ s, r = strRow s) ∧ RowRel (gh0 w) w r cs := by
  obtain ⟨s, rfl, _, _⟩ := DataW.trod_string Tryz.underlying9 h
  refine ⟨[.str (s.data.toList.map UInt8.toNat)], ⟨_, rfl⟩, ?_, ?_⟩
  · simp only [RelL, Rel]; exact ⟨_, _, rfl, ⟨s, rfl, rfl⟩, rfl⟩
  · intro c hc; simp at hc; subst hc; rfl
theorem open_value : ∀ (n : Nat) (t : TypeId) (cs : List Value) (x : DataW H × List MemPlace), t = 28 → DataW.trod enc Tryz.prog w base spare held n t cs = some x → ∃ r, (∃ v : Val, v.Fin ∧ r = v.row) ∧ RowRel (gh0 w) w r cs := by
  intro n
  induction n using Nat.strongRecOn with
  | ind n ih =>
    rintro t cs x rfl h
    obtain ⟨xs, m, rfl, _, hlen, hxs, hf⟩ := DataW.trod_struct Tryz.underlying28 h
    rw [c28] at hlen
    match cs, hlen with
    | [q0, q1, q2, q3, q4], _ =>
      have f0 : DataW.trod enc Tryz.prog w base spare held m 5 ([q0].take 1) = xs[0]? := by
        have := hf 0 { name := "Kind", type := 5, offset := 0, embedded := false, tag := "", pkgPath := "", byteOffset := 0 } rfl
        dsimp only at this
        rw [c5] at this
        exact this
      have f1 : DataW.trod enc Tryz.prog w base spare held m 2 ([q1].take 1) = xs[1]? := by
        have := hf 1 { name := "N", type := 2, offset := 1, embedded := false, tag := "", pkgPath := "", byteOffset := 8 } rfl
        dsimp only at this
        rw [c2] at this
        exact this
      have f2 : DataW.trod enc Tryz.prog w base spare held m 9 ([q2].take 1) = xs[2]? := by
        have := hf 2 { name := "S", type := 9, offset := 2, embedded := false, tag := "", pkgPath := "", byteOffset := 16 } rfl
        dsimp only at this
        rw [c9] at this
        exact this
      have f3 : DataW.trod enc Tryz.prog w base spare held m 25 ([q3].take 1) = xs[3]? := by
        have := hf 3 { name := "K", type := 25, offset := 3, embedded := false, tag := "", pkgPath := "", byteOffset := 32 } rfl
        dsimp only at this
        rw [c25] at this
        exact this
      have f4 : DataW.trod enc Tryz.prog w base spare held m 26 ([q4].take 1) = xs[4]? := by
        have := hf 4 { name := "L", type := 26, offset := 4, embedded := false, tag := "", pkgPath := "", byteOffset := 56 } rfl
        dsimp only at this
        rw [c26] at this
        exact this
      have hsz : xs.length = 5 := hxs
      rw [List.getElem?_eq_getElem (by omega)] at f0 f1 f2 f3 f4
      obtain ⟨k, e0, _, _⟩ := DataW.trod_int Tryz.underlying5 f0
      obtain ⟨i, e1, _, _⟩ := DataW.trod_int Tryz.underlying2 f1
      obtain ⟨s, e2, _, _⟩ := DataW.trod_string Tryz.underlying9 f2
      obtain ⟨v3, ks, e3, o3, l3, h3, r3⟩ := open_rows (R := fun r => ∃ s, r = strRow s) Tryz.underlying25 (by rw [c9]; decide) (fun m' cs' y _ hy => open_str_row hy) f3
      obtain ⟨v4, ls, e4, o4, l4, h4, r4⟩ := open_rows (R := fun r => ∃ v : Val, v.Fin ∧ r = v.row) Tryz.underlying26 (by rw [c28]; decide) (fun m' cs' y hm hy => ih m' (by omega) 28 cs' y rfl hy) f4
      have e0 := (List.cons.inj (show [q0] = [_] from e0)).1
      have e1 := (List.cons.inj (show [q1] = [_] from e1)).1
      have e2 := (List.cons.inj (show [q2] = [_] from e2)).1
      have e3 := (List.cons.inj (show [q3] = [_] from e3)).1
      have e4 := (List.cons.inj (show [q4] = [_] from e4)).1
      subst e0; subst e1; subst e2; subst e3; subst e4
      obtain ⟨ss, rfl⟩ := strs_of h3
      obtain ⟨vs, rfl, hvs⟩ := vals_of h4
      refine ⟨_, ⟨.mk k i (s.data.toList.map UInt8.toNat) ss vs, .mk _ _ _ _ _ (by simpa using l3) (by simpa using l4) hvs, (Val.row_eq _ _ _ _ _).symm⟩, ?_, ?_⟩
      · simp only [RelL]
        exact ⟨_, _, rfl, rfl, _, _, rfl, rfl, _, _, rfl, by simp only [Rel]; exact ⟨s, rfl, rfl⟩, _, _, rfl, r3, _, _, rfl, r4, rfl⟩
      · intro c hc
        simp only [List.mem_cons, List.not_mem_nil, or_false] at hc
        rcases hc with rfl | rfl | rfl | rfl | rfl <;> first | rfl | assumption
end

theorem gets_lifted (os : Os) (started : os.Started) (H : Type) (enc : TypeId × Value → H) :
    ReturnsInHanded {} Tryz.checked os 4 .any (fun w args => (Rows.coerceGetsSpec.pre enc Tryz.prog Tryz.f4 [] false w args ∧ laidMetH Tryz.prog laidS w) ∧ sizedMet enc Tryz.prog Tryz.f4 (OpenSpec.ofChange Rows.coerceGetsSpec) false w args)
      (Rows.coerceGetsSpec.post enc Tryz.prog Tryz.f4 false true false false) := by
  refine returnsInHanded_of_change_and (C := Tryz.checked) (X := fun w _ => laidMetH Tryz.prog laidS w) (fun _ _ _ hh h => h.of_heap hh) own started (by kernel_rfl) Tryz.func4
    (ChangeSpec.witness_shaped (enc := enc) (C := Tryz.checked) (os := os) (X := fun w _ => laidMetH Tryz.prog laidS w) false (World.doorLaid Tryz.prog 400 os) #[.agg #[.int .u8 0, .int .i64 0, .string ⟨#[]⟩, .slice none 0 0, .slice none 0 0], .string ⟨#[]⟩] 8 rfl (World.shaped_of_RefB (by kernel_rfl) (by kernel_rfl)) (by kernel_rfl) (by kernel_rfl) (by kernel_rfl) (door_met os _)) ?_
  intro W base args ds gs before hval0 hW _ _ hL _
  have hval : ∀ (j : Nat) t v, Tryz.f4.params[j]? = some t → args[j]? = some v → Value.okWide Tryz.prog W .any base t v := hval0
  have hW' := hW
  obtain ⟨p, q, hA0, hV, rfl, hfz, hnd⟩ := hW
  have hA : DataW.TrodAll enc Tryz.prog W 0 (fun _ => true) true Tryz.f4.params.toList args.toList ds p := hA0
  rw [Tryz.params4] at hA hval
  obtain ⟨v0, v1, d0, d1, a0, b0, rfl, rfl, rfl, h0, h1⟩ := trodAll_two hA
  obtain ⟨rfl, rfl⟩ := trodVars_none hV
  obtain ⟨s, rfl, rfl, rfl, hs⟩ := open_string Tryz.underlying9 (hval 1 9 v1 rfl rfl) h1
  obtain ⟨fuel, h0'⟩ := id h0
  obtain ⟨_, ⟨v, hv, rfl⟩, hrel, hone⟩ := open_value fuel 28 _ _ rfl h0'
  obtain ⟨cs, rfl⟩ : ∃ cs, v0 = .agg cs := by
    obtain ⟨_, _, _, _, _, e⟩ := v.row_cells
    rw [e] at hrel
    have hl := hrel.length
    cases v0 <;> first | exact ⟨_, rfl⟩ | (simp [Value.cells] at hl)
  have hag : Rel (gh0 W) W (.agg v.row) (.agg cs) := by simp only [Rel]; exact ⟨cs, rfl, hrel, hone⟩
  obtain ⟨st1, st2, b1, b2⟩ := awake_evs
  obtain ⟨a, st', ⟨n, hrun⟩, ha⟩ := gets_law b1 b2 hv (s.data.toList.map UInt8.toNat)
  subst ha
  refine (answer prog_ok hrun (fun x hx => ?_) (globs_of_laid hL) (vs := [.agg cs, .string s]) ?_).mono fun e W' ⟨he, hw⟩ => ?_
  · simp only [List.mem_cons, List.not_mem_nil, or_false] at hx
    rcases hx with rfl | rfl
    · obtain ⟨_, _, _, _, _, e⟩ := v.row_cells
      rw [e]
      rfl
    · rfl
  · simp only [RelL]
    exact ⟨_, _, rfl, hag, _, _, rfl, by simp only [Rel]; exact ⟨s, rfl, rfl⟩, rfl⟩
  · subst he
    refine ⟨_, rfl, ?_⟩
    have hlt : ∀ p ∈ a0, p.block < W.heap.size := fun p hp => hW'.lt p (by simpa using hp)
    have hsame : ∀ p ∈ a0, W.sameAt W' p := fun p hp => by
      have ho := hw.old p.block (hlt p hp)
      cases p with
      | cell b off => show W'.cell? ⟨b, off, none⟩ = W.cell? ⟨b, off, none⟩; unfold World.cell?; rw [show W'.heap[b]? = W.heap[b]? from ho]
      | map b => exact ho
    refine post_of_same (pa := a0 ++ []) (pv := []) hW' (fun _ _ _ => trodAll_mk1 (shut_bool Tryz.underlying4 _)) (fun sp hsp => ?_) (fun _ _ => rfl) rfl (World.keptBut_mono (fun p hp => hp.elim) hw.kept) hw.fz (ok_one (by kernel_rfl) rfl (okWide_bool_mk Tryz.underlying4 _))
    rw [Tryz.params4]
    exact trodAll_mk2 (WideElems.Trod_stays (P := Tryz.prog) (by kernel_rfl) (by kernel_rfl) (of_decide_eq_true (by kernel_rfl)) h0 hsame (fun p hp => hsp p (by simpa using hp))) (shut_string Tryz.underlying9 hs)
theorem gets_holds : Rows.CoerceGetsSaid :=
  OpenClaim.holds_of_wide 4 Tryz.f4 rfl rfl rfl rfl rfl rfl rfl ⟨rfl, rfl, rfl, rfl, rfl⟩ rfl rfl rfl rfl rfl (by kernel_rfl) Tryz.func4 (by kernel_rfl)
    (of_decide_eq_true (by kernel_rfl)) (by unfold Func.isWrapper; first | (rw [if_pos (by decide +kernel)]; kernel_rfl) | (rw [if_neg (by decide +kernel)]; exact ⟨rfl, rfl⟩))
    (fun os started H enc _ => gets_lifted os started H enc)

theorem coerceGets : Rows.CoerceGetsCardSaid :=
  Claim7.holds_tied_plain_at .later [] [.data, .data, .data, .widerDeep] true (true, "c6e34d02094b78792ed9f8a82c4191022da265ddec2c26178cb5766e664b0699") false
    gets_holds (fun _ h => by cases h) (by kernel_rfl) (fun _ h => by cases h) coerceGets_row_tie rfl ⟨rfl, rfl⟩ (by kernel_rfl) rfl
    (fun f fn hf hfn => by
      obtain rfl : f = 4 := Option.some.inj ((show Tryz.prog.funcNamed "columbary/columbarylaw10.CoerceGets" = some 4 by kernel_rfl).symm.trans hf) |>.symm
      obtain rfl : fn = Tryz.f4 := (Option.some.inj (Tryz.func4.symm.trans hfn)).symm
      exact ⟨by kernel_rfl, fun j t ht => by
        rw [Tryz.params4] at ht
        have hm : t ∈ [28, 9] := by simpa using Array.mem_of_getElem? ht
        have hall : ([28, 9].all fun u => !Tryz.prog.wantsStandIn u) = true := by kernel_rfl
        exact (show Tryz.prog.wantsStandIn t = false by simpa using List.all_eq_true.1 hall t hm)⟩)
    (by kernel_rfl)
#print axioms coerceGets
end Go.Proofs.YtpalalebligmoaaGreatDoor
