import Derived.Test.YtkfbiiedabbgfaaDoorTie
import Derived.ProofKit
import Derived.LaidMore
import Derived.OpenShut
import Derived.Stop.Joined
import Derived.SevenTiedAt
import Derived.Test.YtkfbiiedabbgfaaDoorCards
import Derived.ChangeMaps5
import Derived.Test.YtkfbiiedabbgfaaDoorOkA
import Derived.Test.YtkfbiiedabbgfaaDoorXAms2
namespace Go.Proofs.YtkfbiiedabbgfaaDoor
open Go.ChangeShapes Go.WideShapes Go.ChangeAt Go.WideMaps Go.WideElems Go.RowKit Go.ChangeMaps Go.Cb Go.Cb.CodeA
set_option maxRecDepth 100000

theorem own : ownKnob Tryd.prog.godebug = none := by kernel_rfl
theorem gScalars : Tryd.prog.globalNamed "columbary/schema.Scalars" = some 0 := by kernel_rfl
abbrev laidS : List (String × DataW Unit) := [("columbary/schema.Scalars", Rows.laid_columbary_schema_Scalars)]
theorem tScalars : (Tryd.prog.globals[0]?).map (·.type) = some 68 := by kernel_rfl

/-- what the condition gives: the table's four cells -/
theorem globs_of_laid {W : World} (h : laidMetH Tryd.prog laidS W) : Globs gts (gh0 W) W := by
  rw [MakeChecks.laidMetH_plain _ _ _ (by kernel_rfl)] at h
  obtain ⟨ps, ⟨g0, t0, cs0, f0, p0, q0, hg0, ht0, hv0, hd0, _, _⟩, _, _⟩ := h
  obtain rfl := Option.some.inj (gScalars.symm.trans hg0)
  obtain rfl := Option.some.inj (tScalars.symm.trans ht0)
  obtain ⟨xs, m1, rfl, hx1, hlen, hn4, hel⟩ := DataW.trod_array Tryd.underlying68 hd0
  have c9 : Tryd.prog.cellsOf 9 = 1 := by kernel_rfl
  have hsz : 0 < W.heap.size := by
    have hc := World.var?_cell hg0 hv0 0
    cases hq : W.heap[0]? with
    | some o => exact (Array.getElem?_eq_some_iff.1 hq).1
    | none =>
      exfalso
      have h0 := hel 0 (by decide)
      rw [c9] at h0
      obtain ⟨x0, hx0⟩ : ∃ x0, xs[0]? = some x0 := ⟨xs[0], List.getElem?_eq_getElem (by omega)⟩
      rw [hx0] at h0
      obtain ⟨s, hs, _, _⟩ := DataW.trod_string Tryd.underlying9 h0
      have : cs0.toList[0]? = some (.string s) := by
        have := congrArg (·[0]?) hs
        simpa using this
      rw [Array.getElem?_toList] at this
      rw [this] at hc
      simp [World.cell?, hq] at hc
  have one : ∀ (i : Nat) (l : List UInt8), i < 4 → (xs.map (·.1))[i]? = some (.lit (.string l)) → ∃ v, W.cell? (ad 0 i) = some v ∧ v.oneCell' = true ∧ (gh0 W).cl 0 i ∧ Rel (gh0 W) W (.str (l.map UInt8.toNat)) v := by
    intro i l hi hl
    rw [List.getElem?_map] at hl
    obtain ⟨x, hx, hl⟩ := Option.map_eq_some_iff.1 hl
    have hi' := hel i hi
    rw [c9, hx] at hi'
    obtain ⟨s, hs, hxs, _⟩ := DataW.trod_string Tryd.underlying9 hi'
    rw [hxs] at hl
    have hl : s.data.toList = l := by simpa using hl
    have hc : cs0[i]? = some (.string s) := by
      have := congrArg (·[0]?) hs
      simp only [Nat.mul_one] at this
      simpa using this
    refine ⟨.string s, (World.var?_cell hg0 hv0 i).trans hc, rfl, hsz, ?_⟩
    simp only [Rel]
    exact ⟨s, rfl, by rw [hl]⟩
  simp only [Prod.mk.injEq, Rows.laid_columbary_schema_Scalars, DataW.agg.injEq] at hx1
  have hx1 := hx1.1
  intro e he
  simp only [gts, List.mem_cons, List.not_mem_nil, or_false] at he
  subst he
  simp only [RelCells, Nat.zero_add, Nat.reduceAdd]
  exact ⟨one 0 [66, 111, 111, 108, 101, 97, 110] (by decide) (by rw [← hx1]; rfl), one 1 [73, 68] (by decide) (by rw [← hx1]; rfl), one 2 [73, 110, 116] (by decide) (by rw [← hx1]; rfl), one 3 [83, 116, 114, 105, 110, 103] (by decide) (by rw [← hx1]; rfl), trivial⟩

theorem door_met (os : Os) (args : Array Value) : laidMetH Tryd.prog laidS ((World.doorLaid Tryd.prog 400 os).forCall (fun _ _ => 0) ⟨#[], args, []⟩).memory :=
  laidMetH_of_parts3 (fuel := 8) (laidMet_of_run' 8 (by kernel_rfl) (by kernel_rfl)) (by kernel_rfl) (by kernel_rfl)

/-- the abstract answer of SchemaTwice -/
def TwiceAM : Prop := ∀ (s : List Nat) (k : Int), (∀ x ∈ s, x < 256) → 0 ≤ k → k < 256 → ∃ n st', callF tbl n 3 [.str s, .int .u8 k] [] = some (.bool true, st')

theorem twice_lifted (hAM : TwiceAM) (os : Os) (started : os.Started) (H : Type) (enc : TypeId × Value → H) :
    ReturnsInHanded {} Tryd.checked os 3 .any (fun w args => (Rows.schemaTwiceSpec.pre enc Tryd.prog Tryd.f3 [] false w args ∧ laidMetH Tryd.prog laidS w) ∧ sizedMet enc Tryd.prog Tryd.f3 (OpenSpec.ofChange Rows.schemaTwiceSpec) false w args)
      (Rows.schemaTwiceSpec.post enc Tryd.prog Tryd.f3 false true false false) := by
  refine returnsInHanded_of_change_and (C := Tryd.checked) (X := fun w _ => laidMetH Tryd.prog laidS w) (fun _ _ _ hh h => h.of_heap hh) own started (by kernel_rfl) Tryd.func3
    (ChangeSpec.witness_shaped (enc := enc) (C := Tryd.checked) (os := os) (X := fun w _ => laidMetH Tryd.prog laidS w) false (World.doorLaid Tryd.prog 400 os) #[.string ⟨#[]⟩, .int .u8 0] 8 rfl (World.shaped_of_RefB (by kernel_rfl) (by kernel_rfl)) (by kernel_rfl) (by kernel_rfl) (by kernel_rfl) (door_met os _)) ?_
  intro W base args ds gs before hval0 hW _ _ hL _
  have hval : ∀ (j : Nat) t v, Tryd.f3.params[j]? = some t → args[j]? = some v → Value.okWide Tryd.prog W .any base t v := hval0
  have hW' := hW
  obtain ⟨p, q, hA0, hV, rfl, hfz, hnd⟩ := hW
  have hA : DataW.TrodAll enc Tryd.prog W 0 (fun _ => true) true Tryd.f3.params.toList args.toList ds p := hA0
  rw [Tryd.params3] at hA hval
  obtain ⟨v0, v1, d0, d1, a0, b0, rfl, rfl, rfl, h0, h1⟩ := trodAll_two hA
  obtain ⟨rfl, rfl⟩ := trodVars_none hV
  obtain ⟨s, rfl, rfl, rfl, hs⟩ := open_string Tryd.underlying9 (hval 0 9 v0 rfl rfl) h0
  obtain ⟨k, rfl, rfl, rfl, hk⟩ := open_int Tryd.underlying5 (hval 1 5 v1 rfl rfl) h1
  have hus : (Lit.int .u8 k).wf = true := hk
  have hk2 : 0 ≤ k ∧ k < 256 := by
    have := hus
    simp [Lit.wf, IntKind.min, IntKind.max, IntKind.signed, IntKind.bits] at this
    omega
  obtain ⟨n, st', hrun⟩ := hAM (s.data.toList.map UInt8.toNat) k (fun x hx => by obtain ⟨y, _, rfl⟩ := List.mem_map.1 hx; exact y.toNat_lt) hk2.1 hk2.2
  refine (answer prog_ok hrun (fun x hx => ?_) (globs_of_laid hL) (vs := [.string s, .int .u8 k]) ?_).mono fun e W' ⟨he, hw⟩ => ?_
  · simp only [List.mem_cons, List.not_mem_nil, or_false] at hx
    rcases hx with rfl | rfl <;> rfl
  · simp only [RelL, Rel]
    exact ⟨_, _, rfl, ⟨s, rfl, rfl⟩, _, _, rfl, rfl, rfl⟩
  · subst he
    refine ⟨_, rfl, ?_⟩
    refine post_of_same (pa := []) (pv := []) hW' (fun _ _ _ => trodAll_mk1 (shut_bool Tryd.underlying4 _)) (fun sp _ => ?_) (fun _ _ => rfl) rfl (World.keptBut_mono (fun p hp => hp.elim) hw.kept) hw.fz (ok_one (by kernel_rfl) rfl (okWide_bool_mk Tryd.underlying4 _))
    rw [Tryd.params3]
    exact trodAll_mk2 (shut_string Tryd.underlying9 hs) (shut_int Tryd.underlying5 hk)
theorem twice_holds (hAM : TwiceAM) : Rows.SchemaTwiceSaid :=
  OpenClaim.holds_of_wide 3 Tryd.f3 rfl rfl rfl rfl rfl rfl rfl ⟨rfl, rfl, rfl, rfl, rfl⟩ rfl rfl rfl rfl rfl (by kernel_rfl) Tryd.func3 (by kernel_rfl)
    (of_decide_eq_true (by kernel_rfl)) (by unfold Func.isWrapper; first | (rw [if_pos (by decide +kernel)]; kernel_rfl) | (rw [if_neg (by decide +kernel)]; exact ⟨rfl, rfl⟩))
    (fun os started H enc _ => twice_lifted hAM os started H enc)

theorem twice_card (hAM : TwiceAM) : Rows.SchemaTwiceCardSaid :=
  Claim7.holds_tied_plain_at .later [] [.widerDeep] true (true, "cfd144c79200eb65b2f185f03a5ce11805f7c9ffe2767947bc7ab46b9f924568") false
    (twice_holds hAM) (fun _ h => by cases h) (by kernel_rfl) (fun _ h => by cases h) schemaTwice_row_tie rfl ⟨rfl, rfl⟩ (by kernel_rfl) rfl
    (fun f fn hf hfn => by
      obtain rfl : f = 3 := Option.some.inj ((show Tryd.prog.funcNamed "columbary/columbarylaw09.SchemaTwice" = some 3 by kernel_rfl).symm.trans hf) |>.symm
      obtain rfl : fn = Tryd.f3 := (Option.some.inj (Tryd.func3.symm.trans hfn)).symm
      exact ⟨by kernel_rfl, fun j t ht => by
        rw [Tryd.params3] at ht
        have hm : t ∈ [9, 5] := by simpa using Array.mem_of_getElem? ht
        have hall : ([9, 5].all fun u => !Tryd.prog.wantsStandIn u) = true := by kernel_rfl
        exact (show Tryd.prog.wantsStandIn t = false by simpa using List.all_eq_true.1 hall t hm)⟩)
    (by kernel_rfl)
#print axioms twice_card
end Go.Proofs.YtkfbiiedabbgfaaDoor
