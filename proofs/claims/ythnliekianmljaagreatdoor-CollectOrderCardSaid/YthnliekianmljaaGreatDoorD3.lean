/- What functions of the abstract machine answer. No conditions but those that each theorem names. -/
import Derived.Test.YthnliekianmljaaGreatDoorD2
set_option maxRecDepth 20000
set_option linter.unusedSimpArgs false
set_option linter.unusedVariables false
namespace Go.Cb.CodeA
open Go Go.Cb
open Nat renaming reduceAdd → rA, reduceSub → rS, reduceLeDiff → rL, reduceEqDiff → rE
attribute [local congr] obind_congr gv_congr2 gv2_congr brT_congr seqK_congr blkK_congr m1_congr gm_congr
variable {B : St}

theorem wordm_q {L : List Tok} {o : Nat} {st : St} {i : Nat} {d : Int} (h : Rd B L o st i d 0) (s : List Nat) :
 EvQ tbl 26 [.ptr o 0, .str s] st (fun a st' => ∃ i' e', Rd B L o st' i' d e' ∧ i ≤ i' ∧ (e' = 0 → i < i') ∧ wordP L s i = if e' = 0 then some i' else none) := by
 obtain ⟨bad, ho⟩ := h.ob
 have hs : ∀ y : Obj, (st.set o y)[o]? = some y := fun y => set_get ho
 have hl := h.hL.2
 have hi := h.hi
 have i1 := inc64 (show i + 1 < 2 ^ 63 by omega)
 refine EvQ.body (fn := a26) rfl rfl rfl ?_
 simp +contextual -implicitDefEqProofs only [K26, SS, rA,rS,rL,rE,reduceCtorEq, ho, rdC, show eqI 0 0 = true from rfl]
 refine WC.call (word_q h s) rfl rfl ?_
 rintro _ st1 ⟨rfl, b, rfl, hb, hbs⟩
 have hbs := hbs rfl
 simp +contextual -implicitDefEqProofs only [K26, SS, rA,rS,rL,rE,reduceCtorEq]
 refine WC.br (fun hk => ?_) (fun hk => ?_)
 · have hk : b = false := by simpa using hk
   simp +contextual -implicitDefEqProofs only [K26, SS, rA,rS,rL,rE,reduceCtorEq]
   refine WC.call (fault_q h 4 (by decide)) rfl rfl ?_
   rintro _ st2 ⟨e2, h2, he2⟩
   simp +contextual -implicitDefEqProofs only [K26, SS, rA,rS,rL,rE,reduceCtorEq]
   exact WC.ret ⟨_, _, rfl, i, e2, h2, Nat.le_refl _, (fun h => absurd h he2), by rw [wordP, ← hbs, hk, if_neg he2]; rfl⟩
 · have hk : b = true := by simpa using hk
   have hkk := (hb hk).2
   simp +contextual -implicitDefEqProofs only [K26, SS, rA,rS,rL,rE,reduceCtorEq, ho, rdC, hs, i1]
   exact WC.ret ⟨_, _, rfl, i + 1, 0, h.put (tokL_next h.hL.1 h.hi (by rw [hkk]; decide)), by omega, (fun _ => by omega), by rw [wordP, ← hbs, hk]; rfl⟩
theorem VDef.row_mk {n : List Nat} {t : TRef} {has : Bool} {v : Val} {tn : List Nat} {txs : List (List AV)} {tb : Bool} {vk vn : Int} {vs : List Nat} {vx vy : List (List AV)}
 (et : t.row = [.str tn, .list false txs, .bool tb]) (ev : v.row = [.int .u8 vk, .int .i64 vn, .str vs, .list false vx, .list false vy]) : (VDef.mk n t has v).row = [.str n, .str tn, .list false txs, .bool tb, .bool has, .int .u8 vk, .int .i64 vn, .str vs, .list false vx, .list false vy] := by
 rw [VDef.row, et, ev]; rfl
theorem VDef.row_cells (v : VDef) : ∃ n tn txs tb has vk vn vs vx vy, v.row = [.str n, .str tn, .list false txs, .bool tb, .bool has, .int .u8 vk, .int .i64 vn, .str vs, .list false vx, .list false vy] := by
 obtain ⟨n, t, has, v⟩ := v
 obtain ⟨tn, txs, tb, etr⟩ := t.row_cells
 obtain ⟨vk, vn, vs, vx, vy, ev⟩ := v.row_cells
 exact ⟨_, _, _, _, _, _, _, _, _, _, VDef.row_mk etr ev⟩
theorem rowsV (l : List VDef) : rowsOk 10 (l.map VDef.row) = true := rowsOk_all (by
 intro r hr
 obtain ⟨v, _, rfl⟩ := List.mem_map.1 hr
 obtain ⟨_, _, _, _, _, _, _, _, _, _, e⟩ := v.row_cells
 rw [e]; rfl)
theorem rowsOp (l : List Op) : rowsOk 4 (l.map Op.row) = true := rowsOk_all (by
 intro r hr
 obtain ⟨v, _, rfl⟩ := List.mem_map.1 hr
 rfl)
theorem rowsFrag (l : List Frag) : rowsOk 3 (l.map Frag.row) = true := rowsOk_all (by
 intro r hr
 obtain ⟨v, _, rfl⟩ := List.mem_map.1 hr
 rfl)
theorem var_q {L : List Tok} {o : Nat} {st : St} {i : Nat} (h : Rd B L o st i 0 0) :
 EvQ tbl 27 [.ptr o 0] st (fun a st' => ∃ v : VDef, a = .agg v.row ∧ v.v.OK ∧ AdvX B L o i 0 0 (varP L i) v st') := by
 refine EvQ.body (fn := a27) rfl rfl rfl ?_
 simp +contextual -implicitDefEqProofs only [K27, SS, rA,rS,rL,rE,reduceCtorEq]
 refine WC.call (must_q h _) rfl rfl ?_
 rintro _ st1 ⟨i1, e1, h1, h1a, h1b, hX1⟩
 simp +contextual -implicitDefEqProofs only [K27, SS, rA,rS,rL,rE,reduceCtorEq]
 refine WC.call (name_q h1) rfl rfl ?_
 rintro _ st2 ⟨n, rfl, i2, e2, h2, h2a, h2b, hX2⟩
 simp +contextual -implicitDefEqProofs only [K27, SS, rA,rS,rL,rE,reduceCtorEq]
 refine WC.call (must_q h2 _) rfl rfl ?_
 rintro _ st3 ⟨i3, e3, h3, h3a, h3b, hX3⟩
 simp +contextual -implicitDefEqProofs only [K27, SS, rA,rS,rL,rE,reduceCtorEq]
 refine WC.call (type_q L o 24 h3 (Int.le_refl _) (by decide)) rfl rfl ?_
 rintro _ st4 ⟨t, rfl, i4, e4, h4, h4a, h4b, hX4⟩
 obtain ⟨tn, txs, tb, etr⟩ := t.row_cells
 simp +contextual -implicitDefEqProofs only [K27, SS, rA,rS,rL,rE,reduceCtorEq, etr]
 have hS : ∀ (e7 : Int) (s : VDef) (i7 : Nat), (e7 = 0 → e4 = 0) → (e4 = 0 → (if eatB L i4 [61] then bindP (valueP L true 24 (i4 + 1)) fun v j => some ((⟨n, t, true, v⟩ : VDef), j) else some (⟨n, t, false, Val.none⟩, i4)) = if e7 = 0 then some (s, i7) else none) → varP L i = if e7 = 0 then some (s, i7) else none := by
  intro e7 s i7 g1 g2
  exact then_if (hX1 rfl) (fun h => (h2b (h3b (h4b (g1 h)).1).1).1) fun h0 => bind_if (hX2 h0) (fun h => (h3b (h4b (g1 h)).1).1) fun h0 => then_if (hX3 h0) (fun h => (h4b (g1 h)).1) fun h0 => bind_if (hX4 h0) g1 g2
 refine WC.call (eat_q h4 _) rfl rfl ?_
 rintro _ st5 (⟨rfl, rfl, hE⟩ | ⟨rfl, rfl, h5, hE⟩)
 · simp +contextual -implicitDefEqProofs only [K27, SS, rA,rS,rL,rE,reduceCtorEq]
   refine WC.ret ⟨_, _, rfl, ⟨n, t, false, Val.none⟩, ?_, Val.none_ok, i4, e4, h4, by omega, (fun h0 => ⟨rfl, ?_⟩), fun _ => ?_⟩
   · rw [VDef.row_mk etr Val.none_row]; rfl
   · have b4 := h4b h0; have b3 := h3b b4.1; have b2 := h2b b3.1; have := h1b b2.1; omega
   · refine hS e4 _ i4 id fun h0 => ?_
     rw [hE h0, if_neg (by decide), if_pos h0]
 · simp +contextual -implicitDefEqProofs only [K27, SS, rA,rS,rL,rE,reduceCtorEq]
   refine WC.call (value_q L true o 24 h5 (Int.le_refl _) (by decide)) rfl rfl ?_
   rintro _ st6 ⟨v, hv, rfl, i6, e6, h6, h6a, h6b, hX6⟩
   obtain ⟨vk, vn, vs, vx, vy, ev⟩ := v.row_cells
   simp +contextual -implicitDefEqProofs only [K27, SS, rA,rS,rL,rE,reduceCtorEq, ev]
   refine WC.ret ⟨_, _, rfl, ⟨n, t, true, v⟩, ?_, hv, i6, e6, h6, by omega, (fun h0 => ⟨rfl, ?_⟩), fun _ => ?_⟩
   · rw [VDef.row_mk etr ev]; rfl
   · have := h6b h0; omega
   · refine hS e6 _ i6 (fun _ => rfl) fun h0 => ?_
     rw [hE, if_pos rfl]
     exact bind_if (hX6 rfl) id fun h0 => by rw [if_pos h0]
end Go.Cb.CodeA
