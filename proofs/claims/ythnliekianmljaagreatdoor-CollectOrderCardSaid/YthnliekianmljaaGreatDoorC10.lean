/- What functions of the abstract machine answer. No conditions but those that each theorem names. -/
import Derived.Test.YthnliekianmljaaGreatDoorC9
import Derived.Test.YthnliekianmljaaGreatDoorMbb
set_option maxRecDepth 100000
set_option linter.unusedSimpArgs false
set_option linter.unusedVariables false
namespace Go.Cb.CodeA
open Go Go.Cb
open Nat renaming reduceAdd → rA, reduceSub → rS, reduceLeDiff → rL, reduceEqDiff → rE
attribute [local congr] obind_congr gv_congr2 gv2_congr brT_congr seqK_congr blkK_congr m1_congr gm_congr

theorem both_bb : Ev tbl 11 [] T_aw (.tuple [.ptr 51 0, .ptr 79 0]) T_bb := Go.Cb.G.ev_ofG m_bb
theorem sch_bb : Sch l0 51 T_bb := ⟨of_decide_eq_true l0_len, fun t ht => show t.ns.length ≤ 3001 from of_decide_eq_true (List.all_eq_true.1 l0_ok t ht), false, 50, by kernel_rfl, by kernel_rfl⟩
def mkI (deep x : Nat) : Item := ⟨(x + deep) % 4, 97 + x % 8, Nat.mod_lt _ (by decide), by omega, by omega⟩
theorem itemN_snoc (l : List Item) (x : Item) : itemsN (l ++ [x]) = itemsN l ++ x.text := by simp [itemsN]
def wantS (l : List Item) : List (List Nat) := keysF (l.map fun x => fieldN x.c)
theorem nest_run {K : Cfg} (c : Nat) (s : List (List Nat)) : ∀ k, FRun K [nestS k c] s [fieldN c] s
 | 0 => .field rfl rfl
 | k + 1 => .inl rfl rfl rfl rfl (nest_run c s k)
theorem items_run {K : Cfg} (s : List (List Nat)) : ∀ l : List Item, FRun K (l.map itemS) s (l.map fun x => fieldN x.c) s
 | [] => .nil s
 | x :: l => .cons (nest_run x.c s x.k) (items_run s l)
theorem nest_size (c : Nat) : ∀ k, (nestS k c).size = k + 1
 | 0 => by simp [nestS, fieldN, size_mk, sizes]
 | k + 1 => by rw [nestS, size_mk, sizes_one, nest_size c k]; omega
theorem items_size (l : List Item) : sizes (l.map itemS) ≤ 4 * l.length := by
 induction l with
 | nil => simp [sizes]
 | cons x l ih => have := x.hk; rw [List.map_cons, sizes_cons, itemS, nest_size, List.length_cons]; omega
def sumL (gs : List (List Nat × List Sel)) : Nat := (gs.map fun g => g.2.length).sum
theorem addF_sum (x : Sel) : ∀ gs, sumL (addF gs x) = sumL gs + 1
 | [] => by simp [addF, sumL]
 | g :: gs => by
  rw [addF]
  split
  · simp [sumL]; omega
  · have := addF_sum x gs
    simp only [sumL, List.map_cons, List.sum_cons] at this ⊢
    omega
theorem grpF_sum : ∀ F, sumL (grpF F) = F.length := by
 refine rev_ind rfl fun F x ih => ?_
 rw [grpF_snoc, addF_sum, ih, List.length_append]; rfl
theorem opens_len (k : Nat) : (opensN k).length = 5 * k := by induction k with | zero => rfl | succ k ih => simp [opensN, ih]; omega
theorem shuts_len (k : Nat) : (shutsN k).length = k := by induction k with | zero => rfl | succ k ih => simp [shutsN, ih]
theorem opens_snoc : ∀ k, opensN (k + 1) = opensN k ++ [46, 46, 46, 32, 123]
 | 0 => rfl
 | k + 1 => by
  have := congrArg (46 :: 46 :: 46 :: 32 :: 123 :: ·) (opens_snoc k)
  exact this
def u8Row (x : Nat) : List AV := [.int .u8 (x : Int)]
theorem want_snoc (l : List Item) (x : Item) : wantS (l ++ [x]) = if hasN (wantS l) [x.c] then wantS l else wantS l ++ [[x.c]] := by
 rw [wantS, List.map_append, List.map_cons, List.map_nil, keysF_snoc]
 rfl
theorem want_len (l : List Item) : (wantS l).length ≤ l.length := by
 have := (grpF_len (l.map fun x => fieldN x.c)).1
 rw [grpF_eq, List.length_map, List.length_map] at this
 exact this
theorem order_law (nm : List Nat) (deep : Nat) (hn : ∀ x ∈ nm, x < 256) (hd : deep < 256) : EvQ tbl 6 [.list false (nm.map u8Row), .int .u8 (deep : Int)] [] (fun a _ => a = .bool true) := by
 refine EvQ.body (fn := a6) rfl rfl rfl ?_
 simp +contextual -implicitDefEqProofs only [K6, SS, rA,rS,rL,rE,reduceCtorEq]
 refine WC.call (EvQ.of_ev (Q := fun a st => a = .bool true ∧ st = T_aw) awake_1 ⟨rfl, rfl⟩) rfl rfl ?_
 rintro _ st1 ⟨rfl, hst1⟩
 have hself : (if eqI (nm.length : Int) 0 = true then AV.bool true else AV.bool (ltI 20 (nm.length : Int))) = AV.bool (eqI (nm.length : Int) 0 || ltI 20 (nm.length : Int)) := by cases eqI (nm.length : Int) 0 <;> rfl
 simp +contextual -implicitDefEqProofs only [K6, SS, rA,rS,rL,rE,reduceCtorEq, List.length_map]
 refine WC.br (fun hz => ?_) (fun hz => ?_)
 · simp +contextual -implicitDefEqProofs only [K6, SS, rA,rS,rL,rE,reduceCtorEq]
   rw [hst1]
   refine WC.call (EvQ.of_ev (Q := fun a st => a = .bool true) awake_2 rfl) rfl rfl ?_
   rintro _ st2 rfl
   simp +contextual -implicitDefEqProofs only [K6, SS, rA,rS,rL,rE,reduceCtorEq]
   exact WC.ret ⟨_, _, rfl, rfl⟩
 have hlen : 0 < nm.length ∧ nm.length ≤ 20 := by
  rw [Bool.or_eq_false_iff, eqI_eq, ltI_eq] at hz
  obtain ⟨h1, h2⟩ := hz
  simp at h1 h2
  refine ⟨?_, by omega⟩
  cases nm with
  | nil => exact absurd rfl h1
  | cons x l => simp
 simp +contextual -implicitDefEqProofs only [K6, SS, rA,rS,rL,rE,reduceCtorEq]
 rw [hst1]
 refine WC.call (st := T_aw) (as' := []) (EvQ.of_ev (Q := fun a st => a = .tuple [.ptr 51 0, .ptr 79 0] ∧ st = T_bb) both_bb ⟨rfl, rfl⟩) rfl rfl ?_
 rintro _ st3 ⟨rfl, hst3⟩
 have hsch : Sch l0 51 st3 := by rw [hst3]; exact sch_bb
 clear hst3 hst1
 obtain ⟨items, hitems⟩ : ∃ l, l = nm.map (mkI deep) := ⟨_, rfl⟩
 have hil : items.length = nm.length := by rw [hitems, List.length_map]
 simp +contextual -implicitDefEqProofs only [K6, SS, rA,rS,rL,rE,reduceCtorEq, List.length_map]
 refine WC.loopR (fun mm fr st' => st' = st3 ∧ ∃ (i : Nat) (v7 v8 v9 v10 v11 v12 v13 : AV), i ≤ nm.length ∧ mm = nm.length - i ∧ fr = [.list false (nm.map u8Row), .int .u8 (deep : Int), .bool false, .ptr 51 0, .str (123 :: itemsN (items.take i)), .list true ((wantS (items.take i)).map strRow), .int .i64 i, v7, v8, v9, v10, v11, v12, v13, .undef, .undef, .undef, .undef, .undef]) (m := nm.length) ⟨rfl, 0, _, _, _, _, _, _, _, Nat.zero_le _, rfl, rfl⟩ ?_
 rintro mm fr st4 ⟨rfl, i, v7, v8, v9, v10, v11, v12, v13, hi, rfl, rfl⟩
 by_cases hi2 : i < nm.length
 · have hi1 := inc64 (show i + 1 < 2 ^ 63 by omega)
   have e2 : (nm.map u8Row)[i]? = some (u8Row nm[i]) := by rw [List.getElem?_map, List.getElem?_eq_getElem hi2]; rfl
   have hx := hn _ (List.getElem_mem hi2)
   have htk : items.take (i + 1) = items.take i ++ [mkI deep nm[i]] := by
    rw [List.take_add_one, List.getElem?_eq_getElem (by omega)]
    simp [hitems]
   have hli : (items.take i).length = i := by rw [List.length_take]; omega
   generalize items.take i = li at htk hli ⊢
   generalize nm[i] = x at e2 hx htk
   have h6 : ((x : Nat) : Int).tmod 8 = ((x % 8 : Nat) : Int) := rfl
   have h7 : wrapA .u8 (addI 97 ((x % 8 : Nat) : Int)) = ((97 + x % 8 : Nat) : Int) := by rw [addI_eq, wrap8 (by omega) (by omega)]; omega
   have h8 : ((97 + x % 8 : Nat) : Int) < 256 := by omega
   have h9 : wrapA .i64 (x : Int) = (x : Int) := wrap64 (by omega) (by omega)
   have h10 : wrapA .i64 (deep : Int) = (deep : Int) := wrap64 (by omega) (by omega)
   have h11 : wrapA .i64 (addI (x : Int) (deep : Int)) = ((x + deep : Nat) : Int) := by rw [addI_eq, wrap64 (by omega) (by omega)]; omega
   have h12 : ((x + deep : Nat) : Int).tmod 4 = (((x + deep) % 4 : Nat) : Int) := rfl
   have h80 : ¬ (8 : Int) = 0 := by decide
   have h40 : ¬ (4 : Int) = 0 := by decide
   have e2 : (nm.map u8Row)[i]? = some [.int .u8 (x : Int)] := e2
   have hmk : (mkI deep x).k = (x + deep) % 4 ∧ (mkI deep x).c = 97 + x % 8 := ⟨rfl, rfl⟩
   simp +contextual -implicitDefEqProofs only [K6, SS, rA,rS,rL,rE,reduceCtorEq, List.length_map, hi2, e2, h6, h7, h8, h80, h9, h10, h11, h12, h40]
   obtain ⟨kk, hkk⟩ : ∃ kk, kk = (x + deep) % 4 := ⟨_, rfl⟩
   obtain ⟨cc, hcc⟩ : ∃ cc, cc = 97 + x % 8 := ⟨_, rfl⟩
   rw [← hkk, ← hcc] at hmk ⊢
   have hk4 : kk < 4 := by omega
   refine WC.loopR (fun mm fr st' => st' = st4 ∧ ∃ (j : Nat), j ≤ kk ∧ mm = kk - j ∧ fr = [.list false (nm.map u8Row), .int .u8 (deep : Int), .bool false, .ptr 51 0, .str (123 :: itemsN li), .list true ((wantS li).map strRow), .int .i64 i, .str [cc], .int .i64 kk, .str (opensN j), .str (shutsN j), .int .i64 j, v12, v13, .undef, .undef, .undef, .undef, .undef]) (m := kk) ⟨rfl, 0, Nat.zero_le _, rfl, rfl⟩ ?_
   rintro mm fr st5 ⟨rfl, j, hj, rfl, rfl⟩
   have ho5 : (opensN j).length + 5 ≤ 2 ^ 62 := by rw [opens_len]; omega
   have hs1 : (shutsN j).length + 1 ≤ 2 ^ 62 := by rw [shuts_len]; omega
   by_cases hj2 : j < kk
   · simp +contextual -implicitDefEqProofs only [K6, SS, rA,rS,rL,rE,reduceCtorEq, hj2, ho5, hs1, inc64 (show j + 1 < 2 ^ 63 by omega)]
     exact WC.next (m' := kk - (j + 1)) (by omega) ⟨rfl, j + 1, hj2, rfl, by rw [opens_snoc, shutsN]⟩
   obtain rfl : j = kk := by omega
   simp +contextual -implicitDefEqProofs only [K6, SS, rA,rS,rL,rE,reduceCtorEq, hj2]
   refine WC.leave ?_
   have hil2 := items_len li
   have hb1 : 1 + 5 * j ≤ 2 ^ 62 := by omega
   have hb2 : 5 * j + 1 + 1 ≤ 2 ^ 62 := by omega
   have hb3 : 5 * j + 1 + 1 + j ≤ 2 ^ 62 := by omega
   have hb4 : (itemsN li).length + 1 + (5 * j + 1 + j + 1) ≤ 2 ^ 62 := by omega
   simp +contextual -implicitDefEqProofs only [K6, SS, rA,rS,rL,rE,reduceCtorEq, List.length_append, opens_len, shuts_len, hb1, hb2, hb3, hb4]
   have hwl : (wantS li).length ≤ 20 := by have := want_len li; omega
   have hxt : 123 :: (itemsN li ++ 32 :: (opensN j ++ [cc] ++ shutsN j)) = 123 :: itemsN (li ++ [mkI deep x]) := by
    rw [itemN_snoc, Item.text, hmk.1, hmk.2]
    simp
   rw [hxt]
   refine WC.loopR (fun mm fr st' => st' = st5 ∧ ∃ (q : Nat), q ≤ (wantS li).length ∧ mm = (wantS li).length - q ∧ fr = [.list false (nm.map u8Row), .int .u8 (deep : Int), .bool false, .ptr 51 0, .str (123 :: itemsN (li ++ [mkI deep x])), .list true ((wantS li).map strRow), .int .i64 i, .str [cc], .int .i64 j, .str (opensN j), .str (shutsN j), .int .i64 j, .bool (((wantS li).take q).any (fun y => eqN y [cc])), .int .i64 q, .undef, .undef, .undef, .undef, .undef]) (m := (wantS li).length) ⟨rfl, 0, Nat.zero_le _, rfl, rfl⟩ ?_
   rintro mm fr st6 ⟨rfl, q, hq, rfl, rfl⟩
   by_cases hq2 : q < (wantS li).length
   · have e3 : ((wantS li).map strRow)[q]? = some (strRow (wantS li)[q]) := by rw [List.getElem?_map, List.getElem?_eq_getElem hq2]; rfl
     have hta : ((wantS li).take (q + 1)).any (fun y => eqN y [cc]) = (((wantS li).take q).any (fun y => eqN y [cc]) || eqN (wantS li)[q] [cc]) := by
      rw [List.take_add_one, List.getElem?_eq_getElem hq2, List.any_append]
      simp only [Option.toList_some, List.any_cons, List.any_nil, Bool.or_false]
     generalize (wantS li)[q] = w at e3 hta
     have e3 : ((wantS li).map strRow)[q]? = some [.str w] := e3
     have hq1 := inc64 (show q + 1 < 2 ^ 63 by omega)
     generalize ((wantS li).take q).any (fun y => eqN y [cc]) = b at hta ⊢
     cases b with
     | true =>
      simp +contextual -implicitDefEqProofs only [K6, SS, rA,rS,rL,rE,reduceCtorEq, List.length_map, hq2, e3, hq1]
      exact WC.next (m' := (wantS li).length - (q + 1)) (by omega) ⟨rfl, q + 1, hq2, rfl, by rw [hta]; rfl⟩
     | false =>
      simp +contextual -implicitDefEqProofs only [K6, SS, rA,rS,rL,rE,reduceCtorEq, List.length_map, hq2, e3, hq1]
      exact WC.next (m' := (wantS li).length - (q + 1)) (by omega) ⟨rfl, q + 1, hq2, rfl, by rw [hta]; rfl⟩
   have hq3 : q = (wantS li).length := by omega
   simp +contextual -implicitDefEqProofs only [K6, SS, rA,rS,rL,rE,reduceCtorEq, List.length_map, hq2]
   refine WC.leave ?_
   have hany : ((wantS li).take q).any (fun y => eqN y [cc]) = hasN (wantS li) [cc] := by
    rw [hq3, List.take_length, hasN]
    congr 1
    funext y
    rw [eqN_eq, eqN_eq]
    exact Bool.eq_iff_iff.2 ⟨fun h => by simp at h ⊢; exact h.symm, fun h => by simp at h ⊢; exact h.symm⟩
   rw [hany]
   have hws := want_snoc li (mkI deep x)
   rw [hmk.2] at hws
   cases hh : hasN (wantS li) [cc] with
   | true =>
    rw [hh, if_pos rfl] at hws
    simp +contextual -implicitDefEqProofs only [K6, SS, rA,rS,rL,rE,reduceCtorEq, hi1]
    exact WC.next (m' := nm.length - (i + 1)) (by omega) ⟨rfl, i + 1, _, _, _, _, _, _, _, hi2, rfl, by rw [htk, hws]⟩
   | false =>
    rw [hh, if_neg (by decide)] at hws
    have h16 : ((wantS li).length + 1) * 16 ≤ 2 ^ 47 := by omega
    simp +contextual -implicitDefEqProofs only [K6, SS, rA,rS,rL,rE,reduceCtorEq, hi1, rowsStr, List.length_map, h16]
    exact WC.next (m' := nm.length - (i + 1)) (by omega) ⟨rfl, i + 1, _, _, _, _, _, _, _, hi2, rfl, by rw [htk, hws, List.map_append]; rfl⟩
 have hin : i = nm.length := by omega
 have htk : items.take i = items := by rw [hin, ← hil, List.take_length]
 rw [htk]
 have hinl := items_len items
 have hcat : (itemsN items).length + 1 + 1 ≤ 2 ^ 62 := by omega
 simp +contextual -implicitDefEqProofs only [K6, SS, rA,rS,rL,rE,reduceCtorEq, List.length_map, hi2]
 refine WC.leave ?_
 simp +contextual -implicitDefEqProofs only [K6, SS, rA,rS,rL,rE,reduceCtorEq, List.length_append, hcat]
 refine WC.call (doc_q _ st4) rfl rfl ?_
 rintro _ st5 ⟨D, at', e, rfl, hD, ho, hf, hS, hL, t, rfl, ht⟩
 obtain ⟨x, l, hxl⟩ : ∃ x l, items = x :: l := by
  cases hq : items with
  | nil => rw [hq] at hil; simp at hil; omega
  | cons x l => exact ⟨x, l, rfl⟩
 have hdoc : docS (lawN items) = some ⟨[⟨false, [], [], items.map itemS⟩], []⟩ := by rw [hxl]; exact law_read (by rw [hxl] at hil; simp at hil; omega)
 have hS : docS (lawN items) = if e = 0 then some D else none := hS
 rw [hdoc] at hS
 have he : e = 0 := by
  by_cases h0 : e = 0
  · exact h0
  · rw [if_neg h0] at hS; cases hS
 subst he
 rw [if_pos rfl] at hS
 cases hS
 obtain ⟨ob, rfl⟩ := ht rfl
 have hsz := items_size items
 have hok : (items.map itemS).length ≤ 9000 ∧ ∀ s ∈ items.map itemS, s.OK := ⟨by rw [List.length_map]; omega, (hD.ops _ (List.mem_singleton.2 rfl)).sub.2⟩
 have e5 : [Op.row ⟨false, [], [], items.map itemS⟩] = [[.bool false, .str [], .list false [], .list false ((items.map itemS).map Sel.row)]] := rfl
 have hq5 := fields_0 (so := 51) (D := ⟨[⟨false, [], [], items.map itemS⟩], []⟩) (typ := QueryN) (by simp) hD hok (by simp only [fsize, unseen]; omega) (hsch.gr (Gr.app st4 [ob]))
 have e6 : List.map Op.row [⟨false, [], [], items.map itemS⟩] = [[.bool false, .str [], .list false [], .list false ((items.map itemS).map Sel.row)]] := rfl
 simp only [e6] at hq5
 simp +contextual -implicitDefEqProofs only [K6, SS, rA,rS,rL,rE,reduceCtorEq, Docm.row, e6, show eqI 0 0 = true from rfl]
 refine WC.call hq5 rfl rfl ?_
 rintro _ st6 ⟨hg6, F, s1, out, gs, hr, rfl, hG, hgs⟩
 obtain ⟨rfl, -⟩ := (items_run (K := cfg0 51 ⟨[⟨false, [], [], items.map itemS⟩], []⟩ QueryN) [] items).det hr
 have hlen := grp_len hgs
 have hkw : keysF (items.map fun x => fieldN x.c) = wantS items := rfl
 rw [hkw] at hlen
 have hpos : 0 < gs.length := by
  rw [hlen, ← hkw, hxl]
  have := keysF_mem ((x :: l).map fun x => fieldN x.c) (fieldN x.c) (by simp)
  exact List.length_pos_of_mem this
 have hgl : gs.length ≤ 20 := by rw [hlen]; have := want_len items; omega
 rcases hG.out with ⟨h0, _⟩ | ⟨o, rfl, _, ho1, _⟩
 · rw [h0] at hpos; simp at hpos
 have hself2 : eqI (gs.length : Int) (gs.length : Int) = true := by rw [eqI_eq]; simp
 have hsum : ∀ k, k ≤ gs.length → sumL ((gs.map Grp.pr).take k) ≤ 20 := by
  intro k hk
  have h1 : sumL ((gs.map Grp.pr).take k) ≤ sumL (gs.map Grp.pr) := by
   unfold sumL
   rw [← List.map_take]
   conv => rhs; rw [← List.take_append_drop k (List.map (fun g => g.2.length) (List.map Grp.pr gs))]
   rw [List.sum_append]
   simp only [List.map_take]
   omega
  rw [hgs, grpF_sum, List.length_map] at h1
  rw [hgs]
  omega
 simp +contextual -implicitDefEqProofs only [K6, SS, rA,rS,rL,rE,reduceCtorEq, List.length_map, ← hlen, hself2]
 refine WC.loopR (fun mm fr st' => st' = st6 ∧ ∃ (k : Nat), k ≤ gs.length ∧ mm = gs.length - k ∧ fr = [.list false (nm.map u8Row), .int .u8 (deep : Int), .bool false, .ptr 51 0, .str (123 :: itemsN items), .list true ((wantS items).map strRow), .int .i64 i, v7, v8, v9, v10, v11, v12, v13, .box [.list false [[.bool false, .str [], .list false [], .list false ((items.map itemS).map Sel.row)]], .list false []], .int .i64 0, .sl o 0 gs.length 2, .int .i64 ((sumL ((gs.map Grp.pr).take k) : Nat) : Int), .int .i64 k]) (m := gs.length) ⟨rfl, 0, Nat.zero_le _, rfl, rfl⟩ ?_
 rintro mm fr st7 ⟨rfl, k, hk, rfl, rfl⟩
 by_cases hkl : k < gs.length
 · have hkl' : (k : Int) < (gs.length : Int) := by omega
   have hd1 := gcells_at hkl
   obtain ⟨k1, f1⟩ := grp_at hgs hkl
   rw [hkw] at k1
   have e7 : ((wantS items).map strRow)[k]? = some [.str gs[k].key] := by rw [List.getElem?_map, k1]; rfl
   have hsm : sumL ((gs.map Grp.pr).take (k + 1)) = sumL ((gs.map Grp.pr).take k) + gs[k].fs.length := by
    unfold sumL
    rw [List.take_add_one, List.getElem?_map, List.getElem?_eq_getElem hkl]
    simp [Grp.pr]
   have hb1 := hsum k (by omega)
   have hb2 := hsum (k + 1) hkl
   generalize gs[k] = y at hd1 e7 hsm
   obtain ⟨yk, yo, yf⟩ := y
   dsimp only at hd1 e7 hsm
   obtain ⟨hd1, hd1'⟩ := hd1
   have hxx : eqN yk yk = true := (eqN_iff' _ _).2 rfl
   have hk1 := inc64 (show k + 1 < 2 ^ 63 by omega)
   have hadd : wrapA .i64 (addI ((sumL ((gs.map Grp.pr).take k) : Nat) : Int) (yf.length : Int)) = ((sumL ((gs.map Grp.pr).take (k + 1)) : Nat) : Int) := by rw [addI_eq, wrap64 (by omega) (by omega), hsm]; omega
   simp +contextual -implicitDefEqProofs only [K6, SS, rA,rS,rL,rE,reduceCtorEq, hkl, hkl', ho1, hd1, hd1', e7, hxx, hk1, hadd]
   exact WC.next (m' := gs.length - (k + 1)) (by omega) ⟨rfl, k + 1, hkl, rfl, rfl⟩
 have hfin : sumL ((gs.map Grp.pr).take k) = nm.length := by
  rw [List.take_of_length_le (by rw [List.length_map]; omega), hgs, grpF_sum, List.length_map, hil]
 have hself3 : eqI (nm.length : Int) (nm.length : Int) = true := by rw [eqI_eq]; simp
 simp +contextual -implicitDefEqProofs only [K6, SS, rA,rS,rL,rE,reduceCtorEq, hkl]
 refine WC.leave ?_
 simp +contextual -implicitDefEqProofs only [K6, SS, rA,rS,rL,rE,reduceCtorEq, hfin, List.length_map, hself3]
 exact WC.ret ⟨_, _, rfl, rfl⟩
theorem order_am (nm : List Nat) (deep : Nat) (hn : ∀ x ∈ nm, x < 256) (hd : deep < 256) : ∃ n st', callF tbl n 6 [.list false (nm.map u8Row), .int .u8 (deep : Int)] [] = some (.bool true, st') := am_of (order_law nm deep hn hd)
end Go.Cb.CodeA
