import Derived.Test.YthnliekianmljaaGreatDoorC6
import Derived.Test.YthnliekianmljaaGreatDoorMaw
import Derived.Test.YthnliekianmljaaGreatDoorMax
import Derived.Test.YthnliekianmljaaGreatDoorMbc
import Derived.Test.YthnliekianmljaaGreatDoorXAms3
import Derived.KernelRfl
set_option maxRecDepth 100000
set_option linter.unusedSimpArgs false
set_option linter.unusedVariables false
namespace Go.Cb.CodeA
open Go Go.Cb
open Nat renaming reduceAdd → rA, reduceSub → rS, reduceLeDiff → rL, reduceEqDiff → rE
attribute [local congr] obind_congr gv_congr2 gv2_congr brT_congr seqK_congr blkK_congr m1_congr gm_congr

theorem awake_1 : Ev tbl 9 [] [] (.bool true) T_aw := Go.Cb.G.ev_ofG m_aw
theorem awake_2 : Ev tbl 9 [] T_aw (.bool true) T_ax := Go.Cb.G.ev_ofG m_ax
theorem both_c (ob : Cb.Obj) : Ev tbl 11 [] (T_aw ++ [ob]) (.tuple [.ptr 52 0, .ptr 80 0]) (T_bc ob) := Go.Cb.G.ev_ofG (m_bc ob)
def rdTD (r : List AV) : TD := match r with
 | [.int _ k, .str n, .list _ fr, .list _ ns] => ⟨k, n, fr, ns.map fun x => match x with | [.str s] => s | _ => []⟩
 | _ => ⟨0, [], [], []⟩
def l0 : List TD := (match V13 with | .list _ xs => xs | _ => []).map rdTD
theorem l0_ok : (l0.all fun t => decide (t.ns.length ≤ 3001)) = true := by kernel_rfl
theorem l0_len : (decide (l0.length ≤ 3001)) = true := by kernel_rfl
theorem sch_bc (ob : Cb.Obj) : Sch l0 52 (T_bc ob) := ⟨of_decide_eq_true l0_len, fun t ht => show t.ns.length ≤ 3001 from of_decide_eq_true (List.all_eq_true.1 l0_ok t ht), false, 51, by kernel_rfl, by kernel_rfl⟩
/-- a collector's surroundings: no variables -/
def cfg0 (so : Nat) (D : Docm) (typ : List Nat) : Cfg := ⟨so, D.ops.map Op.row, D.frags, typ, 0, 0, [], [], [], possS l0⟩
theorem poss_len (n : List Nat) : (possS l0 n).length ≤ 10000 := by
 have hl := of_decide_eq_true l0_len
 unfold possS
 cases h : lk l0 n with
 | none => simp
 | some t =>
  have := of_decide_eq_true (List.all_eq_true.1 l0_ok t (List.mem_of_find?_eq_some h))
  dsimp only
  split
  · simp
  · split
    · omega
    · split
      · simp
      · rw [List.length_map]
        have := List.length_filter_le (oneOf n) l0
        omega
theorem cfg0_ok (so : Nat) (D : Docm) (typ : List Nat) (h : D.frags.length ≤ 3000) (h2 : D.Els) : (cfg0 so D typ).OK := ⟨by simp [cfg0], fun h => by simp [cfg0] at h, ⟨h, h2.frags⟩, poss_len⟩
theorem poss_h {so : Nat} {D : Docm} {typ : List Nat} {st : St} (h : Sch l0 so st) : PossH (cfg0 so D typ) st st.length := fun n st' hg =>
 poss_s (h.gr fun i x hx => hg i x (List.getElem?_eq_some_iff.1 hx).1 hx) n
/-- Fields of a document's selections, without variables -/
theorem fields_0 {so : Nat} {D : Docm} {typ : List Nat} (hf : D.frags.length ≤ 3000) (hD : D.Els) {l : List Sel} (hl : l.length ≤ 9000 ∧ ∀ s ∈ l, s.OK) (hsz : sizes l + fsize D.frags ≤ 9000) {st : St} (h : Sch l0 so st) :
 EvQ tbl 12 [.ptr so 0, .agg [.list false (D.ops.map Op.row), .list false (D.frags.map Frag.row)], .str typ, .list false (l.map Sel.row), .agg [.int .u8 0, .int .i64 0, .str [], .list false [], .list false []]] st (FieldsR (cfg0 so D typ) l st) :=
 fields_q (cfg0_ok so D typ hf hD) l hl hsz st (poss_h h)
theorem GrpS.same {c : Nat} {st st' : St} {out : AV} {gs : List Grp} (h : GrpS c st out gs) (hg : Gr st st') : GrpS c st' out gs := h.ext fun i x _ hx => hg i x hx
theorem grp_len {gs : List Grp} {F : List Sel} (h : gs.map Grp.pr = grpF F) : gs.length = (keysF F).length := by
 have := congrArg List.length h
 rw [grpF_eq] at this
 simpa using this
theorem grp_at {gs : List Grp} {F : List Sel} (h : gs.map Grp.pr = grpF F) {i : Nat} (hi : i < gs.length) : (keysF F)[i]? = some gs[i].key ∧ gs[i].fs = ofKey F gs[i].key := by
 have h1 : (gs.map Grp.pr)[i]? = some (gs[i].key, gs[i].fs) := by rw [List.getElem?_map, List.getElem?_eq_getElem hi]; rfl
 rw [h, grpF_eq, List.getElem?_map] at h1
 cases hk : (keysF F)[i]? with
 | none => rw [hk] at h1; cases h1
 | some k =>
  rw [hk] at h1
  simp at h1
  exact ⟨by rw [h1.1], by rw [← h1.2, h1.1]⟩
theorem gcells_at {gs : List Grp} {i : Nat} (hi : i < gs.length) : (gcells gs).drop (i * 2) = .str gs[i].key :: .sl gs[i].fo 0 gs[i].fs.length 7 :: gcells (gs.drop (i + 1)) ∧ (gcells gs).drop (i * 2 + 1) = .sl gs[i].fo 0 gs[i].fs.length 7 :: gcells (gs.drop (i + 1)) := by
 have h := gcells_drop gs i
 rw [List.drop_eq_getElem_cons hi, gcells_cons] at h
 refine ⟨h, ?_⟩
 have h2 := congrArg (List.drop 1) h
 rw [List.drop_drop] at h2
 exact h2
theorem docs_of {s : List Nat} {D : Docm} {e : Int} (hS : ∃ L : List Tok, L.length ≤ 2001 ∧ docP L = some D) : osize D.ops + fsize D.frags ≤ 2001 := by
 obtain ⟨L, h1, h2⟩ := hS
 have := doc_size h2
 omega
abbrev QueryN : List Nat := [81, 117, 101, 114, 121]
theorem twice_pure {K : Cfg} {l F F2 : List Sel} {s1 s2 : List (List Nat)} (h : FRun K l [] F s1) (h2 : FRun K (l ++ l) [] F2 s2) : ∃ G, F2 = F ++ G ∧ G.Sublist F ∧ (K.frags = [] → G = F) := by
 obtain ⟨G, g1, g2, g3⟩ := h.again s1 fun _ h => h
 obtain ⟨rfl, rfl⟩ := (h.app g1).det h2
 exact ⟨G, rfl, g2, g3⟩
theorem twice_law (s : List Nat) : EvQ tbl 3 [.str s] [] (fun a _ => a = .bool true) := by
 refine EvQ.body (fn := a3) rfl rfl rfl ?_
 simp +contextual -implicitDefEqProofs only [K3, SS, rA,rS,rL,rE,reduceCtorEq]
 refine WC.call (EvQ.of_ev (Q := fun a st => a = .bool true ∧ st = T_aw) awake_1 ⟨rfl, rfl⟩) rfl rfl ?_
 rintro _ st1 ⟨rfl, hst1⟩
 simp +contextual -implicitDefEqProofs only [K3, SS, rA,rS,rL,rE,reduceCtorEq]
 refine WC.br (fun hk => ?_) (fun hk => ?_)
 · simp +contextual -implicitDefEqProofs only [K3, SS, rA,rS,rL,rE,reduceCtorEq]
   rw [hst1]
   refine WC.call (EvQ.of_ev (Q := fun a st => a = .bool true) awake_2 rfl) rfl rfl ?_
   rintro _ st2 rfl
   simp +contextual -implicitDefEqProofs only [K3, SS, rA,rS,rL,rE,reduceCtorEq]
   exact WC.ret ⟨_, _, rfl, rfl⟩
 simp +contextual -implicitDefEqProofs only [K3, SS, rA,rS,rL,rE,reduceCtorEq]
 refine WC.call (doc_q s st1) rfl rfl ?_
 rintro _ st2 ⟨D, at', e, rfl, hD, ho, hf, _, hS, t, rfl, ht⟩
 simp +contextual -implicitDefEqProofs only [K3, SS, rA,rS,rL,rE,reduceCtorEq, Docm.row]
 refine WC.br (fun hk2 => ?_) (fun hk2 => ?_)
 · simp +contextual -implicitDefEqProofs only [K3, SS, rA,rS,rL,rE,reduceCtorEq]
   exact WC.ret ⟨_, _, rfl, rfl⟩
 have he : e = 0 := by rw [eqI_eq] at hk2; simpa using hk2
 obtain ⟨ob, rfl⟩ := ht he
 have hsz := docs_of (s := s) (e := e) (hS he)
 simp +contextual -implicitDefEqProofs only [K3, SS, rA,rS,rL,rE,reduceCtorEq]
 rw [hst1]
 refine WC.call (EvQ.of_ev (Q := fun a st => a = .tuple [.ptr 52 0, .ptr 80 0] ∧ st = T_bc ob) (both_c ob) ⟨rfl, rfl⟩) rfl rfl ?_
 rintro _ st3 ⟨rfl, hst3⟩
 have hsch : Sch l0 52 st3 := by rw [hst3]; exact sch_bc ob
 clear hst3 hst1
 simp +contextual -implicitDefEqProofs only [K3, SS, rA,rS,rL,rE,reduceCtorEq, List.length_map]
 refine WC.loopR (fun mm fr st' => ∃ (i : Nat) (v6 v7 v8 v9 v10 v11 : AV), i ≤ D.ops.length ∧ mm = D.ops.length - i ∧ Gr st3 st' ∧ fr = [AV.str s, .bool false, .box [.list false (D.ops.map Op.row), .list false (D.frags.map Frag.row)], .int .i64 e, .ptr 52 0, .int .i64 i, v6, v7, v8, v9, v10, v11]) (m := D.ops.length) ⟨0, _, _, _, _, _, _, Nat.zero_le _, rfl, Gr.refl _, rfl⟩ ?_
 rintro mm fr st4 ⟨i, v6, v7, v8, v9, v10, v11, hi, rfl, hg4, rfl⟩
 by_cases hil : i < D.ops.length
 rotate_left
 · simp +contextual -implicitDefEqProofs only [K3, SS, rA,rS,rL,rE,reduceCtorEq, List.length_map, hil]
   refine WC.leave ?_
   simp +contextual -implicitDefEqProofs only [K3, SS, rA,rS,rL,rE,reduceCtorEq]
   exact WC.ret ⟨_, _, rfl, rfl⟩
 have hi1 := inc64 (show i + 1 < 2 ^ 63 by omega)
 have e2 : (D.ops.map Op.row)[i]? = some (D.ops[i]).row := by rw [List.getElem?_map, List.getElem?_eq_getElem hil]; rfl
 have hop := hD.ops _ (List.getElem_mem hil)
 have hos := osize_mem (List.getElem_mem hil)
 revert e2 hop hos
 generalize D.ops[i] = op
 obtain ⟨om, on, ovs, sub⟩ := op
 intro e2 hop hos
 have hsub : SelsOK sub := hop.sub
 have hos : sizes sub ≤ osize D.ops := hos
 have hsl := hsub.1
 have e2 : (D.ops.map Op.row)[i]? = some [.bool om, .str on, .list false (ovs.map VDef.row), .list false (sub.map Sel.row)] := e2
 have hle : ∀ l : List Sel, l.length ≤ sizes l := by
  intro l
  induction l with
  | nil => simp [sizes]
  | cons x l ih => cases x; rw [sizes_cons, size_mk, List.length_cons]; omega
 have hsub2 : (sub ++ sub).length ≤ 9000 ∧ ∀ s ∈ sub ++ sub, s.OK := ⟨by have := hle sub; rw [List.length_append]; omega, fun x hx => by rcases List.mem_append.1 hx with h | h <;> exact hsub.2 x h⟩
 have ha1 : sub.length * 128 ≤ 2 ^ 47 := by omega
 have ha2 : (sub.length + sub.length) * 128 ≤ 2 ^ 47 := by omega
 have hrw : rowsOk 7 (sub.map Sel.row) = true := rowsSel sub
 simp +contextual -implicitDefEqProofs only [K3, SS, rA,rS,rL,rE,reduceCtorEq, List.length_map, hil, e2, hrw, ha1, ha2]
 refine WC.call (fields_0 (so := 52) (D := D) (typ := QueryN) hf hD ⟨by omega, hsub.2⟩ (by omega) (hsch.gr hg4)) rfl rfl ?_
 rintro _ st5 ⟨hg5, F, s1, out, gs, hr, rfl, hG, hgs⟩
 have hq2 := fields_0 (so := 52) (D := D) (typ := QueryN) hf hD hsub2 (by rw [sizes_app]; omega) (hsch.gr (hg4.trans hg5))
 rw [List.map_append] at hq2
 have nxt : ∀ {st' : St} {w6 w7 w8 w9 w10 w11 : AV}, Gr st5 st' → ∃ (j : Nat) (v6 v7 v8 v9 v10 v11 : AV), j ≤ D.ops.length ∧ D.ops.length - (i + 1) = D.ops.length - j ∧ Gr st3 st' ∧ [AV.str s, .bool false, .box [.list false (D.ops.map Op.row), .list false (D.frags.map Frag.row)], .int .i64 e, .ptr 52 0, .int .i64 ((i + 1 : Nat) : Int), w6, w7, w8, w9, w10, w11] = [AV.str s, .bool false, .box [.list false (D.ops.map Op.row), .list false (D.frags.map Frag.row)], .int .i64 e, .ptr 52 0, .int .i64 j, v6, v7, v8, v9, v10, v11] := fun hg => ⟨i + 1, _, _, _, _, _, _, hil, rfl, (hg4.trans hg5).trans hg, rfl⟩
 have hlen := grp_len hgs
 rcases hG.out with ⟨rfl, rfl⟩ | ⟨o, rfl, hco, ho1, hof⟩
 · -- nothing is told
   have hF : F = [] := by
    cases F with
    | nil => rfl
    | cons x F => have := keysF_mem (x :: F) x (by simp); rw [List.eq_nil_of_length_eq_zero hlen.symm] at this; cases this
   subst hF
   simp +contextual -implicitDefEqProofs only [K3, SS, rA,rS,rL,rE,reduceCtorEq]
   refine WC.call hq2 rfl rfl ?_
   rintro _ st6 ⟨hg6, F2, s2, out2, gs2, hr2, rfl, hG2, hgs2⟩
   obtain ⟨G, e2, hGs, _⟩ := twice_pure hr hr2
   have hGn : G = [] := List.eq_nil_of_sublist_nil hGs
   obtain rfl : F2 = [] := by rw [e2, hGn]; rfl
   have hlen2 := grp_len hgs2
   obtain rfl : gs2 = [] := List.eq_nil_of_length_eq_zero hlen2
   rcases hG2.out with ⟨_, rfl⟩ | ⟨o2, rfl, _, ho2, _⟩
   all_goals
    simp +contextual -implicitDefEqProofs only [K3, SS, rA,rS,rL,rE,reduceCtorEq, show eqI 0 0 = true from rfl, List.length_nil]
    refine WC.loopR (fun mm fr st' => st' = st6 ∧ ∃ v8 v10 v11, fr = [AV.str s, .bool false, .box [.list false (D.ops.map Op.row), .list false (D.frags.map Frag.row)], .int .i64 e, .ptr 52 0, .int .i64 i, .list true (sub.map Sel.row ++ sub.map Sel.row), .list false [], v8, .int .i64 0, v10, v11]) (m := 0) ⟨rfl, _, _, _, rfl⟩ ?_
    rintro mm fr st7 ⟨rfl, v8, v10, v11, rfl⟩
    simp +contextual -implicitDefEqProofs only [K3, SS, rA,rS,rL,rE,reduceCtorEq, show ltI 0 0 = false from rfl, List.length_nil]
    refine WC.leave ?_
    simp +contextual -implicitDefEqProofs only [K3, SS, rA,rS,rL,rE,reduceCtorEq, hi1]
    exact WC.next (m' := D.ops.length - (i + 1)) (by omega) (nxt hg6)
 · simp +contextual -implicitDefEqProofs only [K3, SS, rA,rS,rL,rE,reduceCtorEq]
   refine WC.call hq2 rfl rfl ?_
   rintro _ st6 ⟨hg6, F2, s2, out2, gs2, hr2, rfl, hG2, hgs2⟩
   obtain ⟨G, e2, hGs, hGe⟩ := twice_pure hr hr2
   have hks : keysF F2 = keysF F := by rw [e2]; exact keysF_more F G fun x hx => keysF_mem F x (hGs.subset hx)
   have hl2 : gs2.length = gs.length := by rw [grp_len hgs2, hks, hlen]
   have hgl : gs.length ≤ 9000 := by
    have h1 := hr.size.1
    have h2 := (grpF_len F).1
    rw [← hgs, List.length_map] at h2
    have h3 : unseen (cfg0 52 D QueryN).frags [] = fsize D.frags := rfl
    omega
   have hF2l : F2.length ≤ 9000 := by
    have h1 := hr2.size.1
    rw [sizes_app] at h1
    have h3 : unseen (cfg0 52 D QueryN).frags [] = fsize D.frags := rfl
    omega
   have hself : eqI (gs.length : Int) (gs.length : Int) = true := by rw [eqI_eq]; simp
   rcases hG2.out with ⟨rfl, rfl⟩ | ⟨o2, rfl, _, ho2, _⟩
   · have h0 : gs.length = 0 := hl2.symm
     rw [h0]
     simp +contextual -implicitDefEqProofs only [K3, SS, rA,rS,rL,rE,reduceCtorEq, show eqI 0 0 = true from rfl, List.length_nil]
     refine WC.loopR (fun mm fr st' => st' = st6 ∧ ∃ v10 v11, fr = [AV.str s, .bool false, .box [.list false (D.ops.map Op.row), .list false (D.frags.map Frag.row)], .int .i64 e, .ptr 52 0, .int .i64 i, .list true (sub.map Sel.row ++ sub.map Sel.row), .sl o 0 0 2, .list false [], .int .i64 0, v10, v11]) (m := 0) ⟨rfl, _, _, rfl⟩ ?_
     rintro mm fr st7 ⟨rfl, v10, v11, rfl⟩
     simp +contextual -implicitDefEqProofs only [K3, SS, rA,rS,rL,rE,reduceCtorEq, show ltI 0 0 = false from rfl, List.length_nil]
     refine WC.leave ?_
     simp +contextual -implicitDefEqProofs only [K3, SS, rA,rS,rL,rE,reduceCtorEq, hi1]
     exact WC.next (m' := D.ops.length - (i + 1)) (by omega) (nxt hg6)
   · rw [hl2]
     simp +contextual -implicitDefEqProofs only [K3, SS, rA,rS,rL,rE,reduceCtorEq, hself]
     refine WC.loopR (fun mm fr st' => st' = st6 ∧ ∃ (k : Nat) (v10 v11 : AV), k ≤ gs.length ∧ mm = gs.length - k ∧ fr = [AV.str s, .bool false, .box [.list false (D.ops.map Op.row), .list false (D.frags.map Frag.row)], .int .i64 e, .ptr 52 0, .int .i64 i, .list true (sub.map Sel.row ++ sub.map Sel.row), .sl o 0 gs.length 2, .sl o2 0 gs.length 2, .int .i64 k, v10, v11]) (m := gs.length) ⟨rfl, 0, _, _, Nat.zero_le _, rfl, rfl⟩ ?_
     rintro mm fr st7 ⟨rfl, k, v10, v11, hk, rfl, rfl⟩
     by_cases hkl : k < gs.length
     rotate_left
     · simp +contextual -implicitDefEqProofs only [K3, SS, rA,rS,rL,rE,reduceCtorEq, hkl]
       refine WC.leave ?_
       simp +contextual -implicitDefEqProofs only [K3, SS, rA,rS,rL,rE,reduceCtorEq, hi1]
       exact WC.next (m' := D.ops.length - (i + 1)) (by omega) (nxt hg6)
     have hk2 : k < gs2.length := by omega
     have hkl' : (k : Int) < (gs.length : Int) := by omega
     have hd1 := gcells_at hkl
     have hd2 := gcells_at hk2
     obtain ⟨k1, f1⟩ := grp_at hgs hkl
     obtain ⟨k2, f2⟩ := grp_at hgs2 hk2
     rw [hks, k1] at k2
     have ek : gs[k].key = gs2[k].key := by simpa using k2
     have hfl : gs2[k].fs.length = gs[k].fs.length + (ofKey G gs[k].key).length := by rw [f2, f1, ← ek, e2, ofKey_app, List.length_append]
     have hGl : (ofKey G gs[k].key).length ≤ gs[k].fs.length := by
      have := ofKey_sub hGs gs[k].key
      rwa [← f1] at this
     have hfr : D.frags = [] → (ofKey G gs[k].key).length = gs[k].fs.length := fun h0 => by rw [hGe h0, ← f1]
     have hfb : gs2[k].fs.length ≤ 9000 := by
      rw [f2]
      exact Nat.le_trans (List.length_filter_le _ _) hF2l
     have ho1' := hg6 _ _ ho1
     have hk1 := inc64 (show k + 1 < 2 ^ 63 by omega)
     revert hd1 hd2 ek hfl hGl hfr hfb
     generalize gs[k] = x
     generalize gs2[k] = y
     intro hd1 hd2 ek hfl hGl hfr hfb
     obtain ⟨xk, xo, xf⟩ := x
     obtain ⟨yk, yo, yf⟩ := y
     dsimp only at hd1 hd2 ek hfl hGl hfr hfb
     obtain ⟨hd1, hd1'⟩ := hd1
     obtain ⟨hd2, hd2'⟩ := hd2
     subst ek
     have hkk : eqN xk xk = true := (eqN_iff' _ _).2 rfl
     have hlt : ltI (yf.length : Int) (xf.length : Int) = false := by rw [ltI_eq]; simp; omega
     have hw : wrapA .i64 (2 * (xf.length : Int)) = ((2 * xf.length : Nat) : Int) := by rw [wrap64 (by omega) (by omega)]; omega
     have hgt : ltI ((2 * xf.length : Nat) : Int) (yf.length : Int) = false := by rw [ltI_eq]; simp; omega
     rcases bool_tf (eqI (D.frags.length : Int) 0) with h0 | h0
     · have hd0 : D.frags = [] := by rw [eqI_eq] at h0; simp at h0; exact h0
       have heq : eqI (yf.length : Int) ((2 * xf.length : Nat) : Int) = true := by rw [eqI_eq]; have := hfr hd0; simp; omega
       simp +contextual -implicitDefEqProofs only [K3, SS, rA,rS,rL,rE,reduceCtorEq, hkl, hkl', ho1', ho2, hd1, hd1', hd2, hd2', hkk, hlt, hw, hgt, h0, heq, List.length_map, hk1]
       exact WC.next (m' := gs.length - (k + 1)) (by omega) ⟨rfl, k + 1, _, _, hkl, rfl, rfl⟩
     · simp +contextual -implicitDefEqProofs only [K3, SS, rA,rS,rL,rE,reduceCtorEq, hkl, hkl', ho1', ho2, hd1, hd1', hd2, hd2', hkk, hlt, hw, hgt, h0, List.length_map, hk1]
       exact WC.next (m' := gs.length - (k + 1)) (by omega) ⟨rfl, k + 1, _, _, hkl, rfl, rfl⟩
theorem am_of {f : Nat} {as : List AV} (h : EvQ tbl f as [] (fun a _ => a = .bool true)) : ∃ n st', callF tbl n f as [] = some (.bool true, st') := by
 obtain ⟨a, st', ⟨n, hn⟩, rfl⟩ := h
 exact ⟨n, st', hn⟩
theorem twice_am (s : List Nat) : ∃ n st', callF tbl n 3 [.str s] [] = some (.bool true, st') := am_of (twice_law s)
end Go.Cb.CodeA
