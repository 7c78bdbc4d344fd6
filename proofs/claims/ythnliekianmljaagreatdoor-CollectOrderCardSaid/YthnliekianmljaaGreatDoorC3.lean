import Derived.Test.YthnliekianmljaaGreatDoorC2
set_option maxRecDepth 20000
set_option linter.unusedSimpArgs false
set_option linter.unusedVariables false
namespace Go.Cb.CodeA
open Go Go.Cb
open Nat renaming reduceAdd → rA, reduceSub → rS, reduceLeDiff → rL, reduceEqDiff → rE
attribute [local congr] obind_congr gv_congr2 gv2_congr brT_congr seqK_congr blkK_congr m1_congr gm_congr

/-- the name by which a field is told -/
def keyS : Sel → List Nat
 | .mk _ al nm _ _ _ _ => if eqN al [] then nm else al
def addF : List (List Nat × List Sel) → Sel → List (List Nat × List Sel)
 | [], x => [(keyS x, [x])]
 | g :: gs, x => if eqN g.1 (keyS x) then (g.1, g.2 ++ [x]) :: gs else g :: addF gs x
def grpF (F : List Sel) : List (List Nat × List Sel) := F.foldl addF []
theorem grpF_snoc (F : List Sel) (x : Sel) : grpF (F ++ [x]) = addF (grpF F) x := by rw [grpF, List.foldl_append]; rfl
/-- a group, with the object of its fields -/
structure Grp where
 key : List Nat
 fo : Nat
 fs : List Sel
def Grp.pr (g : Grp) : List Nat × List Sel := (g.key, g.fs)
def gcells (gs : List Grp) : List AV := gs.flatMap fun g => [.str g.key, .sl g.fo 0 g.fs.length 7]
theorem gcells_cons (g : Grp) (gs : List Grp) : gcells (g :: gs) = .str g.key :: .sl g.fo 0 g.fs.length 7 :: gcells gs := rfl
theorem gcells_app (a b : List Grp) : gcells (a ++ b) = gcells a ++ gcells b := by simp [gcells]
theorem gcells_len (gs : List Grp) : (gcells gs).length = gs.length * 2 := by
 induction gs with
 | nil => rfl
 | cons g gs ih => rw [gcells_cons, List.length_cons, List.length_cons, ih, List.length_cons]; omega
theorem gcells_drop (gs : List Grp) : ∀ i, (gcells gs).drop (i * 2) = gcells (gs.drop i) := by
 induction gs with
 | nil => intro i; simp [gcells]
 | cons g gs ih =>
  intro i
  cases i with
  | zero => rfl
  | succ i => rw [show (i + 1) * 2 = i * 2 + 1 + 1 by omega, gcells_cons, List.drop_succ_cons, List.drop_succ_cons, ih]; rfl
theorem gcells_set (gs : List Grp) : ∀ (i : Nat) (g g' : Grp), gs[i]? = some g → g'.key = g.key → gcells (gs.set i g') = (gcells gs).set (i * 2 + 1) (.sl g'.fo 0 g'.fs.length 7) := by
 induction gs with
 | nil => intro i g g' h; simp at h
 | cons x gs ih =>
  intro i g g' h hk
  cases i with
  | zero =>
   simp at h; subst h
   rw [List.set_cons_zero, gcells_cons, gcells_cons, hk]
   rfl
  | succ i =>
   rw [List.set_cons_succ, gcells_cons, gcells_cons, show (i + 1) * 2 + 1 = (i * 2 + 1) + 1 + 1 by omega, List.set_cons_succ, List.set_cons_succ, ih i g g' (by simpa using h) hk]
def fcells (fs : List Sel) : List AV := fs.flatMap Sel.row
theorem fcells_len (fs : List Sel) : (fcells fs).length = fs.length * 7 := by
 induction fs with
 | nil => rfl
 | cons g gs ih => rw [fcells, List.flatMap_cons, List.length_append, Sel.row_len]; rw [fcells] at ih; rw [ih, List.length_cons]; omega
theorem fcells_snoc (fs : List Sel) (s : Sel) : fcells (fs ++ [s]) = fcells fs ++ s.row := by simp [fcells]
structure GrpS (c : Nat) (st : St) (out : AV) (gs : List Grp) : Prop where
 out : (gs = [] ∧ out = .list true []) ∨ ∃ o, out = .sl o 0 gs.length 2 ∧ c < o ∧ st[o]? = some (.cells (gcells gs)) ∧ ∀ g ∈ gs, g.fo ≠ o
 fs : ∀ g ∈ gs, c < g.fo ∧ st[g.fo]? = some (.cells (fcells g.fs))
 nd : (gs.map Grp.fo).Nodup
theorem GrpS.ext {c : Nat} {st st' : St} {out : AV} {gs : List Grp} (h : GrpS c st out gs) (hg : ∀ i x, c < i → st[i]? = some x → st'[i]? = some x) : GrpS c st' out gs := by
 refine ⟨?_, fun g hm => ⟨(h.fs g hm).1, hg _ _ (h.fs g hm).1 (h.fs g hm).2⟩, h.nd⟩
 rcases h.out with h1 | ⟨o, h1, h2, h3, h4⟩
 · exact Or.inl h1
 · exact Or.inr ⟨o, h1, h2, hg _ _ h2 h3, h4⟩
theorem addF_none : ∀ (gs : List Grp) (s : Sel), pI (fun g : Grp => eqN g.key (keyS s)) gs = none → addF (gs.map Grp.pr) s = gs.map Grp.pr ++ [(keyS s, [s])]
 | [], s, _ => rfl
 | g :: gs, s, h => by
  rw [pI_cons] at h
  by_cases hx : eqN g.key (keyS s) = true
  · rw [if_pos hx] at h; cases h
  · rw [if_neg hx] at h
    have hq : pI (fun g : Grp => eqN g.key (keyS s)) gs = none := by cases hq : pI (fun g : Grp => eqN g.key (keyS s)) gs with | none => rfl | some j => rw [hq] at h; cases h
    rw [List.map_cons, addF, if_neg (by exact hx), addF_none gs s hq]; rfl
theorem addF_some : ∀ (gs : List Grp) (s : Sel) (i fo : Nat) (g : Grp), pI (fun g : Grp => eqN g.key (keyS s)) gs = some i → gs[i]? = some g → addF (gs.map Grp.pr) s = (gs.set i ⟨g.key, fo, g.fs ++ [s]⟩).map Grp.pr
 | [], s, _, _, _, h, _ => by cases h
 | x :: gs, s, i, fo, g, h, hi => by
  rw [pI_cons] at h
  by_cases hx : eqN x.key (keyS s) = true
  · rw [if_pos hx] at h; cases h
    simp at hi; subst hi
    rw [List.map_cons, addF, if_pos (by exact hx)]; rfl
  · rw [if_neg hx] at h
    cases hq : pI (fun g : Grp => eqN g.key (keyS s)) gs with
    | none => rw [hq] at h; cases h
    | some j =>
     rw [hq] at h; cases h
     rw [List.map_cons, addF, if_neg (by exact hx), addF_some gs s j fo g hq (by simpa using hi)]; rfl

theorem indexN_q (f : AV) (st : St) (hf : f.plain = true) (hw : f.weak = f) : EvQ tbl 96 [.list false [], f] st (fun a st' => st' = st ∧ a = .int .i64 (-1)) := by
 refine EvQ.body (fn := a96) rfl rfl rfl ?_
 simp +contextual -implicitDefEqProofs only [K96, SS, rA,rS,rL,rE,reduceCtorEq]
 refine WC.loopR (fun mm fr st' => st' = st ∧ fr = [.list false [], f, .int .i64 0, .undef, .int .i64 0, .int .i64 0]) (m := 0) ⟨rfl, rfl⟩ ?_
 rintro mm fr st' ⟨rfl, rfl⟩
 simp +contextual -implicitDefEqProofs only [K96, SS, rA,rS,rL,rE,reduceCtorEq, show ltI 0 0 = false from rfl]
 refine WC.leave ?_
 simp +contextual -implicitDefEqProofs only [K96, SS, rA,rS,rL,rE,reduceCtorEq]
 exact WC.ret ⟨_, _, rfl, rfl, rfl⟩
theorem keyF_q (key kp : List Nat) (F : AV) (hF : ∃ o n, F = .sl o 0 n 7) (p : Nat) (st : St) (hp : st[p]? = some (.cells [.str kp])) : EvQ tbl 97 [.agg [.str key, F], .ptr p 0] st (fun a st' => st' = st ∧ a = .bool (eqN key kp)) := by
 obtain ⟨o, n, rfl⟩ := hF
 refine EvQ.body (fn := a97) rfl rfl rfl ?_
 simp +contextual -implicitDefEqProofs only [K97, SS, rA,rS,rL,rE,reduceCtorEq, hp]
 exact WC.ret ⟨_, _, rfl, rfl, rfl⟩
theorem indexGr_q {o p : Nat} (gs : List Grp) (hl : gs.length ≤ 10000) (kp : List Nat) (st : St) (ho : st[o]? = some (.cells (gcells gs))) (hp : st[p]? = some (.cells [.str kp])) :
 EvQ tbl 96 [.sl o 0 gs.length 2, .func 97 [] [.ptr p 0]] st (fun a st' => st' = st ∧ a = .int .i64 (nI (pI (fun g : Grp => eqN g.key kp) gs))) := by
 refine EvQ.body (fn := a96) rfl rfl rfl ?_
 simp +contextual -implicitDefEqProofs only [K96, SS, rA,rS,rL,rE,reduceCtorEq]
 refine WC.loopR (fun mm fr st' => st' = st ∧ ∃ (i : Nat) (v3 : AV), i ≤ gs.length ∧ mm = gs.length - i ∧ pI (fun g : Grp => eqN g.key kp) gs = (pI (fun g : Grp => eqN g.key kp) (gs.drop i)).map (fun j => j + i) ∧ fr = [.sl o 0 gs.length 2, .func 97 [] [.ptr p 0], .int .i64 0, v3, .int .i64 gs.length, .int .i64 i]) (m := gs.length) ⟨rfl, 0, _, Nat.zero_le _, rfl, by simp, rfl⟩ ?_
 rintro mm fr st' ⟨rfl, i, v3, hi, rfl, hidx, rfl⟩
 simp +contextual -implicitDefEqProofs only [K96, SS, rA,rS,rL,rE,reduceCtorEq]
 by_cases hil : i < gs.length
 · have hd := gcells_drop gs i
   have hil' : (i : Int) < (gs.length : Int) := by omega
   rw [List.drop_eq_getElem_cons hil, pI_cons] at hidx
   rw [List.drop_eq_getElem_cons hil, gcells_cons] at hd
   revert hidx hd
   generalize gs[i] = x
   intro hidx hd
   obtain ⟨xk, xo, xf⟩ := x
   dsimp only at hidx hd
   simp +contextual -implicitDefEqProofs only [K96, SS, rA,rS,rL,rE,reduceCtorEq, hil, hil', ho, hd]
   refine WC.callV (keyF_q xk kp (.sl xo 0 xf.length 7) ⟨_, _, rfl⟩ p st' hp) rfl rfl ?_
   rintro _ st2 ⟨rfl, rfl⟩
   simp +contextual -implicitDefEqProofs only [K96, SS, rA,rS,rL,rE,reduceCtorEq]
   refine WC.br (fun hx => ?_) (fun hx => ?_)
   · simp +contextual -implicitDefEqProofs only [K96, SS, rA,rS,rL,rE,reduceCtorEq]
     refine WC.leaveR ?_
     simp +contextual -implicitDefEqProofs only [K96, SS, rA,rS,rL,rE,reduceCtorEq]
     refine WC.ret ⟨_, _, rfl, rfl, ?_⟩
     rw [hidx, if_pos hx]
     show _ = AV.int .i64 ((0 + i : Nat) : Int)
     rw [Nat.zero_add]; rfl
   · simp +contextual -implicitDefEqProofs only [K96, SS, rA,rS,rL,rE,reduceCtorEq, inc64 (show i + 1 < 2 ^ 63 by omega)]
     refine WC.next (m' := gs.length - (i + 1)) (by omega) ⟨rfl, i + 1, _, hil, rfl, ?_, rfl⟩
     rw [hidx, if_neg (by rw [hx]; decide), Option.map_map]
     congr 1
     funext j
     show j + 1 + i = j + (i + 1)
     omega
 · simp +contextual -implicitDefEqProofs only [K96, SS, rA,rS,rL,rE,reduceCtorEq, hil]
   refine WC.leave ?_
   simp +contextual -implicitDefEqProofs only [K96, SS, rA,rS,rL,rE,reduceCtorEq]
   refine WC.ret ⟨_, _, rfl, rfl, ?_⟩
   rw [hidx, List.drop_of_length_le (by omega)]
   rfl
theorem set_last (st : St) (y z : Cb.Obj) : (st ++ [y]).set st.length z = st ++ [z] := by
 rw [List.set_append_right _ _ (Nat.le_refl _), Nat.sub_self]; rfl
theorem nodup_set {l : List Nat} {i n : Nat} (h : l.Nodup) (hn : n ∉ l) : (l.set i n).Nodup := by
 induction l generalizing i with
 | nil => simp
 | cons a l ih =>
  rw [List.nodup_cons] at h
  rw [List.mem_cons, not_or] at hn
  cases i with
  | zero => rw [List.set_cons_zero, List.nodup_cons]; exact ⟨hn.2, h.2⟩
  | succ i =>
   rw [List.set_cons_succ, List.nodup_cons]
   refine ⟨fun hm => ?_, ih h.2 hn.2⟩
   rcases List.mem_or_eq_of_mem_set hm with h1 | h1
   · exact h.1 h1
   · exact hn.1 h1.symm
theorem fo_lt {c : Nat} {st : St} {out : AV} {gs : List Grp} (h : GrpS c st out gs) {g : Grp} (hg : g ∈ gs) : g.fo < st.length := (List.getElem?_eq_some_iff.1 (h.fs g hg).2).1
/-- what field leaves -/
def FieldR (K : Cfg) (c : Nat) (sn : AV) (gs : List Grp) (s : Sel) (st : St) (st' : St) : Prop := ∃ out' gs', st'[c]? = some (.cells (colC K sn out')) ∧ GrpS c st' out' gs' ∧ gs'.map Grp.pr = addF (gs.map Grp.pr) s ∧ (∀ i x, i < c → st[i]? = some x → st'[i]? = some x) ∧ st.length ≤ st'.length
theorem finN {K : Cfg} {c o p : Nat} {sn v5 v6 v7 : AV} {gs : List Grp} {s : Sel} {key : List Nat} {st st2 : St} {k : Int} {al nm on : List Nat} {as : List Arg} {ds : List Dir} {sub : List Sel} (hs : Sel.mk k al nm on as ds sub = s)
 (hc2 : st2[c]? = some (.cells (colC K sn (.sl o 0 (gs.length + 1) 2)))) (hco : c < o) (ho : st2[o]? = some (.cells (gcells gs ++ [.str key, .list true []]))) (hfs : ∀ g ∈ gs, c < g.fo ∧ g.fo ≠ o ∧ st2[g.fo]? = some (.cells (fcells g.fs))) (hnd : (gs.map Grp.fo).Nodup)
 (hpn : pI (fun g : Grp => eqN g.key (keyS s)) gs = none) (hkey : key = keyS s) (hfr : ∀ i x, i < c → st[i]? = some x → st2[i]? = some x) (hl : st.length ≤ st2.length) :
 WC (fun n => exec (callF tbl n) n (ACode.either [5, 6, 7] (a57s18.seq a57s20) a57s23) [.ptr c 0, .agg [.int .u8 k, .str al, .str nm, .str on, .list false (as.map Arg.row), .list false (ds.map Dir.row), .list false (sub.map Sel.row)], .box [.int .u8 k, .str al, .str nm, .str on, .list false (as.map Arg.row), .list false (ds.map Dir.row), .list false (sub.map Sel.row)], .ptr p 0, .int .i64 ((gs.length : Nat) : Int), v5, v6, v7] st2) (fun o => ∃ r st', finK [] (some o) = some (r, st') ∧ FieldR K c sn gs s st st') := by
 have hcl : c < st2.length := (List.getElem?_eq_some_iff.1 hc2).1
 have hol : o < st2.length := (List.getElem?_eq_some_iff.1 ho).1
 have hF : (gcells gs ++ [AV.str key, AV.list true []])[gs.length * 2 + 1]? = some (AV.list true []) := by
  rw [List.getElem?_append_right (by rw [gcells_len]; omega), gcells_len, show gs.length * 2 + 1 - gs.length * 2 = 1 by omega]; rfl
 refine ⟨0, _, fun N _ => appN_q (n := gs.length + 1) k al nm on (as.map Arg.row) (ds.map Dir.row) (sub.map Sel.row) hc2 ho (by omega) hF (callF tbl N) N, _, _, rfl, .sl o 0 (gs.length + 1) 2, gs ++ [⟨key, st2.length, [s]⟩], ?_, ⟨Or.inr ⟨o, by rw [List.length_append]; rfl, hco, ?_, fun g hg => ?_⟩, fun g hg => ?_, ?_⟩, ?_, fun i x hi hx => ?_, ?_⟩
 · exact app_old (set_other hc2 (by omega))
 · unfold stM
   refine (app_old (set_get ho)).trans ?_
   rw [gcells_app]
   congr 2
   rw [List.set_append_right _ _ (by rw [gcells_len]; omega), gcells_len, show gs.length * 2 + 1 - gs.length * 2 = 1 by omega]
   rfl
 · rcases List.mem_append.1 hg with hg | hg
   · exact (hfs g hg).2.1
   · simp at hg; subst hg
     show st2.length ≠ o
     omega
 · unfold stM
   rcases List.mem_append.1 hg with hg | hg
   · obtain ⟨h1, h2, h3⟩ := hfs g hg
     exact ⟨h1, app_old (set_other h3 (by omega))⟩
   · simp at hg; subst hg
     refine ⟨hcl, ?_⟩
     show (st2.set o _ ++ [_])[st2.length]? = some (.cells (fcells [s]))
     have := app_new (st2.set o (Cb.Obj.cells ((gcells gs ++ [AV.str key, AV.list true []]).set (gs.length * 2 + 1) (.sl st2.length 0 1 7)))) (Cb.Obj.cells [.int .u8 k, .str al, .str nm, .str on, .list false (as.map Arg.row), .list false (ds.map Dir.row), .list false (sub.map Sel.row)])
     rw [List.length_set] at this
     rw [this, ← hs]
     simp only [fcells, List.flatMap_cons, List.flatMap_nil, List.append_nil, Sel.row_eq]
 · rw [List.map_append, List.nodup_append]
   refine ⟨hnd, by simp, fun a ha b hb => ?_⟩
   simp at hb; subst hb
   obtain ⟨g, hg, rfl⟩ := List.mem_map.1 ha
   have := (List.getElem?_eq_some_iff.1 (hfs g hg).2.2).1
   omega
 · rw [List.map_append, addF_none gs s hpn, hkey]; rfl
 · exact app_old (set_other (hfr i x hi hx) (by omega))
 · show st.length ≤ (st2.set o _ ++ [_]).length
   rw [List.length_append, List.length_set]; omega
theorem finS {K : Cfg} {c o p i : Nat} {sn v5 v6 v7 : AV} {gs : List Grp} {s : Sel} {st st2 : St} {k : Int} {al nm on : List Nat} {as : List Arg} {ds : List Dir} {sub : List Sel} (hs : Sel.mk k al nm on as ds sub = s)
 (hc2 : st2[c]? = some (.cells (colC K sn (.sl o 0 gs.length 2)))) (hG : GrpS c st2 (.sl o 0 gs.length 2) gs) (hi : pI (fun g : Grp => eqN g.key (keyS s)) gs = some i) (hb : ∀ g ∈ gs, g.fs.length ≤ 9000) (hfr : ∀ i x, i < c → st[i]? = some x → st2[i]? = some x) (hl : st.length ≤ st2.length) :
 WC (fun n => exec (callF tbl n) n (ACode.either [5, 6, 7] (a57s18.seq a57s20) a57s23) [.ptr c 0, .agg [.int .u8 k, .str al, .str nm, .str on, .list false (as.map Arg.row), .list false (ds.map Dir.row), .list false (sub.map Sel.row)], .box [.int .u8 k, .str al, .str nm, .str on, .list false (as.map Arg.row), .list false (ds.map Dir.row), .list false (sub.map Sel.row)], .ptr p 0, .int .i64 ((i : Nat) : Int), v5, v6, v7] st2) (fun o => ∃ r st', finK [] (some o) = some (r, st') ∧ FieldR K c sn gs s st st') := by
 have hcl : c < st2.length := (List.getElem?_eq_some_iff.1 hc2).1
 rcases hG.out with ⟨_, h0⟩ | ⟨o', h0, hco, ho, hof⟩
 · cases h0
 cases h0
 have hol : o < st2.length := (List.getElem?_eq_some_iff.1 ho).1
 obtain ⟨g, hg, hk, hil⟩ := pI_some hi
 have hgm := List.mem_of_getElem? hg
 obtain ⟨hcf, hX⟩ := hG.fs g hgm
 have hne := hof g hgm
 have hF : (gcells gs)[i * 2 + 1]? = some (AV.sl g.fo 0 g.fs.length 7) := by
  have := gcells_drop gs i
  rw [List.drop_eq_getElem_cons hil, show gs[i] = g from (List.getElem?_eq_some_iff.1 hg).2, gcells_cons] at this
  have h2 := congrArg (fun l => l[1]?) this
  simpa using h2
 have hset := gcells_set gs i g ⟨g.key, st2.length, g.fs ++ [s]⟩ hg rfl
 have hnl : ∀ g' ∈ gs, g'.fo < st2.length := fun g' hg' => (List.getElem?_eq_some_iff.1 (hG.fs g' hg').2).1
 have hother : ∀ (j : Nat) (g' : Grp), gs[j]? = some g' → j ≠ i → g'.fo ≠ g.fo := by
  intro j g' hj hji he
  have h1 : (gs.map Grp.fo)[j]? = some g'.fo := by rw [List.getElem?_map, hj]; rfl
  have h2 : (gs.map Grp.fo)[i]? = some g.fo := by rw [List.getElem?_map, hg]; rfl
  have h3 := (List.getElem?_eq_some_iff.1 h1).1
  exact hji (((List.getElem?_inj h3 hG.nd).1 (by rw [h1, h2, he])))
 refine ⟨0, _, fun N _ => appS_q (n := gs.length) (m := g.fs.length) k al nm on (as.map Arg.row) (ds.map Dir.row) (sub.map Sel.row) hc2 ho hil hF hX hne (by omega) (by rw [fcells_len]) (by have := hb g hgm; omega) (callF tbl N) N, _, _, rfl, .sl o 0 gs.length 2, gs.set i ⟨g.key, st2.length, g.fs ++ [s]⟩, ?_, ⟨Or.inr ⟨o, by rw [List.length_set], hco, ?_, fun g' hg' => ?_⟩, fun g' hg' => ?_, ?_⟩, ?_, fun i x hi hx => ?_, ?_⟩
 · exact app_old (set_other (set_other hc2 (by omega)) (by omega))
 · refine (app_old (set_other (set_get ho) hne)).trans ?_
   rw [hset, List.length_append]
   rfl
 · rcases List.mem_or_eq_of_mem_set hg' with h1 | h1
   · exact hof g' h1
   · subst h1; show st2.length ≠ o; omega
 · obtain ⟨j, hj⟩ := List.mem_iff_getElem?.1 hg'
   rw [List.getElem?_set] at hj
   by_cases hji : i = j
   · subst hji
     rw [if_pos rfl, if_pos hil] at hj
     cases hj
     refine ⟨hcl, ?_⟩
     have := app_new ((st2.set o (Cb.Obj.cells ((gcells gs).set (i * 2 + 1) (.sl st2.length 0 (g.fs.length + 1) 7)))).set g.fo Cb.Obj.dead) (Cb.Obj.cells (fcells g.fs ++ [.int .u8 k, .str al, .str nm, .str on, .list false (as.map Arg.row), .list false (ds.map Dir.row), .list false (sub.map Sel.row)]))
     rw [List.length_set, List.length_set] at this
     refine this.trans ?_
     show _ = some (Cb.Obj.cells (fcells (g.fs ++ [s])))
     rw [fcells_snoc, ← hs, Sel.row_eq]
   · rw [if_neg hji] at hj
     obtain ⟨h1, h2⟩ := hG.fs g' (List.mem_of_getElem? hj)
     exact ⟨h1, app_old (set_other (set_other h2 (fun e => hof g' (List.mem_of_getElem? hj) e.symm)) (fun e => hother j g' hj (fun e => hji e.symm) e.symm))⟩
 · rw [List.map_set]
   refine nodup_set hG.nd fun hm => ?_
   obtain ⟨g', hg', e⟩ := List.mem_map.1 hm
   have := hnl g' hg'
   have e : g'.fo = st2.length := e
   omega
 · exact (addF_some gs s i st2.length g hi hg).symm
 · exact app_old (set_other (set_other (hfr i x hi hx) (by omega)) (by omega))
 · show st.length ≤ ((st2.set o _).set g.fo _ ++ [_]).length
   rw [List.length_append, List.length_set, List.length_set]; omega
theorem field_q {K : Cfg} {c : Nat} {sn out : AV} {gs : List Grp} (s : Sel) {st : St} (h : st[c]? = some (.cells (colC K sn out))) (hG : GrpS c st out gs) (hb : gs.length ≤ 9000 ∧ ∀ g ∈ gs, g.fs.length ≤ 9000) :
 EvQ tbl 57 [.ptr c 0, .agg s.row] st (fun a st' => FieldR K c sn gs s st st') := by
 obtain ⟨k, al, nm, on, as, ds, sub⟩ := s
 have hS : keyS (.mk k al nm on as ds sub) = if eqN al [] then nm else al := rfl
 revert hS
 generalize hs : Sel.mk k al nm on as ds sub = s
 intro hS
 have hrow : s.row = [.int .u8 k, .str al, .str nm, .str on, .list false (as.map Arg.row), .list false (ds.map Dir.row), .list false (sub.map Sel.row)] := by rw [← hs, Sel.row_eq]
 rw [hrow]
 -- behind the name
 have main : ∀ (key : List Nat), key = keyS s → WC (fun n => exec (callF tbl n) n (a57s9.seq (a57s16.seq a57s24)) [.ptr c 0, .agg [.int .u8 k, .str al, .str nm, .str on, .list false (as.map Arg.row), .list false (ds.map Dir.row), .list false (sub.map Sel.row)], .box [.int .u8 k, .str al, .str nm, .str on, .list false (as.map Arg.row), .list false (ds.map Dir.row), .list false (sub.map Sel.row)], .ptr st.length 0, .undef, .undef, .undef, .undef] (st ++ [.cells [.str key]]))
  (fun o => ∃ r st', finK [] (some o) = some (r, st') ∧ FieldR K c sn gs s st st') := by
  intro key hkey
  have hcl : c < st.length := (List.getElem?_eq_some_iff.1 h).1
  have h1 : (st ++ [Cb.Obj.cells [.str key]])[c]? = some (.cells (colC K sn out)) := app_old h
  have hp : (st ++ [Cb.Obj.cells [.str key]])[st.length]? = some (.cells [.str key]) := app_new _ _
  have hG1 : GrpS c (st ++ [Cb.Obj.cells [.str key]]) out gs := hG.ext fun i x _ hx => app_old hx
  have hfr : ∀ (i : Nat) x, i < c → st[i]? = some x → (st ++ [Cb.Obj.cells [.str key]])[i]? = some x := fun i x _ hx => app_old hx
  have hl1 : (st ++ [Cb.Obj.cells [.str key]]).length = st.length + 1 := by simp
  revert h1 hp hG1 hfr hl1
  generalize st ++ [Cb.Obj.cells [.str key]] = st1
  intro h1 hp hG1 hfr hl1
  have hcl1 : c < st1.length := by omega
  have hcs : ∀ y : Cb.Obj, (st1.set c y)[c]? = some y := fun y => set_get h1
  have hpc : ∀ y : Cb.Obj, (st1.set c y)[st.length]? = some (.cells [.str key]) := fun y => set_other hp (by omega)
  rcases hG1.out with ⟨rfl, rfl⟩ | ⟨o, rfl, hco, ho, hof⟩
  · -- the first group
    have h140 : 1 * 40 ≤ 2 ^ 47 := by decide
    have h2 : ∀ a b, (st1.set c a ++ [b])[c]? = some a := fun a b => app_old (hcs a)
    have h3 : ∀ a b z, ((st1.set c a ++ [b]).set c z)[c]? = some z := fun a b z => set_get (h2 a b)
    simp +contextual -implicitDefEqProofs only [K57, SS, rA,rS,rL,rE,reduceCtorEq, h1, colC]
    refine WC.call (indexN_q (.func 97 [] [.ptr st.length 0]) _ rfl rfl) rfl rfl ?_
    rintro _ st1 ⟨rfl, rfl⟩
    simp +contextual -implicitDefEqProofs only [K57, SS, rA,rS,rL,rE,reduceCtorEq, h1, hcs, hpc, colC, show ltI (-1) 0 = true from rfl, hp, h140, h2, h3, List.length_set, show wrapA .i64 (subI ((1 : Nat) : Int) 1) = ((0 : Nat) : Int) from rfl]
    refine finN (gs := []) (key := key) (o := st1.length) hs ?_ ?_ ?_ (by simp) (by simp) rfl hkey ?_ ?_
    · exact h3 _ _ _
    · exact hcl1
    · exact (set_other (by have := app_new (st1.set c (.cells (colC K sn (.list false [])))) (.cells [.str key, .list true []]); rw [List.length_set] at this; exact this) (by omega))
    · intro i x hi hx
      exact set_other (app_old (set_other (hfr i x hi hx) (by omega))) (by omega)
    · rw [List.length_set, List.length_append, List.length_set]; omega
  · have hlen := hb.1
    simp +contextual -implicitDefEqProofs only [K57, SS, rA,rS,rL,rE,reduceCtorEq, h1, colC]
    refine WC.call (indexGr_q gs (by omega) key _ ho hp) rfl rfl ?_
    rintro _ st1 ⟨rfl, rfl⟩
    rw [hkey]
    cases hq : pI (fun g : Grp => eqN g.key (keyS s)) gs with
    | none =>
     have hol : o < st1.length := (List.getElem?_eq_some_iff.1 ho).1
     have ho2 : ∀ y : Cb.Obj, (st1.set c y)[o]? = some (.cells (gcells gs)) := fun y => set_other ho (by omega)
     have hb40 : (gs.length + 1) * 40 ≤ 2 ^ 47 := by omega
     have h2 : ∀ a b x, ((st1.set c a).set o x ++ [b])[c]? = some a := fun a b x => app_old (set_other (hcs a) (by omega))
     have h3 : ∀ a b x z, (((st1.set c a).set o x ++ [b]).set c z)[c]? = some z := fun a b x z => set_get (h2 a b x)
     have hw : wrapA .i64 (subI ((gs.length + 1 : Nat) : Int) 1) = (gs.length : Int) := by rw [subI_eq, wrap64 (by omega) (by omega)]; omega
     simp +contextual -implicitDefEqProofs only [K57, SS, rA,rS,rL,rE,reduceCtorEq, h1, hcs, hpc, colC, nI, show ltI (-1) 0 = true from rfl, hp, ho2, gcells_len, hb40, h2, h3, List.length_set, hw]
     refine finN (gs := gs) (key := key) (o := st1.length) hs ?_ ?_ ?_ (fun g hg => ?_) hG1.nd hq hkey ?_ ?_
     · exact h3 _ _ _ _
     · exact hcl1
     · exact (set_other (by have := app_new ((st1.set c (.cells (colC K sn (.sl o 0 gs.length 2)))).set o .dead) (.cells (gcells gs ++ [.str key, .list true []])); rw [List.length_set, List.length_set] at this; exact this) (by omega))
     · obtain ⟨g1, g2⟩ := hG1.fs g hg
       have := fo_lt hG1 hg
       have := hof g hg
       exact ⟨g1, by omega, set_other (app_old (set_other (set_other g2 (by omega)) (by omega))) (by omega)⟩
     · intro i x hi hx
       exact set_other (app_old (set_other (set_other (hfr i x hi hx) (by omega)) (by omega))) (by omega)
     · rw [List.length_set, List.length_append, List.length_set, List.length_set]; omega
    | some i =>
     have ei : ltI (i : Int) 0 = false := by rw [ltI_eq]; simp
     simp +contextual -implicitDefEqProofs only [K57, SS, rA,rS,rL,rE,reduceCtorEq, nI, ei]
     exact finS hs h1 hG1 hq hb.2 hfr (by omega)
 refine EvQ.body (fn := a57) rfl rfl rfl ?_
 have hn := app_new st
 simp +contextual -implicitDefEqProofs only [K57, SS, rA,rS,rL,rE,reduceCtorEq, hn, set_last]
 refine WC.br (fun hx => ?_) (fun hx => ?_)
 · simp +contextual -implicitDefEqProofs only [K57, SS, rA,rS,rL,rE,reduceCtorEq, hn, set_last]
   have := main al (by rw [hS, if_neg (by intro h0; rw [h0] at hx; cases hx)])
   simp +contextual -implicitDefEqProofs only [K57, SS, rA,rS,rL,rE,reduceCtorEq] at this ⊢
   exact this
 · simp +contextual -implicitDefEqProofs only [K57, SS, rA,rS,rL,rE,reduceCtorEq, hn, set_last]
   have := main nm (by rw [hS, if_pos (by simpa using hx)])
   simp +contextual -implicitDefEqProofs only [K57, SS, rA,rS,rL,rE,reduceCtorEq] at this ⊢
   exact this
end Go.Cb.CodeA
