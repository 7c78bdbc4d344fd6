import Derived.Test.YtpalalebligmoaaGreatDoorS2
import Derived.Test.YtpalalebligmoaaGreatDoorMV
set_option maxRecDepth 20000
set_option linter.unusedSimpArgs false
set_option linter.unusedVariables false
namespace Go.Cb.CodeA
open Go Go.Cb
open Nat (reduceAdd reduceSub reduceLeDiff reduceEqDiff)
attribute [local congr] obind_congr gv_congr2 gv2_congr brT_congr seqK_congr blkK_congr m1_congr gm_congr
def sInt : List Nat := [73, 110, 116]
def sID : List Nat := [73, 68]
def sE : List Nat := [69]
def sI : List Nat := [73]
def sT : List Nat := [84]
def sQ : List Nat := [81, 117, 101, 114, 121]
/-- an input's field -/
structure FD where
  name : List Nat
  T : Ty
  has : Bool
  v : Val
def FD.row (f : FD) : List AV := [.str f.name, .list false [], .str f.T.name, .list false f.T.of, .bool f.T.bang, .bool f.has, .int .u8 f.v.kind, .int .i64 f.v.num, .str f.v.text, .list false (f.v.names.map strRow), .list false (f.v.vals.map Val.row)]
def FI : List FD := [⟨[97], .one sInt false, false, Val.none⟩, ⟨[98], .lst [] (.one sE true) false, true, .mk 5 0 [] [] [.mk 4 0 [65] [] []]⟩, ⟨[99], .one sID true, false, Val.none⟩]
def rowE : List AV := [.int .u8 4, .str [69], .list false [], .list false [[.str [65]], [.str [66]]]]
def rowI : List AV := [.int .u8 5, .str [73], .list false (FI.map FD.row), .list false []]
def fsT : List (List AV) := [[.str [97], .list false [], .str [73, 110, 116], .list false [], .bool false, .bool false, .int .u8 0, .int .i64 0, .str [], .list false [], .list false []]]
def fsQ : List (List AV) := [[.str [116], .list false [[.str [105, 100], .list false [], .str [73, 68], .list false [], .bool true, .bool false, .int .u8 0, .int .i64 0, .str [], .list false [], .list false []]], .str [84], .list false [], .bool false, .bool false, .int .u8 0, .int .i64 0, .str [], .list false [], .list false []]]
theorem v4_eq : V4 = .list false [rowE, rowI, [.int .u8 1, .str [84], .list false fsT, .list false []], [.int .u8 1, .str [81, 117, 101, 114, 121], .list false fsQ, .list false []]] := by
  unfold V4 rowI FI FD.row Val.none
  simp only [List.map_cons, List.map_nil, Val.row, Val.rows, Ty.name, Ty.of, Ty.row, Ty.bang, Val.kind, Val.num, Val.text, Val.names, Val.vals]
  rfl
/-- the schema lies in the store -/
structure Sch (st : St) : Prop where
  s : st[14]? = some (.cells [V4, .map 13])
  m : st[13]? = some (.map [(.str [69], .int .i64 0), (.str [73], .int .i64 1), (.str [84], .int .i64 2), (.str [81, 117, 101, 114, 121], .int .i64 3)])
  r : st[23]? = some (.cells [V4])
theorem Sch.app {st : St} (h : Sch st) (e : St) : Sch (st ++ e) := by
  have lt : ∀ {i : Nat} {o : Cb.Obj}, st[i]? = some o → (st ++ e)[i]? = some o := fun {i o} hi => by
    rw [List.getElem?_append_left (List.getElem?_eq_some_iff.1 hi).1, hi]
  exact ⟨lt h.s, lt h.m, lt h.r⟩
def tk (n : List Nat) : Int := if n = sE then 4 else if n = sI then 5 else if n = sT then 1 else if n = sQ then 1 else 0
theorem type_q (n : List Nat) {st : St} (h : Sch st) : EvQ tbl 40 [.ptr 14 0, .str n] st (fun a st' => st' = st ∧ ∃ nm fs ns b, a = .tuple [.agg [.int .u8 (tk n), .str nm, .list false fs, .list false ns], .bool b] ∧ (n = sE → ns = [[65], [66]].map strRow) ∧ (n = sI → fs = FI.map FD.row)) := by
  obtain ⟨h1, h2, _⟩ := h
  rw [v4_eq] at h1
  refine EvQ.body (fn := a40) rfl rfl rfl ?_
  unfold tk sE sI sT sQ
  by_cases c1 : n = [69]
  · subst c1
    simp +contextual -implicitDefEqProofs only [K40, SS, reduceAdd,reduceSub,reduceLeDiff,reduceEqDiff,reduceCtorEq, h1, h2, semMget, mfind, eqKey, show eqN [69] [69] = true from rfl, Option.isSome_some, p1_some, rowE, List.getElem?_cons_zero]
    refine WC.ret ⟨_, _, rfl, rfl, _, _, _, _, rfl, fun _ => rfl, fun h => by cases h⟩
  by_cases c2 : n = [73]
  · subst c2
    simp +contextual -implicitDefEqProofs only [K40, SS, reduceAdd,reduceSub,reduceLeDiff,reduceEqDiff,reduceCtorEq, h1, h2, semMget, mfind, eqKey, show eqN [73] [69] = false from rfl, show eqN [73] [73] = true from rfl, Option.isSome_some, p1_some, rowI, List.getElem?_cons_zero, List.getElem?_cons_succ]
    refine WC.ret ⟨_, _, rfl, rfl, _, _, _, _, rfl, fun h => (by cases h), fun _ => rfl⟩
  by_cases c3 : n = [84]
  · subst c3
    simp +contextual -implicitDefEqProofs only [K40, SS, reduceAdd,reduceSub,reduceLeDiff,reduceEqDiff,reduceCtorEq, h1, h2, semMget, mfind, eqKey, show eqN [84] [69] = false from rfl, show eqN [84] [73] = false from rfl, show eqN [84] [84] = true from rfl, Option.isSome_some, p1_some, List.getElem?_cons_zero, List.getElem?_cons_succ]
    refine WC.ret ⟨_, _, rfl, rfl, _, _, _, _, rfl, fun h => (by cases h), fun h => by cases h⟩
  by_cases c4 : n = [81, 117, 101, 114, 121]
  · subst c4
    simp +contextual -implicitDefEqProofs only [K40, SS, reduceAdd,reduceSub,reduceLeDiff,reduceEqDiff,reduceCtorEq, h1, h2, semMget, mfind, eqKey, show eqN [81, 117, 101, 114, 121] [69] = false from rfl, show eqN [81, 117, 101, 114, 121] [73] = false from rfl, show eqN [81, 117, 101, 114, 121] [84] = false from rfl, show eqN [81, 117, 101, 114, 121] [81, 117, 101, 114, 121] = true from rfl, Option.isSome_some, p1_some, List.getElem?_cons_zero, List.getElem?_cons_succ]
    refine WC.ret ⟨_, _, rfl, rfl, _, _, _, _, rfl, fun h => (by cases h), fun h => by cases h⟩
  rw [if_neg c1, if_neg c2, if_neg c3, if_neg c4]
  simp +contextual -implicitDefEqProofs only [K40, SS, reduceAdd,reduceSub,reduceLeDiff,reduceEqDiff,reduceCtorEq, h1, h2, semMget, mfind, eqKey, (eqN_false _ _).2 c1, (eqN_false _ _).2 c2, (eqN_false _ _).2 c3, (eqN_false _ _).2 c4, Option.isSome_none, p1_some]
  refine WC.ret ⟨_, _, rfl, rfl, _, _, _, _, rfl, fun h => absurd h c1, fun h => absurd h c2⟩
theorem contains_q (ks : List (List Nat)) (hl : ks.length < 2 ^ 63) (n : List Nat) (st : St) : EvQ tbl 37 [.list false (ks.map strRow), .str n] st (fun a st' => st' = st ∧ a = .bool (gI ks n).isSome) := by
  refine EvQ.body (fn := a37) rfl rfl rfl ?_
  simp +contextual -implicitDefEqProofs only [K37, SS, reduceAdd,reduceSub,reduceLeDiff,reduceEqDiff,reduceCtorEq]
  refine WC.call (index_q ks hl n st) rfl rfl ?_
  rintro _ _ ⟨rfl, rfl⟩
  cases gI ks n with
  | none =>
    simp +contextual -implicitDefEqProofs only [K37, SS, reduceAdd,reduceSub,reduceLeDiff,reduceEqDiff,reduceCtorEq, show ltI (-1) 0 = true from rfl, Bool.not_true]
    exact WC.ret ⟨_, _, rfl, rfl, rfl⟩
  | some i =>
    simp +contextual -implicitDefEqProofs only [K37, SS, reduceAdd,reduceSub,reduceLeDiff,reduceEqDiff,reduceCtorEq, show ltI (i : Int) 0 = false by rw [ltI_eq]; simp, Bool.not_false]
    exact WC.ret ⟨_, _, rfl, rfl, rfl⟩
theorem fmt_q (n : Int) (h0 : -9223372036854775808 ≤ n) (h1 : n ≤ 9223372036854775807) (st : St) : EvQ tbl 75 [.int .i64 n, .int .i64 10] st (fun a st' => st' = st ∧ a = .str (itoaN n)) :=
  EvQ.of_ext (fn := a75) rfl rfl (by unfold fmtX; exact if_pos ⟨h0, h1⟩) ⟨rfl, rfl⟩
end Go.Cb.CodeA
