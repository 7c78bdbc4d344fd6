import Derived.Test.YtkfbiiedabbgfaaDoorChA
import Derived.Test.YtkfbiiedabbgfaaDoorXAms2
set_option maxRecDepth 20000
set_option linter.unusedSimpArgs false
set_option linter.unusedVariables false
namespace Go.Cb.CodeA
open Go Go.Cb
attribute [local congr] obind_congr gv_congr2 gv2_congr brT_congr seqK_congr blkK_congr m1_congr gm_congr

def letterB (c : Int) : Bool := !ltI c 97 && !ltI 122 c || !ltI c 65 && !ltI 90 c || eqI c 95
def digitB (c : Int) : Bool := !ltI c 48 && !ltI 57 c
theorem letter_q (c : Int) (st : St) : EvQ tbl 56 [.int .u8 c] st (fun a st' => st' = st ∧ a = .bool (letterB c)) := by
  refine EvQ.body (fn := a56) rfl rfl rfl ?_
  simp (contextual := true) (implicitDefEqProofs := false) only [K56, SS, Nat.reduceAdd, Nat.reduceSub, Nat.reduceLeDiff, Nat.reduceEqDiff, reduceCtorEq]
  exact WC.ret ⟨_, _, rfl, rfl, rfl⟩
theorem digit_q (c : Int) (st : St) : EvQ tbl 57 [.int .u8 c] st (fun a st' => st' = st ∧ a = .bool (digitB c)) := by
  refine EvQ.body (fn := a57) rfl rfl rfl ?_
  simp (contextual := true) (implicitDefEqProofs := false) only [K57, SS, Nat.reduceAdd, Nat.reduceSub, Nat.reduceLeDiff, Nat.reduceEqDiff, reduceCtorEq]
  exact WC.ret ⟨_, _, rfl, rfl, rfl⟩

/-- what a token's reader answers: a fault, or a token that ends further on -/
def OneOK (s : List Nat) (i : Nat) (a : AV) : Prop := ∃ (k : Int) (t : List Nat) (n at' : Int) (en : Nat) (bad e : Int),
  a = .tuple [.agg [.int .u8 k, .str t, .int .i64 n, .int .i64 at'], .int .i64 en, .int .i64 bad, .int .i64 e] ∧ (e = 0 → k ≠ 0 ∧ i < en ∧ en ≤ s.length)
theorem OneOK.bad {s : List Nat} {i : Nat} {k : Int} {t : List Nat} {n at' : Int} {en : Nat} {bad e : Int} (he : e ≠ 0) :
  OneOK s i (.tuple [.agg [.int .u8 k, .str t, .int .i64 n, .int .i64 at'], .int .i64 en, .int .i64 bad, .int .i64 e]) := ⟨_, _, _, _, _, _, _, rfl, fun h => absurd h he⟩
theorem OneOK.good {s : List Nat} {i : Nat} {k : Int} {t : List Nat} {n at' : Int} {en : Nat} {bad e : Int} (hk : k ≠ 0) (h1 : i < en) (h2 : en ≤ s.length) :
  OneOK s i (.tuple [.agg [.int .u8 k, .str t, .int .i64 n, .int .i64 at'], .int .i64 en, .int .i64 bad, .int .i64 e]) := ⟨_, _, _, _, _, _, _, rfl, fun _ => ⟨hk, h1, h2⟩⟩

theorem number_loop (s : List Nat) (i f : Nat) (m : Bool) (hs : s.length ≤ 2000) (hif : i ≤ f) (hf : f ≤ s.length) (st : St) (n0 : Int) {Q : Out → Prop} {K : Nat → Out → Option Out}
  (hK : ∀ (k : Nat) (n : Int), f ≤ k → k ≤ s.length → WC (fun n' => K n' (.exit 0, [.str s, .int .i64 i, .box [.int .u8 0, .str [], .int .i64 0, .int .i64 0], .int .i64 0, .int .i64 0, .int .i64 0, .int .i64 k, .bool m, .int .i64 f, .int .i64 n], st)) Q) :
  WC (fun n => obind (loopO (callF tbl n) n (a58s15.seq (ACode.blk 1 (a58s19.seq a58s21))) [.str s, .int .i64 i, .box [.int .u8 0, .str [], .int .i64 0, .int .i64 0], .int .i64 0, .int .i64 0, .int .i64 0, .int .i64 f, .bool m, .int .i64 f, .int .i64 n0] st) (K n)) Q := by
  refine WC.loopR (fun mm fr st' => st' = st ∧ ∃ (k : Nat) (n : Int), f ≤ k ∧ k ≤ s.length ∧ mm = s.length - k ∧ fr = [.str s, .int .i64 i, .box [.int .u8 0, .str [], .int .i64 0, .int .i64 0], .int .i64 0, .int .i64 0, .int .i64 0, .int .i64 k, .bool m, .int .i64 f, .int .i64 n]) (m := s.length - f) ⟨rfl, f, n0, Nat.le_refl _, hf, rfl, rfl⟩ ?_
  rintro mm fr st' ⟨rfl, k, n, h1, h2, rfl, rfl⟩
  simp (contextual := true) (implicitDefEqProofs := false) only [K58, SS, Nat.reduceAdd, Nat.reduceSub, Nat.reduceLeDiff, Nat.reduceEqDiff, reduceCtorEq]
  by_cases hk : k < s.length
  · have hb : s[k]? = some s[k] := List.getElem?_eq_getElem hk
    revert hb
    generalize s[k] = b
    intro hb
    simp (contextual := true) (implicitDefEqProofs := false) only [K58, SS, Nat.reduceAdd, Nat.reduceSub, Nat.reduceLeDiff, Nat.reduceEqDiff, reduceCtorEq, hk, hb]
    refine WC.call (digit_q _ _) rfl rfl ?_
    rintro _ _ ⟨rfl, rfl⟩
    simp (contextual := true) (implicitDefEqProofs := false) only [K58, SS, Nat.reduceAdd, Nat.reduceSub, Nat.reduceLeDiff, Nat.reduceEqDiff, reduceCtorEq, hk, hb]
    refine WC.br (fun hd => ?_) (fun hd => ?_)
    · simp (contextual := true) (implicitDefEqProofs := false) only [K58, SS, Nat.reduceAdd, Nat.reduceSub, Nat.reduceLeDiff, Nat.reduceEqDiff, reduceCtorEq, hk, hb]
      refine WC.br (fun hd => ?_) (fun hd => ?_)
      · simp (contextual := true) (implicitDefEqProofs := false) only [K58, SS, Nat.reduceAdd, Nat.reduceSub, Nat.reduceLeDiff, Nat.reduceEqDiff, reduceCtorEq, hk, hb, inc64 (show k + 1 < 2 ^ 63 by omega)]
        exact WC.next (m' := s.length - (k + 1)) (by omega) ⟨rfl, k + 1, _, by omega, hk, rfl, rfl⟩
      · simp (contextual := true) (implicitDefEqProofs := false) only [K58, SS, Nat.reduceAdd, Nat.reduceSub, Nat.reduceLeDiff, Nat.reduceEqDiff, reduceCtorEq, hk, hb, inc64 (show k + 1 < 2 ^ 63 by omega)]
        exact WC.next (m' := s.length - (k + 1)) (by omega) ⟨rfl, k + 1, _, by omega, hk, rfl, rfl⟩
    · simp (contextual := true) (implicitDefEqProofs := false) only [K58, SS, Nat.reduceAdd, Nat.reduceSub, Nat.reduceLeDiff, Nat.reduceEqDiff, reduceCtorEq]
      exact WC.leave (hK k n h1 h2)
  · simp (contextual := true) (implicitDefEqProofs := false) only [K58, SS, Nat.reduceAdd, Nat.reduceSub, Nat.reduceLeDiff, Nat.reduceEqDiff, reduceCtorEq, hk]
    exact WC.leave (hK k n h1 h2)

theorem number_end (s : List Nat) (i f k : Nat) (n : Int) (m : Bool) (hs : s.length ≤ 2000) (hif : i ≤ f) (hf : f ≤ k) (hk : k ≤ s.length) (st : St) (hi : i < s.length) :
  WC (fun n' => exec (callF tbl n') n' ((ACode.blk 2 a58s46).seq (a58s51.seq (a58s53.seq ACode.ret))) [.str s, .int .i64 i, .box [.int .u8 0, .str [], .int .i64 0, .int .i64 0], .int .i64 0, .int .i64 0, .int .i64 0, .int .i64 k, .bool m, .int .i64 f, .int .i64 n] st)
    (fun o => ∃ r st', finK [ResK.bx 2 true 4, ResK.v 3, ResK.v 4, ResK.v 5] (some o) = some (r, st') ∧ st' = st ∧ OneOK s i r) := by
  simp (contextual := true) (implicitDefEqProofs := false) only [K58, SS, Nat.reduceAdd, Nat.reduceSub, Nat.reduceLeDiff, Nat.reduceEqDiff, reduceCtorEq]
  refine WC.br (fun h => ?_) (fun h => ?_)
  · simp (contextual := true) (implicitDefEqProofs := false) only [K58, SS, Nat.reduceAdd, Nat.reduceSub, Nat.reduceLeDiff, Nat.reduceEqDiff, reduceCtorEq]
    exact WC.ret ⟨_, _, rfl, rfl, OneOK.bad (en := 0) (by decide)⟩
  have hfk : f < k := by
    have : f ≠ k := fun e => by simp [e] at h
    omega
  have hfs : f < s.length := by omega
  have hb : s[f]? = some s[f] := List.getElem?_eq_getElem hfs
  revert hb
  generalize s[f] = b
  intro hb
  simp (contextual := true) (implicitDefEqProofs := false) only [K58, SS, Nat.reduceAdd, Nat.reduceSub, Nat.reduceLeDiff, Nat.reduceEqDiff, reduceCtorEq, hb, inc64 (show f + 1 < 2 ^ 63 by omega)]
  refine WC.br (fun h => ?_) (fun h => ?_)
  · simp (contextual := true) (implicitDefEqProofs := false) only [K58, SS, Nat.reduceAdd, Nat.reduceSub, Nat.reduceLeDiff, Nat.reduceEqDiff, reduceCtorEq, inc64 (show f + 1 < 2 ^ 63 by omega)]
    exact WC.ret ⟨_, _, rfl, rfl, OneOK.bad (en := 0) (by decide)⟩
  have fin : WC (fun n_1 => seqK (some (.normal, [.str s, .int .i64 i, .box [.int .u8 0, .str [], .int .i64 0, .int .i64 0], .int .i64 0, .int .i64 0, .int .i64 0, .int .i64 k, .bool m, .int .i64 f, .int .i64 n], st)) (exec (callF tbl n_1) n_1 (a58s51.seq (a58s53.seq ACode.ret)))) (fun o => ∃ r st', finK [ResK.bx 2 true 4, ResK.v 3, ResK.v 4, ResK.v 5] (some o) = some (r, st') ∧ st' = st ∧ OneOK s i r) := by
    simp (contextual := true) (implicitDefEqProofs := false) only [K58, SS, Nat.reduceAdd, Nat.reduceSub, Nat.reduceLeDiff, Nat.reduceEqDiff, reduceCtorEq]
    refine WC.br (fun h => ?_) (fun h => ?_)
    · simp (contextual := true) (implicitDefEqProofs := false) only [K58, SS, Nat.reduceAdd, Nat.reduceSub, Nat.reduceLeDiff, Nat.reduceEqDiff, reduceCtorEq, hk, show i ≤ k by omega]
      exact WC.ret ⟨_, _, rfl, rfl, OneOK.good (by decide) (by omega) hk⟩
    · simp (contextual := true) (implicitDefEqProofs := false) only [K58, SS, Nat.reduceAdd, Nat.reduceSub, Nat.reduceLeDiff, Nat.reduceEqDiff, reduceCtorEq, hk, show i ≤ k by omega]
      exact WC.ret ⟨_, _, rfl, rfl, OneOK.good (by decide) (by omega) hk⟩
  have tail : WC (fun n_1 => exec (callF tbl n_1) n_1 ((ACode.blk 2 a58s43).seq (a58s51.seq (a58s53.seq ACode.ret))) [.str s, .int .i64 i, .box [.int .u8 0, .str [], .int .i64 0, .int .i64 0], .int .i64 0, .int .i64 0, .int .i64 0, .int .i64 k, .bool m, .int .i64 f, .int .i64 n] st) (fun o => ∃ r st', finK [ResK.bx 2 true 4, ResK.v 3, ResK.v 4, ResK.v 5] (some o) = some (r, st') ∧ st' = st ∧ OneOK s i r) := by
    simp (contextual := true) (implicitDefEqProofs := false) only [K58, SS, Nat.reduceAdd, Nat.reduceSub, Nat.reduceLeDiff, Nat.reduceEqDiff, reduceCtorEq]
    refine WC.br (fun h => ?_) (fun h => ?_)
    · simp (contextual := true) (implicitDefEqProofs := false) only [K58, SS, Nat.reduceAdd, Nat.reduceSub, Nat.reduceLeDiff, Nat.reduceEqDiff, reduceCtorEq]
      exact WC.ret ⟨_, _, rfl, rfl, OneOK.bad (en := 0) (by decide)⟩
    · simp (contextual := true) (implicitDefEqProofs := false) only [K58, SS, Nat.reduceAdd, Nat.reduceSub, Nat.reduceLeDiff, Nat.reduceEqDiff, reduceCtorEq]
      simp (contextual := true) (implicitDefEqProofs := false) only [K58, SS, Nat.reduceAdd, Nat.reduceSub, Nat.reduceLeDiff, Nat.reduceEqDiff, reduceCtorEq] at fin
      exact fin
  simp (contextual := true) (implicitDefEqProofs := false) only [K58, SS, Nat.reduceAdd, Nat.reduceSub, Nat.reduceLeDiff, Nat.reduceEqDiff, reduceCtorEq]
  by_cases hks : k < s.length
  · have hb : s[k]? = some s[k] := List.getElem?_eq_getElem hks
    revert hb
    generalize s[k] = b
    intro hb
    simp (contextual := true) (implicitDefEqProofs := false) only [K58, SS, Nat.reduceAdd, Nat.reduceSub, Nat.reduceLeDiff, Nat.reduceEqDiff, reduceCtorEq, hks, hb]
    refine WC.call (letter_q _ _) rfl rfl ?_
    rintro _ _ ⟨rfl, rfl⟩
    simp (contextual := true) (implicitDefEqProofs := false) only [K58, SS, Nat.reduceAdd, Nat.reduceSub, Nat.reduceLeDiff, Nat.reduceEqDiff, reduceCtorEq, hks, hb]
    refine WC.br (fun h => ?_) (fun h => ?_)
    · simp (contextual := true) (implicitDefEqProofs := false) only [K58, SS, Nat.reduceAdd, Nat.reduceSub, Nat.reduceLeDiff, Nat.reduceEqDiff, reduceCtorEq]
      exact WC.ret ⟨_, _, rfl, rfl, OneOK.bad (en := 0) (by decide)⟩
    · simp (contextual := true) (implicitDefEqProofs := false) only [K58, SS, Nat.reduceAdd, Nat.reduceSub, Nat.reduceLeDiff, Nat.reduceEqDiff, reduceCtorEq]
      simp (contextual := true) (implicitDefEqProofs := false) only [K58, SS, Nat.reduceAdd, Nat.reduceSub, Nat.reduceLeDiff, Nat.reduceEqDiff, reduceCtorEq] at tail
      exact tail
  · simp (contextual := true) (implicitDefEqProofs := false) only [K58, SS, Nat.reduceAdd, Nat.reduceSub, Nat.reduceLeDiff, Nat.reduceEqDiff, reduceCtorEq, hks]
    simp (contextual := true) (implicitDefEqProofs := false) only [K58, SS, Nat.reduceAdd, Nat.reduceSub, Nat.reduceLeDiff, Nat.reduceEqDiff, reduceCtorEq] at tail
    exact tail
theorem number_q (s : List Nat) (i : Nat) (hs : s.length ≤ 2000) (hi : i < s.length) (st : St) : EvQ tbl 58 [.str s, .int .i64 i] st (fun a st' => st' = st ∧ OneOK s i a) := by
  have hb : s[i]? = some s[i] := List.getElem?_eq_getElem hi
  revert hb
  generalize s[i] = b
  intro hb
  refine EvQ.body (fn := a58) rfl rfl rfl ?_
  simp (contextual := true) (implicitDefEqProofs := false) only [K58, SS, Nat.reduceAdd, Nat.reduceSub, Nat.reduceLeDiff, Nat.reduceEqDiff, reduceCtorEq, hb]
  refine WC.br (fun h => ?_) (fun h => ?_)
  · simp (contextual := true) (implicitDefEqProofs := false) only [K58, SS, Nat.reduceAdd, Nat.reduceSub, Nat.reduceLeDiff, Nat.reduceEqDiff, reduceCtorEq, inc64 (show i + 1 < 2 ^ 63 by omega)]
    refine number_loop s i (i + 1) _ hs (by omega) hi st 0 fun k n h1 h2 => ?_
    have := number_end s i (i + 1) k n (eqI (b : Int) 45) hs (by omega) h1 h2 st hi
    simp (contextual := true) (implicitDefEqProofs := false) only [K58, SS, Nat.reduceAdd, Nat.reduceSub, Nat.reduceLeDiff, Nat.reduceEqDiff, reduceCtorEq] at this ⊢
    exact this
  · simp (contextual := true) (implicitDefEqProofs := false) only [K58, SS, Nat.reduceAdd, Nat.reduceSub, Nat.reduceLeDiff, Nat.reduceEqDiff, reduceCtorEq]
    refine number_loop s i i _ hs (by omega) (by omega) st 0 fun k n h1 h2 => ?_
    have := number_end s i i k n (eqI (b : Int) 45) hs (by omega) h1 h2 st hi
    simp (contextual := true) (implicitDefEqProofs := false) only [K58, SS, Nat.reduceAdd, Nat.reduceSub, Nat.reduceLeDiff, Nat.reduceEqDiff, reduceCtorEq] at this ⊢
    exact this

theorem slice1 (s : List Nat) (k : Nat) : ((s.take (k + 1)).drop k).length ≤ 1 := by simp; omega
theorem text_q (s : List Nat) (i : Nat) (hs : s.length ≤ 2000) (hi : i < s.length) (st : St) : EvQ tbl 59 [.str s, .int .i64 i] st (fun a st' => st' = st ∧ OneOK s i a) := by
  refine EvQ.body (fn := a59) rfl rfl rfl ?_
  simp (contextual := true) (implicitDefEqProofs := false) only [K59, SS, Nat.reduceAdd, Nat.reduceSub, Nat.reduceLeDiff, Nat.reduceEqDiff, reduceCtorEq, inc64 (show i + 1 < 2 ^ 63 by omega)]
  refine WC.loopR (fun mm fr st' => st' = st ∧ ∃ (t : List Nat) (k : Nat) (v8 v9 v10 : AV), i + 1 ≤ k ∧ k ≤ s.length ∧ t.length ≤ k ∧ mm = s.length - k ∧ fr = [.str s, .int .i64 i, .box [.int .u8 0, .str [], .int .i64 0, .int .i64 0], .int .i64 0, .int .i64 0, .int .i64 0, .str t, .int .i64 k, v8, v9, v10]) (m := s.length - (i + 1)) ⟨rfl, [], i + 1, _, _, _, Nat.le_refl _, hi, by simp, rfl, rfl⟩ ?_
  rintro mm fr st' ⟨rfl, t, k, v8, v9, v10, h1, h2, ht, rfl, rfl⟩
  simp (contextual := true) (implicitDefEqProofs := false) only [K59, SS, Nat.reduceAdd, Nat.reduceSub, Nat.reduceLeDiff, Nat.reduceEqDiff, reduceCtorEq]
  by_cases hk : k < s.length
  case neg =>
    simp (contextual := true) (implicitDefEqProofs := false) only [K59, SS, Nat.reduceAdd, Nat.reduceSub, Nat.reduceLeDiff, Nat.reduceEqDiff, reduceCtorEq, hk]
    refine WC.leave ?_
    simp (contextual := true) (implicitDefEqProofs := false) only [K59, SS, Nat.reduceAdd, Nat.reduceSub, Nat.reduceLeDiff, Nat.reduceEqDiff, reduceCtorEq]
    exact WC.ret ⟨_, _, rfl, rfl, OneOK.bad (en := 0) (by decide)⟩
  have hb : s[k]? = some s[k] := List.getElem?_eq_getElem hk
  revert hb
  generalize s[k] = b
  intro hb
  have i1 := inc64 (show k + 1 < 2 ^ 63 by omega)
  have i2 := inc64 (show k + 1 + 1 < 2 ^ 63 by omega)
  simp (contextual := true) (implicitDefEqProofs := false) only [K59, SS, Nat.reduceAdd, Nat.reduceSub, Nat.reduceLeDiff, Nat.reduceEqDiff, reduceCtorEq, hk, hb]
  refine WC.br (fun h => ?_) (fun h => ?_)
  · simp (contextual := true) (implicitDefEqProofs := false) only [K59, SS, Nat.reduceAdd, Nat.reduceSub, Nat.reduceLeDiff, Nat.reduceEqDiff, reduceCtorEq, i1]
    refine WC.br (fun h => ?_) (fun h => ?_)
    · simp (contextual := true) (implicitDefEqProofs := false) only [K59, SS, Nat.reduceAdd, Nat.reduceSub, Nat.reduceLeDiff, Nat.reduceEqDiff, reduceCtorEq]
      refine WC.leaveR ?_
      simp (contextual := true) (implicitDefEqProofs := false) only [K59, SS, Nat.reduceAdd, Nat.reduceSub, Nat.reduceLeDiff, Nat.reduceEqDiff, reduceCtorEq]
      exact WC.ret ⟨_, _, rfl, rfl, OneOK.bad (en := 0) (by decide)⟩
    · simp (contextual := true) (implicitDefEqProofs := false) only [K59, SS, Nat.reduceAdd, Nat.reduceSub, Nat.reduceLeDiff, Nat.reduceEqDiff, reduceCtorEq, i1]
      refine WC.leaveR ?_
      simp (contextual := true) (implicitDefEqProofs := false) only [K59, SS, Nat.reduceAdd, Nat.reduceSub, Nat.reduceLeDiff, Nat.reduceEqDiff, reduceCtorEq]
      exact WC.ret ⟨_, _, rfl, rfl, OneOK.good (by decide) (by omega) hk⟩
  simp (contextual := true) (implicitDefEqProofs := false) only [K59, SS, Nat.reduceAdd, Nat.reduceSub, Nat.reduceLeDiff, Nat.reduceEqDiff, reduceCtorEq]
  refine WC.br (fun h => ?_) (fun h => ?_)
  · simp (contextual := true) (implicitDefEqProofs := false) only [K59, SS, Nat.reduceAdd, Nat.reduceSub, Nat.reduceLeDiff, Nat.reduceEqDiff, reduceCtorEq]
    refine WC.leaveR ?_
    simp (contextual := true) (implicitDefEqProofs := false) only [K59, SS, Nat.reduceAdd, Nat.reduceSub, Nat.reduceLeDiff, Nat.reduceEqDiff, reduceCtorEq]
    exact WC.ret ⟨_, _, rfl, rfl, OneOK.bad (en := 0) (by decide)⟩
  simp (contextual := true) (implicitDefEqProofs := false) only [K59, SS, Nat.reduceAdd, Nat.reduceSub, Nat.reduceLeDiff, Nat.reduceEqDiff, reduceCtorEq]
  refine WC.br (fun h => ?_) (fun h => ?_)
  case refine_2 =>
    have l1 := slice1 s k
    have l2 : t.length + ((s.take (k + 1)).drop k).length ≤ 2 ^ 62 := by omega
    simp (contextual := true) (implicitDefEqProofs := false) only [K59, SS, Nat.reduceAdd, Nat.reduceSub, Nat.reduceLeDiff, Nat.reduceEqDiff, reduceCtorEq, i1, hk, show k + 1 ≤ s.length by omega, show k ≤ k + 1 by omega, l2]
    exact WC.next (m' := s.length - (k + 1)) (by omega) ⟨rfl, _, k + 1, _, _, _, by omega, hk, by simp only [List.length_append]; omega, rfl, rfl⟩
  simp (contextual := true) (implicitDefEqProofs := false) only [K59, SS, Nat.reduceAdd, Nat.reduceSub, Nat.reduceLeDiff, Nat.reduceEqDiff, reduceCtorEq, i1]
  by_cases hks : k + 1 = s.length
  · simp (contextual := true) (implicitDefEqProofs := false) only [K59, SS, Nat.reduceAdd, Nat.reduceSub, Nat.reduceLeDiff, Nat.reduceEqDiff, reduceCtorEq, hks]
    refine WC.leaveR ?_
    simp (contextual := true) (implicitDefEqProofs := false) only [K59, SS, Nat.reduceAdd, Nat.reduceSub, Nat.reduceLeDiff, Nat.reduceEqDiff, reduceCtorEq]
    exact WC.ret ⟨_, _, rfl, rfl, OneOK.bad (en := 0) (by decide)⟩
  have hk1 : k + 1 < s.length := by omega
  have hb1 : s[k + 1]? = some s[k + 1] := List.getElem?_eq_getElem hk1
  revert hb1
  generalize s[k + 1] = b1
  intro hb1
  have l3 : t.length + 1 ≤ 2 ^ 62 := by omega
  simp (contextual := true) (implicitDefEqProofs := false) only [K59, SS, Nat.reduceAdd, Nat.reduceSub, Nat.reduceLeDiff, Nat.reduceEqDiff, reduceCtorEq, hks, hb1]
  refine WC.br (fun h => ?_) (fun h => ?_)
  · simp (contextual := true) (implicitDefEqProofs := false) only [K59, SS, Nat.reduceAdd, Nat.reduceSub, Nat.reduceLeDiff, Nat.reduceEqDiff, reduceCtorEq, i2, l3]
    exact WC.next (m' := s.length - (k + 1 + 1)) (by omega) ⟨rfl, _, k + 1 + 1, _, _, _, by omega, hk1, by simp only [List.length_append, List.length_cons, List.length_nil]; omega, rfl, rfl⟩
  simp (contextual := true) (implicitDefEqProofs := false) only [K59, SS, Nat.reduceAdd, Nat.reduceSub, Nat.reduceLeDiff, Nat.reduceEqDiff, reduceCtorEq]
  refine WC.br (fun h => ?_) (fun h => ?_)
  · simp (contextual := true) (implicitDefEqProofs := false) only [K59, SS, Nat.reduceAdd, Nat.reduceSub, Nat.reduceLeDiff, Nat.reduceEqDiff, reduceCtorEq, i2, l3]
    exact WC.next (m' := s.length - (k + 1 + 1)) (by omega) ⟨rfl, _, k + 1 + 1, _, _, _, by omega, hk1, by simp only [List.length_append, List.length_cons, List.length_nil]; omega, rfl, rfl⟩
  have l1 := slice1 s (k + 1)
  have l2 : t.length + ((s.take (k + 1 + 1)).drop (k + 1)).length ≤ 2 ^ 62 := by omega
  simp (contextual := true) (implicitDefEqProofs := false) only [K59, SS, Nat.reduceAdd, Nat.reduceSub, Nat.reduceLeDiff, Nat.reduceEqDiff, reduceCtorEq]
  refine WC.br (fun h => ?_) (fun h => ?_)
  · simp (contextual := true) (implicitDefEqProofs := false) only [h, K59, SS, Nat.reduceAdd, Nat.reduceSub, Nat.reduceLeDiff, Nat.reduceEqDiff, reduceCtorEq, i2, show k + 1 + 1 ≤ s.length by omega, show k + 1 ≤ k + 1 + 1 by omega, l2]
    exact WC.next (m' := s.length - (k + 1 + 1)) (by omega) ⟨rfl, _, k + 1 + 1, _, _, _, by omega, hk1, by simp only [List.length_append]; omega, rfl, rfl⟩
  simp (contextual := true) (implicitDefEqProofs := false) only [K59, SS, Nat.reduceAdd, Nat.reduceSub, Nat.reduceLeDiff, Nat.reduceEqDiff, reduceCtorEq]
  refine WC.br (fun h => ?_) (fun h => ?_)
  · simp (contextual := true) (implicitDefEqProofs := false) only [h, K59, SS, Nat.reduceAdd, Nat.reduceSub, Nat.reduceLeDiff, Nat.reduceEqDiff, reduceCtorEq, i2, show k + 1 + 1 ≤ s.length by omega, show k + 1 ≤ k + 1 + 1 by omega, l2]
    exact WC.next (m' := s.length - (k + 1 + 1)) (by omega) ⟨rfl, _, k + 1 + 1, _, _, _, by omega, hk1, by simp only [List.length_append]; omega, rfl, rfl⟩
  simp (contextual := true) (implicitDefEqProofs := false) only [K59, SS, Nat.reduceAdd, Nat.reduceSub, Nat.reduceLeDiff, Nat.reduceEqDiff, reduceCtorEq]
  refine WC.br (fun h => ?_) (fun h => ?_)
  · simp (contextual := true) (implicitDefEqProofs := false) only [h, K59, SS, Nat.reduceAdd, Nat.reduceSub, Nat.reduceLeDiff, Nat.reduceEqDiff, reduceCtorEq, i2, show k + 1 + 1 ≤ s.length by omega, show k + 1 ≤ k + 1 + 1 by omega, l2]
    exact WC.next (m' := s.length - (k + 1 + 1)) (by omega) ⟨rfl, _, k + 1 + 1, _, _, _, by omega, hk1, by simp only [List.length_append]; omega, rfl, rfl⟩
  simp (contextual := true) (implicitDefEqProofs := false) only [K59, SS, Nat.reduceAdd, Nat.reduceSub, Nat.reduceLeDiff, Nat.reduceEqDiff, reduceCtorEq]
  refine WC.leaveR ?_
  simp (contextual := true) (implicitDefEqProofs := false) only [K59, SS, Nat.reduceAdd, Nat.reduceSub, Nat.reduceLeDiff, Nat.reduceEqDiff, reduceCtorEq]
  exact WC.ret ⟨_, _, rfl, rfl, OneOK.bad (en := 0) (by decide)⟩

theorem one_q (s : List Nat) (i : Nat) (hs : s.length ≤ 2000) (hi : i < s.length) (st0 : St) : EvQ tbl 40 [.str s, .int .i64 i] st0 (fun a st' => st' = st0 ∧ OneOK s i a) := by
  have hb : s[i]? = some s[i] := List.getElem?_eq_getElem hi
  revert hb
  generalize s[i] = b
  intro hb
  have i1 := inc64 (show i + 1 < 2 ^ 63 by omega)
  refine EvQ.body (fn := a40) rfl rfl rfl ?_
  simp (contextual := true) (implicitDefEqProofs := false) only [K40, SS, Nat.reduceAdd, Nat.reduceSub, Nat.reduceLeDiff, Nat.reduceEqDiff, reduceCtorEq, hb]
  refine WC.call (letter_q _ _) rfl rfl ?_
  rintro _ st ⟨rfl, rfl⟩
  simp (contextual := true) (implicitDefEqProofs := false) only [K40, SS, Nat.reduceAdd, Nat.reduceSub, Nat.reduceLeDiff, Nat.reduceEqDiff, reduceCtorEq]
  refine WC.br (fun hlet => ?_) (fun hlet => ?_)
  · simp (contextual := true) (implicitDefEqProofs := false) only [K40, SS, Nat.reduceAdd, Nat.reduceSub, Nat.reduceLeDiff, Nat.reduceEqDiff, reduceCtorEq]
    refine WC.loopR (fun mm fr st' => st' = st ∧ ∃ (k : Nat), i ≤ k ∧ k ≤ s.length ∧ mm = s.length - k ∧ fr = [.str s, .int .i64 i, .box [.int .u8 0, .str [], .int .i64 0, .int .i64 0], .int .i64 0, .int .i64 0, .int .i64 0, .int .u8 b, .int .i64 k]) (m := s.length - i) ⟨rfl, i, Nat.le_refl _, by omega, rfl, rfl⟩ ?_
    rintro mm fr st' ⟨rfl, k, h1, h2, rfl, rfl⟩
    have leave : i < k → WC (fun n => seqC (blkC 0 (seqC (blkC 1 some) (exec (callF tbl n) n (a40s19.seq (a40s21.seq ACode.ret))))) (exec (callF tbl n) n (a40s54.seq ACode.ret)) (Ex.exit 1, [.str s, .int .i64 i, .box [.int .u8 0, .str [], .int .i64 0, .int .i64 0], .int .i64 0, .int .i64 0, .int .i64 0, .int .u8 b, .int .i64 k], st')) (fun o => ∃ r st'', finK [ResK.bx 2 true 4, ResK.v 3, ResK.v 4, ResK.v 5] (some o) = some (r, st'') ∧ st'' = st' ∧ OneOK s i r) := by
      intro hik
      simp (contextual := true) (implicitDefEqProofs := false) only [K40, SS, Nat.reduceAdd, Nat.reduceSub, Nat.reduceLeDiff, Nat.reduceEqDiff, reduceCtorEq]
      refine WC.br (fun h => ?_) (fun h => ?_)
      · simp (contextual := true) (implicitDefEqProofs := false) only [K40, SS, Nat.reduceAdd, Nat.reduceSub, Nat.reduceLeDiff, Nat.reduceEqDiff, reduceCtorEq]
        exact WC.ret ⟨_, _, rfl, rfl, OneOK.bad (en := 0) (by decide)⟩
      · simp (contextual := true) (implicitDefEqProofs := false) only [K40, SS, Nat.reduceAdd, Nat.reduceSub, Nat.reduceLeDiff, Nat.reduceEqDiff, reduceCtorEq, h2, h1]
        exact WC.ret ⟨_, _, rfl, rfl, OneOK.good (by decide) hik h2⟩
    simp (contextual := true) (implicitDefEqProofs := false) only [K40, SS, Nat.reduceAdd, Nat.reduceSub, Nat.reduceLeDiff, Nat.reduceEqDiff, reduceCtorEq]
    by_cases hk : k < s.length
    case neg =>
      simp (contextual := true) (implicitDefEqProofs := false) only [K40, SS, Nat.reduceAdd, Nat.reduceSub, Nat.reduceLeDiff, Nat.reduceEqDiff, reduceCtorEq, hk]
      exact WC.leave (leave (by omega))
    have hbk : s[k]? = some s[k] := List.getElem?_eq_getElem hk
    revert hbk
    generalize s[k] = bk
    intro hbk
    have i2 := inc64 (show k + 1 < 2 ^ 63 by omega)
    simp (contextual := true) (implicitDefEqProofs := false) only [K40, SS, Nat.reduceAdd, Nat.reduceSub, Nat.reduceLeDiff, Nat.reduceEqDiff, reduceCtorEq, hk, hbk]
    refine WC.call (letter_q _ _) rfl rfl ?_
    rintro _ _ ⟨rfl, rfl⟩
    simp (contextual := true) (implicitDefEqProofs := false) only [K40, SS, Nat.reduceAdd, Nat.reduceSub, Nat.reduceLeDiff, Nat.reduceEqDiff, reduceCtorEq, hk, hbk]
    refine WC.g2 (fun h => ?_) (fun h => ?_)
    · simp (contextual := true) (implicitDefEqProofs := false) only [K40, SS, Nat.reduceAdd, Nat.reduceSub, Nat.reduceLeDiff, Nat.reduceEqDiff, reduceCtorEq, h, hk, hbk]
      refine WC.call (digit_q _ _) rfl rfl ?_
      rintro _ _ ⟨rfl, rfl⟩
      simp (contextual := true) (implicitDefEqProofs := false) only [K40, SS, Nat.reduceAdd, Nat.reduceSub, Nat.reduceLeDiff, Nat.reduceEqDiff, reduceCtorEq, h]
      refine WC.br (fun h' => ?_) (fun h' => ?_)
      · simp (contextual := true) (implicitDefEqProofs := false) only [K40, SS, Nat.reduceAdd, Nat.reduceSub, Nat.reduceLeDiff, Nat.reduceEqDiff, reduceCtorEq, i2]
        exact WC.next (m' := s.length - (k + 1)) (by omega) ⟨rfl, k + 1, by omega, hk, rfl, rfl⟩
      · simp (contextual := true) (implicitDefEqProofs := false) only [K40, SS, Nat.reduceAdd, Nat.reduceSub, Nat.reduceLeDiff, Nat.reduceEqDiff, reduceCtorEq]
        have hne : k ≠ i := by
          rintro rfl
          rw [hb] at hbk
          obtain rfl := Option.some.inj hbk
          rw [hlet] at h
          cases h
        exact WC.leave (leave (by omega))
    · simp (contextual := true) (implicitDefEqProofs := false) only [K40, SS, Nat.reduceAdd, Nat.reduceSub, Nat.reduceLeDiff, Nat.reduceEqDiff, reduceCtorEq, show letterB (bk : Int) = true from h, i2]
      exact WC.next (m' := s.length - (k + 1)) (by omega) ⟨rfl, k + 1, by omega, hk, rfl, rfl⟩
  · simp (contextual := true) (implicitDefEqProofs := false) only [K40, SS, Nat.reduceAdd, Nat.reduceSub, Nat.reduceLeDiff, Nat.reduceEqDiff, reduceCtorEq]
    have num : ∀ (hm : True), WC (fun n => exec (callF tbl n) n ((ACode.blk 0 a40s28).seq (a40s54.seq ACode.ret)) [.str s, .int .i64 i, .box [.int .u8 0, .str [], .int .i64 0, .int .i64 0], .int .i64 0, .int .i64 0, .int .i64 0, .int .u8 b, .int .i64 i] st) (fun o => ∃ r st'', finK [ResK.bx 2 true 4, ResK.v 3, ResK.v 4, ResK.v 5] (some o) = some (r, st'') ∧ st'' = st ∧ OneOK s i r) := by
      intro _
      simp (contextual := true) (implicitDefEqProofs := false) only [K40, SS, Nat.reduceAdd, Nat.reduceSub, Nat.reduceLeDiff, Nat.reduceEqDiff, reduceCtorEq]
      refine WC.call (number_q s i hs hi _) rfl rfl ?_
      rintro _ _ ⟨rfl, k, t, n, at', en, bad, e, rfl, hg⟩
      simp (contextual := true) (implicitDefEqProofs := false) only [K40, SS, Nat.reduceAdd, Nat.reduceSub, Nat.reduceLeDiff, Nat.reduceEqDiff, reduceCtorEq]
      exact WC.ret ⟨_, _, rfl, rfl, _, _, _, _, _, _, _, rfl, hg⟩
    refine WC.g2 (fun h => ?_) (fun h => ?_)
    rotate_left
    · have h : eqI (b : Int) 45 = true := h
      simp (contextual := true) (implicitDefEqProofs := false) only [K40, SS, Nat.reduceAdd, Nat.reduceSub, Nat.reduceLeDiff, Nat.reduceEqDiff, reduceCtorEq, h] at num ⊢
      exact num trivial
    simp (contextual := true) (implicitDefEqProofs := false) only [K40, SS, Nat.reduceAdd, Nat.reduceSub, Nat.reduceLeDiff, Nat.reduceEqDiff, reduceCtorEq, h]
    refine WC.call (digit_q _ _) rfl rfl ?_
    rintro _ _ ⟨rfl, rfl⟩
    simp (contextual := true) (implicitDefEqProofs := false) only [K40, SS, Nat.reduceAdd, Nat.reduceSub, Nat.reduceLeDiff, Nat.reduceEqDiff, reduceCtorEq, h]
    refine WC.br (fun hdig => ?_) (fun hdig => ?_)
    · simp (contextual := true) (implicitDefEqProofs := false) only [K40, SS, Nat.reduceAdd, Nat.reduceSub, Nat.reduceLeDiff, Nat.reduceEqDiff, reduceCtorEq] at num ⊢
      exact num trivial
    simp (contextual := true) (implicitDefEqProofs := false) only [K40, SS, Nat.reduceAdd, Nat.reduceSub, Nat.reduceLeDiff, Nat.reduceEqDiff, reduceCtorEq]
    refine WC.br (fun h => ?_) (fun h => ?_)
    · simp (contextual := true) (implicitDefEqProofs := false) only [K40, SS, Nat.reduceAdd, Nat.reduceSub, Nat.reduceLeDiff, Nat.reduceEqDiff, reduceCtorEq]
      refine WC.call (text_q s i hs hi _) rfl rfl ?_
      rintro _ _ ⟨rfl, k, t, n, at', en, bad, e, rfl, hg⟩
      simp (contextual := true) (implicitDefEqProofs := false) only [K40, SS, Nat.reduceAdd, Nat.reduceSub, Nat.reduceLeDiff, Nat.reduceEqDiff, reduceCtorEq]
      exact WC.ret ⟨_, _, rfl, rfl, _, _, _, _, _, _, _, rfl, hg⟩
    simp (contextual := true) (implicitDefEqProofs := false) only [K40, SS, Nat.reduceAdd, Nat.reduceSub, Nat.reduceLeDiff, Nat.reduceEqDiff, reduceCtorEq]
    refine WC.br (fun h => ?_) (fun h => ?_)
    · have e1 : wrapA .i64 (subI (s.length : Int) (i : Int)) = ((s.length - i : Nat) : Int) := by
        rw [subI_eq, wrap64 (by omega) (by omega)]; omega
      have e3 : wrapA .i64 (addI (i : Int) 2) = ((i + 2 : Nat) : Int) := by
        rw [addI_eq, wrap64 (by omega) (by omega)]; omega
      have e4 : wrapA .i64 (addI (i : Int) 3) = ((i + 3 : Nat) : Int) := by
        rw [addI_eq, wrap64 (by omega) (by omega)]; omega
      have e5 : ltI ((s.length - i : Nat) : Int) 3 = decide (s.length - i < 3) := ltN _ 3
      by_cases h3 : s.length - i < 3
      · simp (contextual := true) (implicitDefEqProofs := false) only [K40, SS, Nat.reduceAdd, Nat.reduceSub, Nat.reduceLeDiff, Nat.reduceEqDiff, reduceCtorEq, e1, e5, h3]
        exact WC.ret ⟨_, _, rfl, rfl, OneOK.bad (en := 0) (by decide)⟩
      have hb1 : s[i + 1]? = some s[i + 1] := List.getElem?_eq_getElem (by omega)
      have hb2 : s[i + 2]? = some s[i + 2] := List.getElem?_eq_getElem (by omega)
      revert hb1 hb2
      generalize s[i + 1] = b1
      generalize s[i + 2] = b2
      intro hb1 hb2
      simp (contextual := true) (implicitDefEqProofs := false) only [K40, SS, Nat.reduceAdd, Nat.reduceSub, Nat.reduceLeDiff, Nat.reduceEqDiff, reduceCtorEq, e1, e3, i1, e5, h3, hb1, hb2]
      refine WC.br (fun h => ?_) (fun h => ?_)
      · simp (contextual := true) (implicitDefEqProofs := false) only [K40, SS, Nat.reduceAdd, Nat.reduceSub, Nat.reduceLeDiff, Nat.reduceEqDiff, reduceCtorEq, e4]
        exact WC.ret ⟨_, _, rfl, rfl, OneOK.good (by decide) (by omega) (by omega)⟩
      · simp (contextual := true) (implicitDefEqProofs := false) only [K40, SS, Nat.reduceAdd, Nat.reduceSub, Nat.reduceLeDiff, Nat.reduceEqDiff, reduceCtorEq]
        exact WC.ret ⟨_, _, rfl, rfl, OneOK.bad (en := 0) (by decide)⟩
    simp (contextual := true) (implicitDefEqProofs := false) only [K40, SS, Nat.reduceAdd, Nat.reduceSub, Nat.reduceLeDiff, Nat.reduceEqDiff, reduceCtorEq]
    refine WC.br (fun h => ?_) (fun h => ?_)
    · simp (contextual := true) (implicitDefEqProofs := false) only [K40, SS, Nat.reduceAdd, Nat.reduceSub, Nat.reduceLeDiff, Nat.reduceEqDiff, reduceCtorEq, i1, show i + 1 ≤ s.length by omega, show i ≤ i + 1 by omega]
      exact WC.ret ⟨_, _, rfl, rfl, OneOK.good (by decide) (by omega) hi⟩
    · simp (contextual := true) (implicitDefEqProofs := false) only [K40, SS, Nat.reduceAdd, Nat.reduceSub, Nat.reduceLeDiff, Nat.reduceEqDiff, reduceCtorEq]
      exact WC.ret ⟨_, _, rfl, rfl, OneOK.bad (en := 0) (by decide)⟩
end Go.Cb.CodeA
set_option maxRecDepth 20000
set_option linter.unusedSimpArgs false
set_option linter.unusedVariables false
namespace Go.Cb.CodeA
open Go Go.Cb
attribute [local congr] obind_congr gv_congr2 gv2_congr brT_congr seqK_congr blkK_congr m1_congr gm_congr

structure Tok where
  k : Int
  t : List Nat
  n : Int
  a : Int
def Tok.row (t : Tok) : List AV := [.int .u8 t.k, .str t.t, .int .i64 t.n, .int .i64 t.a]
/-- tokens that end as they must -/
def TokL (L : List Tok) : Prop := ∃ L' a, L = L' ++ [⟨0, [], 0, a⟩] ∧ ∀ t ∈ L', t.k ≠ 0
def TokensOK (a : AV) : Prop := ∃ (L : List Tok) (at' e : Int), a = .tuple [.list false (L.map Tok.row), .int .i64 at', .int .i64 e] ∧ (e = 0 → TokL L ∧ L.length ≤ 2001)
theorem rowsTok (L : List Tok) : rowsOk 4 (L.map Tok.row) = true := rowsOk_all (by
  intro r hr
  obtain ⟨t, _, rfl⟩ := List.mem_map.1 hr
  rfl)

theorem tokens_q (s : List Nat) (st0 : St) : EvQ tbl 25 [.str s] st0 (fun a st' => st' = st0 ∧ TokensOK a) := by
  refine EvQ.body (fn := a25) rfl rfl rfl ?_
  have e0 : ltI 2000 (s.length : Int) = decide (2000 < s.length) := ltN 2000 _
  by_cases hs : 2000 < s.length
  · simp (contextual := true) (implicitDefEqProofs := false) only [K25, SS, Nat.reduceAdd, Nat.reduceSub, Nat.reduceLeDiff, Nat.reduceEqDiff, reduceCtorEq, e0, hs]
    exact WC.ret ⟨_, _, rfl, rfl, [], _, _, rfl, fun h => by cases h⟩
  simp (contextual := true) (implicitDefEqProofs := false) only [K25, SS, Nat.reduceAdd, Nat.reduceSub, Nat.reduceLeDiff, Nat.reduceEqDiff, reduceCtorEq, e0, hs]
  have hs : s.length ≤ 2000 := by omega
  refine WC.loopR (fun mm fr st' => st' = st0 ∧ ∃ (i : Nat) (L : List Tok) (v6 v7 v8 v9 v10 : AV), i ≤ s.length ∧ L.length ≤ i ∧ (∀ t ∈ L, t.k ≠ 0) ∧ mm = s.length - i ∧ fr = [.str s, .list true [], .int .i64 0, .int .i64 0, .list true (L.map Tok.row), .int .i64 i, v6, v7, v8, v9, v10]) (m := s.length) ⟨rfl, 0, [], _, _, _, _, _, Nat.zero_le _, Nat.le_refl _, by simp, rfl, rfl⟩ ?_
  rintro mm fr st ⟨rfl, i, L, v6, v7, v8, v9, v10, hi, hL, hk, rfl, rfl⟩
  simp (contextual := true) (implicitDefEqProofs := false) only [K25, SS, Nat.reduceAdd, Nat.reduceSub, Nat.reduceLeDiff, Nat.reduceEqDiff, reduceCtorEq]
  by_cases hil : i < s.length
  case neg =>
    simp (contextual := true) (implicitDefEqProofs := false) only [K25, SS, Nat.reduceAdd, Nat.reduceSub, Nat.reduceLeDiff, Nat.reduceEqDiff, reduceCtorEq, hil]
    refine WC.leave ?_
    simp (contextual := true) (implicitDefEqProofs := false) only [K25, SS, Nat.reduceAdd, Nat.reduceSub, Nat.reduceLeDiff, Nat.reduceEqDiff, reduceCtorEq, rowsTok, List.length_map, show (L.length + 1) * 40 ≤ 2 ^ 47 by omega]
    exact WC.ret ⟨_, _, rfl, rfl, L ++ [⟨0, [], 0, i⟩], 0, 0, by simp only [List.map_append]; rfl, fun _ => ⟨⟨L, i, rfl, hk⟩, by simp only [List.length_append, List.length_cons, List.length_nil]; omega⟩⟩
  have hb : s[i]? = some s[i] := List.getElem?_eq_getElem hil
  revert hb
  generalize s[i] = b
  intro hb
  have i1 := inc64 (show i + 1 < 2 ^ 63 by omega)
  simp (contextual := true) (implicitDefEqProofs := false) only [K25, SS, Nat.reduceAdd, Nat.reduceSub, Nat.reduceLeDiff, Nat.reduceEqDiff, reduceCtorEq, hil, hb]
  refine WC.br (fun h => ?_) (fun h => ?_)
  · simp (contextual := true) (implicitDefEqProofs := false) only [K25, SS, Nat.reduceAdd, Nat.reduceSub, Nat.reduceLeDiff, Nat.reduceEqDiff, reduceCtorEq, i1]
    exact WC.next (m' := s.length - (i + 1)) (by omega) ⟨rfl, i + 1, L, _, _, _, _, _, hil, by omega, hk, rfl, rfl⟩
  simp (contextual := true) (implicitDefEqProofs := false) only [K25, SS, Nat.reduceAdd, Nat.reduceSub, Nat.reduceLeDiff, Nat.reduceEqDiff, reduceCtorEq]
  refine WC.br (fun h => ?_) (fun h => ?_)
  · have hb35 : b = 35 := by rw [eqI_eq] at h; simp at h; omega
    simp (contextual := true) (implicitDefEqProofs := false) only [K25, SS, Nat.reduceAdd, Nat.reduceSub, Nat.reduceLeDiff, Nat.reduceEqDiff, reduceCtorEq]
    refine WC.loopR (fun mm fr st' => st' = st ∧ ∃ (j : Nat), i ≤ j ∧ j ≤ s.length ∧ mm = s.length - j ∧ fr = [.str s, .list true [], .int .i64 0, .int .i64 0, .list true (L.map Tok.row), .int .i64 j, .int .u8 b, v7, v8, v9, v10]) (m := s.length - i) ⟨rfl, i, Nat.le_refl _, hi, rfl, rfl⟩ ?_
    rintro mm fr st' ⟨rfl, j, h1, h2, rfl, rfl⟩
    simp (contextual := true) (implicitDefEqProofs := false) only [K25, SS, Nat.reduceAdd, Nat.reduceSub, Nat.reduceLeDiff, Nat.reduceEqDiff, reduceCtorEq]
    by_cases hj : j < s.length
    case neg =>
      simp (contextual := true) (implicitDefEqProofs := false) only [K25, SS, Nat.reduceAdd, Nat.reduceSub, Nat.reduceLeDiff, Nat.reduceEqDiff, reduceCtorEq, hj]
      refine WC.leave ?_
      simp (contextual := true) (implicitDefEqProofs := false) only [K25, SS, Nat.reduceAdd, Nat.reduceSub, Nat.reduceLeDiff, Nat.reduceEqDiff, reduceCtorEq]
      exact WC.next (m' := s.length - j) (by omega) ⟨rfl, j, L, _, _, _, _, _, h2, by omega, hk, rfl, rfl⟩
    have hbj : s[j]? = some s[j] := List.getElem?_eq_getElem hj
    revert hbj
    generalize s[j] = bj
    intro hbj
    simp (contextual := true) (implicitDefEqProofs := false) only [K25, SS, Nat.reduceAdd, Nat.reduceSub, Nat.reduceLeDiff, Nat.reduceEqDiff, reduceCtorEq, hj, hbj]
    refine WC.br (fun h' => ?_) (fun h' => ?_)
    · simp (contextual := true) (implicitDefEqProofs := false) only [K25, SS, Nat.reduceAdd, Nat.reduceSub, Nat.reduceLeDiff, Nat.reduceEqDiff, reduceCtorEq, inc64 (show j + 1 < 2 ^ 63 by omega)]
      exact WC.next (m' := s.length - (j + 1)) (by omega) ⟨rfl, j + 1, by omega, hj, rfl, rfl⟩
    · have hne : i ≠ j := by
        rintro rfl
        rw [hb] at hbj
        obtain rfl := Option.some.inj hbj
        subst hb35
        cases h'
      simp (contextual := true) (implicitDefEqProofs := false) only [K25, SS, Nat.reduceAdd, Nat.reduceSub, Nat.reduceLeDiff, Nat.reduceEqDiff, reduceCtorEq]
      refine WC.leave ?_
      simp (contextual := true) (implicitDefEqProofs := false) only [K25, SS, Nat.reduceAdd, Nat.reduceSub, Nat.reduceLeDiff, Nat.reduceEqDiff, reduceCtorEq]
      exact WC.next (m' := s.length - j) (by omega) ⟨rfl, j, L, _, _, _, _, _, h2, by omega, hk, rfl, rfl⟩
  · simp (contextual := true) (implicitDefEqProofs := false) only [K25, SS, Nat.reduceAdd, Nat.reduceSub, Nat.reduceLeDiff, Nat.reduceEqDiff, reduceCtorEq]
    refine WC.call (one_q s i hs hil _) rfl rfl ?_
    rintro _ _ ⟨rfl, k, t, n, at', en, bad, e, rfl, hg⟩
    simp (contextual := true) (implicitDefEqProofs := false) only [K25, SS, Nat.reduceAdd, Nat.reduceSub, Nat.reduceLeDiff, Nat.reduceEqDiff, reduceCtorEq]
    refine WC.br (fun he => ?_) (fun he => ?_)
    · simp (contextual := true) (implicitDefEqProofs := false) only [K25, SS, Nat.reduceAdd, Nat.reduceSub, Nat.reduceLeDiff, Nat.reduceEqDiff, reduceCtorEq]
      refine WC.leaveR ?_
      simp (contextual := true) (implicitDefEqProofs := false) only [K25, SS, Nat.reduceAdd, Nat.reduceSub, Nat.reduceLeDiff, Nat.reduceEqDiff, reduceCtorEq]
      refine WC.ret ⟨_, _, rfl, rfl, [], _, _, rfl, fun h => ?_⟩
      subst h
      cases he
    · have he : e = 0 := by rw [eqI_eq] at he; simpa using he
      obtain ⟨hk0, h1, h2⟩ := hg he
      simp (contextual := true) (implicitDefEqProofs := false) only [K25, SS, Nat.reduceAdd, Nat.reduceSub, Nat.reduceLeDiff, Nat.reduceEqDiff, reduceCtorEq, rowsTok, List.length_map, show (L.length + 1) * 40 ≤ 2 ^ 47 by omega]
      exact WC.next (m' := s.length - en) (by omega) ⟨rfl, en, L ++ [⟨k, t, n, i⟩], _, _, _, _, _, h2, by simp only [List.length_append, List.length_cons, List.length_nil]; omega, fun t' ht => by
        rcases List.mem_append.1 ht with h | h
        · exact hk _ h
        · simp at h; subst h; exact hk0, rfl, by simp only [List.map_append]; rfl⟩
end Go.Cb.CodeA
set_option maxRecDepth 20000
set_option linter.unusedSimpArgs false
set_option linter.unusedVariables false
namespace Go.Cb.CodeA
open Go Go.Cb
attribute [local congr] obind_congr gv_congr2 gv2_congr brT_congr seqK_congr blkK_congr m1_congr gm_congr

/-- the reader's object -/
def rdC (L : List Tok) (i : Nat) (d bad e : Int) : List AV := [.list false (L.map Tok.row), .int .i64 i, .int .i64 d, .int .i64 bad, .int .i64 e]
structure Rd (L : List Tok) (o : Nat) (st : St) (i : Nat) (d e : Int) : Prop where
  hL : TokL L ∧ L.length ≤ 2001
  hi : i < L.length
  ob : ∃ bad, st[o]? = some (.cells (rdC L i d bad e))
theorem set_get {st : St} {o : Nat} {x y : Obj} (h : st[o]? = some x) : (st.set o y)[o]? = some y := by
  rw [List.getElem?_set_self]
  exact (List.getElem?_eq_some_iff.1 h).1
theorem tok_row {L : List Tok} {i : Nat} (h : i < L.length) : (L.map Tok.row)[i]? = some (Tok.row L[i]) := by
  rw [List.getElem?_map, List.getElem?_eq_getElem h]; rfl
/-- behind a token that isn't the end there is one -/
theorem tokL_next {L : List Tok} (hL : TokL L) {i : Nat} (hi : i < L.length) (hk : (L[i]).k ≠ 0) : i + 1 < L.length := by
  obtain ⟨L', a, rfl, h⟩ := hL
  rw [List.length_append, List.length_cons, List.length_nil] at hi ⊢
  by_cases e : i = L'.length
  · subst e
    simp at hk
  · omega
theorem Rd.put {L : List Tok} {o : Nat} {st : St} {i : Nat} {d e : Int} (h : Rd L o st i d e) {j : Nat} {d' bad' e' : Int} (hj : j < L.length) : Rd L o (st.set o (.cells (rdC L j d' bad' e'))) j d' e' := by
  obtain ⟨bad, ho⟩ := h.ob
  exact ⟨h.hL, hj, bad', set_get ho⟩

theorem sign_q {L : List Tok} {o : Nat} {st : St} {i : Nat} {d e : Int} (h : Rd L o st i d e) (s : List Nat) : EvQ tbl 60 [.ptr o 0, .str s] st (fun a st' => st' = st ∧ ∃ b, a = .bool b ∧ (b = true → e = 0 ∧ (L[i]'h.hi).k = 4)) := by
  obtain ⟨bad, ho⟩ := h.ob
  have ht := tok_row h.hi
  refine EvQ.body (fn := a60) rfl rfl rfl ?_
  simp (contextual := true) (implicitDefEqProofs := false) only [K60, SS, Nat.reduceAdd, Nat.reduceSub, Nat.reduceLeDiff, Nat.reduceEqDiff, reduceCtorEq, ho, ht, rdC, Tok.row]
  refine WC.ret ⟨_, _, rfl, rfl, _, rfl, fun hb => ?_⟩
  simp [eqI_eq] at hb
  exact hb.1
theorem word_q {L : List Tok} {o : Nat} {st : St} {i : Nat} {d e : Int} (h : Rd L o st i d e) (s : List Nat) : EvQ tbl 41 [.ptr o 0, .str s] st (fun a st' => st' = st ∧ ∃ b, a = .bool b ∧ (b = true → e = 0 ∧ (L[i]'h.hi).k = 1)) := by
  obtain ⟨bad, ho⟩ := h.ob
  have ht := tok_row h.hi
  refine EvQ.body (fn := a41) rfl rfl rfl ?_
  simp (contextual := true) (implicitDefEqProofs := false) only [K41, SS, Nat.reduceAdd, Nat.reduceSub, Nat.reduceLeDiff, Nat.reduceEqDiff, reduceCtorEq, ho, ht, rdC, Tok.row]
  refine WC.ret ⟨_, _, rfl, rfl, _, rfl, fun hb => ?_⟩
  simp [eqI_eq] at hb
  exact hb.1
theorem kind_q {L : List Tok} {o : Nat} {st : St} {i : Nat} {d e : Int} (h : Rd L o st i d e) (k : Int) : EvQ tbl 26 [.ptr o 0, .int .u8 k] st (fun a st' => st' = st ∧ ∃ b, a = .bool b ∧ (b = true ↔ e = 0 ∧ (L[i]'h.hi).k = k)) := by
  obtain ⟨bad, ho⟩ := h.ob
  have ht := tok_row h.hi
  refine EvQ.body (fn := a26) rfl rfl rfl ?_
  simp (contextual := true) (implicitDefEqProofs := false) only [K26, SS, Nat.reduceAdd, Nat.reduceSub, Nat.reduceLeDiff, Nat.reduceEqDiff, reduceCtorEq, ho, ht, rdC, Tok.row]
  refine WC.ret ⟨_, _, rfl, rfl, _, rfl, ?_⟩
  simp [eqI_eq]
theorem fault_q {L : List Tok} {o : Nat} {st : St} {i : Nat} {d e : Int} (h : Rd L o st i d e) (k : Int) (hk : k ≠ 0) : EvQ tbl 42 [.ptr o 0, .int .i64 k] st (fun a st' => ∃ e', Rd L o st' i d e' ∧ e' ≠ 0) := by
  obtain ⟨bad, ho⟩ := h.ob
  have ht := tok_row h.hi
  refine EvQ.body (fn := a42) rfl rfl rfl ?_
  simp (contextual := true) (implicitDefEqProofs := false) only [K42, SS, Nat.reduceAdd, Nat.reduceSub, Nat.reduceLeDiff, Nat.reduceEqDiff, reduceCtorEq, ho, ht, rdC, Tok.row]
  have hs : ∀ y : Obj, (st.set o y)[o]? = some y := fun y => set_get ho
  refine WC.br (fun he => ?_) (fun he => ?_)
  · simp (contextual := true) (implicitDefEqProofs := false) only [K42, SS, Nat.reduceAdd, Nat.reduceSub, Nat.reduceLeDiff, Nat.reduceEqDiff, reduceCtorEq, ho, ht, rdC, Tok.row, hs, List.set_set]
    exact WC.ret ⟨_, _, rfl, k, h.put h.hi, hk⟩
  · simp (contextual := true) (implicitDefEqProofs := false) only [K42, SS, Nat.reduceAdd, Nat.reduceSub, Nat.reduceLeDiff, Nat.reduceEqDiff, reduceCtorEq]
    exact WC.ret ⟨_, _, rfl, e, h, by rw [eqI_eq] at he; simpa using he⟩
/-- one step on: behind it nothing is there, or it stands further on -/
def Adv (L : List Tok) (o i : Nat) (d e : Int) (st' : St) : Prop := ∃ i' e', Rd L o st' i' d e' ∧ i ≤ i' ∧ (e' = 0 → e = 0 ∧ i < i')
theorem eat_q {L : List Tok} {o : Nat} {st : St} {i : Nat} {d e : Int} (h : Rd L o st i d e) (s : List Nat) : EvQ tbl 46 [.ptr o 0, .str s] st (fun a st' => (a = .bool false ∧ st' = st) ∨ (a = .bool true ∧ e = 0 ∧ Rd L o st' (i + 1) d 0)) := by
  obtain ⟨bad, ho⟩ := h.ob
  have hs : ∀ y : Obj, (st.set o y)[o]? = some y := fun y => set_get ho
  have hl := h.hL.2
  have hi := h.hi
  have i1 := inc64 (show i + 1 < 2 ^ 63 by omega)
  refine EvQ.body (fn := a46) rfl rfl rfl ?_
  simp (contextual := true) (implicitDefEqProofs := false) only [K46, SS, Nat.reduceAdd, Nat.reduceSub, Nat.reduceLeDiff, Nat.reduceEqDiff, reduceCtorEq]
  refine WC.call (sign_q h s) rfl rfl ?_
  rintro _ _ ⟨rfl, b, rfl, hb⟩
  simp (contextual := true) (implicitDefEqProofs := false) only [K46, SS, Nat.reduceAdd, Nat.reduceSub, Nat.reduceLeDiff, Nat.reduceEqDiff, reduceCtorEq]
  refine WC.g2 (fun hf => ?_) (fun hf => ?_)
  · subst hf
    simp (contextual := true) (implicitDefEqProofs := false) only [K46, SS, Nat.reduceAdd, Nat.reduceSub, Nat.reduceLeDiff, Nat.reduceEqDiff, reduceCtorEq]
    refine WC.call (word_q h s) rfl rfl ?_
    rintro _ _ ⟨rfl, b, rfl, hb⟩
    simp (contextual := true) (implicitDefEqProofs := false) only [K46, SS, Nat.reduceAdd, Nat.reduceSub, Nat.reduceLeDiff, Nat.reduceEqDiff, reduceCtorEq]
    refine WC.br (fun hf => ?_) (fun hf => ?_)
    · obtain ⟨h1, h2⟩ := hb hf
      subst h1
      simp (contextual := true) (implicitDefEqProofs := false) only [K46, SS, Nat.reduceAdd, Nat.reduceSub, Nat.reduceLeDiff, Nat.reduceEqDiff, reduceCtorEq, ho, rdC, hs, i1]
      exact WC.ret ⟨_, _, rfl, Or.inr ⟨rfl, h.put (tokL_next h.hL.1 h.hi (by rw [h2]; decide))⟩⟩
    · simp (contextual := true) (implicitDefEqProofs := false) only [K46, SS, Nat.reduceAdd, Nat.reduceSub, Nat.reduceLeDiff, Nat.reduceEqDiff, reduceCtorEq]
      exact WC.ret ⟨_, _, rfl, Or.inl ⟨rfl, rfl⟩⟩
  · subst hf
    obtain ⟨h1, h2⟩ := hb rfl
    subst h1
    simp (contextual := true) (implicitDefEqProofs := false) only [K46, SS, Nat.reduceAdd, Nat.reduceSub, Nat.reduceLeDiff, Nat.reduceEqDiff, reduceCtorEq, ho, rdC, hs, i1]
    exact WC.ret ⟨_, _, rfl, Or.inr ⟨rfl, h.put (tokL_next h.hL.1 h.hi (by rw [h2]; decide))⟩⟩
theorem must_q {L : List Tok} {o : Nat} {st : St} {i : Nat} {d e : Int} (h : Rd L o st i d e) (s : List Nat) : EvQ tbl 44 [.ptr o 0, .str s] st (fun a st' => Adv L o i d e st') := by
  obtain ⟨bad, ho⟩ := h.ob
  refine EvQ.body (fn := a44) rfl rfl rfl ?_
  simp (contextual := true) (implicitDefEqProofs := false) only [K44, SS, Nat.reduceAdd, Nat.reduceSub, Nat.reduceLeDiff, Nat.reduceEqDiff, reduceCtorEq, ho, rdC]
  refine WC.g2 (fun hf => ?_) (fun hf => ?_)
  · simp (contextual := true) (implicitDefEqProofs := false) only [K44, SS, Nat.reduceAdd, Nat.reduceSub, Nat.reduceLeDiff, Nat.reduceEqDiff, reduceCtorEq, hf]
    refine WC.call (eat_q h s) rfl rfl ?_
    rintro a st' (⟨rfl, rfl⟩ | ⟨rfl, rfl, hr⟩)
    · simp (contextual := true) (implicitDefEqProofs := false) only [K44, SS, Nat.reduceAdd, Nat.reduceSub, Nat.reduceLeDiff, Nat.reduceEqDiff, reduceCtorEq, hf]
      refine WC.call (fault_q h 4 (by decide)) rfl rfl ?_
      rintro a st' ⟨e', hr, he'⟩
      simp (contextual := true) (implicitDefEqProofs := false) only [K44, SS, Nat.reduceAdd, Nat.reduceSub, Nat.reduceLeDiff, Nat.reduceEqDiff, reduceCtorEq, hf]
      exact WC.ret ⟨_, _, rfl, i, e', hr, Nat.le_refl _, fun h => absurd h he'⟩
    · simp (contextual := true) (implicitDefEqProofs := false) only [K44, SS, Nat.reduceAdd, Nat.reduceSub, Nat.reduceLeDiff, Nat.reduceEqDiff, reduceCtorEq, hf]
      exact WC.ret ⟨_, _, rfl, i + 1, 0, hr, by omega, fun _ => ⟨rfl, by omega⟩⟩
  · have he : e ≠ 0 := by rw [eqI_eq] at hf; simpa using hf
    simp (contextual := true) (implicitDefEqProofs := false) only [K44, SS, Nat.reduceAdd, Nat.reduceSub, Nat.reduceLeDiff, Nat.reduceEqDiff, reduceCtorEq, show eqI e 0 = false from hf]
    exact WC.ret ⟨_, _, rfl, i, e, h, Nat.le_refl _, fun h => absurd h he⟩
theorem name_q {L : List Tok} {o : Nat} {st : St} {i : Nat} {d e : Int} (h : Rd L o st i d e) : EvQ tbl 43 [.ptr o 0] st (fun a st' => (∃ t, a = .str t) ∧ Adv L o i d e st') := by
  obtain ⟨bad, ho⟩ := h.ob
  have hs : ∀ y : Obj, (st.set o y)[o]? = some y := fun y => set_get ho
  have hl := h.hL.2
  have hi := h.hi
  have ht := tok_row h.hi
  have i1 := inc64 (show i + 1 < 2 ^ 63 by omega)
  have i2 : wrapA .i64 (subI ((i + 1 : Nat) : Int) 1) = (i : Int) := by rw [subI_eq, wrap64 (by omega) (by omega)]; omega
  refine EvQ.body (fn := a43) rfl rfl rfl ?_
  simp (contextual := true) (implicitDefEqProofs := false) only [K43, SS, Nat.reduceAdd, Nat.reduceSub, Nat.reduceLeDiff, Nat.reduceEqDiff, reduceCtorEq]
  refine WC.call (kind_q h 1) rfl rfl ?_
  rintro _ _ ⟨rfl, b, rfl, hb⟩
  simp (contextual := true) (implicitDefEqProofs := false) only [K43, SS, Nat.reduceAdd, Nat.reduceSub, Nat.reduceLeDiff, Nat.reduceEqDiff, reduceCtorEq]
  refine WC.br (fun hf => ?_) (fun hf => ?_)
  · simp (contextual := true) (implicitDefEqProofs := false) only [K43, SS, Nat.reduceAdd, Nat.reduceSub, Nat.reduceLeDiff, Nat.reduceEqDiff, reduceCtorEq]
    refine WC.call (fault_q h 4 (by decide)) rfl rfl ?_
    rintro a st' ⟨e', hr, he'⟩
    simp (contextual := true) (implicitDefEqProofs := false) only [K43, SS, Nat.reduceAdd, Nat.reduceSub, Nat.reduceLeDiff, Nat.reduceEqDiff, reduceCtorEq]
    exact WC.ret ⟨_, _, rfl, ⟨_, rfl⟩, i, e', hr, Nat.le_refl _, fun h => absurd h he'⟩
  · obtain ⟨he, hk⟩ := hb.1 (by simpa using hf)
    simp (contextual := true) (implicitDefEqProofs := false) only [K43, SS, Nat.reduceAdd, Nat.reduceSub, Nat.reduceLeDiff, Nat.reduceEqDiff, reduceCtorEq, ho, rdC, hs, i1, i2, ht, Tok.row]
    subst he
    exact WC.ret ⟨_, _, rfl, ⟨_, rfl⟩, i + 1, 0, h.put (tokL_next h.hL.1 h.hi (by rw [hk]; decide)), by omega, fun _ => ⟨rfl, by omega⟩⟩
theorem open_q {L : List Tok} {o : Nat} {st : St} {i : Nat} {d e : Int} (h : Rd L o st i d e) (hd : 0 ≤ d) (hd2 : d ≤ 24) : EvQ tbl 62 [.ptr o 0] st (fun a st' => ∃ e', a = .bool (eqI e' 0) ∧ Rd L o st' i (d + 1) e' ∧ (e' = 0 → e = 0 ∧ d + 1 ≤ 24)) := by
  obtain ⟨bad, ho⟩ := h.ob
  have hs : ∀ y : Obj, (st.set o y)[o]? = some y := fun y => set_get ho
  have d1 : wrapA .i64 (addI d 1) = d + 1 := by rw [addI_eq, wrap64 (by omega) (by omega)]
  refine EvQ.body (fn := a62) rfl rfl rfl ?_
  simp (contextual := true) (implicitDefEqProofs := false) only [K62, SS, Nat.reduceAdd, Nat.reduceSub, Nat.reduceLeDiff, Nat.reduceEqDiff, reduceCtorEq, ho, rdC, hs, d1]
  refine WC.br (fun hf => ?_) (fun hf => ?_)
  · simp (contextual := true) (implicitDefEqProofs := false) only [K62, SS, Nat.reduceAdd, Nat.reduceSub, Nat.reduceLeDiff, Nat.reduceEqDiff, reduceCtorEq]
    refine WC.call (fault_q (h.put (d' := d + 1) (bad' := bad) (e' := e) h.hi) 5 (by decide)) rfl rfl ?_
    rintro a st' ⟨e', hr, he'⟩
    obtain ⟨bad', ho'⟩ := hr.ob
    simp (contextual := true) (implicitDefEqProofs := false) only [K62, SS, Nat.reduceAdd, Nat.reduceSub, Nat.reduceLeDiff, Nat.reduceEqDiff, reduceCtorEq, ho', rdC]
    exact WC.ret ⟨_, _, rfl, e', rfl, hr, fun h => absurd h he'⟩
  · simp (contextual := true) (implicitDefEqProofs := false) only [K62, SS, Nat.reduceAdd, Nat.reduceSub, Nat.reduceLeDiff, Nat.reduceEqDiff, reduceCtorEq, ho, rdC, hs, d1]
    rw [ltI_eq] at hf
    have hf : ¬ 24 < d + 1 := by simpa using hf
    exact WC.ret ⟨_, _, rfl, e, rfl, h.put h.hi, fun h => ⟨h, by omega⟩⟩

/-- what a loop over the reader counts down -/
def rem (L : List Tok) (i : Nat) (e : Int) : Nat := if e = 0 then L.length - i else 0
theorem rem_zero (L : List Tok) (i : Nat) : rem L i 0 = L.length - i := if_pos rfl
theorem rem_lt {L : List Tok} {i i' : Nat} {e e' : Int} (he : e = 0) (hi : i < L.length) (h : e' = 0 → i < i') : rem L i' e' < rem L i e := by
  subst he
  unfold rem
  rw [if_pos rfl]
  split
  · rename_i h0; have := h h0; omega
  · omega
theorem rem_le (L : List Tok) (i : Nat) (e : Int) : rem L i e ≤ L.length := by unfold rem; split <;> omega

/-- what is asked of a round of a loop -/
abbrev LQ {β : Type} (I : Nat → List AV → St → Prop) (mm : Nat) (K : Nat → Out → Option β) (Q : β → Prop) : Out → Prop := fun o => (∃ m' fr' st', o = (Ex.normal, fr', st') ∧ m' < mm ∧ I m' fr' st') ∨ (o.1 ≠ Ex.normal ∧ WC (fun n => K n o) Q)
end Go.Cb.CodeA
set_option maxRecDepth 20000
set_option linter.unusedSimpArgs false
set_option linter.unusedVariables false
namespace Go.Cb.CodeA
open Go Go.Cb
attribute [local congr] obind_congr gv_congr2 gv2_congr brT_congr seqK_congr blkK_congr m1_congr gm_congr

/-- a type as it is named -/
inductive TRef where
  | base (n : List Nat) (b : Bool)
  | wrap (t : TRef) (b : Bool)
def TRef.row : TRef → List AV
  | .base n b => [.str n, .list false [], .bool b]
  | .wrap t b => [.str [], .list false [t.row], .bool b]
theorem TRef.row_cells (t : TRef) : ∃ n xs b, t.row = [.str n, .list false xs, .bool b] := by cases t <;> exact ⟨_, _, _, rfl⟩
theorem dec64 {d : Int} (h1 : 0 ≤ d) (h2 : d ≤ 100) : wrapA .i64 (subI (d + 1) 1) = d := by rw [subI_eq, wrap64 (by omega) (by omega)]; omega

theorem type_q (L : List Tok) (o : Nat) : ∀ (m : Nat) {st : St} {i : Nat} {d e : Int}, Rd L o st i d e → L.length - i ≤ m → 0 ≤ d → d ≤ 24 →
    EvQ tbl 48 [.ptr o 0] st (fun a st' => (∃ t : TRef, a = .agg t.row) ∧ Adv L o i d e st') := by
  intro m
  induction m with
  | zero => intro st i d e h hm; exact absurd h.hi (by omega)
  | succ m ih =>
    intro st i d e h hm hd hd2
    -- the end: one thing less is open
    have fin : ∀ (t : TRef) (tn : List Nat) (w : Bool) (xs : List (List AV)) (tb : Bool) (v3 : AV) (st1 : St) (i1 : Nat) (e1 : Int), t.row = [.str tn, .list false xs, .bool tb] → Rd L o st1 i1 (d + 1) e1 → i ≤ i1 → (e1 = 0 → e = 0 ∧ i < i1) →
        WC (fun n => exec (callF tbl n) n (a48s22.seq (a48s24.seq ACode.ret)) [.ptr o 0, .box [.str [], .list true [], .bool false], .box [.str tn, .list w xs, .bool tb], v3] st1)
          (fun o_1 => ∃ r st', finK [ResK.bx 1 true 3] (some o_1) = some (r, st') ∧ (∃ t : TRef, r = .agg t.row) ∧ Adv L o i d e st') := by
      intro t tn w xs tb v3 st1 i1 e1 etr h1 hi1 he1
      obtain ⟨bad, ho⟩ := h1.ob
      have hs : ∀ y : Obj, (st1.set o y)[o]? = some y := fun y => set_get ho
      simp (contextual := true) (implicitDefEqProofs := false) only [K48, SS, Nat.reduceAdd, Nat.reduceSub, Nat.reduceLeDiff, Nat.reduceEqDiff, reduceCtorEq, ho, rdC, hs, dec64 hd (show d ≤ 100 by omega)]
      refine WC.ret ⟨_, _, rfl, ⟨t, ?_⟩, i1, e1, h1.put h1.hi, hi1, he1⟩
      rw [etr]
      rfl
    refine EvQ.body (fn := a48) rfl rfl rfl ?_
    simp (contextual := true) (implicitDefEqProofs := false) only [K48, SS, Nat.reduceAdd, Nat.reduceSub, Nat.reduceLeDiff, Nat.reduceEqDiff, reduceCtorEq]
    refine WC.call (open_q h hd hd2) rfl rfl ?_
    rintro _ st1 ⟨e1, rfl, h1, he1⟩
    simp (contextual := true) (implicitDefEqProofs := false) only [K48, SS, Nat.reduceAdd, Nat.reduceSub, Nat.reduceLeDiff, Nat.reduceEqDiff, reduceCtorEq]
    refine WC.br (fun hf => ?_) (fun hf => ?_)
    rotate_left
    · have he : e1 ≠ 0 := by rw [eqI_eq] at hf; simpa using hf
      have := fin (.base [] false) [] true [] false .undef st1 i e1 rfl h1 (Nat.le_refl _) (fun h => absurd h he)
      simp (contextual := true) (implicitDefEqProofs := false) only [K48, SS, Nat.reduceAdd, Nat.reduceSub, Nat.reduceLeDiff, Nat.reduceEqDiff, reduceCtorEq, TRef.row] at this ⊢
      exact this
    · have he : e1 = 0 := by rw [eqI_eq] at hf; simpa using hf
      subst he
      obtain ⟨rfl, hd3⟩ := he1 rfl
      simp (contextual := true) (implicitDefEqProofs := false) only [K48, SS, Nat.reduceAdd, Nat.reduceSub, Nat.reduceLeDiff, Nat.reduceEqDiff, reduceCtorEq]
      refine WC.call (eat_q h1 _) rfl rfl ?_
      rintro _ st2 (⟨rfl, rfl⟩ | ⟨rfl, _, h2⟩)
      · simp (contextual := true) (implicitDefEqProofs := false) only [K48, SS, Nat.reduceAdd, Nat.reduceSub, Nat.reduceLeDiff, Nat.reduceEqDiff, reduceCtorEq]
        refine WC.call (name_q h1) rfl rfl ?_
        rintro _ st3 ⟨⟨t, rfl⟩, i3, e3, h3, h3a, h3b⟩
        simp (contextual := true) (implicitDefEqProofs := false) only [K48, SS, Nat.reduceAdd, Nat.reduceSub, Nat.reduceLeDiff, Nat.reduceEqDiff, reduceCtorEq]
        refine WC.call (eat_q h3 _) rfl rfl ?_
        rintro _ st4 (⟨rfl, rfl⟩ | ⟨rfl, rfl, h4⟩)
        · have := fin (.base t false) t true [] false .undef _ i3 e3 rfl h3 h3a h3b
          simp (contextual := true) (implicitDefEqProofs := false) only [K48, SS, Nat.reduceAdd, Nat.reduceSub, Nat.reduceLeDiff, Nat.reduceEqDiff, reduceCtorEq] at this ⊢
          exact this
        · have := fin (.base t true) t true [] true .undef _ (i3 + 1) 0 rfl h4 (by omega) (fun _ => ⟨rfl, by omega⟩)
          simp (contextual := true) (implicitDefEqProofs := false) only [K48, SS, Nat.reduceAdd, Nat.reduceSub, Nat.reduceLeDiff, Nat.reduceEqDiff, reduceCtorEq] at this ⊢
          exact this
      · simp (contextual := true) (implicitDefEqProofs := false) only [K48, SS, Nat.reduceAdd, Nat.reduceSub, Nat.reduceLeDiff, Nat.reduceEqDiff, reduceCtorEq]
        refine WC.call (ih h2 (by omega) (by omega) (by omega)) rfl rfl ?_
        rintro _ st3 ⟨⟨t, rfl⟩, i3, e3, h3, h3a, h3b⟩
        obtain ⟨tn, txs, tb, etr⟩ := t.row_cells
        simp (contextual := true) (implicitDefEqProofs := false) only [K48, SS, Nat.reduceAdd, Nat.reduceSub, Nat.reduceLeDiff, Nat.reduceEqDiff, reduceCtorEq, etr]
        refine WC.call (must_q h3 _) rfl rfl ?_
        rintro _ st4 ⟨i4, e4, h4, h4a, h4b⟩
        simp (contextual := true) (implicitDefEqProofs := false) only [K48, SS, Nat.reduceAdd, Nat.reduceSub, Nat.reduceLeDiff, Nat.reduceEqDiff, reduceCtorEq]
        refine WC.call (eat_q h4 _) rfl rfl ?_
        rintro _ st5 (⟨rfl, rfl⟩ | ⟨rfl, rfl, h5⟩)
        · have := fin (.wrap t false) [] true [[.str tn, .list false txs, .bool tb]] false (.box [.str tn, .list false txs, .bool tb]) _ i4 e4 (by rw [TRef.row, etr]) h4 (by omega) (fun h => ⟨rfl, by omega⟩)
          simp (contextual := true) (implicitDefEqProofs := false) only [K48, SS, Nat.reduceAdd, Nat.reduceSub, Nat.reduceLeDiff, Nat.reduceEqDiff, reduceCtorEq] at this ⊢
          exact this
        · have := fin (.wrap t true) [] true [[.str tn, .list false txs, .bool tb]] true (.box [.str tn, .list false txs, .bool tb]) _ (i4 + 1) 0 (by rw [TRef.row, etr]) h5 (by omega) (fun _ => ⟨rfl, by omega⟩)
          simp (contextual := true) (implicitDefEqProofs := false) only [K48, SS, Nat.reduceAdd, Nat.reduceSub, Nat.reduceLeDiff, Nat.reduceEqDiff, reduceCtorEq] at this ⊢
          exact this
end Go.Cb.CodeA
set_option maxRecDepth 20000
set_option linter.unusedSimpArgs false
set_option linter.unusedVariables false
namespace Go.Cb.CodeA
open Go Go.Cb
attribute [local congr] obind_congr gv_congr2 gv2_congr brT_congr seqK_congr blkK_congr m1_congr gm_congr

/-- a value -/
inductive Val where
  | mk (k n : Int) (s : List Nat) (ks : List (List Nat)) (ls : List Val)
def strRow (x : List Nat) : List AV := [.str x]
mutual
def Val.row : Val → List AV
  | .mk k n s ks ls => [.int .u8 k, .int .i64 n, .str s, .list false (ks.map strRow), .list false (Val.rows ls)]
def Val.rows : List Val → List (List AV)
  | [] => []
  | v :: vs => v.row :: Val.rows vs
end
theorem Val.rows_map : ∀ vs : List Val, Val.rows vs = vs.map Val.row
  | [] => by simp [Val.rows]
  | v :: vs => by simp [Val.rows, Val.rows_map vs]
/-- a value whose objects have as many names as values -/
inductive Val.OK : Val → Prop
  | mk (k n : Int) (s : List Nat) (ks : List (List Nat)) (ls : List Val) (h6 : k = 6 → ks.length = ls.length) (hk : ks.length ≤ 3000) (hl : ls.length ≤ 3000) (h : ∀ v ∈ ls, Val.OK v) : Val.OK (.mk k n s ks ls)
theorem Val.row_eq (k n : Int) (s : List Nat) (ks : List (List Nat)) (ls : List Val) : (Val.mk k n s ks ls).row = [.int .u8 k, .int .i64 n, .str s, .list false (ks.map strRow), .list false (ls.map Val.row)] := by
  rw [Val.row, Val.rows_map]
theorem Val.row_cells (v : Val) : ∃ k n s xs ys, v.row = [.int .u8 k, .int .i64 n, .str s, .list false xs, .list false ys] := by
  cases v; exact ⟨_, _, _, _, _, Val.row_eq _ _ _ _ _⟩
theorem Val.simple (k n : Int) (s : List Nat) (h : k ≠ 6) : (Val.mk k n s [] []).OK ∧ (Val.mk k n s [] []).row = [.int .u8 k, .int .i64 n, .str s, .list false [], .list false []] :=
  ⟨.mk _ _ _ _ _ (fun e => absurd e h) (by simp) (by simp) (by simp), by rw [Val.row_eq]; rfl⟩

def ValQ (L : List Tok) (o : Nat) (m : Nat) : Prop := ∀ {st : St} {i : Nat} {d e : Int} (fx : Bool), Rd L o st i d e → L.length - i ≤ m → 0 ≤ d → d ≤ 24 →
    EvQ tbl 61 [.ptr o 0, .bool fx] st (fun a st' => (∃ v : Val, v.OK ∧ a = .agg v.row) ∧ Adv L o i d e st')

theorem rowsVal (l : List Val) : rowsOk 5 (l.map Val.row) = true := rowsOk_all (by
  intro r hr
  obtain ⟨v, _, rfl⟩ := List.mem_map.1 hr
  obtain ⟨_, _, _, _, _, e⟩ := v.row_cells
  rw [e]
  rfl)
theorem rowsStr (l : List (List Nat)) : rowsOk 1 (l.map strRow) = true := rowsOk_all (by
  intro r hr
  obtain ⟨v, _, rfl⟩ := List.mem_map.1 hr
  rfl)
theorem value1_q {L : List Tok} {o m : Nat} (ih : ValQ L o m) {st : St} {i : Nat} {d : Int} (fx : Bool) (h : Rd L o st i d 0) (hm : L.length - i ≤ m + 1) (hd : 0 ≤ d) (hd2 : d ≤ 24) :
    EvQ tbl 71 [.ptr o 0, .bool fx] st (fun a st' => (∃ v : Val, v.OK ∧ a = .agg v.row) ∧ Adv L o i d 0 st') := by
  obtain ⟨bad, ho⟩ := h.ob
  have hs : ∀ y : Obj, (st.set o y)[o]? = some y := fun y => set_get ho
  have hl := h.hL.2
  have hi := h.hi
  have ht := tok_row h.hi
  have i1 := inc64 (show i + 1 < 2 ^ 63 by omega)
  refine EvQ.body (fn := a71) rfl rfl rfl ?_
  simp (contextual := true) (implicitDefEqProofs := false) only [K71, SS, Nat.reduceAdd, Nat.reduceSub, Nat.reduceLeDiff, Nat.reduceEqDiff, reduceCtorEq, ho, rdC, hs, i1, ht, Tok.row]
  refine WC.br (fun hk => ?_) (fun hk => ?_)
  · have hk' : (L[i]).k ≠ 0 := by rw [eqI_eq] at hk; simp at hk; rw [hk]; decide
    simp (contextual := true) (implicitDefEqProofs := false) only [K71, SS, Nat.reduceAdd, Nat.reduceSub, Nat.reduceLeDiff, Nat.reduceEqDiff, reduceCtorEq, ho, rdC, hs, i1, ht, Tok.row]
    obtain ⟨hv, ev⟩ := Val.simple 1 (L[i]).n [] (by decide)
    exact WC.ret ⟨_, _, rfl, ⟨_, hv, by rw [ev]; rfl⟩, i + 1, 0, h.put (tokL_next h.hL.1 h.hi hk'), by omega, fun _ => ⟨rfl, by omega⟩⟩
  simp (contextual := true) (implicitDefEqProofs := false) only [K71, SS, Nat.reduceAdd, Nat.reduceSub, Nat.reduceLeDiff, Nat.reduceEqDiff, reduceCtorEq, ho, rdC, hs, i1, ht, Tok.row]
  refine WC.br (fun hk => ?_) (fun hk => ?_)
  · have hk' : (L[i]).k ≠ 0 := by rw [eqI_eq] at hk; simp at hk; rw [hk]; decide
    simp (contextual := true) (implicitDefEqProofs := false) only [K71, SS, Nat.reduceAdd, Nat.reduceSub, Nat.reduceLeDiff, Nat.reduceEqDiff, reduceCtorEq, ho, rdC, hs, i1, ht, Tok.row]
    obtain ⟨hv, ev⟩ := Val.simple 2 0 (L[i]).t (by decide)
    exact WC.ret ⟨_, _, rfl, ⟨_, hv, by rw [ev]; rfl⟩, i + 1, 0, h.put (tokL_next h.hL.1 h.hi hk'), by omega, fun _ => ⟨rfl, by omega⟩⟩
  simp (contextual := true) (implicitDefEqProofs := false) only [K71, SS, Nat.reduceAdd, Nat.reduceSub, Nat.reduceLeDiff, Nat.reduceEqDiff, reduceCtorEq]
  refine WC.call (eat_q h _) rfl rfl ?_
  rintro _ st2 (⟨rfl, rfl⟩ | ⟨rfl, _, h2⟩)
  rotate_left
  · simp (contextual := true) (implicitDefEqProofs := false) only [K71, SS, Nat.reduceAdd, Nat.reduceSub, Nat.reduceLeDiff, Nat.reduceEqDiff, reduceCtorEq]
    obtain ⟨hv, ev⟩ := Val.simple 3 1 [] (by decide)
    exact WC.ret ⟨_, _, rfl, ⟨_, hv, by rw [ev]; rfl⟩, i + 1, 0, h2, by omega, fun _ => ⟨rfl, by omega⟩⟩
  simp (contextual := true) (implicitDefEqProofs := false) only [K71, SS, Nat.reduceAdd, Nat.reduceSub, Nat.reduceLeDiff, Nat.reduceEqDiff, reduceCtorEq]
  refine WC.call (eat_q h _) rfl rfl ?_
  rintro _ st2 (⟨rfl, rfl⟩ | ⟨rfl, _, h2⟩)
  rotate_left
  · simp (contextual := true) (implicitDefEqProofs := false) only [K71, SS, Nat.reduceAdd, Nat.reduceSub, Nat.reduceLeDiff, Nat.reduceEqDiff, reduceCtorEq]
    obtain ⟨hv, ev⟩ := Val.simple 3 0 [] (by decide)
    exact WC.ret ⟨_, _, rfl, ⟨_, hv, by rw [ev]; rfl⟩, i + 1, 0, h2, by omega, fun _ => ⟨rfl, by omega⟩⟩
  simp (contextual := true) (implicitDefEqProofs := false) only [K71, SS, Nat.reduceAdd, Nat.reduceSub, Nat.reduceLeDiff, Nat.reduceEqDiff, reduceCtorEq]
  refine WC.call (eat_q h _) rfl rfl ?_
  rintro _ st2 (⟨rfl, rfl⟩ | ⟨rfl, _, h2⟩)
  rotate_left
  · simp (contextual := true) (implicitDefEqProofs := false) only [K71, SS, Nat.reduceAdd, Nat.reduceSub, Nat.reduceLeDiff, Nat.reduceEqDiff, reduceCtorEq]
    obtain ⟨hv, ev⟩ := Val.simple 0 0 [] (by decide)
    exact WC.ret ⟨_, _, rfl, ⟨_, hv, by rw [ev]; rfl⟩, i + 1, 0, h2, by omega, fun _ => ⟨rfl, by omega⟩⟩
  simp (contextual := true) (implicitDefEqProofs := false) only [K71, SS, Nat.reduceAdd, Nat.reduceSub, Nat.reduceLeDiff, Nat.reduceEqDiff, reduceCtorEq, ho, rdC, hs, i1, ht, Tok.row]
  refine WC.br (fun hk => ?_) (fun hk => ?_)
  · have hk' : (L[i]).k ≠ 0 := by rw [eqI_eq] at hk; simp at hk; rw [hk]; decide
    simp (contextual := true) (implicitDefEqProofs := false) only [K71, SS, Nat.reduceAdd, Nat.reduceSub, Nat.reduceLeDiff, Nat.reduceEqDiff, reduceCtorEq, ho, rdC, hs, i1, ht, Tok.row]
    obtain ⟨hv, ev⟩ := Val.simple 4 0 (L[i]).t (by decide)
    exact WC.ret ⟨_, _, rfl, ⟨_, hv, by rw [ev]; rfl⟩, i + 1, 0, h.put (tokL_next h.hL.1 h.hi hk'), by omega, fun _ => ⟨rfl, by omega⟩⟩
  simp (contextual := true) (implicitDefEqProofs := false) only [K71, SS, Nat.reduceAdd, Nat.reduceSub, Nat.reduceLeDiff, Nat.reduceEqDiff, reduceCtorEq, ho, rdC, hs, i1, ht, Tok.row]
  refine WC.call (sign_q h _) rfl rfl ?_
  rintro _ st2 ⟨rfl, b, rfl, hb⟩
  simp (contextual := true) (implicitDefEqProofs := false) only [K71, SS, Nat.reduceAdd, Nat.reduceSub, Nat.reduceLeDiff, Nat.reduceEqDiff, reduceCtorEq]
  refine WC.br (fun hk => ?_) (fun hk => ?_)
  · have hk4 : (L[i]).k = 4 := (hb (by cases b <;> simp_all)).2
    have h1 : Rd L o (st2.set o (.cells (rdC L (i + 1) d bad 0))) (i + 1) d 0 := h.put (tokL_next h.hL.1 h.hi (by rw [hk4]; decide))
    simp (contextual := true) (implicitDefEqProofs := false) only [K71, SS, Nat.reduceAdd, Nat.reduceSub, Nat.reduceLeDiff, Nat.reduceEqDiff, reduceCtorEq, ho, rdC, hs, i1]
    refine WC.call (name_q h1) rfl rfl ?_
    rintro _ st3 ⟨⟨t, rfl⟩, i3, e3, h3, h3a, h3b⟩
    simp (contextual := true) (implicitDefEqProofs := false) only [K71, SS, Nat.reduceAdd, Nat.reduceSub, Nat.reduceLeDiff, Nat.reduceEqDiff, reduceCtorEq]
    obtain ⟨hv, ev⟩ := Val.simple 7 0 t (by decide)
    exact WC.ret ⟨_, _, rfl, ⟨_, hv, by rw [ev]; rfl⟩, i3, e3, h3, by omega, fun _ => ⟨rfl, by omega⟩⟩
  simp (contextual := true) (implicitDefEqProofs := false) only [K71, SS, Nat.reduceAdd, Nat.reduceSub, Nat.reduceLeDiff, Nat.reduceEqDiff, reduceCtorEq]
  refine WC.call (eat_q h _) rfl rfl ?_
  rintro _ st2 (⟨rfl, rfl⟩ | ⟨rfl, _, h2⟩)
  rotate_left
  · -- a list
    simp (contextual := true) (implicitDefEqProofs := false) only [K71, SS, Nat.reduceAdd, Nat.reduceSub, Nat.reduceLeDiff, Nat.reduceEqDiff, reduceCtorEq]
    refine WC.loopR (fun mm fr st' => ∃ (i' : Nat) (e' : Int) (l : List Val) (v5 : AV), Rd L o st' i' d e' ∧ i + 1 ≤ i' ∧ (∀ v ∈ l, v.OK) ∧ mm = rem L i' e' ∧ l.length + mm ≤ L.length ∧
      fr = [.ptr o 0, .bool fx, .box [.int .u8 0, .int .i64 0, .str [], .list true [], .list true []], .box [.int .u8 (L[i]).k, .str (L[i]).t, .int .i64 (L[i]).n, .int .i64 (L[i]).a], .box [.int .u8 5, .int .i64 0, .str [], .list true [], .list true (l.map Val.row)], v5, .undef, .undef]) (m := rem L (i + 1) 0) ⟨i + 1, 0, [], _, h2, Nat.le_refl _, by simp, rfl, by simpa using rem_le L _ _, rfl⟩ ?_
    rintro mm fr st' ⟨i', e', l, v5, hr, hi', hl', hmm, hlen, rfl⟩
    obtain ⟨bad', ho'⟩ := hr.ob
    have hend : ∀ (st3 : St) (i3 : Nat) (e3 : Int), Rd L o st3 i3 d e3 → i + 1 ≤ i3 → WC (fun n => seqC (blkC 0 (seqC (blkC 1 some) (exec (callF tbl n) n (a71s59.seq ACode.ret)))) (exec (callF tbl n) n (a71s99.seq (a71s101.seq ACode.ret))) (Ex.exit 1, [.ptr o 0, .bool fx, .box [.int .u8 0, .int .i64 0, .str [], .list true [], .list true []], .box [.int .u8 (L[i]).k, .str (L[i]).t, .int .i64 (L[i]).n, .int .i64 (L[i]).a], .box [.int .u8 5, .int .i64 0, .str [], .list true [], .list true (l.map Val.row)], v5, .undef, .undef], st3))
        (fun o_1 => ∃ r st', finK [ResK.bx 2 true 5] (some o_1) = some (r, st') ∧ (∃ v : Val, v.OK ∧ r = .agg v.row) ∧ Adv L o i d 0 st') := by
      intro st3 i3 e3 h3 hi3
      simp (contextual := true) (implicitDefEqProofs := false) only [K71, SS, Nat.reduceAdd, Nat.reduceSub, Nat.reduceLeDiff, Nat.reduceEqDiff, reduceCtorEq]
      refine WC.ret ⟨_, _, rfl, ⟨.mk 5 0 [] [] l, .mk _ _ _ _ _ (fun h => absurd h (by decide)) (by simp) (by omega) hl', ?_⟩, i3, e3, h3, by omega, fun _ => ⟨rfl, by omega⟩⟩
      rw [Val.row_eq]
      rfl
    simp (contextual := true) (implicitDefEqProofs := false) only [K71, SS, Nat.reduceAdd, Nat.reduceSub, Nat.reduceLeDiff, Nat.reduceEqDiff, reduceCtorEq, ho', rdC]
    refine WC.g2 (fun hf => ?_) (fun hf => ?_)
    rotate_left
    · simp (contextual := true) (implicitDefEqProofs := false) only [K71, SS, Nat.reduceAdd, Nat.reduceSub, Nat.reduceLeDiff, Nat.reduceEqDiff, reduceCtorEq, show eqI e' 0 = false from hf]
      exact WC.leave (hend st' i' e' hr hi')
    have he' : e' = 0 := by rw [eqI_eq] at hf; simpa using hf
    subst he'
    simp (contextual := true) (implicitDefEqProofs := false) only [K71, SS, Nat.reduceAdd, Nat.reduceSub, Nat.reduceLeDiff, Nat.reduceEqDiff, reduceCtorEq, hf]
    refine WC.call (eat_q hr _) rfl rfl ?_
    rintro _ st3 (⟨rfl, rfl⟩ | ⟨rfl, _, h3⟩)
    rotate_left
    · simp (contextual := true) (implicitDefEqProofs := false) only [K71, SS, Nat.reduceAdd, Nat.reduceSub, Nat.reduceLeDiff, Nat.reduceEqDiff, reduceCtorEq, hf]
      exact WC.leave (hend st3 (i' + 1) 0 h3 (by omega))
    · simp (contextual := true) (implicitDefEqProofs := false) only [K71, SS, Nat.reduceAdd, Nat.reduceSub, Nat.reduceLeDiff, Nat.reduceEqDiff, reduceCtorEq, hf]
      refine WC.call (ih fx hr (by omega) hd hd2) rfl rfl ?_
      rintro _ st4 ⟨⟨v, hv, rfl⟩, i4, e4, h4, h4a, h4b⟩
      obtain ⟨vk, vn, vs, vx, vy, ev⟩ := v.row_cells
      have hh := h4.hi
      have hlt := rem_lt rfl hr.hi (fun h0 => (h4b h0).2)
      have hlr : (l.length + 1) * 80 ≤ 2 ^ 47 := by omega
      simp (contextual := true) (implicitDefEqProofs := false) only [K71, SS, Nat.reduceAdd, Nat.reduceSub, Nat.reduceLeDiff, Nat.reduceEqDiff, reduceCtorEq, ev, rowsVal, List.length_map, hlr]
      refine WC.next (m' := rem L i4 e4) (by omega) ⟨i4, e4, l ++ [v], .box [.int .u8 vk, .int .i64 vn, .str vs, .list false vx, .list false vy], h4, by omega, fun x hx => ?_, rfl, by simp only [List.length_append, List.length_cons, List.length_nil]; omega, ?_⟩
      · rcases List.mem_append.1 hx with h0 | h0
        · exact hl' x h0
        · simp at h0; subst h0; exact hv
      · simp only [List.map_append, List.map_cons, List.map_nil, ev]
  simp (contextual := true) (implicitDefEqProofs := false) only [K71, SS, Nat.reduceAdd, Nat.reduceSub, Nat.reduceLeDiff, Nat.reduceEqDiff, reduceCtorEq]
  refine WC.call (eat_q h _) rfl rfl ?_
  rintro _ st2 (⟨rfl, rfl⟩ | ⟨rfl, _, h2⟩)
  · simp (contextual := true) (implicitDefEqProofs := false) only [K71, SS, Nat.reduceAdd, Nat.reduceSub, Nat.reduceLeDiff, Nat.reduceEqDiff, reduceCtorEq]
    refine WC.call (fault_q h 4 (by decide)) rfl rfl ?_
    rintro _ st3 ⟨e3, h3, h3e⟩
    simp (contextual := true) (implicitDefEqProofs := false) only [K71, SS, Nat.reduceAdd, Nat.reduceSub, Nat.reduceLeDiff, Nat.reduceEqDiff, reduceCtorEq]
    obtain ⟨hv, ev⟩ := Val.simple 0 0 [] (by decide)
    exact WC.ret ⟨_, _, rfl, ⟨_, hv, by rw [ev]; rfl⟩, i, e3, h3, by omega, fun h => absurd h h3e⟩
  · -- an object
    simp (contextual := true) (implicitDefEqProofs := false) only [K71, SS, Nat.reduceAdd, Nat.reduceSub, Nat.reduceLeDiff, Nat.reduceEqDiff, reduceCtorEq]
    refine WC.loopR (fun mm fr st' => ∃ (i' : Nat) (e' : Int) (l : List Val) (ks : List (List Nat)) (v7 : AV), Rd L o st' i' d e' ∧ i + 1 ≤ i' ∧ (∀ v ∈ l, v.OK) ∧ ks.length = l.length ∧ mm = rem L i' e' ∧ l.length + mm ≤ L.length ∧
      fr = [.ptr o 0, .bool fx, .box [.int .u8 0, .int .i64 0, .str [], .list true [], .list true []], .box [.int .u8 (L[i]).k, .str (L[i]).t, .int .i64 (L[i]).n, .int .i64 (L[i]).a], .undef, .undef, .box [.int .u8 6, .int .i64 0, .str [], .list true (ks.map strRow), .list true (l.map Val.row)], v7]) (m := rem L (i + 1) 0) ⟨i + 1, 0, [], [], _, h2, Nat.le_refl _, by simp, rfl, rfl, by simpa using rem_le L _ _, rfl⟩ ?_
    rintro mm fr st' ⟨i', e', l, ks, v7, hr, hi', hl', hks, hmm, hlen, rfl⟩
    obtain ⟨bad', ho'⟩ := hr.ob
    have hend : ∀ (st3 : St) (i3 : Nat) (e3 : Int), Rd L o st3 i3 d e3 → i + 1 ≤ i3 → WC (fun n => seqC (blkC 0 (seqC (blkC 3 some) (exec (callF tbl n) n (a71s84.seq ACode.ret)))) (exec (callF tbl n) n (a71s99.seq (a71s101.seq ACode.ret))) (Ex.exit 3, [.ptr o 0, .bool fx, .box [.int .u8 0, .int .i64 0, .str [], .list true [], .list true []], .box [.int .u8 (L[i]).k, .str (L[i]).t, .int .i64 (L[i]).n, .int .i64 (L[i]).a], .undef, .undef, .box [.int .u8 6, .int .i64 0, .str [], .list true (ks.map strRow), .list true (l.map Val.row)], v7], st3))
        (fun o_1 => ∃ r st', finK [ResK.bx 2 true 5] (some o_1) = some (r, st') ∧ (∃ v : Val, v.OK ∧ r = .agg v.row) ∧ Adv L o i d 0 st') := by
      intro st3 i3 e3 h3 hi3
      simp (contextual := true) (implicitDefEqProofs := false) only [K71, SS, Nat.reduceAdd, Nat.reduceSub, Nat.reduceLeDiff, Nat.reduceEqDiff, reduceCtorEq]
      refine WC.ret ⟨_, _, rfl, ⟨.mk 6 0 [] ks l, .mk _ _ _ _ _ (fun _ => hks) (by omega) (by omega) hl', ?_⟩, i3, e3, h3, by omega, fun _ => ⟨rfl, by omega⟩⟩
      rw [Val.row_eq]
      rfl
    simp (contextual := true) (implicitDefEqProofs := false) only [K71, SS, Nat.reduceAdd, Nat.reduceSub, Nat.reduceLeDiff, Nat.reduceEqDiff, reduceCtorEq, ho', rdC]
    refine WC.g2 (fun hf => ?_) (fun hf => ?_)
    rotate_left
    · simp (contextual := true) (implicitDefEqProofs := false) only [K71, SS, Nat.reduceAdd, Nat.reduceSub, Nat.reduceLeDiff, Nat.reduceEqDiff, reduceCtorEq, show eqI e' 0 = false from hf]
      exact WC.leave (hend st' i' e' hr hi')
    have he' : e' = 0 := by rw [eqI_eq] at hf; simpa using hf
    subst he'
    simp (contextual := true) (implicitDefEqProofs := false) only [K71, SS, Nat.reduceAdd, Nat.reduceSub, Nat.reduceLeDiff, Nat.reduceEqDiff, reduceCtorEq, hf]
    refine WC.call (eat_q hr _) rfl rfl ?_
    rintro _ st3 (⟨rfl, rfl⟩ | ⟨rfl, _, h3⟩)
    rotate_left
    · simp (contextual := true) (implicitDefEqProofs := false) only [K71, SS, Nat.reduceAdd, Nat.reduceSub, Nat.reduceLeDiff, Nat.reduceEqDiff, reduceCtorEq, hf]
      exact WC.leave (hend st3 (i' + 1) 0 h3 (by omega))
    · simp (contextual := true) (implicitDefEqProofs := false) only [K71, SS, Nat.reduceAdd, Nat.reduceSub, Nat.reduceLeDiff, Nat.reduceEqDiff, reduceCtorEq, hf]
      refine WC.call (name_q hr) rfl rfl ?_
      rintro _ st4 ⟨⟨t, rfl⟩, i4, e4, h4, h4a, h4b⟩
      have hkr : (ks.length + 1) * 16 ≤ 2 ^ 47 := by omega
      simp (contextual := true) (implicitDefEqProofs := false) only [K71, SS, Nat.reduceAdd, Nat.reduceSub, Nat.reduceLeDiff, Nat.reduceEqDiff, reduceCtorEq, rowsStr, List.length_map, hkr]
      refine WC.call (must_q h4 _) rfl rfl ?_
      rintro _ st5 ⟨i5, e5, h5, h5a, h5b⟩
      simp (contextual := true) (implicitDefEqProofs := false) only [K71, SS, Nat.reduceAdd, Nat.reduceSub, Nat.reduceLeDiff, Nat.reduceEqDiff, reduceCtorEq]
      refine WC.call (ih fx h5 (by omega) hd hd2) rfl rfl ?_
      rintro _ st6 ⟨⟨v, hv, rfl⟩, i6, e6, h6, h6a, h6b⟩
      obtain ⟨vk, vn, vs, vx, vy, ev⟩ := v.row_cells
      have hlt : rem L i6 e6 < rem L i' 0 := rem_lt rfl hr.hi (fun h0 => by have := h6b h0; have := h5b this.1; omega)
      have hlr : (l.length + 1) * 80 ≤ 2 ^ 47 := by omega
      simp (contextual := true) (implicitDefEqProofs := false) only [K71, SS, Nat.reduceAdd, Nat.reduceSub, Nat.reduceLeDiff, Nat.reduceEqDiff, reduceCtorEq, ev, rowsVal, List.length_map, hlr]
      refine WC.next (m' := rem L i6 e6) (by omega) ⟨i6, e6, l ++ [v], ks ++ [t], .box [.int .u8 vk, .int .i64 vn, .str vs, .list false vx, .list false vy], h6, by omega, fun x hx => ?_, by simp only [List.length_append, hks]; rfl, rfl, by simp only [List.length_append, List.length_cons, List.length_nil]; omega, ?_⟩
      · rcases List.mem_append.1 hx with h0 | h0
        · exact hl' x h0
        · simp at h0; subst h0; exact hv
      · simp only [List.map_append, List.map_cons, List.map_nil, ev, strRow]

theorem value_q (L : List Tok) (o : Nat) : ∀ m, ValQ L o m := by
  intro m
  induction m with
  | zero => intro st i d e fx h hm; exact absurd h.hi (by omega)
  | succ m ih =>
    intro st i d e fx h hm hd hd2
    have fin : ∀ (v : Val) (k n : Int) (s : List Nat) (w w' : Bool) (xs ys : List (List AV)) (st1 : St) (i1 : Nat) (e1 : Int), v.OK → v.row = [.int .u8 k, .int .i64 n, .str s, .list false xs, .list false ys] → Rd L o st1 i1 (d + 1) e1 → i ≤ i1 → (e1 = 0 → e = 0 ∧ i < i1) →
        WC (fun n' => exec (callF tbl n') n' (a61s9.seq (a61s11.seq ACode.ret)) [.ptr o 0, .bool fx, .box [.int .u8 0, .int .i64 0, .str [], .list true [], .list true []], .box [.int .u8 k, .int .i64 n, .str s, .list w xs, .list w' ys]] st1)
          (fun o_1 => ∃ r st', finK [ResK.bx 2 true 5] (some o_1) = some (r, st') ∧ (∃ v : Val, v.OK ∧ r = .agg v.row) ∧ Adv L o i d e st') := by
      intro v k n s w w' xs ys st1 i1 e1 hv ev h1 hi1 he1
      obtain ⟨bad, ho⟩ := h1.ob
      have hs : ∀ y : Obj, (st1.set o y)[o]? = some y := fun y => set_get ho
      simp (contextual := true) (implicitDefEqProofs := false) only [K61, SS, Nat.reduceAdd, Nat.reduceSub, Nat.reduceLeDiff, Nat.reduceEqDiff, reduceCtorEq, ho, rdC, hs, dec64 hd (show d ≤ 100 by omega)]
      refine WC.ret ⟨_, _, rfl, ⟨v, hv, ?_⟩, i1, e1, h1.put h1.hi, hi1, he1⟩
      rw [ev]
      rfl
    refine EvQ.body (fn := a61) rfl rfl rfl ?_
    simp (contextual := true) (implicitDefEqProofs := false) only [K61, SS, Nat.reduceAdd, Nat.reduceSub, Nat.reduceLeDiff, Nat.reduceEqDiff, reduceCtorEq]
    refine WC.call (open_q h hd hd2) rfl rfl ?_
    rintro _ st1 ⟨e1, rfl, h1, he1⟩
    simp (contextual := true) (implicitDefEqProofs := false) only [K61, SS, Nat.reduceAdd, Nat.reduceSub, Nat.reduceLeDiff, Nat.reduceEqDiff, reduceCtorEq]
    refine WC.br (fun hf => ?_) (fun hf => ?_)
    rotate_left
    · have he : e1 ≠ 0 := by rw [eqI_eq] at hf; simpa using hf
      obtain ⟨hv, ev⟩ := Val.simple 0 0 [] (by decide)
      have := fin _ 0 0 [] true true [] [] st1 i e1 hv ev h1 (Nat.le_refl _) (fun h => absurd h he)
      simp (contextual := true) (implicitDefEqProofs := false) only [K61, SS, Nat.reduceAdd, Nat.reduceSub, Nat.reduceLeDiff, Nat.reduceEqDiff, reduceCtorEq] at this ⊢
      exact this
    · have he : e1 = 0 := by rw [eqI_eq] at hf; simpa using hf
      subst he
      obtain ⟨rfl, hd3⟩ := he1 rfl
      simp (contextual := true) (implicitDefEqProofs := false) only [K61, SS, Nat.reduceAdd, Nat.reduceSub, Nat.reduceLeDiff, Nat.reduceEqDiff, reduceCtorEq]
      refine WC.call (value1_q ih fx h1 hm (by omega) (by omega)) rfl rfl ?_
      rintro _ st4 ⟨⟨v, hv, rfl⟩, i4, e4, h4, h4a, h4b⟩
      obtain ⟨vk, vn, vs, vx, vy, ev⟩ := v.row_cells
      simp (contextual := true) (implicitDefEqProofs := false) only [K61, SS, Nat.reduceAdd, Nat.reduceSub, Nat.reduceLeDiff, Nat.reduceEqDiff, reduceCtorEq, ev]
      have := fin v vk vn vs false false vx vy st4 i4 e4 hv ev h4 h4a h4b
      simp (contextual := true) (implicitDefEqProofs := false) only [K61, SS, Nat.reduceAdd, Nat.reduceSub, Nat.reduceLeDiff, Nat.reduceEqDiff, reduceCtorEq] at this ⊢
      exact this
end Go.Cb.CodeA
set_option maxRecDepth 20000
set_option linter.unusedSimpArgs false
set_option linter.unusedVariables false
namespace Go.Cb.CodeA
open Go Go.Cb
attribute [local congr] obind_congr gv_congr2 gv2_congr brT_congr seqK_congr blkK_congr m1_congr gm_congr

/-- a field of a type -/
inductive FDef where
  | mk (n : List Nat) (as : List FDef) (t : TRef) (has : Bool) (v : Val)
mutual
def FDef.row : FDef → List AV
  | .mk n as t has v => .str n :: .list false (FDef.rows as) :: (t.row ++ (.bool has :: v.row))
def FDef.rows : List FDef → List (List AV)
  | [] => []
  | f :: fs => f.row :: FDef.rows fs
end
theorem FDef.rows_map : ∀ fs : List FDef, FDef.rows fs = fs.map FDef.row
  | [] => by simp [FDef.rows]
  | f :: fs => by simp [FDef.rows, FDef.rows_map fs]
theorem FDef.row_eq (n : List Nat) (as : List FDef) (t : TRef) (has : Bool) (v : Val) : (FDef.mk n as t has v).row = .str n :: .list false (as.map FDef.row) :: (t.row ++ (.bool has :: v.row)) := by
  rw [FDef.row, FDef.rows_map]
inductive FDef.OK : FDef → Prop
  | mk (n : List Nat) (as : List FDef) (t : TRef) (has : Bool) (v : Val) (hv : v.OK) (hl : as.length ≤ 3000) (h : ∀ f ∈ as, FDef.OK f) : FDef.OK (.mk n as t has v)
theorem FDef.row_len (f : FDef) : f.row.length = 11 := by
  cases f with
  | mk n as t has v =>
    obtain ⟨_, _, _, e1⟩ := t.row_cells
    obtain ⟨_, _, _, _, _, e2⟩ := v.row_cells
    rw [FDef.row_eq, e1, e2]
    rfl
theorem rowsF (l : List FDef) : rowsOk 11 (l.map FDef.row) = true := rowsOk_all (by
  intro r hr
  obtain ⟨f, _, rfl⟩ := List.mem_map.1 hr
  exact f.row_len)

/-- the value that is none -/
def Val.none : Val := .mk 0 0 [] [] []
theorem Val.none_ok : Val.none.OK := (Val.simple 0 0 [] (by decide)).1
theorem Val.none_row : Val.none.row = [.int .u8 0, .int .i64 0, .str [], .list false [], .list false []] := (Val.simple 0 0 [] (by decide)).2
theorem FDef.row_mk {n : List Nat} {as : List FDef} {t : TRef} {has : Bool} {v : Val} {tn : List Nat} {txs : List (List AV)} {tb : Bool} {vk vn : Int} {vs : List Nat} {vx vy : List (List AV)}
    (et : t.row = [.str tn, .list false txs, .bool tb]) (ev : v.row = [.int .u8 vk, .int .i64 vn, .str vs, .list false vx, .list false vy]) :
    (FDef.mk n as t has v).row = [.str n, .list false (as.map FDef.row), .str tn, .list false txs, .bool tb, .bool has, .int .u8 vk, .int .i64 vn, .str vs, .list false vx, .list false vy] := by
  rw [FDef.row_eq, et, ev]
  rfl
theorem names_q {L : List Tok} {o : Nat} {st : St} {i : Nat} {d e : Int} (h : Rd L o st i d e) (s : List Nat) : EvQ tbl 45 [.ptr o 0, .str s] st (fun a st' => (∃ ks : List (List Nat), a = .list false (ks.map strRow) ∧ ks.length ≤ 3000) ∧ Adv L o i d e st') := by
  have hl := h.hL.2
  refine EvQ.body (fn := a45) rfl rfl rfl ?_
  simp (contextual := true) (implicitDefEqProofs := false) only [K45, SS, Nat.reduceAdd, Nat.reduceSub, Nat.reduceLeDiff, Nat.reduceEqDiff, reduceCtorEq]
  refine WC.call (P := fun a st' => ∃ b i' e', a = .bool b ∧ Rd L o st' i' d e' ∧ i ≤ i' ∧ (e' = 0 → e = 0)) ((eat_q h _).mono ?_) rfl rfl ?_
  · rintro _ st' (⟨rfl, rfl⟩ | ⟨rfl, rfl, h2⟩)
    · exact ⟨_, _, _, rfl, h, Nat.le_refl _, fun h => h⟩
    · exact ⟨_, _, _, rfl, h2, by omega, fun h => rfl⟩
  rintro _ st1 ⟨b, i1, e1, rfl, h1, hi1, he1⟩
  simp (contextual := true) (implicitDefEqProofs := false) only [K45, SS, Nat.reduceAdd, Nat.reduceSub, Nat.reduceLeDiff, Nat.reduceEqDiff, reduceCtorEq]
  refine WC.call (name_q h1) rfl rfl ?_
  rintro _ st2 ⟨⟨t, rfl⟩, i2, e2, h2, h2a, h2b⟩
  simp (contextual := true) (implicitDefEqProofs := false) only [K45, SS, Nat.reduceAdd, Nat.reduceSub, Nat.reduceLeDiff, Nat.reduceEqDiff, reduceCtorEq]
  refine WC.loopR (fun mm fr st' => ∃ (i' : Nat) (e' : Int) (ks : List (List Nat)), Rd L o st' i' d e' ∧ i ≤ i' ∧ (e' = 0 → e = 0 ∧ i < i') ∧ mm = rem L i' e' ∧ ks.length + mm ≤ L.length + 1 ∧ fr = [.ptr o 0, .str s, .list true [], .list true (ks.map strRow)]) (m := rem L i2 e2) ⟨i2, e2, [t], h2, by omega, (fun h0 => by have := h2b h0; have := he1 this.1; omega), rfl, by have := rem_le L i2 e2; simp only [List.length_cons, List.length_nil]; omega, rfl⟩ ?_
  rintro mm fr st' ⟨i', e', ks, hr, hi', he', hmm, hlen, rfl⟩
  have hl := h.hL.2
  simp (contextual := true) (implicitDefEqProofs := false) only [K45, SS, Nat.reduceAdd, Nat.reduceSub, Nat.reduceLeDiff, Nat.reduceEqDiff, reduceCtorEq]
  refine WC.call (eat_q hr _) rfl rfl ?_
  rintro _ st3 (⟨rfl, rfl⟩ | ⟨rfl, rfl, h3⟩)
  · simp (contextual := true) (implicitDefEqProofs := false) only [K45, SS, Nat.reduceAdd, Nat.reduceSub, Nat.reduceLeDiff, Nat.reduceEqDiff, reduceCtorEq]
    refine WC.leave ?_
    simp (contextual := true) (implicitDefEqProofs := false) only [K45, SS, Nat.reduceAdd, Nat.reduceSub, Nat.reduceLeDiff, Nat.reduceEqDiff, reduceCtorEq]
    exact WC.ret ⟨_, _, rfl, ⟨ks, rfl, by omega⟩, i', e', hr, hi', he'⟩
  · simp (contextual := true) (implicitDefEqProofs := false) only [K45, SS, Nat.reduceAdd, Nat.reduceSub, Nat.reduceLeDiff, Nat.reduceEqDiff, reduceCtorEq]
    refine WC.call (name_q h3) rfl rfl ?_
    rintro _ st4 ⟨⟨t, rfl⟩, i4, e4, h4, h4a, h4b⟩
    have hlt := rem_lt rfl hr.hi (fun h0 => show i' < i4 by have := (h4b h0).2; omega)
    have hkr : (ks.length + 1) * 16 ≤ 2 ^ 47 := by omega
    simp (contextual := true) (implicitDefEqProofs := false) only [K45, SS, Nat.reduceAdd, Nat.reduceSub, Nat.reduceLeDiff, Nat.reduceEqDiff, reduceCtorEq, rowsStr, List.length_map, hkr]
    exact WC.next (m' := rem L i4 e4) (by omega) ⟨i4, e4, ks ++ [t], h4, by omega, fun h0 => ⟨(he' rfl).1, by omega⟩, rfl, by simp only [List.length_append, List.length_cons, List.length_nil]; omega, by simp only [List.map_append]; rfl⟩
theorem inputs_q {L : List Tok} {o : Nat} {st : St} {i : Nat} {d e : Int} (h : Rd L o st i d e) (hd : 0 ≤ d) (hd2 : d ≤ 24) (s : List Nat) : EvQ tbl 47 [.ptr o 0, .str s] st (fun a st' => (∃ fs : List FDef, a = .list false (fs.map FDef.row) ∧ fs.length ≤ 3000 ∧ ∀ f ∈ fs, f.OK) ∧ Adv L o i d e st') := by
  have hl := h.hL.2
  refine EvQ.body (fn := a47) rfl rfl rfl ?_
  simp (contextual := true) (implicitDefEqProofs := false) only [K47, SS, Nat.reduceAdd, Nat.reduceSub, Nat.reduceLeDiff, Nat.reduceEqDiff, reduceCtorEq]
  refine WC.loopR (fun mm fr st' => ∃ (i' : Nat) (e' : Int) (fs : List FDef) (first : Bool) (v5 : AV), Rd L o st' i' d e' ∧ i ≤ i' ∧ (first = false → e' = 0 → e = 0 ∧ i < i') ∧ (first = true → e' = e) ∧ (∀ f ∈ fs, f.OK) ∧ mm = rem L i' e' ∧ fs.length + mm ≤ L.length ∧ fr = [.ptr o 0, .str s, .list true [], .list true (fs.map FDef.row), .bool first, v5]) (m := rem L i e) ⟨i, e, [], true, _, h, Nat.le_refl _, (by simp), fun _ => rfl, by simp, rfl, by simpa using rem_le L i e, rfl⟩ ?_
  rintro mm fr st' ⟨i', e', fs, first, v5, hr, hi', he', hfe, hfs, hmm, hlen, rfl⟩
  obtain ⟨bad', ho'⟩ := hr.ob
  have hend : ∀ (st3 : St) (i3 : Nat) (e3 : Int), Rd L o st3 i3 d e3 → i ≤ i3 → (e3 = 0 → e = 0 ∧ i < i3) → WC (fun n => seqC (blkC 0 some) (exec (callF tbl n) n (a47s36.seq ACode.ret)) (Ex.exit 0, [.ptr o 0, .str s, .list true [], .list true (fs.map FDef.row), .bool first, v5], st3))
      (fun o_1 => ∃ r st', finK [ResK.v 2] (some o_1) = some (r, st') ∧ (∃ fs : List FDef, r = .list false (fs.map FDef.row) ∧ fs.length ≤ 3000 ∧ ∀ f ∈ fs, f.OK) ∧ Adv L o i d e st') := by
    intro st3 i3 e3 h3 hi3 he3
    simp (contextual := true) (implicitDefEqProofs := false) only [K47, SS, Nat.reduceAdd, Nat.reduceSub, Nat.reduceLeDiff, Nat.reduceEqDiff, reduceCtorEq]
    exact WC.ret ⟨_, _, rfl, ⟨fs, rfl, by omega, hfs⟩, i3, e3, h3, hi3, he3⟩
  by_cases he0 : e' = 0
  rotate_left
  · have hf : eqI e' 0 = false := by rw [eqI_eq]; simpa using he0
    simp (contextual := true) (implicitDefEqProofs := false) only [K47, SS, Nat.reduceAdd, Nat.reduceSub, Nat.reduceLeDiff, Nat.reduceEqDiff, reduceCtorEq, ho', rdC, hf]
    exact WC.leave (hend st' i' e' hr hi' (fun h0 => absurd h0 he0))
  subst he0
  have body : ∀ (st1 : St), Rd L o st1 i' d 0 → WC (fun n => exec (callF tbl n) n ((ACode.blk 1 (a47s9.seq (a47s11.seq (a47s13.seq (a47s20.seq a47s22))))).seq a47s29) [.ptr o 0, .str s, .list true [], .list true (fs.map FDef.row), .bool first, v5] st1)
      (fun o_1 => (∃ m' fr' st'', o_1 = (Ex.normal, fr', st'') ∧ m' < mm ∧ ∃ (i' : Nat) (e' : Int) (fs : List FDef) (first : Bool) (v5 : AV), Rd L o st'' i' d e' ∧ i ≤ i' ∧ (first = false → e' = 0 → e = 0 ∧ i < i') ∧ (first = true → e' = e) ∧ (∀ f ∈ fs, f.OK) ∧ m' = rem L i' e' ∧ fs.length + m' ≤ L.length ∧ fr' = [.ptr o 0, .str s, .list true [], .list true (fs.map FDef.row), .bool first, v5]) ∨ (o_1.1 ≠ Ex.normal ∧ WC (fun n => seqC (blkC 0 some) (exec (callF tbl n) n (a47s36.seq ACode.ret)) o_1) (fun o_2 => ∃ r st', finK [ResK.v 2] (some o_2) = some (r, st') ∧ (∃ fs : List FDef, r = .list false (fs.map FDef.row) ∧ fs.length ≤ 3000 ∧ ∀ f ∈ fs, f.OK) ∧ Adv L o i d e st'))) := by
    intro st1 h1
    simp (contextual := true) (implicitDefEqProofs := false) only [K47, SS, Nat.reduceAdd, Nat.reduceSub, Nat.reduceLeDiff, Nat.reduceEqDiff, reduceCtorEq]
    refine WC.call (name_q h1) rfl rfl ?_
    rintro _ st2 ⟨⟨t, rfl⟩, i2, e2, h2, h2a, h2b⟩
    simp (contextual := true) (implicitDefEqProofs := false) only [K47, SS, Nat.reduceAdd, Nat.reduceSub, Nat.reduceLeDiff, Nat.reduceEqDiff, reduceCtorEq]
    refine WC.call (must_q h2 _) rfl rfl ?_
    rintro _ st3 ⟨i3, e3, h3, h3a, h3b⟩
    simp (contextual := true) (implicitDefEqProofs := false) only [K47, SS, Nat.reduceAdd, Nat.reduceSub, Nat.reduceLeDiff, Nat.reduceEqDiff, reduceCtorEq]
    refine WC.call (type_q L o _ h3 (Nat.le_refl _) hd hd2) rfl rfl ?_
    rintro _ st4 ⟨⟨tr, rfl⟩, i4, e4, h4, h4a, h4b⟩
    obtain ⟨tn, txs, tb, etr⟩ := tr.row_cells
    simp (contextual := true) (implicitDefEqProofs := false) only [K47, SS, Nat.reduceAdd, Nat.reduceSub, Nat.reduceLeDiff, Nat.reduceEqDiff, reduceCtorEq, etr]
    refine WC.call (eat_q h4 _) rfl rfl ?_
    rintro _ st5 (⟨rfl, rfl⟩ | ⟨rfl, rfl, h5⟩)
    · simp (contextual := true) (implicitDefEqProofs := false) only [K47, SS, Nat.reduceAdd, Nat.reduceSub, Nat.reduceLeDiff, Nat.reduceEqDiff, reduceCtorEq]
      have hlt : rem L i4 e4 < rem L i' 0 := rem_lt rfl hr.hi (fun h0 => by
        have a4 : e4 = 0 := h0
        have := h4b a4
        have := h3b this.1
        have := h2b this.1
        omega)
      have hfr : (fs.length + 1) * 176 ≤ 2 ^ 47 := by omega
      simp (contextual := true) (implicitDefEqProofs := false) only [K47, SS, Nat.reduceAdd, Nat.reduceSub, Nat.reduceLeDiff, Nat.reduceEqDiff, reduceCtorEq, rowsF, List.length_map, hfr]
      refine WC.next (m' := rem L i4 e4) (by omega) ⟨i4, e4, fs ++ [.mk t [] tr false Val.none], false, .box [.str t, .list true [], .str tn, .list false txs, .bool tb, .bool false, .int .u8 0, .int .i64 0, .str [], .list true [], .list true []], h4, by omega, fun _ h0 => ?_, by simp, fun f hf => ?_, rfl, by simp only [List.length_append, List.length_cons, List.length_nil]; omega, ?_⟩
      · have a4 : e4 = 0 := h0
        have b4 := h4b a4
        have b3 := h3b b4.1
        have b2 := h2b b3.1
        refine ⟨?_, by omega⟩
        cases first with
        | true => exact (hfe rfl).symm
        | false => exact (he' rfl rfl).1
      · rcases List.mem_append.1 hf with h0 | h0
        · exact hfs f h0
        · simp at h0; subst h0; exact .mk _ _ _ _ _ Val.none_ok (by simp) (by simp)
      · simp only [List.map_append, List.map_cons, List.map_nil, FDef.row_mk etr Val.none_row]
    · simp (contextual := true) (implicitDefEqProofs := false) only [K47, SS, Nat.reduceAdd, Nat.reduceSub, Nat.reduceLeDiff, Nat.reduceEqDiff, reduceCtorEq]
      refine WC.call (value_q L o _ true h5 (Nat.le_refl _) hd hd2) rfl rfl ?_
      rintro _ st6 ⟨⟨v, hv, rfl⟩, i6, e6, h6, h6a, h6b⟩
      obtain ⟨vk, vn, vs, vx, vy, ev⟩ := v.row_cells
      simp (contextual := true) (implicitDefEqProofs := false) only [K47, SS, Nat.reduceAdd, Nat.reduceSub, Nat.reduceLeDiff, Nat.reduceEqDiff, reduceCtorEq, ev]
      have hlt : rem L i6 e6 < rem L i' 0 := rem_lt rfl hr.hi (fun h0 => by
        have a4 : (0 : Int) = 0 := rfl
        have := h4b a4
        have := h3b this.1
        have := h2b this.1
        omega)
      have hfr : (fs.length + 1) * 176 ≤ 2 ^ 47 := by omega
      simp (contextual := true) (implicitDefEqProofs := false) only [K47, SS, Nat.reduceAdd, Nat.reduceSub, Nat.reduceLeDiff, Nat.reduceEqDiff, reduceCtorEq, rowsF, List.length_map, hfr]
      refine WC.next (m' := rem L i6 e6) (by omega) ⟨i6, e6, fs ++ [.mk t [] tr true v], false, .box [.str t, .list true [], .str tn, .list false txs, .bool tb, .bool true, .int .u8 vk, .int .i64 vn, .str vs, .list false vx, .list false vy], h6, by omega, fun _ h0 => ?_, by simp, fun f hf => ?_, rfl, by simp only [List.length_append, List.length_cons, List.length_nil]; omega, ?_⟩
      · have a4 : (0 : Int) = 0 := rfl
        have b4 := h4b a4
        have b3 := h3b b4.1
        have b2 := h2b b3.1
        refine ⟨?_, by omega⟩
        cases first with
        | true => exact (hfe rfl).symm
        | false => exact (he' rfl rfl).1
      · rcases List.mem_append.1 hf with h0 | h0
        · exact hfs f h0
        · simp at h0; subst h0; exact .mk _ _ _ _ _ hv (by simp) (by simp)
      · simp only [List.map_append, List.map_cons, List.map_nil, FDef.row_mk etr ev]
  cases first with
  | true =>
    simp (contextual := true) (implicitDefEqProofs := false) only [K47, SS, Nat.reduceAdd, Nat.reduceSub, Nat.reduceLeDiff, Nat.reduceEqDiff, reduceCtorEq, ho', rdC, show eqI 0 0 = true from rfl]
    have := body st' hr
    simp (contextual := true) (implicitDefEqProofs := false) only [K47, SS, Nat.reduceAdd, Nat.reduceSub, Nat.reduceLeDiff, Nat.reduceEqDiff, reduceCtorEq] at this ⊢
    exact this
  | false =>
    simp (contextual := true) (implicitDefEqProofs := false) only [K47, SS, Nat.reduceAdd, Nat.reduceSub, Nat.reduceLeDiff, Nat.reduceEqDiff, reduceCtorEq, ho', rdC, show eqI 0 0 = true from rfl]
    refine WC.call (eat_q hr _) rfl rfl ?_
    rintro _ st3 (⟨rfl, rfl⟩ | ⟨rfl, _, h3⟩)
    · simp (contextual := true) (implicitDefEqProofs := false) only [K47, SS, Nat.reduceAdd, Nat.reduceSub, Nat.reduceLeDiff, Nat.reduceEqDiff, reduceCtorEq]
      have := body st3 hr
      simp (contextual := true) (implicitDefEqProofs := false) only [K47, SS, Nat.reduceAdd, Nat.reduceSub, Nat.reduceLeDiff, Nat.reduceEqDiff, reduceCtorEq] at this ⊢
      exact this
    · simp (contextual := true) (implicitDefEqProofs := false) only [K47, SS, Nat.reduceAdd, Nat.reduceSub, Nat.reduceLeDiff, Nat.reduceEqDiff, reduceCtorEq]
      exact WC.leave (hend st3 (i' + 1) 0 h3 (by omega) (fun _ => ⟨(he' rfl rfl).1, by omega⟩))
end Go.Cb.CodeA
set_option maxRecDepth 20000
set_option linter.unusedSimpArgs false
set_option linter.unusedVariables false
namespace Go.Cb.CodeA
open Go Go.Cb
attribute [local congr] obind_congr gv_congr2 gv2_congr brT_congr seqK_congr blkK_congr m1_congr gm_congr

/-- a declaration -/
structure TDef where
  k : Int
  n : List Nat
  fs : List FDef
  ns : List (List Nat)
def TDef.row (t : TDef) : List AV := [.int .u8 t.k, .str t.n, .list false (t.fs.map FDef.row), .list false (t.ns.map strRow)]
structure TDef.OK (t : TDef) : Prop where
  lf : t.fs.length ≤ 3000
  ln : t.ns.length ≤ 3000
  fs : ∀ f ∈ t.fs, f.OK
  un : t.k = 3 → t.fs = []
abbrev bx1 : AV := .box [.int .u8 0, .str [], .list true [], .list true []]
def decQ (L : List Tok) (o i : Nat) (d : Int) (o_1 : Out) : Prop := ∃ r st', finK [ResK.bx 1 true 4] (some o_1) = some (r, st') ∧ (∃ t : TDef, t.OK ∧ r = .agg t.row) ∧ Adv L o i d 0 st'

theorem dec_fin {L : List Tok} {o i : Nat} {d : Int} (k : Int) (n : List Nat) (fs : List FDef) (ns : List (List Nat)) (w w' : Bool) (v3 v4 v5 v6 : AV) (st : St) (hf : fs.length ≤ 3000) (hn : ns.length ≤ 3000) (h : ∀ f ∈ fs, f.OK) (hu : k = 3 → fs = []) (ha : Adv L o i d 0 st) :
    WC (fun n' => exec (callF tbl n') n' (a27s114.seq ACode.ret) [.ptr o 0, bx1, .box [.int .u8 k, .str n, .list w (fs.map FDef.row), .list w' (ns.map strRow)], v3, v4, v5, v6] st) (decQ L o i d) := by
  simp (contextual := true) (implicitDefEqProofs := false) only [K27, SS, Nat.reduceAdd, Nat.reduceSub, Nat.reduceLeDiff, Nat.reduceEqDiff, reduceCtorEq]
  exact WC.ret ⟨_, _, rfl, ⟨⟨k, n, fs, ns⟩, ⟨hf, hn, h, hu⟩, rfl⟩, ha⟩

theorem dec_union {L : List Tok} {o i : Nat} {d : Int} (hd : 0 ≤ d) (hd2 : d ≤ 23) (n : List Nat) (st : St) (i1 : Nat) (e1 : Int) (h1 : Rd L o st i1 d e1) (hi1 : i ≤ i1) (he1 : e1 = 0 → i < i1) (k : Int) (v6 : AV) :
    WC (fun n' => exec (callF tbl n') n' ((ACode.blk 1 a27s42).seq (a27s114.seq ACode.ret)) [.ptr o 0, bx1, .box [.int .u8 k, .str n, .list true [], .list true []], .undef, .undef, .undef, v6] st) (decQ L o i d) := by
  simp (contextual := true) (implicitDefEqProofs := false) only [K27, SS, Nat.reduceAdd, Nat.reduceSub, Nat.reduceLeDiff, Nat.reduceEqDiff, reduceCtorEq]
  refine WC.call (must_q h1 _) rfl rfl ?_
  rintro _ st2 ⟨i2, e2, h2, h2a, h2b⟩
  simp (contextual := true) (implicitDefEqProofs := false) only [K27, SS, Nat.reduceAdd, Nat.reduceSub, Nat.reduceLeDiff, Nat.reduceEqDiff, reduceCtorEq]
  refine WC.call (names_q h2 _) rfl rfl ?_
  rintro _ st3 ⟨⟨ks, rfl, hks⟩, i3, e3, h3, h3a, h3b⟩
  simp (contextual := true) (implicitDefEqProofs := false) only [K27, SS, Nat.reduceAdd, Nat.reduceSub, Nat.reduceLeDiff, Nat.reduceEqDiff, reduceCtorEq]
  have := dec_fin (L := L) (o := o) (i := i) (d := d) k n [] ks true false .undef .undef .undef v6 st3 (by simp) hks (by simp) (fun _ => rfl) ⟨i3, e3, h3, by omega, fun h0 => ⟨rfl, by have := h3b h0; omega⟩⟩
  simp (contextual := true) (implicitDefEqProofs := false) only [K27, SS, Nat.reduceAdd, Nat.reduceSub, Nat.reduceLeDiff, Nat.reduceEqDiff, reduceCtorEq] at this ⊢
  exact this
theorem dec_input {L : List Tok} {o i : Nat} {d : Int} (hd : 0 ≤ d) (hd2 : d ≤ 23) (n : List Nat) (st : St) (i1 : Nat) (e1 : Int) (h1 : Rd L o st i1 d e1) (hi1 : i ≤ i1) (he1 : e1 = 0 → i < i1) (k : Int) (hk3 : k ≠ 3) (v6 : AV) :
    WC (fun n' => exec (callF tbl n') n' ((ACode.blk 1 a27s71).seq (a27s114.seq ACode.ret)) [.ptr o 0, bx1, .box [.int .u8 k, .str n, .list true [], .list true []], .undef, .undef, .undef, v6] st) (decQ L o i d) := by
  simp (contextual := true) (implicitDefEqProofs := false) only [K27, SS, Nat.reduceAdd, Nat.reduceSub, Nat.reduceLeDiff, Nat.reduceEqDiff, reduceCtorEq]
  refine WC.call (must_q h1 _) rfl rfl ?_
  rintro _ st2 ⟨i2, e2, h2, h2a, h2b⟩
  simp (contextual := true) (implicitDefEqProofs := false) only [K27, SS, Nat.reduceAdd, Nat.reduceSub, Nat.reduceLeDiff, Nat.reduceEqDiff, reduceCtorEq]
  refine WC.call (inputs_q h2 hd (by omega) _) rfl rfl ?_
  rintro _ st3 ⟨⟨fs, rfl, hfs, hok⟩, i3, e3, h3, h3a, h3b⟩
  simp (contextual := true) (implicitDefEqProofs := false) only [K27, SS, Nat.reduceAdd, Nat.reduceSub, Nat.reduceLeDiff, Nat.reduceEqDiff, reduceCtorEq]
  have := dec_fin (L := L) (o := o) (i := i) (d := d) k n fs [] false true .undef .undef .undef v6 st3 hfs (by simp) hok (fun h => absurd h hk3) ⟨i3, e3, h3, by omega, fun h0 => ⟨rfl, by have := h3b h0; omega⟩⟩
  simp (contextual := true) (implicitDefEqProofs := false) only [K27, SS, Nat.reduceAdd, Nat.reduceSub, Nat.reduceLeDiff, Nat.reduceEqDiff, reduceCtorEq] at this ⊢
  exact this
def enumI (L : List Tok) (o i : Nat) (d : Int) (n : List Nat) (k : Int) (v6 : AV) (mm : Nat) (fr : List AV) (st : St) : Prop := ∃ (i' : Nat) (e' : Int) (ns : List (List Nat)) (first : Bool), Rd L o st i' d e' ∧ i ≤ i' ∧ (e' = 0 → i < i') ∧ mm = rem L i' e' ∧ ns.length + mm ≤ L.length ∧
  fr = [.ptr o 0, bx1, .box [.int .u8 k, .str n, .list true [], .list true (ns.map strRow)], .bool first, .undef, .undef, v6]
theorem enum_end {L : List Tok} {o i : Nat} {d : Int} {n : List Nat} {k : Int} {v6 : AV} {ns : List (List Nat)} (hns : ns.length ≤ 3000) {b : Bool} {st : St} {i' : Nat} {e' : Int} (h : Rd L o st i' d e') (hi : i ≤ i') (he : e' = 0 → i < i') :
    WC (fun n' => seqC (blkC 1 (blkC 4 some)) (exec (callF tbl n') n' (a27s114.seq ACode.ret)) (.exit 4, [.ptr o 0, bx1, .box [.int .u8 k, .str n, .list true [], .list true (ns.map strRow)], .bool b, .undef, .undef, v6], st)) (decQ L o i d) := by
  simp (contextual := true) (implicitDefEqProofs := false) only [K27, SS, Nat.reduceAdd, Nat.reduceSub, Nat.reduceLeDiff, Nat.reduceEqDiff, reduceCtorEq]
  have := dec_fin (L := L) (o := o) (i := i) (d := d) k n [] ns true true (.bool b) .undef .undef v6 st (by simp) hns (by simp) (fun _ => rfl) ⟨i', e', h, hi, fun h0 => ⟨rfl, he h0⟩⟩
  simp (contextual := true) (implicitDefEqProofs := false) only [K27, SS, Nat.reduceAdd, Nat.reduceSub, Nat.reduceLeDiff, Nat.reduceEqDiff, reduceCtorEq] at this ⊢
  exact this
theorem enum_cont {L : List Tok} {o i : Nat} {d : Int} {n : List Nat} {k : Int} {v6 : AV} {ns : List (List Nat)} {mm : Nat} (hlen : ns.length + mm ≤ L.length) {b : Bool} {st : St} {i' : Nat} {e' : Int} (h : Rd L o st i' d e') (hi : i ≤ i') (hmm : mm = rem L i' 0) :
    WC (fun n' => exec (callF tbl n') n' ((ACode.blk 5 a27s55).seq a27s59) [.ptr o 0, bx1, .box [.int .u8 k, .str n, .list true [], .list true (ns.map strRow)], .bool b, .undef, .undef, v6] st)
      (LQ (enumI L o i d n k v6) mm (fun n' => seqC (blkC 1 (blkC 4 some)) (exec (callF tbl n') n' (a27s114.seq ACode.ret))) (decQ L o i d)) := by
  have hl := h.hL.2
  simp (contextual := true) (implicitDefEqProofs := false) only [K27, SS, Nat.reduceAdd, Nat.reduceSub, Nat.reduceLeDiff, Nat.reduceEqDiff, reduceCtorEq]
  refine WC.call (name_q h) rfl rfl ?_
  rintro _ st4 ⟨⟨t, rfl⟩, i4, e4, h4, h4a, h4b⟩
  have hlt : rem L i4 e4 < rem L i' 0 := rem_lt rfl h.hi (fun h0 => (h4b h0).2)
  have hkr : (ns.length + 1) * 16 ≤ 2 ^ 47 := by omega
  simp (contextual := true) (implicitDefEqProofs := false) only [K27, SS, Nat.reduceAdd, Nat.reduceSub, Nat.reduceLeDiff, Nat.reduceEqDiff, reduceCtorEq, rowsStr, List.length_map, hkr]
  exact WC.next (m' := rem L i4 e4) (by omega) ⟨i4, e4, ns ++ [t], false, h4, by omega, fun h0 => by have := h4b h0; omega, rfl, by simp only [List.length_append, List.length_cons, List.length_nil]; omega, by simp only [List.map_append]; rfl⟩
theorem enum_body {L : List Tok} {o i : Nat} {d : Int} {n : List Nat} {k : Int} {v6 : AV} {ns : List (List Nat)} {mm : Nat} (hlen : ns.length + mm ≤ L.length) {b : Bool} {st : St} {i' : Nat} (h : Rd L o st i' d 0) (hi : i ≤ i') (hmm : mm = rem L i' 0) :
    WC (fun n' => exec (callF tbl n') n' ((ACode.blk 5 (a27s53.seq a27s55)).seq a27s59) [.ptr o 0, bx1, .box [.int .u8 k, .str n, .list true [], .list true (ns.map strRow)], .bool b, .undef, .undef, v6] st)
      (LQ (enumI L o i d n k v6) mm (fun n' => seqC (blkC 1 (blkC 4 some)) (exec (callF tbl n') n' (a27s114.seq ACode.ret))) (decQ L o i d)) := by
  have hc : ∀ {st : St} {e' : Int}, Rd L o st i' d e' → _ := fun {st} {e'} h => enum_cont (L := L) (o := o) (i := i) (d := d) (n := n) (k := k) (v6 := v6) (ns := ns) (mm := mm) hlen (b := b) (st := st) (i' := i') (e' := e') h hi hmm
  have fault : ∀ {st : St}, Rd L o st i' d 0 → WC (fun n' => exec (callF tbl n') n' ((ACode.blk 5 (a27s52.seq a27s55)).seq a27s59) [.ptr o 0, bx1, .box [.int .u8 k, .str n, .list true [], .list true (ns.map strRow)], .bool b, .undef, .undef, v6] st)
      (LQ (enumI L o i d n k v6) mm (fun n' => seqC (blkC 1 (blkC 4 some)) (exec (callF tbl n') n' (a27s114.seq ACode.ret))) (decQ L o i d)) := by
    intro st h
    simp (contextual := true) (implicitDefEqProofs := false) only [K27, SS, Nat.reduceAdd, Nat.reduceSub, Nat.reduceLeDiff, Nat.reduceEqDiff, reduceCtorEq]
    refine WC.call (fault_q h 4 (by decide)) rfl rfl ?_
    rintro _ st1 ⟨e1, h1, _⟩
    have := hc h1
    simp (contextual := true) (implicitDefEqProofs := false) only [K27, SS, Nat.reduceAdd, Nat.reduceSub, Nat.reduceLeDiff, Nat.reduceEqDiff, reduceCtorEq] at this ⊢
    exact this
  simp (contextual := true) (implicitDefEqProofs := false) only [K27, SS, Nat.reduceAdd, Nat.reduceSub, Nat.reduceLeDiff, Nat.reduceEqDiff, reduceCtorEq]
  refine WC.call (word_q h _) rfl rfl ?_
  rintro _ _ ⟨rfl, b1, rfl, _⟩
  cases b1 with
  | true =>
    have := fault h
    simp (contextual := true) (implicitDefEqProofs := false) only [K27, SS, Nat.reduceAdd, Nat.reduceSub, Nat.reduceLeDiff, Nat.reduceEqDiff, reduceCtorEq] at this ⊢
    exact this
  | false =>
  simp (contextual := true) (implicitDefEqProofs := false) only [K27, SS, Nat.reduceAdd, Nat.reduceSub, Nat.reduceLeDiff, Nat.reduceEqDiff, reduceCtorEq]
  refine WC.call (word_q h _) rfl rfl ?_
  rintro _ _ ⟨rfl, b1, rfl, _⟩
  cases b1 with
  | true =>
    have := fault h
    simp (contextual := true) (implicitDefEqProofs := false) only [K27, SS, Nat.reduceAdd, Nat.reduceSub, Nat.reduceLeDiff, Nat.reduceEqDiff, reduceCtorEq] at this ⊢
    exact this
  | false =>
  simp (contextual := true) (implicitDefEqProofs := false) only [K27, SS, Nat.reduceAdd, Nat.reduceSub, Nat.reduceLeDiff, Nat.reduceEqDiff, reduceCtorEq]
  refine WC.call (word_q h _) rfl rfl ?_
  rintro _ _ ⟨rfl, b1, rfl, _⟩
  cases b1 with
  | true =>
    have := fault h
    simp (contextual := true) (implicitDefEqProofs := false) only [K27, SS, Nat.reduceAdd, Nat.reduceSub, Nat.reduceLeDiff, Nat.reduceEqDiff, reduceCtorEq] at this ⊢
    exact this
  | false =>
    have := hc h
    simp (contextual := true) (implicitDefEqProofs := false) only [K27, SS, Nat.reduceAdd, Nat.reduceSub, Nat.reduceLeDiff, Nat.reduceEqDiff, reduceCtorEq] at this ⊢
    exact this
theorem dec_enum {L : List Tok} {o i : Nat} {d : Int} (hd : 0 ≤ d) (hd2 : d ≤ 23) (n : List Nat) (st : St) (i1 : Nat) (e1 : Int) (h1 : Rd L o st i1 d e1) (hi1 : i ≤ i1) (he1 : e1 = 0 → i < i1) (k : Int) (v6 : AV) :
    WC (fun n' => exec (callF tbl n') n' ((ACode.blk 1 a27s65).seq (a27s114.seq ACode.ret)) [.ptr o 0, bx1, .box [.int .u8 k, .str n, .list true [], .list true []], .undef, .undef, .undef, v6] st) (decQ L o i d) := by
  have hl := h1.hL.2
  simp (contextual := true) (implicitDefEqProofs := false) only [K27, SS, Nat.reduceAdd, Nat.reduceSub, Nat.reduceLeDiff, Nat.reduceEqDiff, reduceCtorEq]
  refine WC.call (must_q h1 _) rfl rfl ?_
  rintro _ st2 ⟨i2, e2, h2, h2a, h2b⟩
  simp (contextual := true) (implicitDefEqProofs := false) only [K27, SS, Nat.reduceAdd, Nat.reduceSub, Nat.reduceLeDiff, Nat.reduceEqDiff, reduceCtorEq]
  refine WC.loopR (enumI L o i d n k v6) (m := rem L i2 e2) ⟨i2, e2, [], true, h2, by omega, fun h0 => by have := h2b h0; omega, rfl, by simpa using rem_le L i2 e2, rfl⟩ ?_
  rintro mm fr st' ⟨i', e', ns, first, hr, hi', he', hmm, hlen, rfl⟩
  obtain ⟨bad', ho'⟩ := hr.ob
  by_cases he0 : e' = 0
  rotate_left
  · have hf : eqI e' 0 = false := by rw [eqI_eq]; simpa using he0
    simp (contextual := true) (implicitDefEqProofs := false) only [K27, SS, Nat.reduceAdd, Nat.reduceSub, Nat.reduceLeDiff, Nat.reduceEqDiff, reduceCtorEq, ho', rdC, hf]
    exact WC.leave (enum_end (by omega) hr hi' he')
  subst he0
  have body := fun {st : St} (h : Rd L o st i' d 0) => enum_body (L := L) (o := o) (i := i) (d := d) (n := n) (k := k) (v6 := v6) hlen (b := first) h hi' hmm
  cases first with
  | true =>
    simp (contextual := true) (implicitDefEqProofs := false) only [K27, SS, Nat.reduceAdd, Nat.reduceSub, Nat.reduceLeDiff, Nat.reduceEqDiff, reduceCtorEq, ho', rdC, show eqI 0 0 = true from rfl]
    have := body hr
    simp (contextual := true) (implicitDefEqProofs := false) only [K27, SS, Nat.reduceAdd, Nat.reduceSub, Nat.reduceLeDiff, Nat.reduceEqDiff, reduceCtorEq] at this ⊢
    exact this
  | false =>
    simp (contextual := true) (implicitDefEqProofs := false) only [K27, SS, Nat.reduceAdd, Nat.reduceSub, Nat.reduceLeDiff, Nat.reduceEqDiff, reduceCtorEq, ho', rdC, show eqI 0 0 = true from rfl]
    refine WC.call (eat_q hr _) rfl rfl ?_
    rintro _ st3 (⟨rfl, rfl⟩ | ⟨rfl, _, h3⟩)
    · simp (contextual := true) (implicitDefEqProofs := false) only [K27, SS, Nat.reduceAdd, Nat.reduceSub, Nat.reduceLeDiff, Nat.reduceEqDiff, reduceCtorEq]
      have := body hr
      simp (contextual := true) (implicitDefEqProofs := false) only [K27, SS, Nat.reduceAdd, Nat.reduceSub, Nat.reduceLeDiff, Nat.reduceEqDiff, reduceCtorEq] at this ⊢
      exact this
    · simp (contextual := true) (implicitDefEqProofs := false) only [K27, SS, Nat.reduceAdd, Nat.reduceSub, Nat.reduceLeDiff, Nat.reduceEqDiff, reduceCtorEq]
      exact WC.leave (enum_end (by omega) h3 (by omega) (fun _ => by omega))

def fieldI (L : List Tok) (o i : Nat) (d : Int) (n : List Nat) (k : Int) (v6 : AV) (w' : Bool) (ns : List (List Nat)) (mm : Nat) (fr : List AV) (st : St) : Prop := ∃ (i' : Nat) (e' : Int) (fs : List FDef) (first : Bool) (v5 : AV), Rd L o st i' d e' ∧ i ≤ i' ∧ (e' = 0 → i < i') ∧ (∀ f ∈ fs, f.OK) ∧ mm = rem L i' e' ∧ fs.length + mm ≤ L.length ∧
  fr = [.ptr o 0, bx1, .box [.int .u8 k, .str n, .list true (fs.map FDef.row), .list w' (ns.map strRow)], .undef, .bool first, v5, v6]
abbrev fieldK (tbl : Nat → Option AFn) (n' : Nat) (o : Out) : Option Out := seqC (blkC 1 (blkC 2 some)) (exec (callF tbl n') n' (a27s114.seq ACode.ret)) o
theorem field_end {L : List Tok} {o i : Nat} {d : Int} {n : List Nat} {k : Int} (hk3 : k ≠ 3) {v6 : AV} {w' : Bool} {ns : List (List Nat)} {fs : List FDef} (hns : ns.length ≤ 3000) (hfs : fs.length ≤ 3000) (hok : ∀ f ∈ fs, f.OK) {b : Bool} {v5 : AV} {st : St} {i' : Nat} {e' : Int} (h : Rd L o st i' d e') (hi : i ≤ i') (he : e' = 0 → i < i') :
    WC (fun n' => fieldK tbl n' (.exit 2, [.ptr o 0, bx1, .box [.int .u8 k, .str n, .list true (fs.map FDef.row), .list w' (ns.map strRow)], .undef, .bool b, v5, v6], st)) (decQ L o i d) := by
  simp (contextual := true) (implicitDefEqProofs := false) only [K27, SS, Nat.reduceAdd, Nat.reduceSub, Nat.reduceLeDiff, Nat.reduceEqDiff, reduceCtorEq, fieldK]
  have := dec_fin (L := L) (o := o) (i := i) (d := d) k n fs ns true w' .undef (.bool b) v5 v6 st hfs hns hok (fun h => absurd h hk3) ⟨i', e', h, hi, fun h0 => ⟨rfl, he h0⟩⟩
  simp (contextual := true) (implicitDefEqProofs := false) only [K27, SS, Nat.reduceAdd, Nat.reduceSub, Nat.reduceLeDiff, Nat.reduceEqDiff, reduceCtorEq] at this ⊢
  exact this
theorem field_body {L : List Tok} {o i : Nat} {d : Int} (hd : 0 ≤ d) (hd2 : d ≤ 23) {n : List Nat} {k : Int} {v6 : AV} {w' : Bool} {ns : List (List Nat)} {fs : List FDef} {mm : Nat} (hok : ∀ f ∈ fs, f.OK) (hlen : fs.length + mm ≤ L.length) {b : Bool} {v5 : AV} {st : St} {i' : Nat} (h : Rd L o st i' d 0) (hi : i ≤ i') (hmm : mm = rem L i' 0) :
    WC (fun n' => exec (callF tbl n') n' ((ACode.blk 3 (a27s83.seq (a27s87.seq (a27s89.seq (a27s91.seq a27s93))))).seq a27s100) [.ptr o 0, bx1, .box [.int .u8 k, .str n, .list true (fs.map FDef.row), .list w' (ns.map strRow)], .undef, .bool b, v5, v6] st)
      (LQ (fieldI L o i d n k v6 w' ns) mm (fieldK tbl) (decQ L o i d)) := by
  have hl := h.hL.2
  have tail : ∀ (t : List Nat) (as : List FDef) (w : Bool) (has : as.length ≤ 3000) (haok : ∀ f ∈ as, f.OK) (st2 : St) (i2 : Nat) (e2 : Int) (h2 : Rd L o st2 i2 d e2) (h2a : i' ≤ i2) (h2b : e2 = 0 → i' < i2),
      WC (fun n' => exec (callF tbl n') n' ((ACode.blk 3 (a27s89.seq (a27s91.seq a27s93))).seq a27s100) [.ptr o 0, bx1, .box [.int .u8 k, .str n, .list true (fs.map FDef.row), .list w' (ns.map strRow)], .undef, .bool b, .box [.str t, .list w (as.map FDef.row), .str [], .list true [], .bool false, .bool false, .int .u8 0, .int .i64 0, .str [], .list true [], .list true []], v6] st2)
      (LQ (fieldI L o i d n k v6 w' ns) mm (fieldK tbl) (decQ L o i d)) := by
    intro t as w has haok st2 i2 e2 h2 h2a h2b
    simp (contextual := true) (implicitDefEqProofs := false) only [K27, SS, Nat.reduceAdd, Nat.reduceSub, Nat.reduceLeDiff, Nat.reduceEqDiff, reduceCtorEq]
    refine WC.call (must_q h2 _) rfl rfl ?_
    rintro _ st3 ⟨i3, e3, h3, h3a, h3b⟩
    simp (contextual := true) (implicitDefEqProofs := false) only [K27, SS, Nat.reduceAdd, Nat.reduceSub, Nat.reduceLeDiff, Nat.reduceEqDiff, reduceCtorEq]
    refine WC.call (type_q L o _ h3 (Nat.le_refl _) hd (by omega)) rfl rfl ?_
    rintro _ st4 ⟨⟨tr, rfl⟩, i4, e4, h4, h4a, h4b⟩
    obtain ⟨tn, txs, tb, etr⟩ := tr.row_cells
    have hlt : rem L i4 e4 < rem L i' 0 := rem_lt rfl h.hi (fun h0 => by
      have b4 := h4b h0
      have b3 := h3b b4.1
      have b2 := h2b b3.1
      omega)
    have hfr : (fs.length + 1) * 176 ≤ 2 ^ 47 := by omega
    simp (contextual := true) (implicitDefEqProofs := false) only [K27, SS, Nat.reduceAdd, Nat.reduceSub, Nat.reduceLeDiff, Nat.reduceEqDiff, reduceCtorEq, etr, rowsF, List.length_map, hfr]
    refine WC.next (m' := rem L i4 e4) (by omega) ⟨i4, e4, fs ++ [.mk t as tr false Val.none], false, .box [.str t, .list w (as.map FDef.row), .str tn, .list false txs, .bool tb, .bool false, .int .u8 0, .int .i64 0, .str [], .list true [], .list true []], h4, by omega, fun h0 => ?_, fun f hf => ?_, rfl, by simp only [List.length_append, List.length_cons, List.length_nil]; omega, ?_⟩
    · have b4 := h4b h0
      have b3 := h3b b4.1
      have b2 := h2b b3.1
      omega
    · rcases List.mem_append.1 hf with h0 | h0
      · exact hok f h0
      · simp at h0; subst h0; exact .mk _ _ _ _ _ Val.none_ok has haok
    · simp only [List.map_append, List.map_cons, List.map_nil, FDef.row_mk etr Val.none_row]
  simp (contextual := true) (implicitDefEqProofs := false) only [K27, SS, Nat.reduceAdd, Nat.reduceSub, Nat.reduceLeDiff, Nat.reduceEqDiff, reduceCtorEq]
  refine WC.call (name_q h) rfl rfl ?_
  rintro _ st2 ⟨⟨t, rfl⟩, i2, e2, h2, h2a, h2b⟩
  simp (contextual := true) (implicitDefEqProofs := false) only [K27, SS, Nat.reduceAdd, Nat.reduceSub, Nat.reduceLeDiff, Nat.reduceEqDiff, reduceCtorEq]
  refine WC.call (eat_q h2 _) rfl rfl ?_
  rintro _ st3 (⟨rfl, rfl⟩ | ⟨rfl, rfl, h3⟩)
  · have := tail t [] true (by simp) (by simp) st3 i2 e2 h2 (by omega) (fun h0 => (h2b h0).2)
    simp (contextual := true) (implicitDefEqProofs := false) only [K27, SS, Nat.reduceAdd, Nat.reduceSub, Nat.reduceLeDiff, Nat.reduceEqDiff, reduceCtorEq] at this ⊢
    exact this
  · simp (contextual := true) (implicitDefEqProofs := false) only [K27, SS, Nat.reduceAdd, Nat.reduceSub, Nat.reduceLeDiff, Nat.reduceEqDiff, reduceCtorEq]
    refine WC.call (inputs_q h3 hd (by omega) _) rfl rfl ?_
    rintro _ st4 ⟨⟨as, rfl, has, haok⟩, i4, e4, h4, h4a, h4b⟩
    have := tail t as false has haok st4 i4 e4 h4 (by omega) (fun h0 => by have := h4b h0; omega)
    simp (contextual := true) (implicitDefEqProofs := false) only [K27, SS, Nat.reduceAdd, Nat.reduceSub, Nat.reduceLeDiff, Nat.reduceEqDiff, reduceCtorEq] at this ⊢
    exact this
theorem dec_fields {L : List Tok} {o i : Nat} {d : Int} (hd : 0 ≤ d) (hd2 : d ≤ 23) (n : List Nat) (st : St) (i1 : Nat) (e1 : Int) (h1 : Rd L o st i1 d e1) (hi1 : i ≤ i1) (he1 : e1 = 0 → i < i1) (k : Int) (hk3 : k ≠ 3) (v6 : AV) :
    WC (fun n' => exec (callF tbl n') n' ((ACode.blk 1 a27s107).seq (a27s114.seq ACode.ret)) [.ptr o 0, bx1, .box [.int .u8 k, .str n, .list true [], .list true []], .undef, .undef, .undef, v6] st) (decQ L o i d) := by
  have hl := h1.hL.2
  have tail : ∀ (w' : Bool) (ns : List (List Nat)) (hns : ns.length ≤ 3000) (st : St) (i1 : Nat) (e1 : Int) (h1 : Rd L o st i1 d e1) (hi1 : i ≤ i1) (he1 : e1 = 0 → i < i1),
      WC (fun n' => exec (callF tbl n') n' ((ACode.blk 1 (a27s77.seq (a27s79.seq (ACode.blk 2 (a27s81.seq ((ACode.blk 3 (a27s83.seq (a27s87.seq (a27s89.seq (a27s91.seq a27s93))))).seq a27s100)).loop)))).seq (a27s114.seq ACode.ret)) [.ptr o 0, bx1, .box [.int .u8 k, .str n, .list true [], .list w' (ns.map strRow)], .undef, .undef, .undef, v6] st) (decQ L o i d) := by
    intro w' ns hns st i1 e1 h1 hi1 he1
    simp (contextual := true) (implicitDefEqProofs := false) only [K27, SS, Nat.reduceAdd, Nat.reduceSub, Nat.reduceLeDiff, Nat.reduceEqDiff, reduceCtorEq]
    refine WC.call (must_q h1 _) rfl rfl ?_
    rintro _ st2 ⟨i2, e2, h2, h2a, h2b⟩
    simp (contextual := true) (implicitDefEqProofs := false) only [K27, SS, Nat.reduceAdd, Nat.reduceSub, Nat.reduceLeDiff, Nat.reduceEqDiff, reduceCtorEq]
    refine WC.loopR (fieldI L o i d n k v6 w' ns) (m := rem L i2 e2) ⟨i2, e2, [], true, .undef, h2, by omega, (fun h0 => by have := h2b h0; omega), by simp, rfl, by simpa using rem_le L i2 e2, rfl⟩ ?_
    rintro mm fr st' ⟨i', e', fs, first, v5, hr, hi', he', hok, hmm, hlen, rfl⟩
    obtain ⟨bad', ho'⟩ := hr.ob
    by_cases he0 : e' = 0
    rotate_left
    · have hf : eqI e' 0 = false := by rw [eqI_eq]; simpa using he0
      simp (contextual := true) (implicitDefEqProofs := false) only [K27, SS, Nat.reduceAdd, Nat.reduceSub, Nat.reduceLeDiff, Nat.reduceEqDiff, reduceCtorEq, ho', rdC, hf]
      exact WC.leave (field_end hk3 hns (by omega) hok hr hi' he')
    subst he0
    have body := fun {st : St} (h : Rd L o st i' d 0) => field_body (L := L) (o := o) (i := i) (d := d) hd hd2 (n := n) (k := k) (v6 := v6) (w' := w') (ns := ns) hok hlen (b := first) (v5 := v5) h hi' hmm
    cases first with
    | true =>
      simp (contextual := true) (implicitDefEqProofs := false) only [K27, SS, Nat.reduceAdd, Nat.reduceSub, Nat.reduceLeDiff, Nat.reduceEqDiff, reduceCtorEq, ho', rdC, show eqI 0 0 = true from rfl]
      have := body hr
      simp (contextual := true) (implicitDefEqProofs := false) only [K27, SS, Nat.reduceAdd, Nat.reduceSub, Nat.reduceLeDiff, Nat.reduceEqDiff, reduceCtorEq] at this ⊢
      exact this
    | false =>
      simp (contextual := true) (implicitDefEqProofs := false) only [K27, SS, Nat.reduceAdd, Nat.reduceSub, Nat.reduceLeDiff, Nat.reduceEqDiff, reduceCtorEq, ho', rdC, show eqI 0 0 = true from rfl]
      refine WC.call (eat_q hr _) rfl rfl ?_
      rintro _ st3 (⟨rfl, rfl⟩ | ⟨rfl, _, h3⟩)
      · simp (contextual := true) (implicitDefEqProofs := false) only [K27, SS, Nat.reduceAdd, Nat.reduceSub, Nat.reduceLeDiff, Nat.reduceEqDiff, reduceCtorEq]
        have := body hr
        simp (contextual := true) (implicitDefEqProofs := false) only [K27, SS, Nat.reduceAdd, Nat.reduceSub, Nat.reduceLeDiff, Nat.reduceEqDiff, reduceCtorEq] at this ⊢
        exact this
      · simp (contextual := true) (implicitDefEqProofs := false) only [K27, SS, Nat.reduceAdd, Nat.reduceSub, Nat.reduceLeDiff, Nat.reduceEqDiff, reduceCtorEq]
        exact WC.leave (field_end hk3 hns (by omega) hok h3 (by omega) (fun _ => by omega))
  simp (contextual := true) (implicitDefEqProofs := false) only [K27, SS, Nat.reduceAdd, Nat.reduceSub, Nat.reduceLeDiff, Nat.reduceEqDiff, reduceCtorEq]
  refine WC.g2 (fun hf => ?_) (fun hf => ?_)
  · simp (contextual := true) (implicitDefEqProofs := false) only [K27, SS, Nat.reduceAdd, Nat.reduceSub, Nat.reduceLeDiff, Nat.reduceEqDiff, reduceCtorEq, hf]
    refine WC.call (eat_q h1 _) rfl rfl ?_
    rintro _ st3 (⟨rfl, rfl⟩ | ⟨rfl, rfl, h3⟩)
    · have := tail true [] (by simp) st3 i1 e1 h1 hi1 he1
      simp (contextual := true) (implicitDefEqProofs := false) only [K27, SS, Nat.reduceAdd, Nat.reduceSub, Nat.reduceLeDiff, Nat.reduceEqDiff, reduceCtorEq] at this ⊢
      exact this
    · simp (contextual := true) (implicitDefEqProofs := false) only [K27, SS, Nat.reduceAdd, Nat.reduceSub, Nat.reduceLeDiff, Nat.reduceEqDiff, reduceCtorEq]
      refine WC.call (names_q h3 _) rfl rfl ?_
      rintro _ st4 ⟨⟨ks, rfl, hks⟩, i4, e4, h4, h4a, h4b⟩
      have := tail false ks hks st4 i4 e4 h4 (by omega) (fun h0 => by have := h4b h0; omega)
      simp (contextual := true) (implicitDefEqProofs := false) only [K27, SS, Nat.reduceAdd, Nat.reduceSub, Nat.reduceLeDiff, Nat.reduceEqDiff, reduceCtorEq] at this ⊢
      exact this
  · have := tail true [] (by simp) st i1 e1 h1 hi1 he1
    simp (contextual := true) (implicitDefEqProofs := false) only [K27, SS, Nat.reduceAdd, Nat.reduceSub, Nat.reduceLeDiff, Nat.reduceEqDiff, reduceCtorEq, show eqI k 1 = false from hf] at this ⊢
    exact this
end Go.Cb.CodeA
set_option maxRecDepth 20000
set_option linter.unusedSimpArgs false
set_option linter.unusedVariables false
namespace Go.Cb.CodeA
open Go Go.Cb
attribute [local congr] obind_congr gv_congr2 gv2_congr brT_congr seqK_congr blkK_congr m1_congr gm_congr

theorem one_rest {L : List Tok} {o i : Nat} {d : Int} (hd : 0 ≤ d) (hd2 : d ≤ 23) (st : St) (h : Rd L o st i d 0) (hk1 : (L[i]'h.hi).k = 1) (k : Int) :
    WC (fun n' => exec (callF tbl n') n' (a27s32.seq (a27s34.seq ((a27s36.seq (ACode.blk 1 a27s110)).seq (a27s114.seq ACode.ret)))) [.ptr o 0, bx1, .box [.int .u8 k, .str [], .list true [], .list true []], .undef, .undef, .undef, .undef] st) (decQ L o i d) := by
  obtain ⟨bad, ho⟩ := h.ob
  have hs : ∀ y : Obj, (st.set o y)[o]? = some y := fun y => set_get ho
  have hl := h.hL.2
  have hi := h.hi
  have i1 := inc64 (show i + 1 < 2 ^ 63 by omega)
  have h1 : Rd L o (st.set o (.cells (rdC L (i + 1) d bad 0))) (i + 1) d 0 := h.put (tokL_next h.hL.1 h.hi (by rw [hk1]; decide))
  simp (contextual := true) (implicitDefEqProofs := false) only [K27, SS, Nat.reduceAdd, Nat.reduceSub, Nat.reduceLeDiff, Nat.reduceEqDiff, reduceCtorEq, ho, rdC, hs, i1]
  refine WC.call (name_q h1) rfl rfl ?_
  rintro _ st2 ⟨⟨t, rfl⟩, i2, e2, h2, h2a, h2b⟩
  simp (contextual := true) (implicitDefEqProofs := false) only [K27, SS, Nat.reduceAdd, Nat.reduceSub, Nat.reduceLeDiff, Nat.reduceEqDiff, reduceCtorEq]
  refine WC.br (fun hk3 => ?_) (fun hk3 => ?_)
  · have := dec_union (L := L) (o := o) (i := i) hd hd2 t st2 i2 e2 h2 (by omega) (fun h0 => by omega) k (.int .u8 k)
    simp (contextual := true) (implicitDefEqProofs := false) only [K27, SS, Nat.reduceAdd, Nat.reduceSub, Nat.reduceLeDiff, Nat.reduceEqDiff, reduceCtorEq] at this ⊢
    exact this
  have hk3 : k ≠ 3 := by rw [eqI_eq] at hk3; simpa using hk3
  simp (contextual := true) (implicitDefEqProofs := false) only [K27, SS, Nat.reduceAdd, Nat.reduceSub, Nat.reduceLeDiff, Nat.reduceEqDiff, reduceCtorEq]
  refine WC.br (fun hk => ?_) (fun hk => ?_)
  · have := dec_enum (L := L) (o := o) (i := i) hd hd2 t st2 i2 e2 h2 (by omega) (fun h0 => by omega) k (.int .u8 k)
    simp (contextual := true) (implicitDefEqProofs := false) only [K27, SS, Nat.reduceAdd, Nat.reduceSub, Nat.reduceLeDiff, Nat.reduceEqDiff, reduceCtorEq] at this ⊢
    exact this
  simp (contextual := true) (implicitDefEqProofs := false) only [K27, SS, Nat.reduceAdd, Nat.reduceSub, Nat.reduceLeDiff, Nat.reduceEqDiff, reduceCtorEq]
  refine WC.br (fun hk => ?_) (fun hk => ?_)
  · have := dec_input (L := L) (o := o) (i := i) hd hd2 t st2 i2 e2 h2 (by omega) (fun h0 => by omega) k hk3 (.int .u8 k)
    simp (contextual := true) (implicitDefEqProofs := false) only [K27, SS, Nat.reduceAdd, Nat.reduceSub, Nat.reduceLeDiff, Nat.reduceEqDiff, reduceCtorEq] at this ⊢
    exact this
  · have := dec_fields (L := L) (o := o) (i := i) hd hd2 t st2 i2 e2 h2 (by omega) (fun h0 => by omega) k hk3 (.int .u8 k)
    simp (contextual := true) (implicitDefEqProofs := false) only [K27, SS, Nat.reduceAdd, Nat.reduceSub, Nat.reduceLeDiff, Nat.reduceEqDiff, reduceCtorEq] at this ⊢
    exact this
theorem oneT_q {L : List Tok} {o i : Nat} {d : Int} (hd : 0 ≤ d) (hd2 : d ≤ 23) {st : St} (h : Rd L o st i d 0) : EvQ tbl 27 [.ptr o 0] st (fun a st' => (∃ t : TDef, t.OK ∧ a = .agg t.row) ∧ Adv L o i d 0 st') := by
  refine EvQ.body (fn := a27) rfl rfl rfl ?_
  show WC _ (decQ L o i d)
  simp (contextual := true) (implicitDefEqProofs := false) only [K27, SS, Nat.reduceAdd, Nat.reduceSub, Nat.reduceLeDiff, Nat.reduceEqDiff, reduceCtorEq]
  refine WC.call (word_q h _) rfl rfl ?_
  rintro _ _ ⟨rfl, b, rfl, hb⟩
  cases b with
  | true =>
    have := one_rest hd hd2 _ h (hb rfl).2 1
    simp (contextual := true) (implicitDefEqProofs := false) only [K27, SS, Nat.reduceAdd, Nat.reduceSub, Nat.reduceLeDiff, Nat.reduceEqDiff, reduceCtorEq] at this ⊢
    exact this
  | false =>
  simp (contextual := true) (implicitDefEqProofs := false) only [K27, SS, Nat.reduceAdd, Nat.reduceSub, Nat.reduceLeDiff, Nat.reduceEqDiff, reduceCtorEq]
  refine WC.call (word_q h _) rfl rfl ?_
  rintro _ _ ⟨rfl, b, rfl, hb⟩
  cases b with
  | true =>
    have := one_rest hd hd2 _ h (hb rfl).2 2
    simp (contextual := true) (implicitDefEqProofs := false) only [K27, SS, Nat.reduceAdd, Nat.reduceSub, Nat.reduceLeDiff, Nat.reduceEqDiff, reduceCtorEq] at this ⊢
    exact this
  | false =>
  simp (contextual := true) (implicitDefEqProofs := false) only [K27, SS, Nat.reduceAdd, Nat.reduceSub, Nat.reduceLeDiff, Nat.reduceEqDiff, reduceCtorEq]
  refine WC.call (word_q h _) rfl rfl ?_
  rintro _ _ ⟨rfl, b, rfl, hb⟩
  cases b with
  | true =>
    have := one_rest hd hd2 _ h (hb rfl).2 3
    simp (contextual := true) (implicitDefEqProofs := false) only [K27, SS, Nat.reduceAdd, Nat.reduceSub, Nat.reduceLeDiff, Nat.reduceEqDiff, reduceCtorEq] at this ⊢
    exact this
  | false =>
  simp (contextual := true) (implicitDefEqProofs := false) only [K27, SS, Nat.reduceAdd, Nat.reduceSub, Nat.reduceLeDiff, Nat.reduceEqDiff, reduceCtorEq]
  refine WC.call (word_q h _) rfl rfl ?_
  rintro _ _ ⟨rfl, b, rfl, hb⟩
  cases b with
  | true =>
    have := one_rest hd hd2 _ h (hb rfl).2 4
    simp (contextual := true) (implicitDefEqProofs := false) only [K27, SS, Nat.reduceAdd, Nat.reduceSub, Nat.reduceLeDiff, Nat.reduceEqDiff, reduceCtorEq] at this ⊢
    exact this
  | false =>
  simp (contextual := true) (implicitDefEqProofs := false) only [K27, SS, Nat.reduceAdd, Nat.reduceSub, Nat.reduceLeDiff, Nat.reduceEqDiff, reduceCtorEq]
  refine WC.call (word_q h _) rfl rfl ?_
  rintro _ _ ⟨rfl, b, rfl, hb⟩
  cases b with
  | true =>
    have := one_rest hd hd2 _ h (hb rfl).2 5
    simp (contextual := true) (implicitDefEqProofs := false) only [K27, SS, Nat.reduceAdd, Nat.reduceSub, Nat.reduceLeDiff, Nat.reduceEqDiff, reduceCtorEq] at this ⊢
    exact this
  | false =>
  simp (contextual := true) (implicitDefEqProofs := false) only [K27, SS, Nat.reduceAdd, Nat.reduceSub, Nat.reduceLeDiff, Nat.reduceEqDiff, reduceCtorEq]
  refine WC.call (fault_q h 4 (by decide)) rfl rfl ?_
  rintro _ st1 ⟨e1, h1, he1⟩
  simp (contextual := true) (implicitDefEqProofs := false) only [K27, SS, Nat.reduceAdd, Nat.reduceSub, Nat.reduceLeDiff, Nat.reduceEqDiff, reduceCtorEq]
  exact WC.ret ⟨_, _, rfl, ⟨⟨0, [], [], []⟩, ⟨by simp, by simp, by simp, fun _ => rfl⟩, rfl⟩, i, e1, h1, Nat.le_refl _, fun h0 => absurd h0 he1⟩

theorem rowsT (l : List TDef) : rowsOk 4 (l.map TDef.row) = true := rowsOk_all (by
  intro r hr
  obtain ⟨t, _, rfl⟩ := List.mem_map.1 hr
  rfl)
/-- what Types answers: a fault and nothing, or declarations, one at least -/
def TypesOK (a : AV) : Prop := ∃ (l : List TDef) (at' e : Int), a = .tuple [.list false (l.map TDef.row), .int .i64 at', .int .i64 e] ∧ l.length ≤ 3000 ∧ (∀ t ∈ l, t.OK) ∧ (e = 0 → l ≠ []) ∧ (e ≠ 0 → l = [])
theorem types_q (s : List Nat) (st0 : St) : EvQ tbl 9 [.str s] st0 (fun a st' => TypesOK a) := by
  refine EvQ.body (fn := a9) rfl rfl rfl ?_
  simp (contextual := true) (implicitDefEqProofs := false) only [K9, SS, Nat.reduceAdd, Nat.reduceSub, Nat.reduceLeDiff, Nat.reduceEqDiff, reduceCtorEq]
  refine WC.call (tokens_q s st0) rfl rfl ?_
  rintro _ st ⟨rfl, L, at', e, rfl, hL⟩
  simp (contextual := true) (implicitDefEqProofs := false) only [K9, SS, Nat.reduceAdd, Nat.reduceSub, Nat.reduceLeDiff, Nat.reduceEqDiff, reduceCtorEq]
  refine WC.br (fun he => ?_) (fun he => ?_)
  · simp (contextual := true) (implicitDefEqProofs := false) only [K9, SS, Nat.reduceAdd, Nat.reduceSub, Nat.reduceLeDiff, Nat.reduceEqDiff, reduceCtorEq]
    exact WC.ret ⟨_, _, rfl, [], _, _, rfl, by simp, by simp, (fun h0 => by subst h0; cases he), fun _ => rfl⟩
  have he : e = 0 := by rw [eqI_eq] at he; simpa using he
  obtain ⟨hL1, hL2⟩ := hL he
  have hpos : 0 < L.length := by obtain ⟨L', a, rfl, _⟩ := hL1; simp
  simp (contextual := true) (implicitDefEqProofs := false) only [K9, SS, Nat.reduceAdd, Nat.reduceSub, Nat.reduceLeDiff, Nat.reduceEqDiff, reduceCtorEq]
  have hR : Rd L st.length (st ++ [.cells (rdC L 0 0 0 0)]) 0 0 0 := ⟨⟨hL1, hL2⟩, hpos, 0, by simp⟩
  refine WC.loopR (fun mm fr st' => ∃ (i' : Nat) (e' : Int) (l : List TDef) (first : Bool) (v10 : AV), Rd L st.length st' i' 0 e' ∧ (first = true → e' = 0) ∧ (first = false → l ≠ []) ∧ (∀ t ∈ l, t.OK) ∧ mm = rem L i' e' ∧ l.length + mm ≤ L.length ∧
    fr = [.str s, .list true [], .int .i64 0, .int .i64 0, .list false (L.map Tok.row), .int .i64 at', .int .i64 e, .ptr st.length 0, .list true (l.map TDef.row), .bool first, v10]) (m := rem L 0 0) ⟨0, 0, [], true, _, hR, (fun _ => rfl), (by simp), (by simp), rfl, by simpa using rem_le L 0 0, rfl⟩ ?_
  rintro mm fr st' ⟨i', e', l, first, v10, hr, hf1, hf2, hok, hmm, hlen, rfl⟩
  obtain ⟨bad', ho'⟩ := hr.ob
  have hend : first = false → (e' ≠ 0 ∨ e' = 0) → WC (fun n => seqC (blkC 0 some) (exec (callF tbl n) n (a9s34.seq (a9s36.seq ACode.ret))) (.exit 0, [.str s, .list true [], .int .i64 0, .int .i64 0, .list false (L.map Tok.row), .int .i64 at', .int .i64 e, .ptr st.length 0, .list true (l.map TDef.row), .bool first, v10], st')) (fun o => ∃ r st', finK [ResK.v 1, ResK.v 2, ResK.v 3] (some o) = some (r, st') ∧ TypesOK r) := by
    intro hfirst _
    simp (contextual := true) (implicitDefEqProofs := false) only [K9, SS, Nat.reduceAdd, Nat.reduceSub, Nat.reduceLeDiff, Nat.reduceEqDiff, reduceCtorEq, ho', rdC]
    refine WC.br (fun h => ?_) (fun h => ?_)
    · have he' : e' ≠ 0 := by rw [eqI_eq] at h; simpa using h
      simp (contextual := true) (implicitDefEqProofs := false) only [K9, SS, Nat.reduceAdd, Nat.reduceSub, Nat.reduceLeDiff, Nat.reduceEqDiff, reduceCtorEq, ho', rdC]
      exact WC.ret ⟨_, _, rfl, [], _, _, rfl, by simp, by simp, fun h0 => absurd h0 he', fun _ => rfl⟩
    · simp (contextual := true) (implicitDefEqProofs := false) only [K9, SS, Nat.reduceAdd, Nat.reduceSub, Nat.reduceLeDiff, Nat.reduceEqDiff, reduceCtorEq]
      exact WC.ret ⟨_, _, rfl, l, _, _, rfl, by omega, hok, fun _ => hf2 hfirst, fun h0 => absurd rfl h0⟩
  have body : e' = 0 → WC (fun n => exec (callF tbl n) n ((ACode.blk 1 (a9s18.seq a9s20)).seq a9s24) [.str s, .list true [], .int .i64 0, .int .i64 0, .list false (L.map Tok.row), .int .i64 at', .int .i64 e, .ptr st.length 0, .list true (l.map TDef.row), .bool first, v10] st')
      (LQ (fun mm fr st' => ∃ (i' : Nat) (e' : Int) (l : List TDef) (first : Bool) (v10 : AV), Rd L st.length st' i' 0 e' ∧ (first = true → e' = 0) ∧ (first = false → l ≠ []) ∧ (∀ t ∈ l, t.OK) ∧ mm = rem L i' e' ∧ l.length + mm ≤ L.length ∧
    fr = [.str s, .list true [], .int .i64 0, .int .i64 0, .list false (L.map Tok.row), .int .i64 at', .int .i64 e, .ptr st.length 0, .list true (l.map TDef.row), .bool first, v10]) mm (fun n => seqC (blkC 0 some) (exec (callF tbl n) n (a9s34.seq (a9s36.seq ACode.ret)))) (fun o => ∃ r st', finK [ResK.v 1, ResK.v 2, ResK.v 3] (some o) = some (r, st') ∧ TypesOK r)) := by
    intro he0
    subst he0
    simp (contextual := true) (implicitDefEqProofs := false) only [K9, SS, Nat.reduceAdd, Nat.reduceSub, Nat.reduceLeDiff, Nat.reduceEqDiff, reduceCtorEq]
    refine WC.call (oneT_q (by decide) (by decide) hr) rfl rfl ?_
    rintro _ st2 ⟨⟨t, ht, rfl⟩, i2, e2, h2, h2a, h2b⟩
    have hlt : rem L i2 e2 < rem L i' 0 := rem_lt rfl hr.hi (fun h0 => (h2b h0).2)
    have hfr : (l.length + 1) * 72 ≤ 2 ^ 47 := by omega
    simp (contextual := true) (implicitDefEqProofs := false) only [K9, SS, Nat.reduceAdd, Nat.reduceSub, Nat.reduceLeDiff, Nat.reduceEqDiff, reduceCtorEq, TDef.row, rowsT, List.length_map, hfr]
    refine WC.next (m' := rem L i2 e2) (by omega) ⟨i2, e2, l ++ [t], false, .box [.int .u8 t.k, .str t.n, .list false (t.fs.map FDef.row), .list false (t.ns.map strRow)], h2, (by simp), (by simp), fun x hx => ?_, rfl, by simp only [List.length_append, List.length_cons, List.length_nil]; omega, ?_⟩
    · rcases List.mem_append.1 hx with h0 | h0
      · exact hok x h0
      · simp at h0; subst h0; exact ht
    · simp only [List.map_append, List.map_cons, List.map_nil, TDef.row]
  cases first with
  | true =>
    obtain rfl := hf1 rfl
    have := body rfl
    simp (contextual := true) (implicitDefEqProofs := false) only [K9, SS, Nat.reduceAdd, Nat.reduceSub, Nat.reduceLeDiff, Nat.reduceEqDiff, reduceCtorEq] at this ⊢
    exact this
  | false =>
    by_cases he0 : e' = 0
    · subst he0
      simp (contextual := true) (implicitDefEqProofs := false) only [K9, SS, Nat.reduceAdd, Nat.reduceSub, Nat.reduceLeDiff, Nat.reduceEqDiff, reduceCtorEq, ho', rdC, show eqI 0 0 = true from rfl]
      refine WC.call (kind_q hr _) rfl rfl ?_
      rintro _ _ ⟨rfl, b, rfl, _⟩
      cases b with
      | true =>
        simp (contextual := true) (implicitDefEqProofs := false) only [K9, SS, Nat.reduceAdd, Nat.reduceSub, Nat.reduceLeDiff, Nat.reduceEqDiff, reduceCtorEq]
        exact WC.leave (hend rfl (Or.inr rfl))
      | false =>
        have := body rfl
        simp (contextual := true) (implicitDefEqProofs := false) only [K9, SS, Nat.reduceAdd, Nat.reduceSub, Nat.reduceLeDiff, Nat.reduceEqDiff, reduceCtorEq] at this ⊢
        exact this
    · have hf : eqI e' 0 = false := by rw [eqI_eq]; simpa using he0
      simp (contextual := true) (implicitDefEqProofs := false) only [K9, SS, Nat.reduceAdd, Nat.reduceSub, Nat.reduceLeDiff, Nat.reduceEqDiff, reduceCtorEq, ho', rdC, hf]
      exact WC.leave (hend rfl (Or.inl he0))
end Go.Cb.CodeA
set_option maxRecDepth 20000
set_option linter.unusedSimpArgs false
set_option linter.unusedVariables false
namespace Go.Cb.CodeA
open Go Go.Cb
attribute [local congr] obind_congr gv_congr2 gv2_congr brT_congr seqK_congr blkK_congr m1_congr gm_congr

/-- the store has grown: what was there is as it was -/
def Gr (st st' : St) : Prop := ∀ (o : Nat) (x : Obj), st[o]? = some x → st'[o]? = some x
theorem Gr.refl (st : St) : Gr st st := fun _ _ h => h
theorem Gr.trans {a b c : St} (h : Gr a b) (h' : Gr b c) : Gr a c := fun o x hx => h' o x (h o x hx)
theorem Gr.app (st t : St) : Gr st (st ++ t) := fun o x h => by
  rw [List.getElem?_append_left (List.getElem?_eq_some_iff.1 h).1]; exact h

theorem root_q0 (n : List Nat) (st : St) : EvQ tbl 34 [.str n] st (fun a st' => st' = st ∧ a = .bool (eqN n [81, 117, 101, 114, 121] || eqN n [77, 117, 116, 97, 116, 105, 111, 110])) := by
  refine EvQ.body (fn := a34) rfl rfl rfl ?_
  simp (contextual := true) (implicitDefEqProofs := false) only [K34, SS, Nat.reduceAdd, Nat.reduceSub, Nat.reduceLeDiff, Nat.reduceEqDiff, reduceCtorEq]
  exact WC.ret ⟨_, _, rfl, rfl, rfl⟩
/-- the first place of a name, or -1 -/
def idx : List (List Nat) → List Nat → Int
  | [], _ => -1
  | x :: xs, n => if eqN n x then 0 else (if idx xs n < 0 then -1 else idx xs n + 1)
def hasN (l : List (List Nat)) (n : List Nat) : Bool := l.any (fun x => eqN n x)
theorem idx_le (l : List (List Nat)) (n : List Nat) : -1 ≤ idx l n ∧ idx l n < l.length := by
  induction l with
  | nil => simp [idx]
  | cons x xs ih =>
    simp only [idx, List.length_cons]
    split
    · omega
    · split <;> omega
theorem idx_has (l : List (List Nat)) (n : List Nat) : (!ltI (idx l n) 0) = hasN l n := by
  rw [ltI_eq]
  induction l with
  | nil => rfl
  | cons x xs ih =>
    simp only [idx, hasN, List.any_cons] at ih ⊢
    by_cases hx : eqN n x = true
    · simp [hx]
    · simp only [hx, Bool.false_eq_true, if_false, Bool.false_or]
      rw [← ih]
      by_cases h : idx xs n < 0
      · simp [h]
      · simp [h]; omega

theorem index_q (l : List (List Nat)) (hl : l.length ≤ 10000) (n : List Nat) (st : St) : EvQ tbl 36 [.list false (l.map strRow), .str n] st (fun a st' => st' = st ∧ a = .int .i64 (idx l n)) := by
  refine EvQ.body (fn := a36) rfl rfl rfl ?_
  simp (contextual := true) (implicitDefEqProofs := false) only [K36, SS, Nat.reduceAdd, Nat.reduceSub, Nat.reduceLeDiff, Nat.reduceEqDiff, reduceCtorEq, List.length_map]
  refine WC.loopR (fun mm fr st' => st' = st ∧ ∃ (i : Nat) (v3 : AV), i ≤ l.length ∧ mm = l.length - i ∧ idx l n = (if idx (l.drop i) n < 0 then -1 else idx (l.drop i) n + i) ∧ fr = [.list false (l.map strRow), .str n, .int .i64 0, v3, .int .i64 l.length, .int .i64 i]) (m := l.length) ⟨rfl, 0, _, Nat.zero_le _, rfl, by rw [List.drop_zero]; have := (idx_le l n).1; split <;> omega, rfl⟩ ?_
  rintro mm fr st' ⟨rfl, i, v3, hi, rfl, hidx, rfl⟩
  simp (contextual := true) (implicitDefEqProofs := false) only [K36, SS, Nat.reduceAdd, Nat.reduceSub, Nat.reduceLeDiff, Nat.reduceEqDiff, reduceCtorEq]
  by_cases hil : i < l.length
  · have e2 : (l.map strRow)[i]? = some (strRow l[i]) := by rw [List.getElem?_map, List.getElem?_eq_getElem hil]; rfl
    rw [List.drop_eq_getElem_cons hil] at hidx
    revert e2 hidx
    generalize l[i] = x
    intro hidx e2
    simp (contextual := true) (implicitDefEqProofs := false) only [K36, SS, Nat.reduceAdd, Nat.reduceSub, Nat.reduceLeDiff, Nat.reduceEqDiff, reduceCtorEq, hil, e2, strRow]
    simp only [idx] at hidx
    refine WC.br (fun hx => ?_) (fun hx => ?_)
    · simp [hx] at hidx
      simp (contextual := true) (implicitDefEqProofs := false) only [K36, SS, Nat.reduceAdd, Nat.reduceSub, Nat.reduceLeDiff, Nat.reduceEqDiff, reduceCtorEq]
      refine WC.leaveR ?_
      simp (contextual := true) (implicitDefEqProofs := false) only [K36, SS, Nat.reduceAdd, Nat.reduceSub, Nat.reduceLeDiff, Nat.reduceEqDiff, reduceCtorEq]
      exact WC.ret ⟨_, _, rfl, rfl, by rw [hidx]; rfl⟩
    · simp [hx] at hidx
      simp (contextual := true) (implicitDefEqProofs := false) only [K36, SS, Nat.reduceAdd, Nat.reduceSub, Nat.reduceLeDiff, Nat.reduceEqDiff, reduceCtorEq, inc64 (show i + 1 < 2 ^ 63 by omega)]
      refine WC.next (m' := l.length - (i + 1)) (by omega) ⟨rfl, i + 1, _, hil, rfl, ?_, rfl⟩
      rw [hidx]
      have := (idx_le (l.drop (i + 1)) n).1
      by_cases h : idx (l.drop (i + 1)) n < 0
      · simp [h]
      · simp only [h, if_false]
        have h2 : ¬ idx (l.drop (i + 1)) n + 1 < 0 := by omega
        simp only [h2, if_false]
        omega
  · simp (contextual := true) (implicitDefEqProofs := false) only [K36, SS, Nat.reduceAdd, Nat.reduceSub, Nat.reduceLeDiff, Nat.reduceEqDiff, reduceCtorEq, hil]
    refine WC.leave ?_
    simp (contextual := true) (implicitDefEqProofs := false) only [K36, SS, Nat.reduceAdd, Nat.reduceSub, Nat.reduceLeDiff, Nat.reduceEqDiff, reduceCtorEq]
    refine WC.ret ⟨_, _, rfl, rfl, ?_⟩
    rw [hidx, List.drop_of_length_le (by omega)]
    rfl
theorem contains_q (l : List (List Nat)) (hl : l.length ≤ 10000) (n : List Nat) (st : St) : EvQ tbl 29 [.list false (l.map strRow), .str n] st (fun a st' => st' = st ∧ a = .bool (hasN l n)) := by
  refine EvQ.body (fn := a29) rfl rfl rfl ?_
  simp (contextual := true) (implicitDefEqProofs := false) only [K29, SS, Nat.reduceAdd, Nat.reduceSub, Nat.reduceLeDiff, Nat.reduceEqDiff, reduceCtorEq]
  refine WC.call (index_q l hl n st) rfl rfl ?_
  rintro _ _ ⟨rfl, rfl⟩
  simp (contextual := true) (implicitDefEqProofs := false) only [K29, SS, Nat.reduceAdd, Nat.reduceSub, Nat.reduceLeDiff, Nat.reduceEqDiff, reduceCtorEq, idx_has]
  exact WC.ret ⟨_, _, rfl, rfl, rfl⟩
/-- does a text begin so? -/
def beginsN (s p : List Nat) : Bool := decide (p.length ≤ s.length) && eqN (s.take p.length) p
theorem hasPrefix0_q (s p : List Nat) (st : St) : EvQ tbl 49 [.str s, .str p] st (fun a st' => st' = st ∧ a = .bool (beginsN s p)) := by
  refine EvQ.body (fn := a49) rfl rfl rfl ?_
  by_cases h : s.length < p.length
  · simp (contextual := true) (implicitDefEqProofs := false) only [K49, SS, Nat.reduceAdd, Nat.reduceSub, Nat.reduceLeDiff, Nat.reduceEqDiff, reduceCtorEq, h]
    exact WC.ret ⟨_, _, rfl, rfl, by simp [beginsN, show ¬ p.length ≤ s.length by omega]; rfl⟩
  · simp (contextual := true) (implicitDefEqProofs := false) only [K49, SS, Nat.reduceAdd, Nat.reduceSub, Nat.reduceLeDiff, Nat.reduceEqDiff, reduceCtorEq, h, show p.length ≤ s.length by omega]
    exact WC.ret ⟨_, _, rfl, rfl, by simp [beginsN, show p.length ≤ s.length by omega]; rfl⟩
theorem hasPrefix_q (s p : List Nat) (st : St) : EvQ tbl 30 [.str s, .str p] st (fun a st' => st' = st ∧ a = .bool (beginsN s p)) := by
  refine EvQ.body (fn := a30) rfl rfl rfl ?_
  simp (contextual := true) (implicitDefEqProofs := false) only [K30, SS, Nat.reduceAdd, Nat.reduceSub, Nat.reduceLeDiff, Nat.reduceEqDiff, reduceCtorEq]
  refine WC.call (hasPrefix0_q s p st) rfl rfl ?_
  rintro _ _ ⟨rfl, rfl⟩
  simp (contextual := true) (implicitDefEqProofs := false) only [K30, SS, Nat.reduceAdd, Nat.reduceSub, Nat.reduceLeDiff, Nat.reduceEqDiff, reduceCtorEq]
  exact WC.ret ⟨_, _, rfl, rfl, rfl⟩
def FDef.name : FDef → List Nat
  | .mk n _ _ _ _ => n
def FDef.args : FDef → List FDef
  | .mk _ as _ _ _ => as
def FDef.ty : FDef → TRef
  | .mk _ _ t _ _ => t
def FDef.has : FDef → Bool
  | .mk _ _ _ h _ => h
def FDef.val : FDef → Val
  | .mk _ _ _ _ v => v
def namesF (fs : List FDef) : List (List Nat) := fs.map FDef.name
theorem FDef.row_cells (f : FDef) : ∃ tn txs tb vk vn vs vx vy, f.ty.row = [.str tn, .list false txs, .bool tb] ∧ f.val.row = [.int .u8 vk, .int .i64 vn, .str vs, .list false vx, .list false vy] ∧
    f.row = [.str f.name, .list false (f.args.map FDef.row), .str tn, .list false txs, .bool tb, .bool f.has, .int .u8 vk, .int .i64 vn, .str vs, .list false vx, .list false vy] := by
  cases f with
  | mk n as t has v =>
    obtain ⟨tn, txs, tb, e1⟩ := t.row_cells
    obtain ⟨vk, vn, vs, vx, vy, e2⟩ := v.row_cells
    exact ⟨_, _, _, _, _, _, _, _, e1, e2, FDef.row_mk e1 e2⟩
theorem list_q (fs : List FDef) (hl : fs.length ≤ 10000) (st : St) : EvQ tbl 37 [.list false (fs.map FDef.row)] st (fun a st' => st' = st ∧ a = .list true ((namesF fs).map strRow)) := by
  refine EvQ.body (fn := a37) rfl rfl rfl ?_
  simp (contextual := true) (implicitDefEqProofs := false) only [K37, SS, Nat.reduceAdd, Nat.reduceSub, Nat.reduceLeDiff, Nat.reduceEqDiff, reduceCtorEq, List.length_map]
  refine WC.loopR (fun mm fr st' => st' = st ∧ ∃ (i : Nat) (v3 : AV), i ≤ fs.length ∧ mm = fs.length - i ∧ fr = [.list false (fs.map FDef.row), .list true [], .list true ((namesF (fs.take i)).map strRow), v3, .list false (fs.map FDef.row), .int .i64 fs.length, .int .i64 i]) (m := fs.length) ⟨rfl, 0, _, Nat.zero_le _, rfl, rfl⟩ ?_
  rintro mm fr st' ⟨rfl, i, v3, hi, rfl, rfl⟩
  simp (contextual := true) (implicitDefEqProofs := false) only [K37, SS, Nat.reduceAdd, Nat.reduceSub, Nat.reduceLeDiff, Nat.reduceEqDiff, reduceCtorEq]
  by_cases hil : i < fs.length
  · have e2 : (fs.map FDef.row)[i]? = some (fs[i]).row := by rw [List.getElem?_map, List.getElem?_eq_getElem hil]; rfl
    have e3 : fs.take (i + 1) = fs.take i ++ [fs[i]] := by rw [List.take_add_one, List.getElem?_eq_getElem hil]; rfl
    revert e2 e3
    generalize fs[i] = f
    intro e2 e3
    obtain ⟨tn, txs, tb, vk, vn, vs, vx, vy, _, _, ef⟩ := f.row_cells
    rw [ef] at e2
    have hlen : ((namesF (fs.take i)).map strRow).length = i := by simp [namesF]; omega
    have hc : (i + 1) * 16 ≤ 2 ^ 47 := by omega
    simp (contextual := true) (implicitDefEqProofs := false) only [K37, SS, Nat.reduceAdd, Nat.reduceSub, Nat.reduceLeDiff, Nat.reduceEqDiff, reduceCtorEq, hil, e2, rowsStr, hlen, hc, inc64 (show i + 1 < 2 ^ 63 by omega)]
    refine WC.next (m' := fs.length - (i + 1)) (by omega) ⟨rfl, i + 1, .box [.str f.name, .list false (f.args.map FDef.row), .str tn, .list false txs, .bool tb, .bool f.has, .int .u8 vk, .int .i64 vn, .str vs, .list false vx, .list false vy], hil, rfl, ?_⟩
    rw [e3]
    simp only [namesF, List.map_append, List.map_cons, List.map_nil, strRow]
  · simp (contextual := true) (implicitDefEqProofs := false) only [K37, SS, Nat.reduceAdd, Nat.reduceSub, Nat.reduceLeDiff, Nat.reduceEqDiff, reduceCtorEq, hil]
    refine WC.leave ?_
    simp (contextual := true) (implicitDefEqProofs := false) only [K37, SS, Nat.reduceAdd, Nat.reduceSub, Nat.reduceLeDiff, Nat.reduceEqDiff, reduceCtorEq]
    refine WC.ret ⟨_, _, rfl, rfl, ?_⟩
    rw [List.take_of_length_le (by omega)]
    rfl
end Go.Cb.CodeA
set_option maxRecDepth 20000
set_option linter.unusedSimpArgs false
set_option linter.unusedVariables false
namespace Go.Cb.CodeA
open Go Go.Cb
attribute [local congr] obind_congr gv_congr2 gv2_congr brT_congr seqK_congr blkK_congr m1_congr gm_congr

def TRef.baseN : TRef → List Nat
  | .base n _ => n
  | .wrap t _ => t.baseN
def TRef.name : TRef → List Nat
  | .base n _ => n
  | .wrap _ _ => []
def TRef.bang : TRef → Bool
  | .base _ b => b
  | .wrap _ b => b
def TRef.rows : TRef → List (List AV)
  | .base _ _ => []
  | .wrap t _ => [t.row]
theorem TRef.row_eq (t : TRef) : t.row = [.str t.name, .list false t.rows, .bool t.bang] := by cases t <;> rfl
def TRef.size : TRef → Nat
  | .base _ _ => 0
  | .wrap t _ => t.size + 1
theorem base_q (t : TRef) (st : St) : EvQ tbl 63 [.agg t.row] st (fun a st' => st' = st ∧ a = .str t.baseN) := by
  rw [t.row_eq]
  refine EvQ.body (fn := a63) rfl rfl rfl ?_
  simp (contextual := true) (implicitDefEqProofs := false) only [K63, SS, Nat.reduceAdd, Nat.reduceSub, Nat.reduceLeDiff, Nat.reduceEqDiff, reduceCtorEq]
  refine WC.loopR (fun mm fr st' => st' = st ∧ ∃ (u : TRef), u.baseN = t.baseN ∧ mm = u.size ∧ fr = [.agg [.str t.name, .list false t.rows, .bool t.bang], .box [.str u.name, .list false u.rows, .bool u.bang], .str []]) (m := t.size) ⟨rfl, t, rfl, rfl, rfl⟩ ?_
  rintro mm fr st' ⟨rfl, u, hu, rfl, rfl⟩
  cases u with
  | base n b =>
    simp (contextual := true) (implicitDefEqProofs := false) only [K63, SS, Nat.reduceAdd, Nat.reduceSub, Nat.reduceLeDiff, Nat.reduceEqDiff, reduceCtorEq, TRef.rows, show ltI 0 ((0 : Nat) : Int) = false from rfl]
    refine WC.leave ?_
    simp (contextual := true) (implicitDefEqProofs := false) only [K63, SS, Nat.reduceAdd, Nat.reduceSub, Nat.reduceLeDiff, Nat.reduceEqDiff, reduceCtorEq]
    exact WC.ret ⟨_, _, rfl, rfl, by rw [← hu]; rfl⟩
  | wrap u b =>
    have eu := u.row_eq
    simp (contextual := true) (implicitDefEqProofs := false) only [K63, SS, Nat.reduceAdd, Nat.reduceSub, Nat.reduceLeDiff, Nat.reduceEqDiff, reduceCtorEq, TRef.rows, eu, show ltI 0 ((1 : Nat) : Int) = true from rfl]
    exact WC.next (m' := u.size) (by simp [TRef.size]) ⟨rfl, u, hu, rfl, rfl⟩

/-- are two types one? -/
def sameT : TRef → TRef → Bool
  | .base n b, .base m c => eqN n m && (b == c)
  | .wrap t b, .wrap u c => (b == c) && sameT t u
  | _, _ => false
theorem equalF_ne (xs ys : List (List AV)) (h : xs.length ≠ ys.length) (st : St) : EvQ tbl 38 [.list false xs, .list false ys, .func 18 [] []] st (fun a st' => st' = st ∧ a = .bool false) := by
  refine EvQ.body (fn := a38) rfl rfl rfl ?_
  simp (contextual := true) (implicitDefEqProofs := false) only [K38, SS, Nat.reduceAdd, Nat.reduceSub, Nat.reduceLeDiff, Nat.reduceEqDiff, reduceCtorEq, h]
  exact WC.ret ⟨_, _, rfl, rfl, rfl⟩
theorem equalF_nil (st : St) : EvQ tbl 38 [.list false [], .list false [], .func 18 [] []] st (fun a st' => st' = st ∧ a = .bool true) := by
  refine EvQ.body (fn := a38) rfl rfl rfl ?_
  simp (contextual := true) (implicitDefEqProofs := false) only [K38, SS, Nat.reduceAdd, Nat.reduceSub, Nat.reduceLeDiff, Nat.reduceEqDiff, reduceCtorEq]
  refine WC.loopR (fun mm fr st' => st' = st ∧ fr = [.list false [], .list false [], .func 18 [] [], .bool false, .undef, .undef, .undef, .list false [], .int .i64 0, .int .i64 0]) (m := 0) ⟨rfl, rfl⟩ ?_
  rintro mm fr st' ⟨rfl, rfl⟩
  simp (contextual := true) (implicitDefEqProofs := false) only [K38, SS, Nat.reduceAdd, Nat.reduceSub, Nat.reduceLeDiff, Nat.reduceEqDiff, reduceCtorEq, show ltI 0 0 = false from rfl]
  refine WC.leave ?_
  simp (contextual := true) (implicitDefEqProofs := false) only [K38, SS, Nat.reduceAdd, Nat.reduceSub, Nat.reduceLeDiff, Nat.reduceEqDiff, reduceCtorEq]
  exact WC.ret ⟨_, _, rfl, rfl, rfl⟩
theorem equalF_one (t u : TRef) (c : Bool) (h : ∀ st, EvQ tbl 18 [.agg t.row, .agg u.row] st (fun a st' => st' = st ∧ a = .bool c)) (st : St) : EvQ tbl 38 [.list false [t.row], .list false [u.row], .func 18 [] []] st (fun a st' => st' = st ∧ a = .bool c) := by
  have et := t.row_eq
  have eu := u.row_eq
  rw [et, eu] at h ⊢
  refine EvQ.body (fn := a38) rfl rfl rfl ?_
  simp (contextual := true) (implicitDefEqProofs := false) only [K38, SS, Nat.reduceAdd, Nat.reduceSub, Nat.reduceLeDiff, Nat.reduceEqDiff, reduceCtorEq]
  refine WC.loopR (fun mm fr st' => st' = st ∧ ((mm = 1 ∧ fr = [.list false [[.str t.name, .list false t.rows, .bool t.bang]], .list false [[.str u.name, .list false u.rows, .bool u.bang]], .func 18 [] [], .bool false, .undef, .undef, .undef, .list false [[.str t.name, .list false t.rows, .bool t.bang]], .int .i64 1, .int .i64 0]) ∨
    (mm = 0 ∧ c = true ∧ ∃ v4 v5 v6, fr = [.list false [[.str t.name, .list false t.rows, .bool t.bang]], .list false [[.str u.name, .list false u.rows, .bool u.bang]], .func 18 [] [], .bool false, v4, v5, v6, .list false [[.str t.name, .list false t.rows, .bool t.bang]], .int .i64 1, .int .i64 1]))) (m := 1) ⟨rfl, Or.inl ⟨rfl, rfl⟩⟩ ?_
  rintro mm fr st' ⟨rfl, ⟨rfl, rfl⟩ | ⟨rfl, hc, v4, v5, v6, rfl⟩⟩
  · simp (contextual := true) (implicitDefEqProofs := false) only [K38, SS, Nat.reduceAdd, Nat.reduceSub, Nat.reduceLeDiff, Nat.reduceEqDiff, reduceCtorEq, show ltI 0 1 = true from rfl]
    refine WC.callV (h _) rfl rfl ?_
    rintro _ _ ⟨rfl, rfl⟩
    simp (contextual := true) (implicitDefEqProofs := false) only [K38, SS, Nat.reduceAdd, Nat.reduceSub, Nat.reduceLeDiff, Nat.reduceEqDiff, reduceCtorEq]
    refine WC.br (fun hc => ?_) (fun hc => ?_)
    · simp (contextual := true) (implicitDefEqProofs := false) only [K38, SS, Nat.reduceAdd, Nat.reduceSub, Nat.reduceLeDiff, Nat.reduceEqDiff, reduceCtorEq]
      refine WC.leaveR ?_
      simp (contextual := true) (implicitDefEqProofs := false) only [K38, SS, Nat.reduceAdd, Nat.reduceSub, Nat.reduceLeDiff, Nat.reduceEqDiff, reduceCtorEq]
      exact WC.ret ⟨_, _, rfl, rfl, by cases c <;> simp_all <;> rfl⟩
    · simp (contextual := true) (implicitDefEqProofs := false) only [K38, SS, Nat.reduceAdd, Nat.reduceSub, Nat.reduceLeDiff, Nat.reduceEqDiff, reduceCtorEq, show wrapA .i64 (addI 0 1) = 1 from rfl]
      exact WC.next (m' := 0) (by decide) ⟨rfl, Or.inr ⟨rfl, by cases c <;> simp_all, _, _, _, rfl⟩⟩
  · simp (contextual := true) (implicitDefEqProofs := false) only [K38, SS, Nat.reduceAdd, Nat.reduceSub, Nat.reduceLeDiff, Nat.reduceEqDiff, reduceCtorEq, show ltI 1 1 = false from rfl]
    refine WC.leave ?_
    simp (contextual := true) (implicitDefEqProofs := false) only [K38, SS, Nat.reduceAdd, Nat.reduceSub, Nat.reduceLeDiff, Nat.reduceEqDiff, reduceCtorEq]
    exact WC.ret ⟨_, _, rfl, rfl, by rw [hc]; rfl⟩
theorem same_q : ∀ (t u : TRef) (st : St), EvQ tbl 18 [.agg t.row, .agg u.row] st (fun a st' => st' = st ∧ a = .bool (sameT t u)) := by
  intro t
  induction t with
  | base n b =>
    intro u st
    cases u with
    | base m c =>
      refine EvQ.body (fn := a18) rfl rfl rfl ?_
      simp only [TRef.row]
      simp (contextual := true) (implicitDefEqProofs := false) only [K18, SS, Nat.reduceAdd, Nat.reduceSub, Nat.reduceLeDiff, Nat.reduceEqDiff, reduceCtorEq]
      refine WC.g2 (fun h => ?_) (fun h => ?_)
      · simp (contextual := true) (implicitDefEqProofs := false) only [K18, SS, Nat.reduceAdd, Nat.reduceSub, Nat.reduceLeDiff, Nat.reduceEqDiff, reduceCtorEq, h]
        refine WC.call (equalF_nil _) rfl rfl ?_
        rintro _ _ ⟨rfl, rfl⟩
        simp (contextual := true) (implicitDefEqProofs := false) only [K18, SS, Nat.reduceAdd, Nat.reduceSub, Nat.reduceLeDiff, Nat.reduceEqDiff, reduceCtorEq, h]
        exact WC.ret ⟨_, _, rfl, rfl, by rw [sameT, h]; rfl⟩
      · have h : (eqN n m && b == c) = false := h
        simp (contextual := true) (implicitDefEqProofs := false) only [K18, SS, Nat.reduceAdd, Nat.reduceSub, Nat.reduceLeDiff, Nat.reduceEqDiff, reduceCtorEq, h]
        exact WC.ret ⟨_, _, rfl, rfl, by rw [sameT, h]; rfl⟩
    | wrap w c =>
      refine EvQ.body (fn := a18) rfl rfl rfl ?_
      simp only [TRef.row]
      simp (contextual := true) (implicitDefEqProofs := false) only [K18, SS, Nat.reduceAdd, Nat.reduceSub, Nat.reduceLeDiff, Nat.reduceEqDiff, reduceCtorEq]
      refine WC.g2 (fun h => ?_) (fun h => ?_)
      · simp (contextual := true) (implicitDefEqProofs := false) only [K18, SS, Nat.reduceAdd, Nat.reduceSub, Nat.reduceLeDiff, Nat.reduceEqDiff, reduceCtorEq, h]
        refine WC.call (equalF_ne _ _ (by simp) _) rfl rfl ?_
        rintro _ _ ⟨rfl, rfl⟩
        simp (contextual := true) (implicitDefEqProofs := false) only [K18, SS, Nat.reduceAdd, Nat.reduceSub, Nat.reduceLeDiff, Nat.reduceEqDiff, reduceCtorEq, h]
        exact WC.ret ⟨_, _, rfl, rfl, rfl⟩
      · have h : (eqN n [] && b == c) = false := h
        simp (contextual := true) (implicitDefEqProofs := false) only [K18, SS, Nat.reduceAdd, Nat.reduceSub, Nat.reduceLeDiff, Nat.reduceEqDiff, reduceCtorEq, h]
        exact WC.ret ⟨_, _, rfl, rfl, rfl⟩
  | wrap t b ih =>
    intro u st
    cases u with
    | base m c =>
      refine EvQ.body (fn := a18) rfl rfl rfl ?_
      simp only [TRef.row]
      simp (contextual := true) (implicitDefEqProofs := false) only [K18, SS, Nat.reduceAdd, Nat.reduceSub, Nat.reduceLeDiff, Nat.reduceEqDiff, reduceCtorEq]
      refine WC.g2 (fun h => ?_) (fun h => ?_)
      · simp (contextual := true) (implicitDefEqProofs := false) only [K18, SS, Nat.reduceAdd, Nat.reduceSub, Nat.reduceLeDiff, Nat.reduceEqDiff, reduceCtorEq, h]
        refine WC.call (equalF_ne _ _ (by simp) _) rfl rfl ?_
        rintro _ _ ⟨rfl, rfl⟩
        simp (contextual := true) (implicitDefEqProofs := false) only [K18, SS, Nat.reduceAdd, Nat.reduceSub, Nat.reduceLeDiff, Nat.reduceEqDiff, reduceCtorEq, h]
        exact WC.ret ⟨_, _, rfl, rfl, rfl⟩
      · have h : (eqN [] m && b == c) = false := h
        simp (contextual := true) (implicitDefEqProofs := false) only [K18, SS, Nat.reduceAdd, Nat.reduceSub, Nat.reduceLeDiff, Nat.reduceEqDiff, reduceCtorEq, h]
        exact WC.ret ⟨_, _, rfl, rfl, rfl⟩
    | wrap u c =>
      refine EvQ.body (fn := a18) rfl rfl rfl ?_
      simp only [TRef.row]
      simp (contextual := true) (implicitDefEqProofs := false) only [K18, SS, Nat.reduceAdd, Nat.reduceSub, Nat.reduceLeDiff, Nat.reduceEqDiff, reduceCtorEq, show eqN [] [] = true from rfl]
      refine WC.g2 (fun h => ?_) (fun h => ?_)
      · simp (contextual := true) (implicitDefEqProofs := false) only [K18, SS, Nat.reduceAdd, Nat.reduceSub, Nat.reduceLeDiff, Nat.reduceEqDiff, reduceCtorEq, h]
        refine WC.call (equalF_one t u (sameT t u) (fun st => ih u st) _) rfl rfl ?_
        rintro _ _ ⟨rfl, rfl⟩
        simp (contextual := true) (implicitDefEqProofs := false) only [K18, SS, Nat.reduceAdd, Nat.reduceSub, Nat.reduceLeDiff, Nat.reduceEqDiff, reduceCtorEq, h]
        exact WC.ret ⟨_, _, rfl, rfl, by rw [sameT, h]; rfl⟩
      · have h : (b == c) = false := h
        simp (contextual := true) (implicitDefEqProofs := false) only [K18, SS, Nat.reduceAdd, Nat.reduceSub, Nat.reduceLeDiff, Nat.reduceEqDiff, reduceCtorEq, h]
        exact WC.ret ⟨_, _, rfl, rfl, by rw [sameT, h]; rfl⟩
end Go.Cb.CodeA
set_option maxRecDepth 20000
set_option linter.unusedSimpArgs false
set_option linter.unusedVariables false
namespace Go.Cb.CodeA
open Go Go.Cb
attribute [local congr] obind_congr gv_congr2 gv2_congr brT_congr seqK_congr blkK_congr m1_congr gm_congr

/-- the first declaration of a name -/
def lk (l : List TDef) (n : List Nat) : Option TDef := l.find? (fun t => eqN n t.n)
def lkI : List TDef → List Nat → Nat → Option Nat
  | [], _, _ => none
  | t :: ts, n, i => if eqN n t.n then some i else lkI ts n (i + 1)
def entsFrom : List TDef → Nat → List (AV × AV)
  | [], _ => []
  | t :: ts, i => (.str t.n, .int .i64 i) :: entsFrom ts (i + 1)
theorem mfind_ents (n : List Nat) : ∀ (l : List TDef) (i : Nat), mfind 1 (.str n) (entsFrom l i) i = some ((lkI l n i).map fun j => (j, .int .i64 (j : Int)))
  | [], i => rfl
  | t :: ts, i => by
    have ih := mfind_ents n ts (i + 1)
    simp only [entsFrom, mfind, eqKey, if_true, lkI]
    cases h : eqN n t.n with
    | true => simp
    | false => simp [ih]
theorem lkI_some (n : List Nat) : ∀ (l : List TDef) (i j : Nat), lkI l n i = some j → ∃ m t, j = i + m ∧ l[m]? = some t ∧ lk l n = some t
  | [], i, j, h => by simp [lkI] at h
  | t :: ts, i, j, h => by
    simp only [lkI] at h
    by_cases hx : eqN n t.n = true
    · simp [hx] at h
      exact ⟨0, t, by omega, rfl, by simp [lk, hx]⟩
    · simp [hx] at h
      obtain ⟨m, u, rfl, h1, h2⟩ := lkI_some n ts (i + 1) j h
      refine ⟨m + 1, u, by omega, by simpa using h1, ?_⟩
      simp only [lk, List.find?_cons, hx] at h2 ⊢
      exact h2
theorem lkI_none (n : List Nat) : ∀ (l : List TDef) (i : Nat), lkI l n i = none → lk l n = none
  | [], i, h => rfl
  | t :: ts, i, h => by
    simp only [lkI] at h
    by_cases hx : eqN n t.n = true
    · simp [hx] at h
    · simp [hx] at h
      have := lkI_none n ts (i + 1) h
      simp only [lk, List.find?_cons, hx] at this ⊢
      exact this

/-- the schema's object: types, and the places of their names -/
structure Sch (l : List TDef) (so : Nat) (st : St) : Prop where
  len : l.length ≤ 3001
  ok : ∀ t ∈ l, t.OK
  ob : ∃ w mo, st[so]? = some (.cells [.list w (l.map TDef.row), .map mo]) ∧ st[mo]? = some (.map (entsFrom l 0))
theorem Sch.gr {l : List TDef} {so : Nat} {st st' : St} (h : Sch l so st) (hg : Gr st st') : Sch l so st' :=
  ⟨h.len, h.ok, let ⟨w, mo, h1, h2⟩ := h.ob; ⟨w, mo, hg _ _ h1, hg _ _ h2⟩⟩
def TDef.zero : TDef := ⟨0, [], [], []⟩
def typeA (o : Option TDef) : AV := .tuple [.agg (o.getD TDef.zero).row, .bool o.isSome]

theorem mget_e (call : CallT) (bx : AV) (st : St) (o : Nat) (n : List Nat) : semMget 1 [.int .i64 0] false true call [.map o, .str n] bx st =
    match st[o]? with
    | some (.map es) => (match (match mfind 1 (.str n) es 0 with
      | some r => match (match r with | some (_, v) => some v | none => some (.int .i64 0)) with
        | some v => some (.tuple [v, .bool r.isSome])
        | none => none
      | none => none) with
      | some v => some (v, bx, st)
      | none => none)
    | _ => none := by
  unfold semMget
  dsimp only
  cases st[o]? with
  | none => rfl
  | some ob =>
    cases ob with
    | map es =>
      dsimp only
      cases mfind 1 (.str n) es 0 with
      | none => rfl
      | some r => cases r <;> rfl
    | _ => rfl
theorem type_s {l : List TDef} {so : Nat} {st : St} (h : Sch l so st) (n : List Nat) : EvQ tbl 15 [.ptr so 0, .str n] st (fun a st' => st' = st ∧ a = typeA (lk l n)) := by
  obtain ⟨w, mo, h1, h2⟩ := h.ob
  have hm := mfind_ents n l 0
  refine EvQ.body (fn := a15) rfl rfl rfl ?_
  cases hj : lkI l n 0 with
  | none =>
    rw [hj] at hm
    rw [lkI_none n l 0 hj]
    simp only [Option.map_none] at hm
    simp (contextual := true) (implicitDefEqProofs := false) only [K15, SS, Nat.reduceAdd, Nat.reduceSub, Nat.reduceLeDiff, Nat.reduceEqDiff, reduceCtorEq, h1, mget_e, h2, hm, Option.isSome_none]
    exact WC.ret ⟨_, _, rfl, rfl, rfl⟩
  | some j =>
    rw [hj] at hm
    obtain ⟨m, t, rfl, ht, hl⟩ := lkI_some n l 0 j hj
    rw [hl]
    simp only [Option.map_some, Nat.zero_add] at hm
    have e2 : (l.map TDef.row)[m]? = some t.row := by rw [List.getElem?_map, ht]; rfl
    simp (contextual := true) (implicitDefEqProofs := false) only [K15, SS, Nat.reduceAdd, Nat.reduceSub, Nat.reduceLeDiff, Nat.reduceEqDiff, reduceCtorEq, h1, mget_e, h2, hm, Option.isSome_some, e2, TDef.row]
    exact WC.ret ⟨_, _, rfl, rfl, rfl⟩
def scalars : List (List Nat) := [[66, 111, 111, 108, 101, 97, 110], [73, 68], [73, 110, 116], [83, 116, 114, 105, 110, 103]]
def scalarB (n : List Nat) : Bool := hasN scalars n
theorem scalar_s (so : Nat) (n : List Nat) (st : St) : EvQ tbl 21 [.ptr so 0, .str n] st (fun a st' => st' = st ∧ a = .bool (scalarB n)) := by
  refine EvQ.body (fn := a21) rfl rfl rfl ?_
  simp (contextual := true) (implicitDefEqProofs := false) only [K21, SS, Nat.reduceAdd, Nat.reduceSub, Nat.reduceLeDiff, Nat.reduceEqDiff, reduceCtorEq, chunks]
  refine WC.call (contains_q scalars (by decide) n _) rfl rfl ?_
  rintro _ _ ⟨rfl, rfl⟩
  simp (contextual := true) (implicitDefEqProofs := false) only [K21, SS, Nat.reduceAdd, Nat.reduceSub, Nat.reduceLeDiff, Nat.reduceEqDiff, reduceCtorEq]
  exact WC.ret ⟨_, _, rfl, rfl, rfl⟩
def kindB (l : List TDef) (n : List Nat) (k : Int) : Bool := match lk l n with
  | some t => eqI t.k k
  | none => false
theorem kind_s {l : List TDef} {so : Nat} {st : St} (h : Sch l so st) (n : List Nat) (k : Int) : EvQ tbl 35 [.ptr so 0, .str n, .int .u8 k] st (fun a st' => st' = st ∧ a = .bool (kindB l n k)) := by
  refine EvQ.body (fn := a35) rfl rfl rfl ?_
  simp (contextual := true) (implicitDefEqProofs := false) only [K35, SS, Nat.reduceAdd, Nat.reduceSub, Nat.reduceLeDiff, Nat.reduceEqDiff, reduceCtorEq]
  refine WC.call (type_s h n) rfl rfl ?_
  rintro _ _ ⟨rfl, rfl⟩
  cases hl : lk l n with
  | none =>
    simp (contextual := true) (implicitDefEqProofs := false) only [K35, SS, Nat.reduceAdd, Nat.reduceSub, Nat.reduceLeDiff, Nat.reduceEqDiff, reduceCtorEq, typeA, Option.getD_none, TDef.zero, TDef.row, Option.isSome_none]
    exact WC.ret ⟨_, _, rfl, rfl, by simp only [kindB, hl]; rfl⟩
  | some t =>
    simp (contextual := true) (implicitDefEqProofs := false) only [K35, SS, Nat.reduceAdd, Nat.reduceSub, Nat.reduceLeDiff, Nat.reduceEqDiff, reduceCtorEq, typeA, Option.getD_some, TDef.row, Option.isSome_some]
    exact WC.ret ⟨_, _, rfl, rfl, by simp only [kindB, hl]; rfl⟩
theorem enum_s {l : List TDef} {so : Nat} {st : St} (h : Sch l so st) (n : List Nat) : EvQ tbl 22 [.ptr so 0, .str n] st (fun a st' => st' = st ∧ a = .bool (kindB l n 4)) := by
  refine EvQ.body (fn := a22) rfl rfl rfl ?_
  simp (contextual := true) (implicitDefEqProofs := false) only [K22, SS, Nat.reduceAdd, Nat.reduceSub, Nat.reduceLeDiff, Nat.reduceEqDiff, reduceCtorEq]
  refine WC.call (kind_s h n 4) rfl rfl ?_
  rintro _ _ ⟨rfl, rfl⟩
  simp (contextual := true) (implicitDefEqProofs := false) only [K22, SS, Nat.reduceAdd, Nat.reduceSub, Nat.reduceLeDiff, Nat.reduceEqDiff, reduceCtorEq]
  exact WC.ret ⟨_, _, rfl, rfl, rfl⟩
theorem input_s {l : List TDef} {so : Nat} {st : St} (h : Sch l so st) (n : List Nat) : EvQ tbl 23 [.ptr so 0, .str n] st (fun a st' => st' = st ∧ a = .bool (kindB l n 5)) := by
  refine EvQ.body (fn := a23) rfl rfl rfl ?_
  simp (contextual := true) (implicitDefEqProofs := false) only [K23, SS, Nat.reduceAdd, Nat.reduceSub, Nat.reduceLeDiff, Nat.reduceEqDiff, reduceCtorEq]
  refine WC.call (kind_s h n 5) rfl rfl ?_
  rintro _ _ ⟨rfl, rfl⟩
  simp (contextual := true) (implicitDefEqProofs := false) only [K23, SS, Nat.reduceAdd, Nat.reduceSub, Nat.reduceLeDiff, Nat.reduceEqDiff, reduceCtorEq]
  exact WC.ret ⟨_, _, rfl, rfl, rfl⟩
def rootB (n : List Nat) : Bool := eqN n [81, 117, 101, 114, 121] || eqN n [77, 117, 116, 97, 116, 105, 111, 110]
theorem root_s (n : List Nat) (st : St) : EvQ tbl 34 [.str n] st (fun a st' => st' = st ∧ a = .bool (rootB n)) := root_q0 n st
def compB (l : List TDef) (n : List Nat) : Bool := !rootB n && (kindB l n 1 || kindB l n 2 || kindB l n 3)
theorem comp_s {l : List TDef} {so : Nat} {st : St} (h : Sch l so st) (n : List Nat) : EvQ tbl 12 [.ptr so 0, .str n] st (fun a st' => st' = st ∧ a = .bool (compB l n)) := by
  refine EvQ.body (fn := a12) rfl rfl rfl ?_
  unfold compB
  simp (contextual := true) (implicitDefEqProofs := false) only [K12, SS, Nat.reduceAdd, Nat.reduceSub, Nat.reduceLeDiff, Nat.reduceEqDiff, reduceCtorEq]
  refine WC.call (root_s _ _) rfl rfl ?_
  rintro _ _ ⟨rfl, rfl⟩
  simp (contextual := true) (implicitDefEqProofs := false) only [K12, SS, Nat.reduceAdd, Nat.reduceSub, Nat.reduceLeDiff, Nat.reduceEqDiff, reduceCtorEq]
  generalize rootB n = b0
  cases b0 with
  | true =>
    simp (contextual := true) (implicitDefEqProofs := false) only [K12, SS, Nat.reduceAdd, Nat.reduceSub, Nat.reduceLeDiff, Nat.reduceEqDiff, reduceCtorEq]
    exact WC.ret ⟨_, _, rfl, rfl, rfl⟩
  | false =>
  simp (contextual := true) (implicitDefEqProofs := false) only [K12, SS, Nat.reduceAdd, Nat.reduceSub, Nat.reduceLeDiff, Nat.reduceEqDiff, reduceCtorEq]
  refine WC.call (kind_s h _ _) rfl rfl ?_
  rintro _ _ ⟨rfl, rfl⟩
  generalize kindB l n 1 = b1
  cases b1 with
  | true =>
    simp (contextual := true) (implicitDefEqProofs := false) only [K12, SS, Nat.reduceAdd, Nat.reduceSub, Nat.reduceLeDiff, Nat.reduceEqDiff, reduceCtorEq]
    exact WC.ret ⟨_, _, rfl, rfl, rfl⟩
  | false =>
  simp (contextual := true) (implicitDefEqProofs := false) only [K12, SS, Nat.reduceAdd, Nat.reduceSub, Nat.reduceLeDiff, Nat.reduceEqDiff, reduceCtorEq]
  refine WC.call (kind_s h _ _) rfl rfl ?_
  rintro _ _ ⟨rfl, rfl⟩
  generalize kindB l n 2 = b2
  cases b2 with
  | true =>
    simp (contextual := true) (implicitDefEqProofs := false) only [K12, SS, Nat.reduceAdd, Nat.reduceSub, Nat.reduceLeDiff, Nat.reduceEqDiff, reduceCtorEq]
    exact WC.ret ⟨_, _, rfl, rfl, rfl⟩
  | false =>
  simp (contextual := true) (implicitDefEqProofs := false) only [K12, SS, Nat.reduceAdd, Nat.reduceSub, Nat.reduceLeDiff, Nat.reduceEqDiff, reduceCtorEq]
  refine WC.call (kind_s h _ _) rfl rfl ?_
  rintro _ _ ⟨rfl, rfl⟩
  simp (contextual := true) (implicitDefEqProofs := false) only [K12, SS, Nat.reduceAdd, Nat.reduceSub, Nat.reduceLeDiff, Nat.reduceEqDiff, reduceCtorEq]
  exact WC.ret ⟨_, _, rfl, rfl, rfl⟩
end Go.Cb.CodeA
set_option maxRecDepth 20000
set_option linter.unusedSimpArgs false
set_option linter.unusedVariables false
namespace Go.Cb.CodeA
open Go Go.Cb
attribute [local congr] obind_congr gv_congr2 gv2_congr brT_congr seqK_congr blkK_congr m1_congr gm_congr

/-- a fault: its number, its name -/
abbrev Flt := Int × List Nat
def fltA (f : Flt) : AV := .agg [.int .i64 f.1, .str f.2]
def twiceGo : List (List Nat) → List (List Nat) → Flt
  | _, [] => (0, [])
  | seen, n :: rest => if hasN seen n then (7, n) else (if beginsN n [95, 95] then (1, n) else twiceGo (seen ++ [n]) rest)
def twiceS (l : List (List Nat)) : Flt := twiceGo [] l
theorem twice_s (l : List (List Nat)) (hl : l.length ≤ 10000) (st : St) : EvQ tbl 50 [.list false (l.map strRow)] st (fun a st' => st' = st ∧ a = fltA (twiceS l)) := by
  refine EvQ.body (fn := a50) rfl rfl rfl ?_
  simp (contextual := true) (implicitDefEqProofs := false) only [K50, SS, Nat.reduceAdd, Nat.reduceSub, Nat.reduceLeDiff, Nat.reduceEqDiff, reduceCtorEq, List.length_map]
  refine WC.loopR (fun mm fr st' => st' = st ∧ ∃ (i : Nat) (v2 v3 : AV), i ≤ l.length ∧ mm = l.length - i ∧ twiceS l = twiceGo (l.take i) (l.drop i) ∧ fr = [.list false (l.map strRow), .box [.int .i64 0, .str []], v2, v3, .list false (l.map strRow), .int .i64 l.length, .int .i64 i]) (m := l.length) ⟨rfl, 0, _, _, Nat.zero_le _, rfl, rfl, rfl⟩ ?_
  rintro mm fr st' ⟨rfl, i, v2, v3, hi, rfl, hgo, rfl⟩
  simp (contextual := true) (implicitDefEqProofs := false) only [K50, SS, Nat.reduceAdd, Nat.reduceSub, Nat.reduceLeDiff, Nat.reduceEqDiff, reduceCtorEq]
  by_cases hil : i < l.length
  · have e2 : (l.map strRow)[i]? = some (strRow l[i]) := by rw [List.getElem?_map, List.getElem?_eq_getElem hil]; rfl
    have e3 : l.take (i + 1) = l.take i ++ [l[i]] := by rw [List.take_add_one, List.getElem?_eq_getElem hil]; rfl
    rw [List.drop_eq_getElem_cons hil, twiceGo] at hgo
    revert hgo e2 e3
    generalize l[i] = x
    intro hgo e2 e3
    simp (contextual := true) (implicitDefEqProofs := false) only [K50, SS, Nat.reduceAdd, Nat.reduceSub, Nat.reduceLeDiff, Nat.reduceEqDiff, reduceCtorEq, hil, e2, strRow, rowsStr, List.length_map, show i ≤ l.length by omega]
    refine WC.call (contains_q (l.take i) (by simp; omega) x _) rfl (by rw [List.map_take]; rfl) ?_
    rintro _ _ ⟨rfl, rfl⟩
    simp (contextual := true) (implicitDefEqProofs := false) only [K50, SS, Nat.reduceAdd, Nat.reduceSub, Nat.reduceLeDiff, Nat.reduceEqDiff, reduceCtorEq]
    refine WC.br (fun hx => ?_) (fun hx => ?_)
    · rw [if_pos hx] at hgo
      simp (contextual := true) (implicitDefEqProofs := false) only [K50, SS, Nat.reduceAdd, Nat.reduceSub, Nat.reduceLeDiff, Nat.reduceEqDiff, reduceCtorEq]
      refine WC.leaveR ?_
      simp (contextual := true) (implicitDefEqProofs := false) only [K50, SS, Nat.reduceAdd, Nat.reduceSub, Nat.reduceLeDiff, Nat.reduceEqDiff, reduceCtorEq]
      exact WC.ret ⟨_, _, rfl, rfl, by rw [hgo]; rfl⟩
    rw [if_neg (by rw [hx]; decide)] at hgo
    simp (contextual := true) (implicitDefEqProofs := false) only [K50, SS, Nat.reduceAdd, Nat.reduceSub, Nat.reduceLeDiff, Nat.reduceEqDiff, reduceCtorEq]
    refine WC.call (hasPrefix_q x _ _) rfl rfl ?_
    rintro _ _ ⟨rfl, rfl⟩
    simp (contextual := true) (implicitDefEqProofs := false) only [K50, SS, Nat.reduceAdd, Nat.reduceSub, Nat.reduceLeDiff, Nat.reduceEqDiff, reduceCtorEq]
    refine WC.br (fun hx => ?_) (fun hx => ?_)
    · rw [if_pos hx] at hgo
      simp (contextual := true) (implicitDefEqProofs := false) only [K50, SS, Nat.reduceAdd, Nat.reduceSub, Nat.reduceLeDiff, Nat.reduceEqDiff, reduceCtorEq]
      refine WC.leaveR ?_
      simp (contextual := true) (implicitDefEqProofs := false) only [K50, SS, Nat.reduceAdd, Nat.reduceSub, Nat.reduceLeDiff, Nat.reduceEqDiff, reduceCtorEq]
      exact WC.ret ⟨_, _, rfl, rfl, by rw [hgo]; rfl⟩
    · rw [if_neg (by rw [hx]; decide)] at hgo
      simp (contextual := true) (implicitDefEqProofs := false) only [K50, SS, Nat.reduceAdd, Nat.reduceSub, Nat.reduceLeDiff, Nat.reduceEqDiff, reduceCtorEq, inc64 (show i + 1 < 2 ^ 63 by omega)]
      exact WC.next (m' := l.length - (i + 1)) (by omega) ⟨rfl, i + 1, _, _, hil, rfl, by rw [hgo, e3], rfl⟩
  · simp (contextual := true) (implicitDefEqProofs := false) only [K50, SS, Nat.reduceAdd, Nat.reduceSub, Nat.reduceLeDiff, Nat.reduceEqDiff, reduceCtorEq, hil]
    refine WC.leave ?_
    simp (contextual := true) (implicitDefEqProofs := false) only [K50, SS, Nat.reduceAdd, Nat.reduceSub, Nat.reduceLeDiff, Nat.reduceEqDiff, reduceCtorEq]
    refine WC.ret ⟨_, _, rfl, rfl, ?_⟩
    rw [hgo, List.drop_of_length_le (by omega), twiceGo]
    rfl

theorem indexF_s (cf : Nat) (caps : List AV) (hc : caps.map AV.weak = caps) (p : FDef → Bool) (fs : List FDef) (hl : fs.length ≤ 10000) (st0 : St)
    (h : ∀ f ∈ fs, ∀ st, Gr st0 st → EvQ tbl cf (.agg f.row :: caps) st (fun a st' => Gr st st' ∧ a = .bool (p f))) (st : St) (hg : Gr st0 st) :
    EvQ tbl 75 [.list false (fs.map FDef.row), .func cf [] caps] st (fun a st' => Gr st st' ∧ ∃ r, a = .int .i64 r ∧ (!ltI r 0) = fs.any p) := by
  refine EvQ.body (fn := a75) rfl rfl rfl ?_
  simp (contextual := true) (implicitDefEqProofs := false) only [K75, SS, Nat.reduceAdd, Nat.reduceSub, Nat.reduceLeDiff, Nat.reduceEqDiff, reduceCtorEq, List.length_map]
  refine WC.loopR (fun mm fr st' => Gr st st' ∧ ∃ (i : Nat) (v3 : AV), i ≤ fs.length ∧ mm = fs.length - i ∧ fs.any p = (fs.drop i).any p ∧ fr = [.list false (fs.map FDef.row), .func cf [] caps, .int .i64 0, v3, .int .i64 fs.length, .int .i64 i]) (m := fs.length) ⟨Gr.refl _, 0, _, Nat.zero_le _, rfl, rfl, rfl⟩ ?_
  rintro mm fr st' ⟨hg', i, v3, hi, rfl, hany, rfl⟩
  simp (contextual := true) (implicitDefEqProofs := false) only [K75, SS, Nat.reduceAdd, Nat.reduceSub, Nat.reduceLeDiff, Nat.reduceEqDiff, reduceCtorEq]
  by_cases hil : i < fs.length
  · have e2 : (fs.map FDef.row)[i]? = some (fs[i]).row := by rw [List.getElem?_map, List.getElem?_eq_getElem hil]; rfl
    have hf := h _ (List.getElem_mem hil) st' (hg.trans hg')
    rw [List.drop_eq_getElem_cons hil, List.any_cons] at hany
    revert hany e2 hf
    generalize fs[i] = f
    intro hany e2 hf
    obtain ⟨tn, txs, tb, vk, vn, vs, vx, vy, _, _, ef⟩ := f.row_cells
    rw [ef] at e2 hf
    simp (contextual := true) (implicitDefEqProofs := false) only [K75, SS, Nat.reduceAdd, Nat.reduceSub, Nat.reduceLeDiff, Nat.reduceEqDiff, reduceCtorEq, hil, e2]
    refine WC.callV hf rfl (by simp only [List.nil_append, List.cons_append, List.map_cons, hc]; rfl) ?_
    rintro _ st2 ⟨hg2, rfl⟩
    simp (contextual := true) (implicitDefEqProofs := false) only [K75, SS, Nat.reduceAdd, Nat.reduceSub, Nat.reduceLeDiff, Nat.reduceEqDiff, reduceCtorEq]
    refine WC.br (fun hx => ?_) (fun hx => ?_)
    · simp (contextual := true) (implicitDefEqProofs := false) only [K75, SS, Nat.reduceAdd, Nat.reduceSub, Nat.reduceLeDiff, Nat.reduceEqDiff, reduceCtorEq]
      refine WC.leaveR ?_
      simp (contextual := true) (implicitDefEqProofs := false) only [K75, SS, Nat.reduceAdd, Nat.reduceSub, Nat.reduceLeDiff, Nat.reduceEqDiff, reduceCtorEq]
      refine WC.ret ⟨_, _, rfl, hg'.trans hg2, _, rfl, ?_⟩
      rw [hany, hx, ltI_eq]
      simp
    · simp (contextual := true) (implicitDefEqProofs := false) only [K75, SS, Nat.reduceAdd, Nat.reduceSub, Nat.reduceLeDiff, Nat.reduceEqDiff, reduceCtorEq, inc64 (show i + 1 < 2 ^ 63 by omega)]
      exact WC.next (m' := fs.length - (i + 1)) (by omega) ⟨hg'.trans hg2, i + 1, _, hil, rfl, by rw [hany, hx]; rfl, rfl⟩
  · simp (contextual := true) (implicitDefEqProofs := false) only [K75, SS, Nat.reduceAdd, Nat.reduceSub, Nat.reduceLeDiff, Nat.reduceEqDiff, reduceCtorEq, hil]
    refine WC.leave ?_
    simp (contextual := true) (implicitDefEqProofs := false) only [K75, SS, Nat.reduceAdd, Nat.reduceSub, Nat.reduceLeDiff, Nat.reduceEqDiff, reduceCtorEq]
    refine WC.ret ⟨_, _, rfl, hg', _, rfl, ?_⟩
    rw [hany, List.drop_of_length_le (by omega)]
    rfl
theorem containsF_s (cf : Nat) (caps : List AV) (hc : caps.map AV.weak = caps) (p : FDef → Bool) (fs : List FDef) (hl : fs.length ≤ 10000) (st0 : St)
    (h : ∀ f ∈ fs, ∀ st, Gr st0 st → EvQ tbl cf (.agg f.row :: caps) st (fun a st' => Gr st st' ∧ a = .bool (p f))) (st : St) (hg : Gr st0 st) :
    EvQ tbl 65 [.list false (fs.map FDef.row), .func cf [] caps] st (fun a st' => Gr st st' ∧ a = .bool (fs.any p)) := by
  refine EvQ.body (fn := a65) rfl rfl rfl ?_
  simp (contextual := true) (implicitDefEqProofs := false) only [K65, SS, Nat.reduceAdd, Nat.reduceSub, Nat.reduceLeDiff, Nat.reduceEqDiff, reduceCtorEq]
  refine WC.call (indexF_s cf caps hc p fs hl st0 h st hg) rfl rfl ?_
  rintro _ st' ⟨hg', r, rfl, hr⟩
  simp (contextual := true) (implicitDefEqProofs := false) only [K65, SS, Nat.reduceAdd, Nat.reduceSub, Nat.reduceLeDiff, Nat.reduceEqDiff, reduceCtorEq, hr]
  exact WC.ret ⟨_, _, rfl, hg', rfl⟩
theorem indexV_s (cf : Nat) (caps : List AV) (hc : caps.map AV.weak = caps) (p : Val → Bool) (fs : List Val) (hl : fs.length ≤ 10000) (st0 : St)
    (h : ∀ f ∈ fs, ∀ st, Gr st0 st → EvQ tbl cf (.agg f.row :: caps) st (fun a st' => Gr st st' ∧ a = .bool (p f))) (st : St) (hg : Gr st0 st) :
    EvQ tbl 77 [.list false (fs.map Val.row), .func cf [] caps] st (fun a st' => Gr st st' ∧ ∃ r, a = .int .i64 r ∧ (!ltI r 0) = fs.any p) := by
  refine EvQ.body (fn := a77) rfl rfl rfl ?_
  simp (contextual := true) (implicitDefEqProofs := false) only [K77, SS, Nat.reduceAdd, Nat.reduceSub, Nat.reduceLeDiff, Nat.reduceEqDiff, reduceCtorEq, List.length_map]
  refine WC.loopR (fun mm fr st' => Gr st st' ∧ ∃ (i : Nat) (v3 : AV), i ≤ fs.length ∧ mm = fs.length - i ∧ fs.any p = (fs.drop i).any p ∧ fr = [.list false (fs.map Val.row), .func cf [] caps, .int .i64 0, v3, .int .i64 fs.length, .int .i64 i]) (m := fs.length) ⟨Gr.refl _, 0, _, Nat.zero_le _, rfl, rfl, rfl⟩ ?_
  rintro mm fr st' ⟨hg', i, v3, hi, rfl, hany, rfl⟩
  simp (contextual := true) (implicitDefEqProofs := false) only [K77, SS, Nat.reduceAdd, Nat.reduceSub, Nat.reduceLeDiff, Nat.reduceEqDiff, reduceCtorEq]
  by_cases hil : i < fs.length
  · have e2 : (fs.map Val.row)[i]? = some (fs[i]).row := by rw [List.getElem?_map, List.getElem?_eq_getElem hil]; rfl
    have hf := h _ (List.getElem_mem hil) st' (hg.trans hg')
    rw [List.drop_eq_getElem_cons hil, List.any_cons] at hany
    revert hany e2 hf
    generalize fs[i] = f
    intro hany e2 hf
    obtain ⟨vk, vn, vs, vx, vy, ef⟩ := f.row_cells
    rw [ef] at e2 hf
    simp (contextual := true) (implicitDefEqProofs := false) only [K77, SS, Nat.reduceAdd, Nat.reduceSub, Nat.reduceLeDiff, Nat.reduceEqDiff, reduceCtorEq, hil, e2]
    refine WC.callV hf rfl (by simp only [List.nil_append, List.cons_append, List.map_cons, hc]; rfl) ?_
    rintro _ st2 ⟨hg2, rfl⟩
    simp (contextual := true) (implicitDefEqProofs := false) only [K77, SS, Nat.reduceAdd, Nat.reduceSub, Nat.reduceLeDiff, Nat.reduceEqDiff, reduceCtorEq]
    refine WC.br (fun hx => ?_) (fun hx => ?_)
    · simp (contextual := true) (implicitDefEqProofs := false) only [K77, SS, Nat.reduceAdd, Nat.reduceSub, Nat.reduceLeDiff, Nat.reduceEqDiff, reduceCtorEq]
      refine WC.leaveR ?_
      simp (contextual := true) (implicitDefEqProofs := false) only [K77, SS, Nat.reduceAdd, Nat.reduceSub, Nat.reduceLeDiff, Nat.reduceEqDiff, reduceCtorEq]
      refine WC.ret ⟨_, _, rfl, hg'.trans hg2, _, rfl, ?_⟩
      rw [hany, hx, ltI_eq]
      simp
    · simp (contextual := true) (implicitDefEqProofs := false) only [K77, SS, Nat.reduceAdd, Nat.reduceSub, Nat.reduceLeDiff, Nat.reduceEqDiff, reduceCtorEq, inc64 (show i + 1 < 2 ^ 63 by omega)]
      exact WC.next (m' := fs.length - (i + 1)) (by omega) ⟨hg'.trans hg2, i + 1, _, hil, rfl, by rw [hany, hx]; rfl, rfl⟩
  · simp (contextual := true) (implicitDefEqProofs := false) only [K77, SS, Nat.reduceAdd, Nat.reduceSub, Nat.reduceLeDiff, Nat.reduceEqDiff, reduceCtorEq, hil]
    refine WC.leave ?_
    simp (contextual := true) (implicitDefEqProofs := false) only [K77, SS, Nat.reduceAdd, Nat.reduceSub, Nat.reduceLeDiff, Nat.reduceEqDiff, reduceCtorEq]
    refine WC.ret ⟨_, _, rfl, hg', _, rfl, ?_⟩
    rw [hany, List.drop_of_length_le (by omega)]
    rfl
theorem containsV_s (cf : Nat) (caps : List AV) (hc : caps.map AV.weak = caps) (p : Val → Bool) (fs : List Val) (hl : fs.length ≤ 10000) (st0 : St)
    (h : ∀ f ∈ fs, ∀ st, Gr st0 st → EvQ tbl cf (.agg f.row :: caps) st (fun a st' => Gr st st' ∧ a = .bool (p f))) (st : St) (hg : Gr st0 st) :
    EvQ tbl 72 [.list false (fs.map Val.row), .func cf [] caps] st (fun a st' => Gr st st' ∧ a = .bool (fs.any p)) := by
  refine EvQ.body (fn := a72) rfl rfl rfl ?_
  simp (contextual := true) (implicitDefEqProofs := false) only [K72, SS, Nat.reduceAdd, Nat.reduceSub, Nat.reduceLeDiff, Nat.reduceEqDiff, reduceCtorEq]
  refine WC.call (indexV_s cf caps hc p fs hl st0 h st hg) rfl rfl ?_
  rintro _ st' ⟨hg', r, rfl, hr⟩
  simp (contextual := true) (implicitDefEqProofs := false) only [K72, SS, Nat.reduceAdd, Nat.reduceSub, Nat.reduceLeDiff, Nat.reduceEqDiff, reduceCtorEq, hr]
  exact WC.ret ⟨_, _, rfl, hg', rfl⟩
end Go.Cb.CodeA
set_option maxRecDepth 20000
set_option linter.unusedSimpArgs false
set_option linter.unusedVariables false
namespace Go.Cb.CodeA
open Go Go.Cb
attribute [local congr] obind_congr gv_congr2 gv2_congr brT_congr seqK_congr blkK_congr m1_congr gm_congr

/-- the first field of a name -/
def fldAt (fs : List FDef) (n : List Nat) : Option FDef := fs.find? (fun f => eqN n f.name)
theorem idx_fld (n : List Nat) : ∀ fs : List FDef, (fldAt fs n = none ∧ idx (namesF fs) n = -1) ∨ (∃ (i : Nat) (f : FDef), fldAt fs n = some f ∧ idx (namesF fs) n = i ∧ fs[i]? = some f)
  | [] => Or.inl ⟨rfl, rfl⟩
  | f :: fs => by
    simp only [fldAt, List.find?_cons, namesF, List.map_cons, idx]
    by_cases hx : eqN n f.name = true
    · exact Or.inr ⟨0, f, by simp [hx], by simp [hx], rfl⟩
    · simp only [hx, Bool.false_eq_true, if_false]
      rcases idx_fld n fs with ⟨h1, h2⟩ | ⟨i, g, h1, h2, h3⟩
      · left
        simp only [fldAt, namesF] at h1 h2
        exact ⟨h1, by rw [h2]; rfl⟩
      · right
        simp only [fldAt, namesF] at h1 h2
        refine ⟨i + 1, g, h1, ?_, by simpa using h3⟩
        rw [h2, if_neg (by omega)]
        omega

def objGo (d : TDef) : List (List Nat) → List (List Nat) → List (TRef → Bool) → Bool
  | _, [], _ => true
  | _, _ :: _, [] => false
  | seen, k :: ks, c :: cs => match fldAt d.fs k with
    | none => false
    | some f => if hasN seen k then false else (if c f.ty then objGo d (seen ++ [k]) ks cs else false)
def objS (d : TDef) (ks : List (List Nat)) (cs : List (TRef → Bool)) : Bool := objGo d [] ks cs && !(d.fs.any fun f => f.ty.bang && !f.has && !hasN ks f.name)
def intS : List Nat := [73, 110, 116]
def stringS : List Nat := [83, 116, 114, 105, 110, 103]
def booleanS : List Nat := [66, 111, 111, 108, 101, 97, 110]
def idS : List Nat := [73, 68]
def fitsT (l : List TDef) (k n : Int) (s : List Nat) (ks : List (List Nat)) (cs : List (TRef → Bool)) : TRef → Bool
  | .wrap u b => if eqI k 0 then !b else (if eqI k 5 then cs.all (fun c => c u) else fitsT l k n s ks cs u)
  | .base m b => if eqI k 0 then !b else (if eqN m intS then eqI k 1 && eqI n (wrapA .i64 (wrapA .i32 n)) else (if eqN m stringS then eqI k 2 else (if eqN m booleanS then eqI k 3 else (if eqN m idS then eqI k 2 || eqI k 1 else
      (if eqI ((lk l m).getD TDef.zero).k 4 then eqI k 4 && hasN ((lk l m).getD TDef.zero).ns s else (if eqI ((lk l m).getD TDef.zero).k 5 then eqI k 6 && objS ((lk l m).getD TDef.zero) ks cs else false))))))
mutual
def fitsV (l : List TDef) : Val → TRef → Bool
  | .mk k n s ks ls, t => fitsT l k n s ks (fitsL l ls) t
def fitsL (l : List TDef) : List Val → List (TRef → Bool)
  | [] => []
  | v :: vs => (fun t => fitsV l v t) :: fitsL l vs
end
theorem fitsL_map (l : List TDef) : ∀ vs : List Val, fitsL l vs = vs.map fun v => fun t => fitsV l v t
  | [] => by simp [fitsL]
  | v :: vs => by simp [fitsL, fitsL_map l vs]
theorem fitsL_all (l : List TDef) (vs : List Val) (u : TRef) : (fitsL l vs).all (fun c => c u) = !(vs.any fun v => !fitsV l v u) := by
  rw [fitsL_map]
  induction vs with
  | nil => rfl
  | cons v vs ih => simp only [List.map_cons, List.all_cons, List.any_cons, ih, Bool.not_or, Bool.not_not]

def FitsQ (l : List TDef) (so : Nat) (v : Val) : Prop := ∀ (t : TRef) (st : St), Sch l so st → EvQ tbl 64 [.ptr so 0, .agg t.row, .agg v.row] st (fun a st' => Gr st st' ∧ a = .bool (fitsV l v t))

/-- two things more stand behind the store -/
theorem two_more (st : St) (a b : Obj) : Gr st (st ++ [a] ++ [b]) ∧ (st ++ [a] ++ [b])[st.length]? = some a ∧ (st ++ [a] ++ [b])[(st ++ [a]).length]? = some b := by
  refine ⟨(Gr.app _ _).trans (Gr.app _ _), ?_, ?_⟩
  · simp
  · simp
theorem one_more (st : St) (a : Obj) : Gr st (st ++ [a]) ∧ (st ++ [a])[st.length]? = some a := ⟨Gr.app _ _, by simp⟩

theorem objf_s (f : FDef) (o : Nat) (st : St) {k n : Int} {s : List Nat} {ks : List (List Nat)} {ys : List (List AV)} (hks : ks.length ≤ 10000) (h : st[o]? = some (.cells [.int .u8 k, .int .i64 n, .str s, .list false (ks.map strRow), .list false ys])) :
    EvQ tbl 78 [.agg f.row, .ptr o 0] st (fun a st' => Gr st st' ∧ a = .bool (f.ty.bang && !f.has && !hasN ks f.name)) := by
  obtain ⟨tn, txs, tb, vk, vn, vs, vx, vy, et, ev, ef⟩ := f.row_cells
  have hb : f.ty.bang = tb := by
    have := f.ty.row_eq.symm.trans et
    simp at this
    exact this.2.2
  rw [ef, hb]
  refine EvQ.body (fn := a78) rfl rfl rfl ?_
  simp (contextual := true) (implicitDefEqProofs := false) only [K78, SS, Nat.reduceAdd, Nat.reduceSub, Nat.reduceLeDiff, Nat.reduceEqDiff, reduceCtorEq, h]
  refine WC.g2 (fun hg => ?_) (fun hg => ?_)
  · simp (contextual := true) (implicitDefEqProofs := false) only [K78, SS, Nat.reduceAdd, Nat.reduceSub, Nat.reduceLeDiff, Nat.reduceEqDiff, reduceCtorEq, hg, h]
    refine WC.call (contains_q ks hks _ _) rfl rfl ?_
    rintro _ _ ⟨rfl, rfl⟩
    simp (contextual := true) (implicitDefEqProofs := false) only [K78, SS, Nat.reduceAdd, Nat.reduceSub, Nat.reduceLeDiff, Nat.reduceEqDiff, reduceCtorEq, hg]
    exact WC.ret ⟨_, _, rfl, Gr.refl _, rfl⟩
  · have hg : (tb && !f.has) = false := hg
    simp (contextual := true) (implicitDefEqProofs := false) only [K78, SS, Nat.reduceAdd, Nat.reduceSub, Nat.reduceLeDiff, Nat.reduceEqDiff, reduceCtorEq, hg]
    exact WC.ret ⟨_, _, rfl, Gr.refl _, rfl⟩

theorem ltI_neg1 : ltI (-1) 0 = true := rfl
theorem ltI_nat0 (i : Nat) : ltI (i : Int) 0 = false := by rw [ltI_eq]; simp
theorem object_s {l : List TDef} {so : Nat} {k n : Int} {s : List Nat} {ks : List (List Nat)} {ls : List Val} (hk : ks.length = ls.length) (hl : ls.length ≤ 3000) (ih : ∀ v ∈ ls, FitsQ l so v) (d : TDef) (hd : d.OK) (st : St) (h : Sch l so st) :
    EvQ tbl 74 [.ptr so 0, .agg d.row, .agg (Val.mk k n s ks ls).row] st (fun a st' => Gr st st' ∧ a = .bool (objS d ks (fitsL l ls))) := by
  rw [Val.row_eq, TDef.row]
  refine EvQ.body (fn := a74) rfl rfl rfl ?_
  have hdf := hd.lf
  obtain ⟨hg1, h4⟩ := one_more st (.cells [.int .u8 k, .int .i64 n, .str s, .list false (ks.map strRow), .list false (ls.map Val.row)])
  simp (contextual := true) (implicitDefEqProofs := false) only [K74, SS, Nat.reduceAdd, Nat.reduceSub, Nat.reduceLeDiff, Nat.reduceEqDiff, reduceCtorEq]
  revert hg1 h4
  generalize st ++ [Obj.cells [AV.int .u8 k, AV.int .i64 n, AV.str s, AV.list false (ks.map strRow), AV.list false (ls.map Val.row)]] = st1
  generalize st.length = o4
  intro hg1 h4
  simp (contextual := true) (implicitDefEqProofs := false) only [K74, SS, Nat.reduceAdd, Nat.reduceSub, Nat.reduceLeDiff, Nat.reduceEqDiff, reduceCtorEq, h4, List.length_map]
  refine WC.loopR (fun mm fr st' => Gr st1 st' ∧ ∃ (i : Nat) (v6 v7 v8 : AV), i ≤ ks.length ∧ mm = ks.length - i ∧ objGo d [] ks (fitsL l ls) = objGo d (ks.take i) (ks.drop i) ((fitsL l ls).drop i) ∧
    fr = [.ptr so 0, .agg [.int .u8 d.k, .str d.n, .list false (d.fs.map FDef.row), .list false (d.ns.map strRow)], .agg [.int .u8 k, .int .i64 n, .str s, .list false (ks.map strRow), .list false (ls.map Val.row)], .box [.int .u8 d.k, .str d.n, .list false (d.fs.map FDef.row), .list false (d.ns.map strRow)], .ptr o4 0, .bool false, v6, v7, v8, .list false (ks.map strRow), .int .i64 ks.length, .int .i64 i]) (m := ks.length) ⟨Gr.refl _, 0, _, _, _, Nat.zero_le _, rfl, rfl, rfl⟩ ?_
  rintro mm fr st' ⟨hg', i, v6, v7, v8, hi, rfl, hgo, rfl⟩
  have h4' := hg' _ _ h4
  have hS := h.gr (hg1.trans hg')
  simp (contextual := true) (implicitDefEqProofs := false) only [K74, SS, Nat.reduceAdd, Nat.reduceSub, Nat.reduceLeDiff, Nat.reduceEqDiff, reduceCtorEq]
  by_cases hil : i < ks.length
  · have e2 : (ks.map strRow)[i]? = some (strRow ks[i]) := by rw [List.getElem?_map, List.getElem?_eq_getElem hil]; rfl
    have e3 : ks.take (i + 1) = ks.take i ++ [ks[i]] := by rw [List.take_add_one, List.getElem?_eq_getElem hil]; rfl
    have hil2 : i < ls.length := by omega
    have e4 : (ls.map Val.row)[i]? = some (ls[i]).row := by rw [List.getElem?_map, List.getElem?_eq_getElem hil2]; rfl
    have e5 : (fitsL l ls).drop i = (fun t => fitsV l ls[i] t) :: (fitsL l ls).drop (i + 1) := by
      rw [fitsL_map]
      rw [List.drop_eq_getElem_cons (by simpa using hil2)]
      simp
    have ihv := ih _ (List.getElem_mem hil2)
    rw [List.drop_eq_getElem_cons hil, e5, objGo] at hgo
    revert hgo e2 e3 e4 ihv
    generalize ks[i] = x
    generalize ls[i] = v
    intro e2 e3 hgo e4 ihv
    simp (contextual := true) (implicitDefEqProofs := false) only [K74, SS, Nat.reduceAdd, Nat.reduceSub, Nat.reduceLeDiff, Nat.reduceEqDiff, reduceCtorEq, hil, e2, strRow]
    refine WC.call (list_q d.fs (by omega) _) rfl rfl ?_
    rintro _ _ ⟨rfl, rfl⟩
    simp (contextual := true) (implicitDefEqProofs := false) only [K74, SS, Nat.reduceAdd, Nat.reduceSub, Nat.reduceLeDiff, Nat.reduceEqDiff, reduceCtorEq]
    refine WC.call (index_q (namesF d.fs) (by simp [namesF]; omega) x _) rfl rfl ?_
    rintro _ _ ⟨rfl, rfl⟩
    rcases idx_fld x d.fs with ⟨f1, f2⟩ | ⟨j, f, f1, f2, f3⟩
    · rw [f1] at hgo
      simp (contextual := true) (implicitDefEqProofs := false) only [K74, SS, Nat.reduceAdd, Nat.reduceSub, Nat.reduceLeDiff, Nat.reduceEqDiff, reduceCtorEq, f2, ltI_neg1]
      refine WC.leaveR ?_
      simp (contextual := true) (implicitDefEqProofs := false) only [K74, SS, Nat.reduceAdd, Nat.reduceSub, Nat.reduceLeDiff, Nat.reduceEqDiff, reduceCtorEq]
      exact WC.ret ⟨_, _, rfl, hg1.trans hg', by rw [objS, hgo]; rfl⟩
    · rw [f1] at hgo
      have f4 : (d.fs.map FDef.row)[j]? = some f.row := by rw [List.getElem?_map, f3]; rfl
      obtain ⟨tn, txs, tb, vk, vn, vs, vx, vy, et, ev, ef⟩ := f.row_cells
      rw [ef] at f4
      obtain ⟨wk, wn, ws, wx, wy, ew⟩ := v.row_cells
      rw [ew] at e4
      simp (contextual := true) (implicitDefEqProofs := false) only [K74, SS, Nat.reduceAdd, Nat.reduceSub, Nat.reduceLeDiff, Nat.reduceEqDiff, reduceCtorEq, f2, ltI_nat0, h4', rowsStr, List.length_map, show i ≤ ks.length by omega]
      refine WC.call (contains_q (ks.take i) (by simp; omega) x _) rfl (by rw [List.map_take]; rfl) ?_
      rintro _ _ ⟨rfl, rfl⟩
      cases hx : hasN (ks.take i) x with
      | true =>
        simp only [hx, if_true] at hgo
        simp (contextual := true) (implicitDefEqProofs := false) only [K74, SS, Nat.reduceAdd, Nat.reduceSub, Nat.reduceLeDiff, Nat.reduceEqDiff, reduceCtorEq]
        refine WC.leaveR ?_
        simp (contextual := true) (implicitDefEqProofs := false) only [K74, SS, Nat.reduceAdd, Nat.reduceSub, Nat.reduceLeDiff, Nat.reduceEqDiff, reduceCtorEq]
        exact WC.ret ⟨_, _, rfl, hg1.trans hg', by rw [objS, hgo]; rfl⟩
      | false =>
        simp only [hx, Bool.false_eq_true, if_false] at hgo
        have ihv' := ihv f.ty _ hS
        rw [et, ew] at ihv'
        simp (contextual := true) (implicitDefEqProofs := false) only [K74, SS, Nat.reduceAdd, Nat.reduceSub, Nat.reduceLeDiff, Nat.reduceEqDiff, reduceCtorEq, f4, h4', e4]
        refine WC.call ihv' rfl rfl ?_
        rintro _ st3 ⟨hg3, rfl⟩
        simp (contextual := true) (implicitDefEqProofs := false) only [K74, SS, Nat.reduceAdd, Nat.reduceSub, Nat.reduceLeDiff, Nat.reduceEqDiff, reduceCtorEq]
        refine WC.br (fun hy => ?_) (fun hy => ?_)
        · have hy : fitsV l v f.ty = false := by simpa using hy
          simp only [hy, Bool.false_eq_true, if_false] at hgo
          simp (contextual := true) (implicitDefEqProofs := false) only [K74, SS, Nat.reduceAdd, Nat.reduceSub, Nat.reduceLeDiff, Nat.reduceEqDiff, reduceCtorEq]
          refine WC.leaveR ?_
          simp (contextual := true) (implicitDefEqProofs := false) only [K74, SS, Nat.reduceAdd, Nat.reduceSub, Nat.reduceLeDiff, Nat.reduceEqDiff, reduceCtorEq]
          exact WC.ret ⟨_, _, rfl, (hg1.trans hg').trans hg3, by rw [objS, hgo]; rfl⟩
        · have hy : fitsV l v f.ty = true := by simpa using hy
          simp only [hy, if_true] at hgo
          simp (contextual := true) (implicitDefEqProofs := false) only [K74, SS, Nat.reduceAdd, Nat.reduceSub, Nat.reduceLeDiff, Nat.reduceEqDiff, reduceCtorEq, inc64 (show i + 1 < 2 ^ 63 by omega)]
          exact WC.next (m' := ks.length - (i + 1)) (by omega) ⟨hg'.trans hg3, i + 1, _, _, _, hil, rfl, by rw [hgo, e3], rfl⟩
  · simp (contextual := true) (implicitDefEqProofs := false) only [K74, SS, Nat.reduceAdd, Nat.reduceSub, Nat.reduceLeDiff, Nat.reduceEqDiff, reduceCtorEq, hil]
    refine WC.leave ?_
    rw [List.drop_of_length_le (show ks.length ≤ i by omega), objGo] at hgo
    simp (contextual := true) (implicitDefEqProofs := false) only [K74, SS, Nat.reduceAdd, Nat.reduceSub, Nat.reduceLeDiff, Nat.reduceEqDiff, reduceCtorEq]
    refine WC.call (containsF_s 78 [.ptr o4 0] rfl (fun f => f.ty.bang && !f.has && !hasN ks f.name) d.fs (by omega) st' (fun f _ st2 hg2 => objf_s f o4 st2 (by omega) (hg2 _ _ h4')) st' (Gr.refl _)) rfl rfl ?_
    rintro _ st3 ⟨hg3, rfl⟩
    simp (contextual := true) (implicitDefEqProofs := false) only [K74, SS, Nat.reduceAdd, Nat.reduceSub, Nat.reduceLeDiff, Nat.reduceEqDiff, reduceCtorEq]
    exact WC.ret ⟨_, _, rfl, (hg1.trans hg').trans hg3, by rw [objS, hgo]; rfl⟩
end Go.Cb.CodeA
/- What functions of the abstract machine answer. No conditions but those that each theorem names. -/
set_option maxRecDepth 20000
set_option linter.unusedSimpArgs false
set_option linter.unusedVariables false
namespace Go.Cb.CodeA
open Go Go.Cb
attribute [local congr] obind_congr gv_congr2 gv2_congr brT_congr seqK_congr blkK_congr m1_congr gm_congr

theorem lk_ok {l : List TDef} {so : Nat} {st : St} (h : Sch l so st) (n : List Nat) : ((lk l n).getD TDef.zero).OK := by
  cases hl : lk l n with
  | none => exact ⟨by simp [TDef.zero], by simp [TDef.zero], by simp [TDef.zero], fun _ => rfl⟩
  | some t => exact h.ok t (List.mem_of_find?_eq_some hl)
theorem fitsC_s {l : List TDef} {so : Nat} {v : Val} (ih : FitsQ l so v) (u : TRef) (b : Bool) (o3 o4 : Nat) (st : St) (h : Sch l so st) (h3 : st[o3]? = some (.cells [.ptr so 0])) (h4 : st[o4]? = some (.cells [.str [], .list false [u.row], .bool b])) :
    EvQ tbl 73 [.agg v.row, .ptr o3 0, .ptr o4 0] st (fun a st' => Gr st st' ∧ a = .bool (!fitsV l v u)) := by
  obtain ⟨vk, vn, vs, vx, vy, ev⟩ := v.row_cells
  have eu := u.row_eq
  have i1 := ih u st h
  rw [ev, eu] at i1
  rw [eu] at h4
  rw [ev]
  refine EvQ.body (fn := a73) rfl rfl rfl ?_
  simp (contextual := true) (implicitDefEqProofs := false) only [K73, SS, Nat.reduceAdd, Nat.reduceSub, Nat.reduceLeDiff, Nat.reduceEqDiff, reduceCtorEq, h3, h4]
  refine WC.call i1 rfl rfl ?_
  rintro _ st3 ⟨hg3, rfl⟩
  simp (contextual := true) (implicitDefEqProofs := false) only [K73, SS, Nat.reduceAdd, Nat.reduceSub, Nat.reduceLeDiff, Nat.reduceEqDiff, reduceCtorEq]
  exact WC.ret ⟨_, _, rfl, hg3, rfl⟩
theorem fits_s {l : List TDef} {so : Nat} {v : Val} (hv : v.OK) : FitsQ l so v := by
  induction hv with
  | mk k n s ks ls h6 hk hl hok ih =>
    intro t
    induction t with
    | wrap u b iht =>
      intro st h
      simp only [fitsV, fitsT]
      rw [Val.row_eq, TRef.row]
      have eu := u.row_eq
      obtain ⟨hg, h3, h4⟩ := two_more st (.cells [.ptr so 0]) (.cells [.str [], .list false [u.row], .bool b])
      refine EvQ.body (fn := a64) rfl rfl rfl ?_
      simp (contextual := true) (implicitDefEqProofs := false) only [K64, SS, Nat.reduceAdd, Nat.reduceSub, Nat.reduceLeDiff, Nat.reduceEqDiff, reduceCtorEq]
      revert hg h3 h4
      generalize st ++ [Obj.cells [AV.ptr so 0]] ++ [Obj.cells [AV.str [], AV.list false [u.row], AV.bool b]] = st1
      generalize (st ++ [Obj.cells [AV.ptr so 0]]).length = o4
      generalize st.length = o3
      intro hg h3 h4
      refine WC.br (fun h0 => ?_) (fun h0 => ?_)
      · simp (contextual := true) (implicitDefEqProofs := false) only [K64, SS, Nat.reduceAdd, Nat.reduceSub, Nat.reduceLeDiff, Nat.reduceEqDiff, reduceCtorEq, h4]
        exact WC.ret ⟨_, _, rfl, hg, by rw [if_pos h0]; rfl⟩
      rw [if_neg (by rw [h0]; decide)]
      simp (contextual := true) (implicitDefEqProofs := false) only [K64, SS, Nat.reduceAdd, Nat.reduceSub, Nat.reduceLeDiff, Nat.reduceEqDiff, reduceCtorEq, h4, show ltI 0 ((1 : Nat) : Int) = true from rfl]
      cases h5 : eqI k 5 with
      | true =>
        simp (contextual := true) (implicitDefEqProofs := false) only [K64, SS, Nat.reduceAdd, Nat.reduceSub, Nat.reduceLeDiff, Nat.reduceEqDiff, reduceCtorEq, h4]
        refine WC.call (containsV_s 73 [.ptr o3 0, .ptr o4 0] rfl (fun v => !fitsV l v u) ls (by omega) st1 (fun v hv st2 hg2 => fitsC_s (ih v hv) u b o3 o4 st2 ((h.gr hg).gr hg2) (hg2 _ _ h3) (hg2 _ _ h4)) st1 (Gr.refl _)) rfl rfl ?_
        rintro _ st3 ⟨hg3, rfl⟩
        simp (contextual := true) (implicitDefEqProofs := false) only [K64, SS, Nat.reduceAdd, Nat.reduceSub, Nat.reduceLeDiff, Nat.reduceEqDiff, reduceCtorEq]
        exact WC.ret ⟨_, _, rfl, hg.trans hg3, by rw [fitsL_all]; rfl⟩
      | false =>
        have i1 := iht st1 (h.gr hg)
        rw [Val.row_eq, eu] at i1
        rw [eu] at h4
        simp (contextual := true) (implicitDefEqProofs := false) only [K64, SS, Nat.reduceAdd, Nat.reduceSub, Nat.reduceLeDiff, Nat.reduceEqDiff, reduceCtorEq, h3, h4]
        refine WC.call i1 rfl rfl ?_
        rintro _ st3 ⟨hg3, rfl⟩
        simp (contextual := true) (implicitDefEqProofs := false) only [K64, SS, Nat.reduceAdd, Nat.reduceSub, Nat.reduceLeDiff, Nat.reduceEqDiff, reduceCtorEq]
        exact WC.ret ⟨_, _, rfl, hg.trans hg3, by rw [fitsV]; rfl⟩
    | base m b =>
      intro st h
      simp only [fitsV, fitsT]
      rw [Val.row_eq, TRef.row]
      obtain ⟨hg, h3, h4⟩ := two_more st (.cells [.ptr so 0]) (.cells [.str m, .list false [], .bool b])
      refine EvQ.body (fn := a64) rfl rfl rfl ?_
      simp (contextual := true) (implicitDefEqProofs := false) only [K64, SS, Nat.reduceAdd, Nat.reduceSub, Nat.reduceLeDiff, Nat.reduceEqDiff, reduceCtorEq]
      revert hg h3 h4
      generalize st ++ [Obj.cells [AV.ptr so 0]] ++ [Obj.cells [AV.str m, AV.list false [], AV.bool b]] = st1
      generalize (st ++ [Obj.cells [AV.ptr so 0]]).length = o4
      generalize st.length = o3
      intro hg h3 h4
      refine WC.br (fun h0 => ?_) (fun h0 => ?_)
      · simp (contextual := true) (implicitDefEqProofs := false) only [K64, SS, Nat.reduceAdd, Nat.reduceSub, Nat.reduceLeDiff, Nat.reduceEqDiff, reduceCtorEq, h4]
        exact WC.ret ⟨_, _, rfl, hg, by rw [if_pos h0]; rfl⟩
      rw [if_neg (by rw [h0]; decide)]
      simp (contextual := true) (implicitDefEqProofs := false) only [K64, SS, Nat.reduceAdd, Nat.reduceSub, Nat.reduceLeDiff, Nat.reduceEqDiff, reduceCtorEq, h4, show ltI 0 ((0 : Nat) : Int) = false from rfl]
      refine WC.br (fun h1 => ?_) (fun h1 => ?_)
      · simp (contextual := true) (implicitDefEqProofs := false) only [K64, SS, Nat.reduceAdd, Nat.reduceSub, Nat.reduceLeDiff, Nat.reduceEqDiff, reduceCtorEq, h4]
        exact WC.ret ⟨_, _, rfl, hg, by rw [if_pos (show eqN m intS = true from h1)]; rfl⟩
      rw [if_neg (by rw [show eqN m intS = false from h1]; decide)]
      simp (contextual := true) (implicitDefEqProofs := false) only [K64, SS, Nat.reduceAdd, Nat.reduceSub, Nat.reduceLeDiff, Nat.reduceEqDiff, reduceCtorEq]
      refine WC.br (fun h1 => ?_) (fun h1 => ?_)
      · simp (contextual := true) (implicitDefEqProofs := false) only [K64, SS, Nat.reduceAdd, Nat.reduceSub, Nat.reduceLeDiff, Nat.reduceEqDiff, reduceCtorEq, h4]
        exact WC.ret ⟨_, _, rfl, hg, by rw [if_pos (show eqN m stringS = true from h1)]; rfl⟩
      rw [if_neg (by rw [show eqN m stringS = false from h1]; decide)]
      simp (contextual := true) (implicitDefEqProofs := false) only [K64, SS, Nat.reduceAdd, Nat.reduceSub, Nat.reduceLeDiff, Nat.reduceEqDiff, reduceCtorEq]
      refine WC.br (fun h1 => ?_) (fun h1 => ?_)
      · simp (contextual := true) (implicitDefEqProofs := false) only [K64, SS, Nat.reduceAdd, Nat.reduceSub, Nat.reduceLeDiff, Nat.reduceEqDiff, reduceCtorEq, h4]
        exact WC.ret ⟨_, _, rfl, hg, by rw [if_pos (show eqN m booleanS = true from h1)]; rfl⟩
      rw [if_neg (by rw [show eqN m booleanS = false from h1]; decide)]
      simp (contextual := true) (implicitDefEqProofs := false) only [K64, SS, Nat.reduceAdd, Nat.reduceSub, Nat.reduceLeDiff, Nat.reduceEqDiff, reduceCtorEq]
      refine WC.br (fun h1 => ?_) (fun h1 => ?_)
      · simp (contextual := true) (implicitDefEqProofs := false) only [K64, SS, Nat.reduceAdd, Nat.reduceSub, Nat.reduceLeDiff, Nat.reduceEqDiff, reduceCtorEq, h4]
        exact WC.ret ⟨_, _, rfl, hg, by rw [if_pos (show eqN m idS = true from h1)]; rfl⟩
      rw [if_neg (by rw [show eqN m idS = false from h1]; decide)]
      have hS := h.gr hg
      have hd := lk_ok hS m
      simp (contextual := true) (implicitDefEqProofs := false) only [K64, SS, Nat.reduceAdd, Nat.reduceSub, Nat.reduceLeDiff, Nat.reduceEqDiff, reduceCtorEq, h3, h4]
      refine WC.call (type_s hS m) rfl rfl ?_
      rintro _ _ ⟨rfl, rfl⟩
      revert hd
      generalize lk l m = q
      intro hd
      simp (contextual := true) (implicitDefEqProofs := false) only [K64, SS, Nat.reduceAdd, Nat.reduceSub, Nat.reduceLeDiff, Nat.reduceEqDiff, reduceCtorEq, typeA]
      revert hd
      generalize q.getD TDef.zero = d
      intro hd
      simp (contextual := true) (implicitDefEqProofs := false) only [K64, SS, Nat.reduceAdd, Nat.reduceSub, Nat.reduceLeDiff, Nat.reduceEqDiff, reduceCtorEq, TDef.row]
      refine WC.br (fun h1 => ?_) (fun h1 => ?_)
      · rw [if_pos h1]
        have hdn := hd.ln
        cases h4k : eqI k 4 with
        | true =>
          simp (contextual := true) (implicitDefEqProofs := false) only [K64, SS, Nat.reduceAdd, Nat.reduceSub, Nat.reduceLeDiff, Nat.reduceEqDiff, reduceCtorEq, h4k]
          refine WC.call (contains_q d.ns (by omega) s _) rfl rfl ?_
          rintro _ _ ⟨rfl, rfl⟩
          simp (contextual := true) (implicitDefEqProofs := false) only [K64, SS, Nat.reduceAdd, Nat.reduceSub, Nat.reduceLeDiff, Nat.reduceEqDiff, reduceCtorEq, h4k]
          exact WC.ret ⟨_, _, rfl, hg, rfl⟩
        | false =>
          simp (contextual := true) (implicitDefEqProofs := false) only [K64, SS, Nat.reduceAdd, Nat.reduceSub, Nat.reduceLeDiff, Nat.reduceEqDiff, reduceCtorEq, h4k]
          exact WC.ret ⟨_, _, rfl, hg, rfl⟩
      rw [if_neg (by rw [h1]; decide)]
      simp (contextual := true) (implicitDefEqProofs := false) only [K64, SS, Nat.reduceAdd, Nat.reduceSub, Nat.reduceLeDiff, Nat.reduceEqDiff, reduceCtorEq]
      refine WC.br (fun h1 => ?_) (fun h1 => ?_)
      · rw [if_pos h1]
        cases h6k : eqI k 6 with
        | true =>
          have hk6 : ks.length = ls.length := h6 (by rw [eqI_eq] at h6k; simpa using h6k)
          have ob := object_s (l := l) (so := so) (k := k) (n := n) (s := s) hk6 hl ih d hd _ hS
          rw [Val.row_eq, TDef.row] at ob
          simp (contextual := true) (implicitDefEqProofs := false) only [K64, SS, Nat.reduceAdd, Nat.reduceSub, Nat.reduceLeDiff, Nat.reduceEqDiff, reduceCtorEq, h3, h4, h6k]
          refine WC.call ob rfl rfl ?_
          rintro _ st3 ⟨hg3, rfl⟩
          simp (contextual := true) (implicitDefEqProofs := false) only [K64, SS, Nat.reduceAdd, Nat.reduceSub, Nat.reduceLeDiff, Nat.reduceEqDiff, reduceCtorEq, h6k]
          exact WC.ret ⟨_, _, rfl, hg.trans hg3, rfl⟩
        | false =>
          simp (contextual := true) (implicitDefEqProofs := false) only [K64, SS, Nat.reduceAdd, Nat.reduceSub, Nat.reduceLeDiff, Nat.reduceEqDiff, reduceCtorEq, h6k]
          exact WC.ret ⟨_, _, rfl, hg, rfl⟩
      rw [if_neg (by rw [h1]; decide)]
      simp (contextual := true) (implicitDefEqProofs := false) only [K64, SS, Nat.reduceAdd, Nat.reduceSub, Nat.reduceLeDiff, Nat.reduceEqDiff, reduceCtorEq]
      exact WC.ret ⟨_, _, rfl, hg, rfl⟩
end Go.Cb.CodeA
/- What functions of the abstract machine answer. No conditions but those that each theorem names. -/
set_option maxRecDepth 20000
set_option linter.unusedSimpArgs false
set_option linter.unusedVariables false
namespace Go.Cb.CodeA
open Go Go.Cb
attribute [local congr] obind_congr gv_congr2 gv2_congr brT_congr seqK_congr blkK_congr m1_congr gm_congr

mutual
def fieldS (l : List TDef) : FDef → Bool → Flt
  | .mk nm as t has v, inn =>
    if !(lk l t.baseN).isSome && !scalarB t.baseN then (6, t.baseN)
    else (if inn && !scalarB t.baseN && !kindB l t.baseN 4 then (8, t.baseN)
    else (if !inn && kindB l t.baseN 5 then (8, t.baseN)
    else (if rootB t.baseN then (8, t.baseN)
    else (if has && !fitsV l v t then (8, nm)
    else (if !eqI (twiceS (namesF as)).1 0 then twiceS (namesF as)
    else argsS l as)))))
def argsS (l : List TDef) : List FDef → Flt
  | [] => (0, [])
  | a :: as => if kindB l a.ty.baseN 5 then (if a.has then (8, a.name) else argsS l as) else (if !eqI (fieldS l a true).1 0 then fieldS l a true else argsS l as)
end
def FieldQ (l : List TDef) (so : Nat) (f : FDef) : Prop := ∀ (inn : Bool) (st : St), Sch l so st → EvQ tbl 51 [.ptr so 0, .agg f.row, .bool inn] st (fun a st' => Gr st st' ∧ a = fltA (fieldS l f inn))
def fieldQ (l : List TDef) (st : St) (f : FDef) (inn : Bool) (o : Out) : Prop := ∃ r st', finK [ResK.bx 4 true 2] (some o) = some (r, st') ∧ Gr st st' ∧ r = fltA (fieldS l f inn)
theorem fltA_cells (f : Flt) : fltA f = .agg [.int .i64 f.1, .str f.2] := rfl

theorem field_args {l : List TDef} {so : Nat} {nm : List Nat} {as : List FDef} {t : TRef} {has : Bool} {v : Val} {inn : Bool} (hl : as.length ≤ 3000) (ih : ∀ a ∈ as, FieldQ l so a) {st0 st : St} (h : Sch l so st) (hg : Gr st0 st)
    (hS : fieldS l (.mk nm as t has v) inn = if !eqI (twiceS (namesF as)).1 0 then twiceS (namesF as) else argsS l as) {v2 v5 v6 v7 v8 v9 v10 v11 v12 v13 v14 v15 : AV} {w0 : AV} {tn : List Nat} {txs : List (List AV)} {tb : Bool} {vk vn : Int} {vs : List Nat} {vx vy : List (List AV)} {fh : Bool} :
    WC (fun n => exec (callF tbl n) n ((a51s29.seq a51s34).seq ((a51s37.seq (ACode.blk 1 (a51s39.seq ((ACode.blk 2 (a51s41.seq (a51s43.seq (ACode.blk 3 a51s58)))).seq a51s64)).loop)).seq (a51s71.seq ACode.ret)))
      [.ptr so 0, w0, v2, .box [.str nm, .list false (as.map FDef.row), .str tn, .list false txs, .bool tb, .bool fh, .int .u8 vk, .int .i64 vn, .str vs, .list false vx, .list false vy], .box [.int .i64 0, .str []], v5, v6, v7, v8, v9, v10, v11, v12, v13, v14, v15] st) (fieldQ l st0 (.mk nm as t has v) inn) := by
  simp (contextual := true) (implicitDefEqProofs := false) only [K51, SS, Nat.reduceAdd, Nat.reduceSub, Nat.reduceLeDiff, Nat.reduceEqDiff, reduceCtorEq]
  refine WC.call (list_q as (by omega) _) rfl rfl ?_
  rintro _ _ ⟨rfl, rfl⟩
  simp (contextual := true) (implicitDefEqProofs := false) only [K51, SS, Nat.reduceAdd, Nat.reduceSub, Nat.reduceLeDiff, Nat.reduceEqDiff, reduceCtorEq]
  refine WC.call (twice_s (namesF as) (by simp [namesF]; omega) _) rfl rfl ?_
  rintro _ _ ⟨rfl, rfl⟩
  simp (contextual := true) (implicitDefEqProofs := false) only [K51, SS, Nat.reduceAdd, Nat.reduceSub, Nat.reduceLeDiff, Nat.reduceEqDiff, reduceCtorEq, fltA_cells]
  refine WC.br (fun hx => ?_) (fun hx => ?_)
  · rw [if_pos hx] at hS
    simp (contextual := true) (implicitDefEqProofs := false) only [K51, SS, Nat.reduceAdd, Nat.reduceSub, Nat.reduceLeDiff, Nat.reduceEqDiff, reduceCtorEq]
    exact WC.ret ⟨_, _, rfl, hg, by rw [hS]; rfl⟩
  rw [if_neg (by rw [hx]; decide)] at hS
  simp (contextual := true) (implicitDefEqProofs := false) only [K51, SS, Nat.reduceAdd, Nat.reduceSub, Nat.reduceLeDiff, Nat.reduceEqDiff, reduceCtorEq, List.length_map]
  rename_i st1
  refine WC.loopR (fun mm fr st' => Gr st1 st' ∧ ∃ (i : Nat) (v9 v10 v11 : AV), i ≤ as.length ∧ mm = as.length - i ∧ argsS l as = argsS l (as.drop i) ∧
    fr = [.ptr so 0, w0, v2, .box [.str nm, .list false (as.map FDef.row), .str tn, .list false txs, .bool tb, .bool fh, .int .u8 vk, .int .i64 vn, .str vs, .list false vx, .list false vy], .box [.int .i64 0, .str []], v5, v6, v7, .box [.int .i64 (twiceS (namesF as)).1, .str (twiceS (namesF as)).2], v9, v10, v11, v12, .list false (as.map FDef.row), .int .i64 as.length, .int .i64 i]) (m := as.length) ⟨Gr.refl _, 0, _, _, _, Nat.zero_le _, rfl, rfl, rfl⟩ ?_
  rintro mm fr st' ⟨hg', i, v9, v10, v11, hi, rfl, hgo, rfl⟩
  have hS' := h.gr hg'
  simp (contextual := true) (implicitDefEqProofs := false) only [K51, SS, Nat.reduceAdd, Nat.reduceSub, Nat.reduceLeDiff, Nat.reduceEqDiff, reduceCtorEq]
  by_cases hil : i < as.length
  · have e2 : (as.map FDef.row)[i]? = some (as[i]).row := by rw [List.getElem?_map, List.getElem?_eq_getElem hil]; rfl
    have iha := ih _ (List.getElem_mem hil)
    rw [List.drop_eq_getElem_cons hil, argsS] at hgo
    revert hgo e2 iha
    generalize as[i] = a
    intro hgo e2 iha
    obtain ⟨un, uxs, ub, wk, wn, ws, wx, wy, et, ev, ef⟩ := a.row_cells
    rw [ef] at e2
    have hb := base_q a.ty st'
    rw [et] at hb
    simp (contextual := true) (implicitDefEqProofs := false) only [K51, SS, Nat.reduceAdd, Nat.reduceSub, Nat.reduceLeDiff, Nat.reduceEqDiff, reduceCtorEq, hil, e2]
    refine WC.call hb rfl rfl ?_
    rintro _ _ ⟨rfl, rfl⟩
    simp (contextual := true) (implicitDefEqProofs := false) only [K51, SS, Nat.reduceAdd, Nat.reduceSub, Nat.reduceLeDiff, Nat.reduceEqDiff, reduceCtorEq]
    refine WC.call (input_s hS' _) rfl rfl ?_
    rintro _ _ ⟨rfl, rfl⟩
    simp (contextual := true) (implicitDefEqProofs := false) only [K51, SS, Nat.reduceAdd, Nat.reduceSub, Nat.reduceLeDiff, Nat.reduceEqDiff, reduceCtorEq]
    refine WC.br (fun hx => ?_) (fun hx => ?_)
    · rw [if_pos hx] at hgo
      simp (contextual := true) (implicitDefEqProofs := false) only [K51, SS, Nat.reduceAdd, Nat.reduceSub, Nat.reduceLeDiff, Nat.reduceEqDiff, reduceCtorEq]
      refine WC.br (fun hy => ?_) (fun hy => ?_)
      · rw [if_pos hy] at hgo
        simp (contextual := true) (implicitDefEqProofs := false) only [K51, SS, Nat.reduceAdd, Nat.reduceSub, Nat.reduceLeDiff, Nat.reduceEqDiff, reduceCtorEq]
        refine WC.leaveR ?_
        simp (contextual := true) (implicitDefEqProofs := false) only [K51, SS, Nat.reduceAdd, Nat.reduceSub, Nat.reduceLeDiff, Nat.reduceEqDiff, reduceCtorEq]
        exact WC.ret ⟨_, _, rfl, hg.trans hg', by rw [hS, hgo]; rfl⟩
      · rw [if_neg (by rw [hy]; decide)] at hgo
        simp (contextual := true) (implicitDefEqProofs := false) only [K51, SS, Nat.reduceAdd, Nat.reduceSub, Nat.reduceLeDiff, Nat.reduceEqDiff, reduceCtorEq, inc64 (show i + 1 < 2 ^ 63 by omega)]
        exact WC.next (m' := as.length - (i + 1)) (by omega) ⟨hg', i + 1, _, _, _, hil, rfl, hgo, rfl⟩
    · rw [if_neg (by rw [hx]; decide)] at hgo
      have i1 := iha true _ hS'
      rw [ef, fltA_cells] at i1
      simp (contextual := true) (implicitDefEqProofs := false) only [K51, SS, Nat.reduceAdd, Nat.reduceSub, Nat.reduceLeDiff, Nat.reduceEqDiff, reduceCtorEq]
      refine WC.call i1 rfl rfl ?_
      rintro _ st3 ⟨hg3, rfl⟩
      simp (contextual := true) (implicitDefEqProofs := false) only [K51, SS, Nat.reduceAdd, Nat.reduceSub, Nat.reduceLeDiff, Nat.reduceEqDiff, reduceCtorEq]
      refine WC.br (fun hy => ?_) (fun hy => ?_)
      · rw [if_pos hy] at hgo
        simp (contextual := true) (implicitDefEqProofs := false) only [K51, SS, Nat.reduceAdd, Nat.reduceSub, Nat.reduceLeDiff, Nat.reduceEqDiff, reduceCtorEq]
        refine WC.leaveR ?_
        simp (contextual := true) (implicitDefEqProofs := false) only [K51, SS, Nat.reduceAdd, Nat.reduceSub, Nat.reduceLeDiff, Nat.reduceEqDiff, reduceCtorEq]
        exact WC.ret ⟨_, _, rfl, (hg.trans hg').trans hg3, by rw [hS, hgo]; rfl⟩
      · rw [if_neg (by rw [hy]; decide)] at hgo
        simp (contextual := true) (implicitDefEqProofs := false) only [K51, SS, Nat.reduceAdd, Nat.reduceSub, Nat.reduceLeDiff, Nat.reduceEqDiff, reduceCtorEq, inc64 (show i + 1 < 2 ^ 63 by omega)]
        exact WC.next (m' := as.length - (i + 1)) (by omega) ⟨hg'.trans hg3, i + 1, _, _, _, hil, rfl, hgo, rfl⟩
  · rw [List.drop_of_length_le (by omega), argsS] at hgo
    simp (contextual := true) (implicitDefEqProofs := false) only [K51, SS, Nat.reduceAdd, Nat.reduceSub, Nat.reduceLeDiff, Nat.reduceEqDiff, reduceCtorEq, hil]
    refine WC.leave ?_
    simp (contextual := true) (implicitDefEqProofs := false) only [K51, SS, Nat.reduceAdd, Nat.reduceSub, Nat.reduceLeDiff, Nat.reduceEqDiff, reduceCtorEq]
    exact WC.ret ⟨_, _, rfl, hg.trans hg', by rw [hS, hgo]; rfl⟩

theorem field_s {l : List TDef} {so : Nat} {f : FDef} (hf : f.OK) : FieldQ l so f := by
  induction hf with
  | mk nm as t has v hv hl hok ih =>
    intro inn st h
    show EvQ tbl 51 _ st _
    obtain ⟨un, uxs, ub, et⟩ := t.row_cells
    obtain ⟨wk, wn, ws, wx, wy, ev⟩ := v.row_cells
    have ef := FDef.row_mk (n := nm) (as := as) (has := has) et ev
    have hb := base_q t st
    have hfit := fits_s (l := l) (so := so) hv t
    rw [et, ev] at hfit
    rw [et] at hb
    rw [ef]
    have hd := fieldS.eq_1 l inn nm as t has v
    refine EvQ.body (fn := a51) rfl rfl rfl ?_
    show WC _ (fieldQ l st (.mk nm as t has v) inn)
    simp (contextual := true) (implicitDefEqProofs := false) only [K51, SS, Nat.reduceAdd, Nat.reduceSub, Nat.reduceLeDiff, Nat.reduceEqDiff, reduceCtorEq]
    refine WC.call hb rfl rfl ?_
    rintro _ _ ⟨rfl, rfl⟩
    simp (contextual := true) (implicitDefEqProofs := false) only [K51, SS, Nat.reduceAdd, Nat.reduceSub, Nat.reduceLeDiff, Nat.reduceEqDiff, reduceCtorEq]
    refine WC.call (type_s h _) rfl rfl ?_
    rintro _ st ⟨rfl, rfl⟩
    revert hd
    generalize t.baseN = n
    intro hd
    revert hd
    unfold typeA
    generalize (lk l n).isSome = q
    generalize (lk l n).getD TDef.zero = dd
    intro hd
    have rest : ∀ {v6 v7 v12 : AV}, fieldS l (.mk nm as t has v) inn = (if has && !fitsV l v t then (8, nm) else (if !eqI (twiceS (namesF as)).1 0 then twiceS (namesF as) else argsS l as)) →
        WC (fun n' => exec (callF tbl n') n' ((ACode.blk 0 a51s23).seq ((a51s29.seq a51s34).seq ((a51s37.seq (ACode.blk 1 (a51s39.seq ((ACode.blk 2 (a51s41.seq (a51s43.seq (ACode.blk 3 a51s58)))).seq a51s64)).loop)).seq (a51s71.seq ACode.ret))))
          [.ptr so 0, .agg [.str nm, .list false (as.map FDef.row), .str un, .list false uxs, .bool ub, .bool has, .int .u8 wk, .int .i64 wn, .str ws, .list false wx, .list false wy], .bool inn, .box [.str nm, .list false (as.map FDef.row), .str un, .list false uxs, .bool ub, .bool has, .int .u8 wk, .int .i64 wn, .str ws, .list false wx, .list false wy], .box [.int .i64 0, .str []], .str n, v6, v7, .undef, .undef, .undef, .undef, v12, .undef, .undef, .undef] st) (fieldQ l st (.mk nm as t has v) inn) := by
      intro v6 v7 v12 hd
      cases has with
      | false =>
        simp only [Bool.false_and, Bool.false_eq_true, if_false] at hd
        have := field_args (l := l) (so := so) hl ih h (Gr.refl _) hd (w0 := .agg [.str nm, .list false (as.map FDef.row), .str un, .list false uxs, .bool ub, .bool false, .int .u8 wk, .int .i64 wn, .str ws, .list false wx, .list false wy]) (v2 := .bool inn) (v5 := .str n) (v6 := v6) (v7 := v7) (v8 := .undef) (v9 := .undef) (v10 := .undef) (v11 := .undef) (v12 := v12) (v13 := .undef) (v14 := .undef) (v15 := .undef) (tn := un) (txs := uxs) (tb := ub) (vk := wk) (vn := wn) (vs := ws) (vx := wx) (vy := wy) (fh := false)
        simp (contextual := true) (implicitDefEqProofs := false) only [K51, SS, Nat.reduceAdd, Nat.reduceSub, Nat.reduceLeDiff, Nat.reduceEqDiff, reduceCtorEq] at this ⊢
        exact this
      | true =>
        simp (contextual := true) (implicitDefEqProofs := false) only [K51, SS, Nat.reduceAdd, Nat.reduceSub, Nat.reduceLeDiff, Nat.reduceEqDiff, reduceCtorEq]
        refine WC.call (hfit _ h) rfl rfl ?_
        rintro _ st3 ⟨hg3, rfl⟩
        simp (contextual := true) (implicitDefEqProofs := false) only [K51, SS, Nat.reduceAdd, Nat.reduceSub, Nat.reduceLeDiff, Nat.reduceEqDiff, reduceCtorEq]
        refine WC.br (fun hx => ?_) (fun hx => ?_)
        · rw [Bool.true_and, if_pos hx] at hd
          simp (contextual := true) (implicitDefEqProofs := false) only [K51, SS, Nat.reduceAdd, Nat.reduceSub, Nat.reduceLeDiff, Nat.reduceEqDiff, reduceCtorEq]
          exact WC.ret ⟨_, _, rfl, hg3, by rw [hd]; rfl⟩
        · rw [Bool.true_and, if_neg (by rw [hx]; decide)] at hd
          have := field_args (l := l) (so := so) hl ih (h.gr hg3) hg3 hd (w0 := .agg [.str nm, .list false (as.map FDef.row), .str un, .list false uxs, .bool ub, .bool true, .int .u8 wk, .int .i64 wn, .str ws, .list false wx, .list false wy]) (v2 := .bool inn) (v5 := .str n) (v6 := v6) (v7 := v7) (v8 := .undef) (v9 := .undef) (v10 := .undef) (v11 := .undef) (v12 := v12) (v13 := .undef) (v14 := .undef) (v15 := .undef) (tn := un) (txs := uxs) (tb := ub) (vk := wk) (vn := wn) (vs := ws) (vx := wx) (vy := wy) (fh := true)
          simp (contextual := true) (implicitDefEqProofs := false) only [K51, SS, Nat.reduceAdd, Nat.reduceSub, Nat.reduceLeDiff, Nat.reduceEqDiff, reduceCtorEq] at this ⊢
          exact this
    have bad : ∀ {v6 v7 : AV}, fieldS l (.mk nm as t has v) inn = (8, n) → WC (fun n' => exec (callF tbl n') n' ((ACode.blk 0 a51s24).seq ((a51s29.seq a51s34).seq ((a51s37.seq (ACode.blk 1 (a51s39.seq ((ACode.blk 2 (a51s41.seq (a51s43.seq (ACode.blk 3 a51s58)))).seq a51s64)).loop)).seq (a51s71.seq ACode.ret))))
          [.ptr so 0, .agg [.str nm, .list false (as.map FDef.row), .str un, .list false uxs, .bool ub, .bool has, .int .u8 wk, .int .i64 wn, .str ws, .list false wx, .list false wy], .bool inn, .box [.str nm, .list false (as.map FDef.row), .str un, .list false uxs, .bool ub, .bool has, .int .u8 wk, .int .i64 wn, .str ws, .list false wx, .list false wy], .box [.int .i64 0, .str []], .str n, v6, v7, .undef, .undef, .undef, .undef, .bool true, .undef, .undef, .undef] st) (fieldQ l st (.mk nm as t has v) inn) := by
      intro v6 v7 hd
      simp (contextual := true) (implicitDefEqProofs := false) only [K51, SS, Nat.reduceAdd, Nat.reduceSub, Nat.reduceLeDiff, Nat.reduceEqDiff, reduceCtorEq]
      exact WC.ret ⟨_, _, rfl, Gr.refl _, by rw [hd]; rfl⟩
    have mid : ∀ {v6 v7 : AV}, fieldS l (.mk nm as t has v) inn = (if inn && !scalarB n && !kindB l n 4 then (8, n) else (if !inn && kindB l n 5 then (8, n) else (if rootB n then (8, n) else (if has && !fitsV l v t then (8, nm) else (if !eqI (twiceS (namesF as)).1 0 then twiceS (namesF as) else argsS l as))))) →
        WC (fun n' => exec (callF tbl n') n' ((ACode.blk 0 (a51s15.seq a51s24)).seq ((a51s29.seq a51s34).seq ((a51s37.seq (ACode.blk 1 (a51s39.seq ((ACode.blk 2 (a51s41.seq (a51s43.seq (ACode.blk 3 a51s58)))).seq a51s64)).loop)).seq (a51s71.seq ACode.ret))))
          [.ptr so 0, .agg [.str nm, .list false (as.map FDef.row), .str un, .list false uxs, .bool ub, .bool has, .int .u8 wk, .int .i64 wn, .str ws, .list false wx, .list false wy], .bool inn, .box [.str nm, .list false (as.map FDef.row), .str un, .list false uxs, .bool ub, .bool has, .int .u8 wk, .int .i64 wn, .str ws, .list false wx, .list false wy], .box [.int .i64 0, .str []], .str n, v6, v7, .undef, .undef, .undef, .undef, .undef, .undef, .undef, .undef] st) (fieldQ l st (.mk nm as t has v) inn) := by
      intro v6 v7 hd
      have tail : (if rootB n then (8, n) else (if has && !fitsV l v t then (8, nm) else (if !eqI (twiceS (namesF as)).1 0 then twiceS (namesF as) else argsS l as))) = fieldS l (.mk nm as t has v) inn → ∀ (v12 : AV), WC (fun n' => exec (callF tbl n') n' ((ACode.blk 0 (a51s13.seq a51s24)).seq ((a51s29.seq a51s34).seq ((a51s37.seq (ACode.blk 1 (a51s39.seq ((ACode.blk 2 (a51s41.seq (a51s43.seq (ACode.blk 3 a51s58)))).seq a51s64)).loop)).seq (a51s71.seq ACode.ret))))
          [.ptr so 0, .agg [.str nm, .list false (as.map FDef.row), .str un, .list false uxs, .bool ub, .bool has, .int .u8 wk, .int .i64 wn, .str ws, .list false wx, .list false wy], .bool inn, .box [.str nm, .list false (as.map FDef.row), .str un, .list false uxs, .bool ub, .bool has, .int .u8 wk, .int .i64 wn, .str ws, .list false wx, .list false wy], .box [.int .i64 0, .str []], .str n, v6, v7, .undef, .undef, .undef, .undef, v12, .undef, .undef, .undef] st) (fieldQ l st (.mk nm as t has v) inn) := by
        intro hd2 v12
        simp (contextual := true) (implicitDefEqProofs := false) only [K51, SS, Nat.reduceAdd, Nat.reduceSub, Nat.reduceLeDiff, Nat.reduceEqDiff, reduceCtorEq]
        refine WC.call (root_s n _) rfl rfl ?_
        rintro _ _ ⟨rfl, rfl⟩
        simp (contextual := true) (implicitDefEqProofs := false) only [K51, SS, Nat.reduceAdd, Nat.reduceSub, Nat.reduceLeDiff, Nat.reduceEqDiff, reduceCtorEq]
        refine WC.br (fun hx => ?_) (fun hx => ?_)
        · rw [if_pos hx] at hd2
          have := bad (v6 := v6) (v7 := v7) hd2.symm
          rw [hx]
          simp (contextual := true) (implicitDefEqProofs := false) only [K51, SS, Nat.reduceAdd, Nat.reduceSub, Nat.reduceLeDiff, Nat.reduceEqDiff, reduceCtorEq] at this ⊢
          exact this
        · rw [if_neg (by rw [hx]; decide)] at hd2
          have := rest (v6 := v6) (v7 := v7) (v12 := .bool false) hd2.symm
          rw [hx]
          simp (contextual := true) (implicitDefEqProofs := false) only [K51, SS, Nat.reduceAdd, Nat.reduceSub, Nat.reduceLeDiff, Nat.reduceEqDiff, reduceCtorEq] at this ⊢
          exact this
      cases inn with
      | true =>
        simp only [Bool.true_and, Bool.not_true, Bool.false_and, Bool.false_eq_true, if_false] at hd
        simp (contextual := true) (implicitDefEqProofs := false) only [K51, SS, Nat.reduceAdd, Nat.reduceSub, Nat.reduceLeDiff, Nat.reduceEqDiff, reduceCtorEq]
        refine WC.call (scalar_s so n _) rfl rfl ?_
        rintro _ _ ⟨rfl, rfl⟩
        cases hsc : scalarB n with
        | true =>
          simp only [hsc, Bool.not_true, Bool.false_and, Bool.false_eq_true, if_false] at hd
          have := tail hd.symm (.bool false)
          simp (contextual := true) (implicitDefEqProofs := false) only [K51, SS, Nat.reduceAdd, Nat.reduceSub, Nat.reduceLeDiff, Nat.reduceEqDiff, reduceCtorEq] at this ⊢
          exact this
        | false =>
          simp only [hsc, Bool.not_false, Bool.true_and] at hd
          simp (contextual := true) (implicitDefEqProofs := false) only [K51, SS, Nat.reduceAdd, Nat.reduceSub, Nat.reduceLeDiff, Nat.reduceEqDiff, reduceCtorEq]
          refine WC.call (enum_s h n) rfl rfl ?_
          rintro _ _ ⟨rfl, rfl⟩
          cases hen : kindB l n 4 with
          | true =>
            simp only [hen, Bool.not_true, Bool.false_eq_true, if_false] at hd
            have := tail hd.symm (.bool false)
            simp (contextual := true) (implicitDefEqProofs := false) only [K51, SS, Nat.reduceAdd, Nat.reduceSub, Nat.reduceLeDiff, Nat.reduceEqDiff, reduceCtorEq] at this ⊢
            exact this
          | false =>
            simp only [hen, Bool.not_false, if_true] at hd
            have := bad (v6 := v6) (v7 := v7) hd
            simp (contextual := true) (implicitDefEqProofs := false) only [K51, SS, Nat.reduceAdd, Nat.reduceSub, Nat.reduceLeDiff, Nat.reduceEqDiff, reduceCtorEq] at this ⊢
            exact this
      | false =>
        simp only [Bool.false_and, Bool.not_false, Bool.true_and, Bool.false_eq_true, if_false] at hd
        simp (contextual := true) (implicitDefEqProofs := false) only [K51, SS, Nat.reduceAdd, Nat.reduceSub, Nat.reduceLeDiff, Nat.reduceEqDiff, reduceCtorEq]
        refine WC.call (input_s h n) rfl rfl ?_
        rintro _ _ ⟨rfl, rfl⟩
        cases hen : kindB l n 5 with
        | true =>
          simp only [hen, if_true] at hd
          have := bad (v6 := v6) (v7 := v7) hd
          simp (contextual := true) (implicitDefEqProofs := false) only [K51, SS, Nat.reduceAdd, Nat.reduceSub, Nat.reduceLeDiff, Nat.reduceEqDiff, reduceCtorEq] at this ⊢
          exact this
        | false =>
          simp only [hen, Bool.false_eq_true, if_false] at hd
          have := tail hd.symm (.bool false)
          simp (contextual := true) (implicitDefEqProofs := false) only [K51, SS, Nat.reduceAdd, Nat.reduceSub, Nat.reduceLeDiff, Nat.reduceEqDiff, reduceCtorEq] at this ⊢
          exact this
    cases q with
    | false =>
      simp (contextual := true) (implicitDefEqProofs := false) only [K51, SS, Nat.reduceAdd, Nat.reduceSub, Nat.reduceLeDiff, Nat.reduceEqDiff, reduceCtorEq, TDef.row]
      refine WC.call (scalar_s so n _) rfl rfl ?_
      rintro _ _ ⟨rfl, rfl⟩
      simp (contextual := true) (implicitDefEqProofs := false) only [K51, SS, Nat.reduceAdd, Nat.reduceSub, Nat.reduceLeDiff, Nat.reduceEqDiff, reduceCtorEq]
      refine WC.br (fun hx => ?_) (fun hx => ?_)
      · rw [Bool.not_false, Bool.true_and, if_pos hx] at hd
        simp (contextual := true) (implicitDefEqProofs := false) only [K51, SS, Nat.reduceAdd, Nat.reduceSub, Nat.reduceLeDiff, Nat.reduceEqDiff, reduceCtorEq]
        exact WC.ret ⟨_, _, rfl, Gr.refl _, by rw [hd]; rfl⟩
      · rw [Bool.not_false, Bool.true_and, if_neg (by rw [hx]; decide)] at hd
        have := mid (v6 := .box [.int .u8 dd.k, .str dd.n, .list false (dd.fs.map FDef.row), .list false (dd.ns.map strRow)]) (v7 := .bool false) hd
        simp (contextual := true) (implicitDefEqProofs := false) only [K51, SS, Nat.reduceAdd, Nat.reduceSub, Nat.reduceLeDiff, Nat.reduceEqDiff, reduceCtorEq] at this ⊢
        exact this
    | true =>
      simp only [Bool.not_true, Bool.false_and, Bool.false_eq_true, if_false] at hd
      have := mid (v6 := .box [.int .u8 dd.k, .str dd.n, .list false (dd.fs.map FDef.row), .list false (dd.ns.map strRow)]) (v7 := .bool true) hd
      simp (contextual := true) (implicitDefEqProofs := false) only [K51, SS, Nat.reduceAdd, Nat.reduceSub, Nat.reduceLeDiff, Nat.reduceEqDiff, reduceCtorEq, TDef.row] at this ⊢
      exact this
end Go.Cb.CodeA
