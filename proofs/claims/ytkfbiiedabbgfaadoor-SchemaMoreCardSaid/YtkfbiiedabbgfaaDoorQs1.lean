import Derived.Test.YtkfbiiedabbgfaaDoorChA
import Derived.Test.YtkfbiiedabbgfaaDoorXAms2
set_option maxRecDepth 20000
set_option linter.unusedSimpArgs false
set_option linter.unusedVariables false
namespace Go.Cb.CodeA
open Go Go.Cb
open Nat (reduceAdd reduceSub reduceLeDiff reduceEqDiff)
attribute [local congr] obind_congr gv_congr2 gv2_congr brT_congr seqK_congr blkK_congr m1_congr gm_congr

def letterB (c : Int) : Bool := !ltI c 97 && !ltI 122 c || !ltI c 65 && !ltI 90 c || eqI c 95
def digitB (c : Int) : Bool := !ltI c 48 && !ltI 57 c
theorem letter_q (c : Int) (st : St) : EvQ tbl 56 [.int .u8 c] st (fun a st' => st' = st ∧ a = .bool (letterB c)) := by
  refine EvQ.body (fn := a56) rfl rfl rfl ?_
  simp +contextual -implicitDefEqProofs only [K56, SS, reduceAdd,reduceSub,reduceLeDiff,reduceEqDiff,reduceCtorEq]
  exact WC.ret ⟨_, _, rfl, rfl, rfl⟩
theorem digit_q (c : Int) (st : St) : EvQ tbl 57 [.int .u8 c] st (fun a st' => st' = st ∧ a = .bool (digitB c)) := by
  refine EvQ.body (fn := a57) rfl rfl rfl ?_
  simp +contextual -implicitDefEqProofs only [K57, SS, reduceAdd,reduceSub,reduceLeDiff,reduceEqDiff,reduceCtorEq]
  exact WC.ret ⟨_, _, rfl, rfl, rfl⟩

/-- a stretch of bytes that are of a kind -/
def spanG (p : Nat → Bool) : List Nat → List Nat → List Nat × List Nat
  | acc, [] => (acc, [])
  | acc, c :: r => if p c then spanG p (acc ++ [c]) r else (acc, c :: r)
def nameC (c : Nat) : Bool := letterB (c : Int) || digitB (c : Int)
/-- one digit more -/
def NN (n : Int) (x : Nat) : Int := wrapA .i64 (addI (wrapA .i64 (n * 10)) (wrapA .i64 (wrapA .u8 (subI (x : Int) 48))))
def numG : Nat → Int → List Nat → List Nat → Nat × Int × List Nat × List Nat
  | c, n, acc, [] => (c, n, acc, [])
  | c, n, acc, x :: r => if digitB (x : Int) then numG (c + 1) (if c < 18 then NN n x else n) (acc ++ [x]) r else (c, n, acc, x :: r)
/-- a token's kind, text and number, and what stands behind it -/
abbrev OneR := Option (Int × List Nat × Int × List Nat)
def headB (p : Nat → Bool) : List Nat → Bool
  | [] => false
  | x :: _ => p x
def numE (m : Bool) (pre : List Nat) (c : Nat) (n : Int) (acc r : List Nat) : OneR :=
  if c = 0 then none else (if headB (fun x => eqI (x : Int) 48) acc && decide (1 < c) then none else (if headB (fun x => letterB (x : Int) || eqI (x : Int) 46) r then none else (if 18 < c then none else some (2, pre ++ acc, if m then wrapA .i64 (0 - n) else n, r))))
def numX (m : Bool) (pre : List Nat) (x : Nat × Int × List Nat × List Nat) : OneR := numE m pre x.1 x.2.1 x.2.2.1 x.2.2.2
def numberS : List Nat → OneR
  | [] => none
  | b :: r => if eqI (b : Int) 45 then numX true [45] (numG 0 0 [] r) else numX false [] (numG 0 0 [] (b :: r))
def escC (b : Nat) : Option (List Nat) := if eqI (b : Int) 110 then some [10] else (if eqI (b : Int) 116 then some [9] else (if eqI (b : Int) 34 || eqI (b : Int) 47 || eqI (b : Int) 92 then some [b] else none))
def textG : List Nat → List Nat → OneR
  | _, [] => none
  | t, [b] => if eqI (b : Int) 34 then (if 200 < t.length then none else some (3, t, 0, [])) else none
  | t, b :: x :: r => if eqI (b : Int) 34 then (if 200 < t.length then none else some (3, t, 0, x :: r)) else (if eqI (b : Int) 10 then none else (if eqI (b : Int) 92 then (match escC x with | none => none | some y => textG (t ++ y) r) else textG (t ++ [b]) (x :: r)))
def signC (b : Nat) : Bool := eqI (b : Int) 33 || eqI (b : Int) 36 || eqI (b : Int) 40 || eqI (b : Int) 41 || eqI (b : Int) 58 || eqI (b : Int) 61 || eqI (b : Int) 64 || eqI (b : Int) 91 || eqI (b : Int) 93 || eqI (b : Int) 123 || eqI (b : Int) 124 || eqI (b : Int) 125 || eqI (b : Int) 38
def nameS (l : List Nat) : OneR := if 32 < (spanG nameC [] l).1.length then none else some (1, (spanG nameC [] l).1, 0, (spanG nameC [] l).2)
def dotsS : List Nat → OneR
  | 46 :: 46 :: r => some (4, [46, 46, 46], 0, r)
  | _ => none
def oneS : List Nat → OneR
  | [] => none
  | b :: r => if letterB (b : Int) then nameS (b :: r) else (if eqI (b : Int) 45 || digitB (b : Int) then numberS (b :: r) else (if eqI (b : Int) 34 then textG [] r else (if eqI (b : Int) 46 then dotsS r else (if signC b then some (4, [b], 0, r) else none))))

theorem drop_at {s : List Nat} {k b : Nat} (h : s[k]? = some b) : s.drop k = b :: s.drop (k + 1) := by
  obtain ⟨hk, e⟩ := List.getElem?_eq_some_iff.1 h
  rw [List.drop_eq_getElem_cons hk, e]
theorem drop_end {s : List Nat} {k : Nat} (h : s.length ≤ k) : s.drop k = [] := List.drop_of_length_le h
theorem slice_snoc {s : List Nat} {i k b : Nat} (hik : i ≤ k) (h : s[k]? = some b) : (s.take (k + 1)).drop i = (s.take k).drop i ++ [b] := by
  obtain ⟨hk, e⟩ := List.getElem?_eq_some_iff.1 h
  rw [List.take_succ_eq_append_getElem hk, List.drop_append_of_le_length (by rw [List.length_take]; omega), e]
theorem slice_nil (s : List Nat) (i : Nat) : (s.take i).drop i = [] := List.drop_of_length_le (by rw [List.length_take]; omega)
theorem slice_len {s : List Nat} {i k : Nat} (hk : k ≤ s.length) : ((s.take k).drop i).length = k - i := by rw [List.length_drop, List.length_take]; omega
theorem slice_cat {s : List Nat} {i f k : Nat} (h1 : i ≤ f) (h2 : f ≤ k) : (s.take k).drop i = (s.take f).drop i ++ (s.take k).drop f := by
  have e : s.take k = s.take f ++ (s.take k).drop f := by
    have := (List.take_append_drop f (s.take k)).symm
    rwa [List.take_take, Nat.min_eq_left h2] at this
  by_cases hf : i ≤ (s.take f).length
  · conv => lhs; rw [e, List.drop_append_of_le_length hf]
  · rw [List.length_take] at hf
    have : s.length < i := by omega
    rw [List.drop_of_length_le (by rw [List.length_take]; omega), List.drop_of_length_le (by rw [List.length_take]; omega), List.drop_of_length_le (by rw [List.length_take]; omega)]
    rfl

/-- what a token's reader answers: a fault, or a token that ends further on -/
def OneOK (s : List Nat) (i : Nat) (X : OneR) (a : AV) : Prop := ∃ (k : Int) (t : List Nat) (n at' : Int) (en : Nat) (bad e : Int),
  a = .tuple [.agg [.int .u8 k, .str t, .int .i64 n, .int .i64 at'], .int .i64 en, .int .i64 bad, .int .i64 e] ∧ (e = 0 → k ≠ 0 ∧ i < en ∧ en ≤ s.length) ∧ X = if e = 0 then some (k, t, n, s.drop en) else none
theorem OneOK.bad {s : List Nat} {i : Nat} {X : OneR} {k : Int} {t : List Nat} {n at' : Int} {en : Nat} {bad e : Int} (he : e ≠ 0) (hX : X = none) :
  OneOK s i X (.tuple [.agg [.int .u8 k, .str t, .int .i64 n, .int .i64 at'], .int .i64 en, .int .i64 bad, .int .i64 e]) := ⟨_, _, _, _, _, _, _, rfl, fun h => absurd h he, by rw [hX, if_neg he]⟩
theorem OneOK.good {s : List Nat} {i : Nat} {X : OneR} {k : Int} {t : List Nat} {n at' : Int} {en : Nat} {bad : Int} (hk : k ≠ 0) (h1 : i < en) (h2 : en ≤ s.length) (hX : X = some (k, t, n, s.drop en)) :
  OneOK s i X (.tuple [.agg [.int .u8 k, .str t, .int .i64 n, .int .i64 at'], .int .i64 en, .int .i64 bad, .int .i64 0]) := ⟨_, _, _, _, _, _, _, rfl, fun _ => ⟨hk, h1, h2⟩, by rw [hX, if_pos rfl]⟩
theorem num_stop {c : Nat} {n : Int} {acc l : List Nat} (h : headB (fun x => digitB (x : Int)) l = false) : numG c n acc l = (c, n, acc, l) := by
  cases l with
  | nil => rfl
  | cons x r => rw [numG, if_neg (by simpa [headB] using h)]
theorem subN {f k : Nat} (h : f ≤ k) (hk : k < 2 ^ 60) : wrapA .i64 (subI (k : Int) (f : Int)) = ((k - f : Nat) : Int) := by
  rw [subI_eq, wrap64 (by omega) (by omega)]; omega
theorem number_loop (s : List Nat) (i f : Nat) (m : Bool) (hs : s.length ≤ 2000) (hif : i ≤ f) (hf : f ≤ s.length) (st : St) {Q : Out → Prop} {K : Nat → Out → Option Out}
  (hK : ∀ (k : Nat) (n : Int), f ≤ k → k ≤ s.length → numG 0 0 [] (s.drop f) = (k - f, n, (s.take k).drop f, s.drop k) → WC (fun n' => K n' (.exit 0, [.str s, .int .i64 i, .box [.int .u8 0, .str [], .int .i64 0, .int .i64 0], .int .i64 0, .int .i64 0, .int .i64 0, .int .i64 k, .bool m, .int .i64 f, .int .i64 n], st)) Q) :
  WC (fun n => obind (loopO (callF tbl n) n (a58s15.seq (ACode.blk 1 (a58s19.seq a58s21))) [.str s, .int .i64 i, .box [.int .u8 0, .str [], .int .i64 0, .int .i64 0], .int .i64 0, .int .i64 0, .int .i64 0, .int .i64 f, .bool m, .int .i64 f, .int .i64 0] st) (K n)) Q := by
  refine WC.loopR (fun mm fr st' => st' = st ∧ ∃ (k : Nat) (n : Int), f ≤ k ∧ k ≤ s.length ∧ mm = s.length - k ∧ numG 0 0 [] (s.drop f) = numG (k - f) n ((s.take k).drop f) (s.drop k) ∧ fr = [.str s, .int .i64 i, .box [.int .u8 0, .str [], .int .i64 0, .int .i64 0], .int .i64 0, .int .i64 0, .int .i64 0, .int .i64 k, .bool m, .int .i64 f, .int .i64 n]) (m := s.length - f) ⟨rfl, f, 0, Nat.le_refl _, hf, rfl, by rw [slice_nil, Nat.sub_self], rfl⟩ ?_
  rintro mm fr st' ⟨rfl, k, n, h1, h2, rfl, hX, rfl⟩
  simp +contextual -implicitDefEqProofs only [K58, SS, reduceAdd,reduceSub,reduceLeDiff,reduceEqDiff,reduceCtorEq]
  by_cases hk : k < s.length
  · have hb : s[k]? = some s[k] := List.getElem?_eq_getElem hk
    revert hb
    generalize s[k] = b
    intro hb
    simp +contextual -implicitDefEqProofs only [K58, SS, reduceAdd,reduceSub,reduceLeDiff,reduceEqDiff,reduceCtorEq, hk, hb]
    refine WC.call (digit_q _ _) rfl rfl ?_
    rintro _ _ ⟨rfl, rfl⟩
    simp +contextual -implicitDefEqProofs only [K58, SS, reduceAdd,reduceSub,reduceLeDiff,reduceEqDiff,reduceCtorEq, hk, hb]
    refine WC.br (fun hd => ?_) (fun hd => ?_)
    · have hd' : digitB (b : Int) = true := hd
      rw [drop_at hb, numG, if_pos hd', ← slice_snoc h1 hb] at hX
      have e1 := subN h1 (show k < 2 ^ 60 by omega)
      have e2 : ltI ((k - f : Nat) : Int) 18 = decide (k - f < 18) := ltN _ 18
      have e3 : k - f + 1 = k + 1 - f := by omega
      rw [e3] at hX
      simp +contextual -implicitDefEqProofs only [K58, SS, reduceAdd,reduceSub,reduceLeDiff,reduceEqDiff,reduceCtorEq, hk, hb, e1, e2]
      by_cases h18 : k - f < 18
      · rw [if_pos h18] at hX
        simp +contextual -implicitDefEqProofs only [K58, SS, reduceAdd,reduceSub,reduceLeDiff,reduceEqDiff,reduceCtorEq, hk, hb, h18, inc64 (show k + 1 < 2 ^ 63 by omega)]
        exact WC.next (m' := s.length - (k + 1)) (by omega) ⟨rfl, k + 1, _, by omega, hk, rfl, hX, rfl⟩
      · rw [if_neg h18] at hX
        simp +contextual -implicitDefEqProofs only [K58, SS, reduceAdd,reduceSub,reduceLeDiff,reduceEqDiff,reduceCtorEq, hk, hb, h18, inc64 (show k + 1 < 2 ^ 63 by omega)]
        exact WC.next (m' := s.length - (k + 1)) (by omega) ⟨rfl, k + 1, _, by omega, hk, rfl, hX, rfl⟩
    · simp +contextual -implicitDefEqProofs only [K58, SS, reduceAdd,reduceSub,reduceLeDiff,reduceEqDiff,reduceCtorEq]
      exact WC.leave (hK k n h1 h2 (hX.trans (num_stop (by rw [drop_at hb]; exact hd))))
  · simp +contextual -implicitDefEqProofs only [K58, SS, reduceAdd,reduceSub,reduceLeDiff,reduceEqDiff,reduceCtorEq, hk]
    exact WC.leave (hK k n h1 h2 (hX.trans (num_stop (by rw [drop_end (by omega)]; rfl))))

theorem number_end (s : List Nat) (i f k : Nat) (n : Int) (m : Bool) (hs : s.length ≤ 2000) (hif : i ≤ f) (hf : f ≤ k) (hk : k ≤ s.length) (st : St) (hi : i < s.length) :
  WC (fun n' => exec (callF tbl n') n' ((ACode.blk 2 a58s46).seq (a58s51.seq (a58s53.seq ACode.ret))) [.str s, .int .i64 i, .box [.int .u8 0, .str [], .int .i64 0, .int .i64 0], .int .i64 0, .int .i64 0, .int .i64 0, .int .i64 k, .bool m, .int .i64 f, .int .i64 n] st)
    (fun o => ∃ r st', finK [ResK.bx 2 true 4, ResK.v 3, ResK.v 4, ResK.v 5] (some o) = some (r, st') ∧ st' = st ∧ OneOK s i (numE m ((s.take f).drop i) (k - f) n ((s.take k).drop f) (s.drop k)) r) := by
  have eN : eqI (k : Int) (f : Int) = decide (k = f) := eqNN _ _
  by_cases h : k = f
  · simp +contextual -implicitDefEqProofs only [K58, SS, reduceAdd,reduceSub,reduceLeDiff,reduceEqDiff,reduceCtorEq, eN, h]
    exact WC.ret ⟨_, _, rfl, rfl, OneOK.bad (en := 0) (by decide) (by rw [numE, if_pos (Nat.sub_self _)])⟩
  simp +contextual -implicitDefEqProofs only [K58, SS, reduceAdd,reduceSub,reduceLeDiff,reduceEqDiff,reduceCtorEq, eN, h]
  have hfk : f < k := by omega
  have hfs : f < s.length := by omega
  have hb : s[f]? = some s[f] := List.getElem?_eq_getElem hfs
  revert hb
  generalize s[f] = b
  intro hb
  have i1 := inc64 (show f + 1 < 2 ^ 63 by omega)
  have hc : ¬ (k - f = 0) := by omega
  have hacc : (s.take k).drop f = b :: (s.take k).drop (f + 1) := drop_at (by rw [List.getElem?_take_of_lt hfk]; exact hb)
  have eL : ltI ((f + 1 : Nat) : Int) (k : Int) = decide (f + 1 < k) := ltN _ _
  have e1 := subN hf (show k < 2 ^ 60 by omega)
  have e2 : ltI 18 ((k - f : Nat) : Int) = decide (18 < k - f) := ltN 18 _
  have hcat := slice_cat hif hf (s := s)
  have hstart : headB (fun x => eqI (x : Int) 48) ((s.take k).drop f) = eqI (b : Int) 48 := by rw [hacc]; rfl
  have hlen1 : decide (1 < k - f) = decide (f + 1 < k) := by apply decide_eq_decide.2; omega
  simp +contextual -implicitDefEqProofs only [K58, SS, reduceAdd,reduceSub,reduceLeDiff,reduceEqDiff,reduceCtorEq, hb, i1, eL]
  refine WC.br (fun h => ?_) (fun h => ?_)
  · simp +contextual -implicitDefEqProofs only [K58, SS, reduceAdd,reduceSub,reduceLeDiff,reduceEqDiff,reduceCtorEq, i1]
    exact WC.ret ⟨_, _, rfl, rfl, OneOK.bad (en := 0) (by decide) (by rw [numE, if_neg hc, hstart, hlen1, if_pos h])⟩
  have hz : ¬ ((eqI (b : Int) 48 && decide (f + 1 < k)) = true) := by rw [h]; simp
  have fin : headB (fun x => letterB (x : Int) || eqI (x : Int) 46) (s.drop k) = false → ¬ 18 < k - f → WC (fun n_1 => seqK (some (.normal, [.str s, .int .i64 i, .box [.int .u8 0, .str [], .int .i64 0, .int .i64 0], .int .i64 0, .int .i64 0, .int .i64 0, .int .i64 k, .bool m, .int .i64 f, .int .i64 n], st)) (exec (callF tbl n_1) n_1 (a58s51.seq (a58s53.seq ACode.ret)))) (fun o => ∃ r st', finK [ResK.bx 2 true 4, ResK.v 3, ResK.v 4, ResK.v 5] (some o) = some (r, st') ∧ st' = st ∧ OneOK s i (numE m ((s.take f).drop i) (k - f) n ((s.take k).drop f) (s.drop k)) r) := by
    intro hh h18
    have hE : numE m ((s.take f).drop i) (k - f) n ((s.take k).drop f) (s.drop k) = some (2, (s.take k).drop i, if m then wrapA .i64 (0 - n) else n, s.drop k) := by
      rw [numE, if_neg hc, hstart, hlen1, if_neg hz, hh, if_neg (by decide), if_neg h18, hcat]
    rw [hE]
    cases m with
    | true =>
      simp +contextual -implicitDefEqProofs only [K58, SS, reduceAdd,reduceSub,reduceLeDiff,reduceEqDiff,reduceCtorEq, hk, show i ≤ k by omega]
      exact WC.ret ⟨_, _, rfl, rfl, OneOK.good (by decide) (by omega) hk rfl⟩
    | false =>
      simp +contextual -implicitDefEqProofs only [K58, SS, reduceAdd,reduceSub,reduceLeDiff,reduceEqDiff,reduceCtorEq, hk, show i ≤ k by omega]
      exact WC.ret ⟨_, _, rfl, rfl, OneOK.good (by decide) (by omega) hk rfl⟩
  have tail : headB (fun x => letterB (x : Int) || eqI (x : Int) 46) (s.drop k) = false → WC (fun n_1 => exec (callF tbl n_1) n_1 ((ACode.blk 2 a58s43).seq (a58s51.seq (a58s53.seq ACode.ret))) [.str s, .int .i64 i, .box [.int .u8 0, .str [], .int .i64 0, .int .i64 0], .int .i64 0, .int .i64 0, .int .i64 0, .int .i64 k, .bool m, .int .i64 f, .int .i64 n] st) (fun o => ∃ r st', finK [ResK.bx 2 true 4, ResK.v 3, ResK.v 4, ResK.v 5] (some o) = some (r, st') ∧ st' = st ∧ OneOK s i (numE m ((s.take f).drop i) (k - f) n ((s.take k).drop f) (s.drop k)) r) := by
    intro hh
    by_cases h18 : 18 < k - f
    · simp +contextual -implicitDefEqProofs only [K58, SS, reduceAdd,reduceSub,reduceLeDiff,reduceEqDiff,reduceCtorEq, e1, e2, h18]
      exact WC.ret ⟨_, _, rfl, rfl, OneOK.bad (en := 0) (by decide) (by rw [numE, if_neg hc, hstart, hlen1, if_neg hz, hh, if_neg (by decide), if_pos h18])⟩
    · have fin := fin hh h18
      simp +contextual -implicitDefEqProofs only [K58, SS, reduceAdd,reduceSub,reduceLeDiff,reduceEqDiff,reduceCtorEq, e1, e2, h18]
      simp +contextual -implicitDefEqProofs only [K58, SS, reduceAdd,reduceSub,reduceLeDiff,reduceEqDiff,reduceCtorEq] at fin
      exact fin
  simp +contextual -implicitDefEqProofs only [K58, SS, reduceAdd,reduceSub,reduceLeDiff,reduceEqDiff,reduceCtorEq]
  by_cases hks : k < s.length
  · have hb : s[k]? = some s[k] := List.getElem?_eq_getElem hks
    revert hb
    generalize s[k] = b
    intro hb
    simp +contextual -implicitDefEqProofs only [K58, SS, reduceAdd,reduceSub,reduceLeDiff,reduceEqDiff,reduceCtorEq, hks, hb]
    refine WC.call (letter_q _ _) rfl rfl ?_
    rintro _ _ ⟨rfl, rfl⟩
    simp +contextual -implicitDefEqProofs only [K58, SS, reduceAdd,reduceSub,reduceLeDiff,reduceEqDiff,reduceCtorEq, hks, hb]
    refine WC.br (fun h => ?_) (fun h => ?_)
    · simp +contextual -implicitDefEqProofs only [K58, SS, reduceAdd,reduceSub,reduceLeDiff,reduceEqDiff,reduceCtorEq]
      exact WC.ret ⟨_, _, rfl, rfl, OneOK.bad (en := 0) (by decide) (by rw [numE, if_neg hc, hstart, hlen1, if_neg hz, drop_at hb, if_pos (show headB (fun x => letterB (x : Int) || eqI (x : Int) 46) (b :: s.drop (k + 1)) = true from h)])⟩
    · have tail := tail (by rw [drop_at hb]; exact h)
      simp +contextual -implicitDefEqProofs only [K58, SS, reduceAdd,reduceSub,reduceLeDiff,reduceEqDiff,reduceCtorEq]
      simp +contextual -implicitDefEqProofs only [K58, SS, reduceAdd,reduceSub,reduceLeDiff,reduceEqDiff,reduceCtorEq] at tail
      exact tail
  · have tail := tail (by rw [drop_end (by omega)]; rfl)
    simp +contextual -implicitDefEqProofs only [K58, SS, reduceAdd,reduceSub,reduceLeDiff,reduceEqDiff,reduceCtorEq, hks]
    simp +contextual -implicitDefEqProofs only [K58, SS, reduceAdd,reduceSub,reduceLeDiff,reduceEqDiff,reduceCtorEq] at tail
    exact tail
theorem number_q (s : List Nat) (i : Nat) (hs : s.length ≤ 2000) (hi : i < s.length) (st : St) : EvQ tbl 58 [.str s, .int .i64 i] st (fun a st' => st' = st ∧ OneOK s i (numberS (s.drop i)) a) := by
  have hb : s[i]? = some s[i] := List.getElem?_eq_getElem hi
  revert hb
  generalize s[i] = b
  intro hb
  refine EvQ.body (fn := a58) rfl rfl rfl ?_
  rw [drop_at hb]
  by_cases h : eqI (b : Int) 45 = true
  · rw [numberS, if_pos h]
    have e1 : (s.take (i + 1)).drop i = [45] := by
      rw [slice_snoc (Nat.le_refl _) hb, slice_nil]
      rw [eqI_eq] at h
      simp at h
      simp; omega
    simp +contextual -implicitDefEqProofs only [K58, SS, reduceAdd,reduceSub,reduceLeDiff,reduceEqDiff,reduceCtorEq, hb, h, inc64 (show i + 1 < 2 ^ 63 by omega)]
    refine number_loop s i (i + 1) _ hs (by omega) hi st fun k n h1 h2 hX => ?_
    have := number_end s i (i + 1) k n true hs (by omega) h1 h2 st hi
    rw [hX, numX, ← e1]
    simp +contextual -implicitDefEqProofs only [K58, SS, reduceAdd,reduceSub,reduceLeDiff,reduceEqDiff,reduceCtorEq] at this ⊢
    exact this
  · rw [numberS, if_neg h]
    simp only [Bool.not_eq_true] at h
    simp +contextual -implicitDefEqProofs only [K58, SS, reduceAdd,reduceSub,reduceLeDiff,reduceEqDiff,reduceCtorEq, hb, h]
    refine number_loop s i i _ hs (by omega) (by omega) st fun k n h1 h2 hX => ?_
    have := number_end s i i k n false hs (by omega) h1 h2 st hi
    rw [drop_at hb] at hX
    rw [slice_nil] at this
    rw [hX, numX]
    simp +contextual -implicitDefEqProofs only [K58, SS, reduceAdd,reduceSub,reduceLeDiff,reduceEqDiff,reduceCtorEq] at this ⊢
    exact this

theorem textG_cons (t : List Nat) (b : Nat) (r : List Nat) : textG t (b :: r) = if eqI (b : Int) 34 then (if 200 < t.length then none else some (3, t, 0, r)) else (if eqI (b : Int) 10 then none else (if eqI (b : Int) 92 then (match r with | [] => none | x :: r' => match escC x with | none => none | some y => textG (t ++ y) r') else textG (t ++ [b]) r)) := by
  cases r with
  | nil => rw [textG]; simp only [textG]; split <;> (try rfl) <;> split <;> (try rfl) <;> split <;> rfl
  | cons x r => rw [textG]
theorem text_q (s : List Nat) (i : Nat) (hs : s.length ≤ 2000) (hi : i < s.length) (st : St) : EvQ tbl 59 [.str s, .int .i64 i] st (fun a st' => st' = st ∧ OneOK s i (textG [] (s.drop (i + 1))) a) := by
  refine EvQ.body (fn := a59) rfl rfl rfl ?_
  simp +contextual -implicitDefEqProofs only [K59, SS, reduceAdd,reduceSub,reduceLeDiff,reduceEqDiff,reduceCtorEq, inc64 (show i + 1 < 2 ^ 63 by omega)]
  refine WC.loopR (fun mm fr st' => st' = st ∧ ∃ (t : List Nat) (k : Nat) (v8 v9 v10 : AV), i + 1 ≤ k ∧ k ≤ s.length ∧ t.length ≤ k ∧ mm = s.length - k ∧ textG [] (s.drop (i + 1)) = textG t (s.drop k) ∧ fr = [.str s, .int .i64 i, .box [.int .u8 0, .str [], .int .i64 0, .int .i64 0], .int .i64 0, .int .i64 0, .int .i64 0, .str t, .int .i64 k, v8, v9, v10]) (m := s.length - (i + 1)) ⟨rfl, [], i + 1, _, _, _, Nat.le_refl _, hi, by simp, rfl, rfl, rfl⟩ ?_
  rintro mm fr st' ⟨rfl, t, k, v8, v9, v10, h1, h2, ht, rfl, hX, rfl⟩
  rw [hX]
  simp +contextual -implicitDefEqProofs only [K59, SS, reduceAdd,reduceSub,reduceLeDiff,reduceEqDiff,reduceCtorEq]
  by_cases hk : k < s.length
  case neg =>
    simp +contextual -implicitDefEqProofs only [K59, SS, reduceAdd,reduceSub,reduceLeDiff,reduceEqDiff,reduceCtorEq, hk]
    refine WC.leave ?_
    simp +contextual -implicitDefEqProofs only [K59, SS, reduceAdd,reduceSub,reduceLeDiff,reduceEqDiff,reduceCtorEq]
    exact WC.ret ⟨_, _, rfl, rfl, OneOK.bad (en := 0) (by decide) (by rw [drop_end (by omega), textG])⟩
  have hb : s[k]? = some s[k] := List.getElem?_eq_getElem hk
  revert hb
  generalize s[k] = b
  intro hb
  have i1 := inc64 (show k + 1 < 2 ^ 63 by omega)
  have i2 := inc64 (show k + 1 + 1 < 2 ^ 63 by omega)
  have eT : ltI 200 (t.length : Int) = decide (200 < t.length) := ltN 200 _
  have hU := textG_cons t b (s.drop (k + 1))
  rw [← drop_at hb] at hU
  simp +contextual -implicitDefEqProofs only [K59, SS, reduceAdd,reduceSub,reduceLeDiff,reduceEqDiff,reduceCtorEq, hk, hb]
  by_cases h34 : eqI (b : Int) 34 = true
  · rw [if_pos h34] at hU
    by_cases h200 : 200 < t.length
    · rw [if_pos h200] at hU
      simp +contextual -implicitDefEqProofs only [K59, SS, reduceAdd,reduceSub,reduceLeDiff,reduceEqDiff,reduceCtorEq, i1, h34, eT, h200]
      refine WC.leaveR ?_
      simp +contextual -implicitDefEqProofs only [K59, SS, reduceAdd,reduceSub,reduceLeDiff,reduceEqDiff,reduceCtorEq]
      exact WC.ret ⟨_, _, rfl, rfl, OneOK.bad (en := 0) (by decide) hU⟩
    · rw [if_neg h200] at hU
      simp +contextual -implicitDefEqProofs only [K59, SS, reduceAdd,reduceSub,reduceLeDiff,reduceEqDiff,reduceCtorEq, i1, h34, eT, h200]
      refine WC.leaveR ?_
      simp +contextual -implicitDefEqProofs only [K59, SS, reduceAdd,reduceSub,reduceLeDiff,reduceEqDiff,reduceCtorEq]
      exact WC.ret ⟨_, _, rfl, rfl, OneOK.good (by decide) (by omega) hk hU⟩
  rw [if_neg h34] at hU
  simp only [Bool.not_eq_true] at h34
  simp +contextual -implicitDefEqProofs only [K59, SS, reduceAdd,reduceSub,reduceLeDiff,reduceEqDiff,reduceCtorEq, h34]
  refine WC.br (fun h => ?_) (fun h => ?_)
  · rw [if_pos h] at hU
    simp +contextual -implicitDefEqProofs only [K59, SS, reduceAdd,reduceSub,reduceLeDiff,reduceEqDiff,reduceCtorEq]
    refine WC.leaveR ?_
    simp +contextual -implicitDefEqProofs only [K59, SS, reduceAdd,reduceSub,reduceLeDiff,reduceEqDiff,reduceCtorEq]
    exact WC.ret ⟨_, _, rfl, rfl, OneOK.bad (en := 0) (by decide) hU⟩
  rw [h, if_neg (by decide)] at hU
  simp +contextual -implicitDefEqProofs only [K59, SS, reduceAdd,reduceSub,reduceLeDiff,reduceEqDiff,reduceCtorEq]
  refine WC.br (fun h => ?_) (fun h => ?_)
  case refine_2 =>
    rw [h, if_neg (by decide)] at hU
    have l1 : (s.take (k + 1)).drop k = [b] := by rw [slice_snoc (Nat.le_refl _) hb, slice_nil]; rfl
    have l2 : t.length + 1 ≤ 2 ^ 62 := by omega
    simp +contextual -implicitDefEqProofs only [K59, SS, reduceAdd,reduceSub,reduceLeDiff,reduceEqDiff,reduceCtorEq, i1, hk, show k + 1 ≤ s.length by omega, show k ≤ k + 1 by omega, l1, l2, List.length_cons, List.length_nil]
    exact WC.next (m' := s.length - (k + 1)) (by omega) ⟨rfl, _, k + 1, _, _, _, by omega, hk, by simp only [List.length_append, List.length_cons, List.length_nil]; omega, rfl, hU, rfl⟩
  rw [if_pos h] at hU
  simp +contextual -implicitDefEqProofs only [K59, SS, reduceAdd,reduceSub,reduceLeDiff,reduceEqDiff,reduceCtorEq, i1]
  by_cases hks : k + 1 = s.length
  · rw [drop_end (show s.length ≤ k + 1 by omega)] at hU
    simp +contextual -implicitDefEqProofs only [K59, SS, reduceAdd,reduceSub,reduceLeDiff,reduceEqDiff,reduceCtorEq, hks]
    refine WC.leaveR ?_
    simp +contextual -implicitDefEqProofs only [K59, SS, reduceAdd,reduceSub,reduceLeDiff,reduceEqDiff,reduceCtorEq]
    exact WC.ret ⟨_, _, rfl, rfl, OneOK.bad (en := 0) (by decide) hU⟩
  have hk1 : k + 1 < s.length := by omega
  have hb1 : s[k + 1]? = some s[k + 1] := List.getElem?_eq_getElem hk1
  revert hb1
  generalize s[k + 1] = b1
  intro hb1
  have l3 : t.length + 1 ≤ 2 ^ 62 := by omega
  rw [drop_at hb1] at hU
  dsimp only at hU
  simp +contextual -implicitDefEqProofs only [K59, SS, reduceAdd,reduceSub,reduceLeDiff,reduceEqDiff,reduceCtorEq, hks, hb1]
  refine WC.br (fun h => ?_) (fun h => ?_)
  · have hE : escC b1 = some [10] := by rw [escC, if_pos h]
    rw [hE] at hU
    simp +contextual -implicitDefEqProofs only [K59, SS, reduceAdd,reduceSub,reduceLeDiff,reduceEqDiff,reduceCtorEq, i2, l3]
    exact WC.next (m' := s.length - (k + 1 + 1)) (by omega) ⟨rfl, _, k + 1 + 1, _, _, _, by omega, hk1, by simp only [List.length_append, List.length_cons, List.length_nil]; omega, rfl, hU, rfl⟩
  have hn1 := h
  simp +contextual -implicitDefEqProofs only [K59, SS, reduceAdd,reduceSub,reduceLeDiff,reduceEqDiff,reduceCtorEq]
  refine WC.br (fun h => ?_) (fun h => ?_)
  · have hE : escC b1 = some [9] := by rw [escC, hn1, if_neg (by decide), if_pos h]
    rw [hE] at hU
    simp +contextual -implicitDefEqProofs only [K59, SS, reduceAdd,reduceSub,reduceLeDiff,reduceEqDiff,reduceCtorEq, i2, l3]
    exact WC.next (m' := s.length - (k + 1 + 1)) (by omega) ⟨rfl, _, k + 1 + 1, _, _, _, by omega, hk1, by simp only [List.length_append, List.length_cons, List.length_nil]; omega, rfl, hU, rfl⟩
  have hn2 := h
  have l1 : (s.take (k + 1 + 1)).drop (k + 1) = [b1] := by rw [slice_snoc (Nat.le_refl _) hb1, slice_nil]; rfl
  have good : (eqI (b1 : Int) 34 || eqI (b1 : Int) 47 || eqI (b1 : Int) 92) = true → textG t (s.drop k) = textG (t ++ [b1]) (s.drop (k + 1 + 1)) := by
    intro h
    have hE : escC b1 = some [b1] := by rw [escC, hn1, if_neg (by decide), hn2, if_neg (by decide), if_pos h]
    rw [hE] at hU
    exact hU
  simp +contextual -implicitDefEqProofs only [K59, SS, reduceAdd,reduceSub,reduceLeDiff,reduceEqDiff,reduceCtorEq]
  refine WC.br (fun h => ?_) (fun h => ?_)
  · simp +contextual -implicitDefEqProofs only [h, K59, SS, reduceAdd,reduceSub,reduceLeDiff,reduceEqDiff,reduceCtorEq, i2, show k + 1 + 1 ≤ s.length by omega, show k + 1 ≤ k + 1 + 1 by omega, l1, l3, List.length_cons, List.length_nil]
    exact WC.next (m' := s.length - (k + 1 + 1)) (by omega) ⟨rfl, _, k + 1 + 1, _, _, _, by omega, hk1, by simp only [List.length_append, List.length_cons, List.length_nil]; omega, rfl, (good (by rw [show eqI (b1 : Int) 34 = true from h]; rfl)), rfl⟩
  have hn3 := h
  simp +contextual -implicitDefEqProofs only [K59, SS, reduceAdd,reduceSub,reduceLeDiff,reduceEqDiff,reduceCtorEq]
  refine WC.br (fun h => ?_) (fun h => ?_)
  · simp +contextual -implicitDefEqProofs only [h, K59, SS, reduceAdd,reduceSub,reduceLeDiff,reduceEqDiff,reduceCtorEq, i2, show k + 1 + 1 ≤ s.length by omega, show k + 1 ≤ k + 1 + 1 by omega, l1, l3, List.length_cons, List.length_nil]
    exact WC.next (m' := s.length - (k + 1 + 1)) (by omega) ⟨rfl, _, k + 1 + 1, _, _, _, by omega, hk1, by simp only [List.length_append, List.length_cons, List.length_nil]; omega, rfl, (good (by rw [show eqI (b1 : Int) 47 = true from h]; simp)), rfl⟩
  have hn4 := h
  simp +contextual -implicitDefEqProofs only [K59, SS, reduceAdd,reduceSub,reduceLeDiff,reduceEqDiff,reduceCtorEq]
  refine WC.br (fun h => ?_) (fun h => ?_)
  · simp +contextual -implicitDefEqProofs only [h, K59, SS, reduceAdd,reduceSub,reduceLeDiff,reduceEqDiff,reduceCtorEq, i2, show k + 1 + 1 ≤ s.length by omega, show k + 1 ≤ k + 1 + 1 by omega, l1, l3, List.length_cons, List.length_nil]
    exact WC.next (m' := s.length - (k + 1 + 1)) (by omega) ⟨rfl, _, k + 1 + 1, _, _, _, by omega, hk1, by simp only [List.length_append, List.length_cons, List.length_nil]; omega, rfl, (good (by rw [show eqI (b1 : Int) 92 = true from h]; simp)), rfl⟩
  have hE : escC b1 = none := by rw [escC, hn1, if_neg (by decide), hn2, if_neg (by decide), show eqI (b1 : Int) 34 = false from hn3, show eqI (b1 : Int) 47 = false from hn4, show eqI (b1 : Int) 92 = false from h, if_neg (by decide)]
  rw [hE] at hU
  simp +contextual -implicitDefEqProofs only [K59, SS, reduceAdd,reduceSub,reduceLeDiff,reduceEqDiff,reduceCtorEq]
  refine WC.leaveR ?_
  simp +contextual -implicitDefEqProofs only [K59, SS, reduceAdd,reduceSub,reduceLeDiff,reduceEqDiff,reduceCtorEq]
  exact WC.ret ⟨_, _, rfl, rfl, OneOK.bad (en := 0) (by decide) hU⟩

theorem span_stop {p : Nat → Bool} {acc l : List Nat} (h : headB p l = false) : spanG p acc l = (acc, l) := by
  cases l with
  | nil => rfl
  | cons x r => rw [spanG, if_neg (by simpa [headB] using h)]
theorem one_q (s : List Nat) (i : Nat) (hs : s.length ≤ 2000) (hi : i < s.length) (st0 : St) : EvQ tbl 40 [.str s, .int .i64 i] st0 (fun a st' => st' = st0 ∧ OneOK s i (oneS (s.drop i)) a) := by
  have hb : s[i]? = some s[i] := List.getElem?_eq_getElem hi
  revert hb
  generalize s[i] = b
  intro hb
  have i1 := inc64 (show i + 1 < 2 ^ 63 by omega)
  have hU : oneS (s.drop i) = oneS (b :: s.drop (i + 1)) := by rw [drop_at hb]
  rw [oneS] at hU
  refine EvQ.body (fn := a40) rfl rfl rfl ?_
  simp +contextual -implicitDefEqProofs only [K40, SS, reduceAdd,reduceSub,reduceLeDiff,reduceEqDiff,reduceCtorEq, hb]
  refine WC.call (letter_q _ _) rfl rfl ?_
  rintro _ st ⟨rfl, rfl⟩
  simp +contextual -implicitDefEqProofs only [K40, SS, reduceAdd,reduceSub,reduceLeDiff,reduceEqDiff,reduceCtorEq]
  refine WC.br (fun hlet => ?_) (fun hlet => ?_)
  · rw [if_pos (show letterB (b : Int) = true from hlet), ← drop_at hb] at hU
    simp +contextual -implicitDefEqProofs only [K40, SS, reduceAdd,reduceSub,reduceLeDiff,reduceEqDiff,reduceCtorEq]
    refine WC.loopR (fun mm fr st' => st' = st ∧ ∃ (k : Nat), i ≤ k ∧ k ≤ s.length ∧ mm = s.length - k ∧ spanG nameC [] (s.drop i) = spanG nameC ((s.take k).drop i) (s.drop k) ∧ fr = [.str s, .int .i64 i, .box [.int .u8 0, .str [], .int .i64 0, .int .i64 0], .int .i64 0, .int .i64 0, .int .i64 0, .int .u8 b, .int .i64 k]) (m := s.length - i) ⟨rfl, i, Nat.le_refl _, by omega, rfl, by rw [slice_nil], rfl⟩ ?_
    rintro mm fr st' ⟨rfl, k, h1, h2, rfl, hX, rfl⟩
    have leave : i < k → headB nameC (s.drop k) = false → WC (fun n => seqC (blkC 0 (seqC (blkC 1 some) (exec (callF tbl n) n (a40s19.seq (a40s21.seq ACode.ret))))) (exec (callF tbl n) n (a40s54.seq ACode.ret)) (Ex.exit 1, [.str s, .int .i64 i, .box [.int .u8 0, .str [], .int .i64 0, .int .i64 0], .int .i64 0, .int .i64 0, .int .i64 0, .int .u8 b, .int .i64 k], st')) (fun o => ∃ r st'', finK [ResK.bx 2 true 4, ResK.v 3, ResK.v 4, ResK.v 5] (some o) = some (r, st'') ∧ st'' = st' ∧ OneOK s i (oneS (s.drop i)) r) := by
      intro hik hh
      rw [span_stop hh] at hX
      have e1 := subN h1 (show k < 2 ^ 60 by omega)
      have e2 : ltI 32 ((k - i : Nat) : Int) = decide (32 < k - i) := ltN 32 _
      have hN : nameS (s.drop i) = if 32 < k - i then none else some (1, (s.take k).drop i, 0, s.drop k) := by
        rw [nameS, hX, slice_len h2]
      rw [hU, hN]
      by_cases h32 : 32 < k - i
      · simp +contextual -implicitDefEqProofs only [K40, SS, reduceAdd,reduceSub,reduceLeDiff,reduceEqDiff,reduceCtorEq, e1, e2, h32]
        exact WC.ret ⟨_, _, rfl, rfl, OneOK.bad (en := 0) (by decide) rfl⟩
      · simp +contextual -implicitDefEqProofs only [K40, SS, reduceAdd,reduceSub,reduceLeDiff,reduceEqDiff,reduceCtorEq, h2, h1, e1, e2, h32]
        exact WC.ret ⟨_, _, rfl, rfl, OneOK.good (by decide) hik h2 rfl⟩
    simp +contextual -implicitDefEqProofs only [K40, SS, reduceAdd,reduceSub,reduceLeDiff,reduceEqDiff,reduceCtorEq]
    by_cases hk : k < s.length
    case neg =>
      simp +contextual -implicitDefEqProofs only [K40, SS, reduceAdd,reduceSub,reduceLeDiff,reduceEqDiff,reduceCtorEq, hk]
      exact WC.leave (leave (by omega) (by rw [drop_end (by omega)]; rfl))
    have hbk : s[k]? = some s[k] := List.getElem?_eq_getElem hk
    revert hbk
    generalize s[k] = bk
    intro hbk
    have i2 := inc64 (show k + 1 < 2 ^ 63 by omega)
    have go : nameC bk = true → spanG nameC [] (s.drop i) = spanG nameC ((s.take (k + 1)).drop i) (s.drop (k + 1)) := by
      intro h
      rw [hX, drop_at hbk, spanG, if_pos h, slice_snoc h1 hbk]
    simp +contextual -implicitDefEqProofs only [K40, SS, reduceAdd,reduceSub,reduceLeDiff,reduceEqDiff,reduceCtorEq, hk, hbk]
    refine WC.call (letter_q _ _) rfl rfl ?_
    rintro _ _ ⟨rfl, rfl⟩
    simp +contextual -implicitDefEqProofs only [K40, SS, reduceAdd,reduceSub,reduceLeDiff,reduceEqDiff,reduceCtorEq, hk, hbk]
    refine WC.g2 (fun h => ?_) (fun h => ?_)
    · simp +contextual -implicitDefEqProofs only [K40, SS, reduceAdd,reduceSub,reduceLeDiff,reduceEqDiff,reduceCtorEq, h, hk, hbk]
      refine WC.call (digit_q _ _) rfl rfl ?_
      rintro _ _ ⟨rfl, rfl⟩
      simp +contextual -implicitDefEqProofs only [K40, SS, reduceAdd,reduceSub,reduceLeDiff,reduceEqDiff,reduceCtorEq, h]
      refine WC.br (fun h' => ?_) (fun h' => ?_)
      · simp +contextual -implicitDefEqProofs only [K40, SS, reduceAdd,reduceSub,reduceLeDiff,reduceEqDiff,reduceCtorEq, i2]
        exact WC.next (m' := s.length - (k + 1)) (by omega) ⟨rfl, k + 1, by omega, hk, rfl, go (by rw [nameC, show digitB (bk : Int) = true from h', Bool.or_true]), rfl⟩
      · simp +contextual -implicitDefEqProofs only [K40, SS, reduceAdd,reduceSub,reduceLeDiff,reduceEqDiff,reduceCtorEq]
        have hne : k ≠ i := by
          rintro rfl
          rw [hb] at hbk
          obtain rfl := Option.some.inj hbk
          rw [hlet] at h
          cases h
        exact WC.leave (leave (by omega) (by rw [drop_at hbk]; show nameC bk = false; rw [nameC, show letterB (bk : Int) = false from h, show digitB (bk : Int) = false from h']; rfl))
    · simp +contextual -implicitDefEqProofs only [K40, SS, reduceAdd,reduceSub,reduceLeDiff,reduceEqDiff,reduceCtorEq, show letterB (bk : Int) = true from h, i2]
      exact WC.next (m' := s.length - (k + 1)) (by omega) ⟨rfl, k + 1, by omega, hk, rfl, go (by rw [nameC, show letterB (bk : Int) = true from h, Bool.true_or]), rfl⟩
  · rw [if_neg (show ¬ letterB (b : Int) = true by rw [show letterB (b : Int) = false from hlet]; decide)] at hU
    simp +contextual -implicitDefEqProofs only [K40, SS, reduceAdd,reduceSub,reduceLeDiff,reduceEqDiff,reduceCtorEq]
    have num : (eqI (b : Int) 45 || digitB (b : Int)) = true → WC (fun n => exec (callF tbl n) n ((ACode.blk 0 a40s28).seq (a40s54.seq ACode.ret)) [.str s, .int .i64 i, .box [.int .u8 0, .str [], .int .i64 0, .int .i64 0], .int .i64 0, .int .i64 0, .int .i64 0, .int .u8 b, .int .i64 i] st) (fun o => ∃ r st'', finK [ResK.bx 2 true 4, ResK.v 3, ResK.v 4, ResK.v 5] (some o) = some (r, st'') ∧ st'' = st ∧ OneOK s i (oneS (s.drop i)) r) := by
      intro hm
      rw [if_pos hm, ← drop_at hb] at hU
      rw [hU]
      simp +contextual -implicitDefEqProofs only [K40, SS, reduceAdd,reduceSub,reduceLeDiff,reduceEqDiff,reduceCtorEq]
      refine WC.call (number_q s i hs hi _) rfl rfl ?_
      rintro _ _ ⟨rfl, k, t, n, at', en, bad, e, rfl, hg⟩
      simp +contextual -implicitDefEqProofs only [K40, SS, reduceAdd,reduceSub,reduceLeDiff,reduceEqDiff,reduceCtorEq]
      exact WC.ret ⟨_, _, rfl, rfl, _, _, _, _, _, _, _, rfl, hg⟩
    refine WC.g2 (fun h => ?_) (fun h => ?_)
    rotate_left
    · have h : eqI (b : Int) 45 = true := h
      simp +contextual -implicitDefEqProofs only [K40, SS, reduceAdd,reduceSub,reduceLeDiff,reduceEqDiff,reduceCtorEq, h] at num ⊢
      exact num trivial
    simp +contextual -implicitDefEqProofs only [K40, SS, reduceAdd,reduceSub,reduceLeDiff,reduceEqDiff,reduceCtorEq, h]
    refine WC.call (digit_q _ _) rfl rfl ?_
    rintro _ _ ⟨rfl, rfl⟩
    simp +contextual -implicitDefEqProofs only [K40, SS, reduceAdd,reduceSub,reduceLeDiff,reduceEqDiff,reduceCtorEq, h]
    refine WC.br (fun hdig => ?_) (fun hdig => ?_)
    · have num := num (by rw [show digitB (b : Int) = true from hdig, Bool.or_true])
      simp +contextual -implicitDefEqProofs only [K40, SS, reduceAdd,reduceSub,reduceLeDiff,reduceEqDiff,reduceCtorEq] at num ⊢
      exact num
    rw [if_neg (show ¬ (eqI (b : Int) 45 || digitB (b : Int)) = true by rw [show eqI (b : Int) 45 = false from h, show digitB (b : Int) = false from hdig]; decide)] at hU
    simp +contextual -implicitDefEqProofs only [K40, SS, reduceAdd,reduceSub,reduceLeDiff,reduceEqDiff,reduceCtorEq]
    refine WC.br (fun h => ?_) (fun h => ?_)
    · rw [if_pos h] at hU
      rw [hU]
      simp +contextual -implicitDefEqProofs only [K40, SS, reduceAdd,reduceSub,reduceLeDiff,reduceEqDiff,reduceCtorEq]
      refine WC.call (text_q s i hs hi _) rfl rfl ?_
      rintro _ _ ⟨rfl, k, t, n, at', en, bad, e, rfl, hg⟩
      simp +contextual -implicitDefEqProofs only [K40, SS, reduceAdd,reduceSub,reduceLeDiff,reduceEqDiff,reduceCtorEq]
      exact WC.ret ⟨_, _, rfl, rfl, _, _, _, _, _, _, _, rfl, hg⟩
    rw [h, if_neg (by decide)] at hU
    simp +contextual -implicitDefEqProofs only [K40, SS, reduceAdd,reduceSub,reduceLeDiff,reduceEqDiff,reduceCtorEq]
    refine WC.br (fun h => ?_) (fun h => ?_)
    · rw [if_pos h] at hU
      have e1 : wrapA .i64 (subI (s.length : Int) (i : Int)) = ((s.length - i : Nat) : Int) := by
        rw [subI_eq, wrap64 (by omega) (by omega)]; omega
      have e3 : wrapA .i64 (addI (i : Int) 2) = ((i + 2 : Nat) : Int) := by
        rw [addI_eq, wrap64 (by omega) (by omega)]; omega
      have e4 : wrapA .i64 (addI (i : Int) 3) = ((i + 3 : Nat) : Int) := by
        rw [addI_eq, wrap64 (by omega) (by omega)]; omega
      have e5 : ltI ((s.length - i : Nat) : Int) 3 = decide (s.length - i < 3) := ltN _ 3
      by_cases h3 : s.length - i < 3
      · simp +contextual -implicitDefEqProofs only [K40, SS, reduceAdd,reduceSub,reduceLeDiff,reduceEqDiff,reduceCtorEq, e1, e5, h3]
        refine WC.ret ⟨_, _, rfl, rfl, OneOK.bad (en := 0) (by decide) (hU.trans ?_)⟩
        have hl : (s.drop (i + 1)).length < 2 := by rw [List.length_drop]; omega
        revert hl
        generalize s.drop (i + 1) = r
        intro hl
        match r, hl with
        | [], _ => rfl
        | [x], _ => unfold dotsS; split <;> simp_all
        | _ :: _ :: _, h => exact absurd h (by simp)
      have hb1 : s[i + 1]? = some s[i + 1] := List.getElem?_eq_getElem (by omega)
      have hb2 : s[i + 2]? = some s[i + 2] := List.getElem?_eq_getElem (by omega)
      revert hb1 hb2
      generalize s[i + 1] = b1
      generalize s[i + 2] = b2
      intro hb1 hb2
      rw [drop_at hb1, drop_at hb2] at hU
      have hD : ∀ r, dotsS (b1 :: b2 :: r) = if (eqI (b1 : Int) 46 && eqI (b2 : Int) 46) = true then some (4, [46, 46, 46], 0, r) else none := by
        intro r
        rw [eqI_eq, eqI_eq]
        by_cases h1 : b1 = 46 <;> by_cases h2 : b2 = 46
        · subst h1 h2; rfl
        · unfold dotsS; split <;> simp_all <;> omega
        · unfold dotsS; split <;> simp_all <;> omega
        · unfold dotsS; split <;> simp_all <;> omega
      rw [hD] at hU
      simp +contextual -implicitDefEqProofs only [K40, SS, reduceAdd,reduceSub,reduceLeDiff,reduceEqDiff,reduceCtorEq, e1, e3, i1, e5, h3, hb1, hb2]
      refine WC.br (fun h => ?_) (fun h => ?_)
      · rw [if_pos h] at hU
        simp +contextual -implicitDefEqProofs only [K40, SS, reduceAdd,reduceSub,reduceLeDiff,reduceEqDiff,reduceCtorEq, e4]
        exact WC.ret ⟨_, _, rfl, rfl, OneOK.good (by decide) (by omega) (by omega) hU⟩
      · rw [h, if_neg (by decide)] at hU
        simp +contextual -implicitDefEqProofs only [K40, SS, reduceAdd,reduceSub,reduceLeDiff,reduceEqDiff,reduceCtorEq]
        exact WC.ret ⟨_, _, rfl, rfl, OneOK.bad (en := 0) (by decide) hU⟩
    rw [h, if_neg (by decide)] at hU
    simp +contextual -implicitDefEqProofs only [K40, SS, reduceAdd,reduceSub,reduceLeDiff,reduceEqDiff,reduceCtorEq]
    refine WC.br (fun h => ?_) (fun h => ?_)
    · rw [if_pos (show signC b = true from h)] at hU
      have l1 : (s.take (i + 1)).drop i = [b] := by rw [slice_snoc (Nat.le_refl _) hb, slice_nil]; rfl
      simp +contextual -implicitDefEqProofs only [K40, SS, reduceAdd,reduceSub,reduceLeDiff,reduceEqDiff,reduceCtorEq, i1, show i + 1 ≤ s.length by omega, show i ≤ i + 1 by omega, l1]
      exact WC.ret ⟨_, _, rfl, rfl, OneOK.good (by decide) (by omega) hi hU⟩
    · rw [show signC b = false from h, if_neg (by decide)] at hU
      simp +contextual -implicitDefEqProofs only [K40, SS, reduceAdd,reduceSub,reduceLeDiff,reduceEqDiff,reduceCtorEq]
      exact WC.ret ⟨_, _, rfl, rfl, OneOK.bad (en := 0) (by decide) hU⟩
end Go.Cb.CodeA
set_option maxRecDepth 20000
set_option linter.unusedSimpArgs false
set_option linter.unusedVariables false
namespace Go.Cb.CodeA
open Go Go.Cb
open Nat (reduceAdd reduceSub reduceLeDiff reduceEqDiff)
attribute [local congr] obind_congr gv_congr2 gv2_congr brT_congr seqK_congr blkK_congr m1_congr gm_congr

structure Tok where
  k : Int
  t : List Nat
  n : Int
  a : Int
def Tok.row (t : Tok) : List AV := [.int .u8 t.k, .str t.t, .int .i64 t.n, .int .i64 t.a]
/-- tokens that end as they must -/
def TokL (L : List Tok) : Prop := ∃ L' a, L = L' ++ [⟨0, [], 0, a⟩] ∧ ∀ t ∈ L', t.k ≠ 0
def whiteC (b : Nat) : Bool := eqI (b : Int) 32 || eqI (b : Int) 10 || eqI (b : Int) 9 || eqI (b : Int) 13 || eqI (b : Int) 44
/-- behind a remark -/
def skipC : List Nat → List Nat
  | [] => []
  | b :: r => if eqI (b : Int) 10 then b :: r else skipC r
def tokG : Nat → Nat → List Nat → List Tok → Option (List Tok)
  | 0, _, _, _ => none
  | _ + 1, i, [], acc => some (acc ++ [⟨0, [], 0, (i : Int)⟩])
  | f + 1, i, b :: r, acc => if whiteC b then tokG f (i + 1) r acc else (if eqI (b : Int) 35 then tokG f (i + ((b :: r).length - (skipC (b :: r)).length)) (skipC (b :: r)) acc else (match oneS (b :: r) with
    | none => none
    | some (k, t, n, r') => tokG f (i + ((b :: r).length - r'.length)) r' (acc ++ [⟨k, t, n, (i : Int)⟩])))
def tokensS (s : List Nat) : Option (List Tok) := if 2000 < s.length then none else tokG 2002 0 s []
def TokensOK (s : List Nat) (a : AV) : Prop := ∃ (L : List Tok) (at' e : Int), a = .tuple [.list false (L.map Tok.row), .int .i64 at', .int .i64 e] ∧ (e = 0 → TokL L ∧ L.length ≤ 2001) ∧ tokensS s = if e = 0 then some L else none
theorem rowsTok (L : List Tok) : rowsOk 4 (L.map Tok.row) = true := rowsOk_all (by
  intro r hr
  obtain ⟨t, _, rfl⟩ := List.mem_map.1 hr
  rfl)

theorem tokens_q (s : List Nat) (st0 : St) : EvQ tbl 25 [.str s] st0 (fun a st' => st' = st0 ∧ TokensOK s a) := by
  refine EvQ.body (fn := a25) rfl rfl rfl ?_
  have e0 : ltI 2000 (s.length : Int) = decide (2000 < s.length) := ltN 2000 _
  by_cases hs : 2000 < s.length
  · simp +contextual -implicitDefEqProofs only [K25, SS, reduceAdd,reduceSub,reduceLeDiff,reduceEqDiff,reduceCtorEq, e0, hs]
    exact WC.ret ⟨_, _, rfl, rfl, [], _, _, rfl, (fun h => by cases h), by rw [tokensS, if_pos hs]; rfl⟩
  simp +contextual -implicitDefEqProofs only [K25, SS, reduceAdd,reduceSub,reduceLeDiff,reduceEqDiff,reduceCtorEq, e0, hs]
  have hs' : ¬ 2000 < s.length := hs
  have hs : s.length ≤ 2000 := by omega
  refine WC.loopR (fun mm fr st' => st' = st0 ∧ ∃ (i : Nat) (L : List Tok) (v6 v7 v8 v9 v10 : AV), i ≤ s.length ∧ L.length ≤ i ∧ (∀ t ∈ L, t.k ≠ 0) ∧ mm = s.length - i ∧ (∃ c, c ≤ i ∧ tokensS s = tokG (2002 - c) i (s.drop i) L) ∧ fr = [.str s, .list true [], .int .i64 0, .int .i64 0, .list true (L.map Tok.row), .int .i64 i, v6, v7, v8, v9, v10]) (m := s.length) ⟨rfl, 0, [], _, _, _, _, _, Nat.zero_le _, Nat.le_refl _, by simp, rfl, ⟨0, Nat.le_refl _, by rw [tokensS, if_neg hs']; rfl⟩, rfl⟩ ?_
  rintro mm fr st ⟨rfl, i, L, v6, v7, v8, v9, v10, hi, hL, hk, rfl, ⟨c, hc, hX⟩, rfl⟩
  have hc1 : 2002 - c = (2002 - (c + 1)) + 1 := by omega
  rw [hc1] at hX
  simp +contextual -implicitDefEqProofs only [K25, SS, reduceAdd,reduceSub,reduceLeDiff,reduceEqDiff,reduceCtorEq]
  by_cases hil : i < s.length
  case neg =>
    rw [drop_end (show s.length ≤ i by omega), tokG] at hX
    simp +contextual -implicitDefEqProofs only [K25, SS, reduceAdd,reduceSub,reduceLeDiff,reduceEqDiff,reduceCtorEq, hil]
    refine WC.leave ?_
    simp +contextual -implicitDefEqProofs only [K25, SS, reduceAdd,reduceSub,reduceLeDiff,reduceEqDiff,reduceCtorEq, rowsTok, List.length_map, show (L.length + 1) * 40 ≤ 2 ^ 47 by omega]
    exact WC.ret ⟨_, _, rfl, rfl, L ++ [⟨0, [], 0, i⟩], 0, 0, by simp only [List.map_append]; rfl, fun _ => ⟨⟨L, i, rfl, hk⟩, by simp only [List.length_append, List.length_cons, List.length_nil]; omega⟩, by rw [hX]; rfl⟩
  have hb : s[i]? = some s[i] := List.getElem?_eq_getElem hil
  revert hb
  generalize s[i] = b
  intro hb
  have i1 := inc64 (show i + 1 < 2 ^ 63 by omega)
  rw [drop_at hb, tokG, ← drop_at hb] at hX
  simp +contextual -implicitDefEqProofs only [K25, SS, reduceAdd,reduceSub,reduceLeDiff,reduceEqDiff,reduceCtorEq, hil, hb]
  refine WC.br (fun h => ?_) (fun h => ?_)
  · rw [if_pos (show whiteC b = true from h)] at hX
    simp +contextual -implicitDefEqProofs only [K25, SS, reduceAdd,reduceSub,reduceLeDiff,reduceEqDiff,reduceCtorEq, i1]
    exact WC.next (m' := s.length - (i + 1)) (by omega) ⟨rfl, i + 1, L, _, _, _, _, _, hil, by omega, hk, rfl, ⟨c + 1, by omega, hX⟩, rfl⟩
  rw [show whiteC b = false from h, if_neg (by decide)] at hX
  simp +contextual -implicitDefEqProofs only [K25, SS, reduceAdd,reduceSub,reduceLeDiff,reduceEqDiff,reduceCtorEq]
  refine WC.br (fun h => ?_) (fun h => ?_)
  · have hb35 : b = 35 := by rw [eqI_eq] at h; simp at h; omega
    rw [if_pos h] at hX
    have skip_end : ∀ j, i ≤ j → j ≤ s.length → skipC (s.drop i) = s.drop j → tokensS s = tokG (2002 - (c + 1)) j (s.drop j) L := by
      intro j h1 h2 hj
      rw [hX, hj, List.length_drop, List.length_drop]
      congr 1
      omega
    simp +contextual -implicitDefEqProofs only [K25, SS, reduceAdd,reduceSub,reduceLeDiff,reduceEqDiff,reduceCtorEq]
    refine WC.loopR (fun mm fr st' => st' = st ∧ ∃ (j : Nat), i ≤ j ∧ j ≤ s.length ∧ mm = s.length - j ∧ skipC (s.drop i) = skipC (s.drop j) ∧ fr = [.str s, .list true [], .int .i64 0, .int .i64 0, .list true (L.map Tok.row), .int .i64 j, .int .u8 b, v7, v8, v9, v10]) (m := s.length - i) ⟨rfl, i, Nat.le_refl _, hi, rfl, rfl, rfl⟩ ?_
    rintro mm fr st' ⟨rfl, j, h1, h2, rfl, hS, rfl⟩
    simp +contextual -implicitDefEqProofs only [K25, SS, reduceAdd,reduceSub,reduceLeDiff,reduceEqDiff,reduceCtorEq]
    by_cases hj : j < s.length
    case neg =>
      rw [drop_end (show s.length ≤ j by omega), skipC] at hS
      simp +contextual -implicitDefEqProofs only [K25, SS, reduceAdd,reduceSub,reduceLeDiff,reduceEqDiff,reduceCtorEq, hj]
      refine WC.leave ?_
      simp +contextual -implicitDefEqProofs only [K25, SS, reduceAdd,reduceSub,reduceLeDiff,reduceEqDiff,reduceCtorEq]
      exact WC.next (m' := s.length - j) (by omega) ⟨rfl, j, L, _, _, _, _, _, h2, by omega, hk, rfl, ⟨c + 1, by omega, skip_end j h1 h2 (by rw [hS, drop_end (by omega)])⟩, rfl⟩
    have hbj : s[j]? = some s[j] := List.getElem?_eq_getElem hj
    revert hbj
    generalize s[j] = bj
    intro hbj
    rw [drop_at hbj, skipC, ← drop_at hbj] at hS
    simp +contextual -implicitDefEqProofs only [K25, SS, reduceAdd,reduceSub,reduceLeDiff,reduceEqDiff,reduceCtorEq, hj, hbj]
    rcases bool_tf (eqI (bj : Int) 10) with h' | h'
    · rw [if_pos h'] at hS
      have hne : i ≠ j := by
        rintro rfl
        rw [hb] at hbj
        obtain rfl := Option.some.inj hbj
        subst hb35
        cases h'
      simp +contextual -implicitDefEqProofs only [K25, SS, reduceAdd,reduceSub,reduceLeDiff,reduceEqDiff,reduceCtorEq, h']
      refine WC.leave ?_
      simp +contextual -implicitDefEqProofs only [K25, SS, reduceAdd,reduceSub,reduceLeDiff,reduceEqDiff,reduceCtorEq]
      exact WC.next (m' := s.length - j) (by omega) ⟨rfl, j, L, _, _, _, _, _, h2, by omega, hk, rfl, ⟨c + 1, by omega, skip_end j h1 h2 hS⟩, rfl⟩
    · rw [h', if_neg (by decide)] at hS
      simp +contextual -implicitDefEqProofs only [K25, SS, reduceAdd,reduceSub,reduceLeDiff,reduceEqDiff,reduceCtorEq, h', inc64 (show j + 1 < 2 ^ 63 by omega)]
      exact WC.next (m' := s.length - (j + 1)) (by omega) ⟨rfl, j + 1, by omega, hj, rfl, hS, rfl⟩
  · rw [h, if_neg (by decide)] at hX
    simp +contextual -implicitDefEqProofs only [K25, SS, reduceAdd,reduceSub,reduceLeDiff,reduceEqDiff,reduceCtorEq]
    refine WC.call (one_q s i hs hil _) rfl rfl ?_
    rintro _ _ ⟨rfl, k, t, n, at', en, bad, e, rfl, hg, hO⟩
    simp +contextual -implicitDefEqProofs only [K25, SS, reduceAdd,reduceSub,reduceLeDiff,reduceEqDiff,reduceCtorEq]
    refine WC.br (fun he => ?_) (fun he => ?_)
    · simp +contextual -implicitDefEqProofs only [K25, SS, reduceAdd,reduceSub,reduceLeDiff,reduceEqDiff,reduceCtorEq]
      refine WC.leaveR ?_
      simp +contextual -implicitDefEqProofs only [K25, SS, reduceAdd,reduceSub,reduceLeDiff,reduceEqDiff,reduceCtorEq]
      have he' : e ≠ 0 := by intro h0; subst h0; cases he
      rw [if_neg he'] at hO
      rw [hO] at hX
      refine WC.ret ⟨_, _, rfl, rfl, [], _, _, rfl, fun h => absurd h he', ?_⟩
      rw [if_neg he']
      exact hX
    · have he : e = 0 := by rw [eqI_eq] at he; simpa using he
      obtain ⟨hk0, h1, h2⟩ := hg he
      rw [if_pos he] at hO
      rw [hO] at hX
      have hX' : tokensS s = tokG (2002 - (c + 1)) en (s.drop en) (L ++ [⟨k, t, n, (i : Int)⟩]) := by
        rw [hX]
        show tokG _ (i + ((s.drop i).length - (s.drop en).length)) _ _ = _
        rw [List.length_drop, List.length_drop]
        congr 1
        omega
      simp +contextual -implicitDefEqProofs only [K25, SS, reduceAdd,reduceSub,reduceLeDiff,reduceEqDiff,reduceCtorEq, rowsTok, List.length_map, show (L.length + 1) * 40 ≤ 2 ^ 47 by omega]
      exact WC.next (m' := s.length - en) (by omega) ⟨rfl, en, L ++ [⟨k, t, n, i⟩], _, _, _, _, _, h2, by simp only [List.length_append, List.length_cons, List.length_nil]; omega, fun t' ht => by
        rcases List.mem_append.1 ht with h | h
        · exact hk _ h
        · simp at h; subst h; exact hk0, rfl, ⟨c + 1, by omega, hX'⟩, by simp only [List.map_append]; rfl⟩
end Go.Cb.CodeA
set_option maxRecDepth 20000
set_option linter.unusedSimpArgs false
set_option linter.unusedVariables false
namespace Go.Cb.CodeA
open Go Go.Cb
open Nat (reduceAdd reduceSub reduceLeDiff reduceEqDiff)
attribute [local congr] obind_congr gv_congr2 gv2_congr brT_congr seqK_congr blkK_congr m1_congr gm_congr
variable {B : St}

/-- the reader's object -/
def rdC (L : List Tok) (i : Nat) (d bad e : Int) : List AV := [.list false (L.map Tok.row), .int .i64 i, .int .i64 d, .int .i64 bad, .int .i64 e]
/-- what stood there stands there still -/
def Gr (st st' : St) : Prop := ∀ (o : Nat) (x : Obj), st[o]? = some x → st'[o]? = some x
structure Rd (B : St) (L : List Tok) (o : Nat) (st : St) (i : Nat) (d e : Int) : Prop where
  hL : TokL L ∧ L.length ≤ 2001
  hi : i < L.length
  ob : ∃ bad, st[o]? = some (.cells (rdC L i d bad e))
  gr : Gr B st
  ho : B.length ≤ o
theorem set_get {st : St} {o : Nat} {x y : Obj} (h : st[o]? = some x) : (st.set o y)[o]? = some y := by
  rw [List.getElem?_set_self]
  exact (List.getElem?_eq_some_iff.1 h).1
theorem tok_row {L : List Tok} {i : Nat} (h : i < L.length) : (L.map Tok.row)[i]? = some (Tok.row L[i]) := by
  rw [List.getElem?_map, List.getElem?_eq_getElem h]; rfl
/-- behind a token that isn't the end there is one -/
theorem tokL_next {L : List Tok} (hL : TokL L) {i : Nat} (hi : i < L.length) (hk : (L[i]).k ≠ 0) : i + 1 < L.length := by
  obtain ⟨L', a, rfl, h⟩ := hL
  rw [List.length_append, List.length_cons, List.length_nil] at hi ⊢
  by_cases e : i = L'.length
  · subst e
    simp at hk
  · omega
theorem Rd.put {L : List Tok} {o : Nat} {st : St} {i : Nat} {d e : Int} (h : Rd B L o st i d e) {j : Nat} {d' bad' e' : Int} (hj : j < L.length) : Rd B L o (st.set o (.cells (rdC L j d' bad' e'))) j d' e' := by
  obtain ⟨bad, ho⟩ := h.ob
  refine ⟨h.hL, hj, ⟨bad', set_get ho⟩, fun j x hx => ?_, h.ho⟩
  have hjo : j < o := by have := (List.getElem?_eq_some_iff.1 hx).1; have := h.ho; omega
  rw [List.getElem?_set_ne (by omega)]
  exact h.gr j x hx

/-- what stands at a place -/
def wordB (L : List Tok) (i : Nat) (s : List Nat) : Bool := match L[i]? with
  | some t => eqI t.k 1 && eqN t.t s
  | none => false
def signB (L : List Tok) (i : Nat) (s : List Nat) : Bool := match L[i]? with
  | some t => eqI t.k 4 && eqN t.t s
  | none => false
def eatB (L : List Tok) (i : Nat) (s : List Nat) : Bool := signB L i s || wordB L i s
def kindB' (L : List Tok) (i : Nat) (k : Int) : Bool := match L[i]? with
  | some t => eqI t.k k
  | none => false
def nameP (L : List Tok) (i : Nat) : Option (List Nat × Nat) := match L[i]? with
  | some t => if eqI t.k 1 then some (t.t, i + 1) else none
  | none => none
def mustP (L : List Tok) (s : List Nat) (i : Nat) : Option Nat := if eatB L i s then some (i + 1) else none
theorem sign_q {L : List Tok} {o : Nat} {st : St} {i : Nat} {d e : Int} (h : Rd B L o st i d e) (s : List Nat) : EvQ tbl 60 [.ptr o 0, .str s] st (fun a st' => st' = st ∧ ∃ b, a = .bool b ∧ (b = true → e = 0 ∧ (L[i]'h.hi).k = 4) ∧ (e = 0 → b = signB L i s)) := by
  obtain ⟨bad, ho⟩ := h.ob
  have ht := tok_row h.hi
  refine EvQ.body (fn := a60) rfl rfl rfl ?_
  simp +contextual -implicitDefEqProofs only [K60, SS, reduceAdd,reduceSub,reduceLeDiff,reduceEqDiff,reduceCtorEq, ho, ht, rdC, Tok.row]
  refine WC.ret ⟨_, _, rfl, rfl, _, rfl, fun hb => ?_, fun he => ?_⟩
  · simp [eqI_eq] at hb
    exact hb.1
  · subst he
    rw [signB, List.getElem?_eq_getElem h.hi]
    simp [eqI_eq]
theorem word_q {L : List Tok} {o : Nat} {st : St} {i : Nat} {d e : Int} (h : Rd B L o st i d e) (s : List Nat) : EvQ tbl 41 [.ptr o 0, .str s] st (fun a st' => st' = st ∧ ∃ b, a = .bool b ∧ (b = true → e = 0 ∧ (L[i]'h.hi).k = 1) ∧ (e = 0 → b = wordB L i s)) := by
  obtain ⟨bad, ho⟩ := h.ob
  have ht := tok_row h.hi
  refine EvQ.body (fn := a41) rfl rfl rfl ?_
  simp +contextual -implicitDefEqProofs only [K41, SS, reduceAdd,reduceSub,reduceLeDiff,reduceEqDiff,reduceCtorEq, ho, ht, rdC, Tok.row]
  refine WC.ret ⟨_, _, rfl, rfl, _, rfl, fun hb => ?_, fun he => ?_⟩
  · simp [eqI_eq] at hb
    exact hb.1
  · subst he
    rw [wordB, List.getElem?_eq_getElem h.hi]
    simp [eqI_eq]
theorem kind_q {L : List Tok} {o : Nat} {st : St} {i : Nat} {d e : Int} (h : Rd B L o st i d e) (k : Int) : EvQ tbl 26 [.ptr o 0, .int .u8 k] st (fun a st' => st' = st ∧ ∃ b, a = .bool b ∧ (b = true ↔ e = 0 ∧ (L[i]'h.hi).k = k)) := by
  obtain ⟨bad, ho⟩ := h.ob
  have ht := tok_row h.hi
  refine EvQ.body (fn := a26) rfl rfl rfl ?_
  simp +contextual -implicitDefEqProofs only [K26, SS, reduceAdd,reduceSub,reduceLeDiff,reduceEqDiff,reduceCtorEq, ho, ht, rdC, Tok.row]
  refine WC.ret ⟨_, _, rfl, rfl, _, rfl, ?_⟩
  simp [eqI_eq]
theorem fault_q {L : List Tok} {o : Nat} {st : St} {i : Nat} {d e : Int} (h : Rd B L o st i d e) (k : Int) (hk : k ≠ 0) : EvQ tbl 42 [.ptr o 0, .int .i64 k] st (fun a st' => ∃ e', Rd B L o st' i d e' ∧ e' ≠ 0) := by
  obtain ⟨bad, ho⟩ := h.ob
  have ht := tok_row h.hi
  refine EvQ.body (fn := a42) rfl rfl rfl ?_
  simp +contextual -implicitDefEqProofs only [K42, SS, reduceAdd,reduceSub,reduceLeDiff,reduceEqDiff,reduceCtorEq, ho, ht, rdC, Tok.row]
  have hs : ∀ y : Obj, (st.set o y)[o]? = some y := fun y => set_get ho
  refine WC.br (fun he => ?_) (fun he => ?_)
  · simp +contextual -implicitDefEqProofs only [K42, SS, reduceAdd,reduceSub,reduceLeDiff,reduceEqDiff,reduceCtorEq, ho, ht, rdC, Tok.row, hs, List.set_set]
    exact WC.ret ⟨_, _, rfl, k, h.put h.hi, hk⟩
  · simp +contextual -implicitDefEqProofs only [K42, SS, reduceAdd,reduceSub,reduceLeDiff,reduceEqDiff,reduceCtorEq]
    exact WC.ret ⟨_, _, rfl, e, h, by rw [eqI_eq] at he; simpa using he⟩
/-- one step on, and what was read is what a plain reader tells -/
def AdvX {α : Type} (B : St) (L : List Tok) (o i : Nat) (d e : Int) (p : Option (α × Nat)) (x : α) (st' : St) : Prop := ∃ i' e', Rd B L o st' i' d e' ∧ i ≤ i' ∧ (e' = 0 → e = 0 ∧ i < i') ∧ (e = 0 → p = if e' = 0 then some (x, i') else none)
theorem eat_q {L : List Tok} {o : Nat} {st : St} {i : Nat} {d e : Int} (h : Rd B L o st i d e) (s : List Nat) : EvQ tbl 46 [.ptr o 0, .str s] st (fun a st' => (a = .bool false ∧ st' = st ∧ (e = 0 → eatB L i s = false)) ∨ (a = .bool true ∧ e = 0 ∧ Rd B L o st' (i + 1) d 0 ∧ eatB L i s = true)) := by
  obtain ⟨bad, ho⟩ := h.ob
  have hs : ∀ y : Obj, (st.set o y)[o]? = some y := fun y => set_get ho
  have hl := h.hL.2
  have hi := h.hi
  have i1 := inc64 (show i + 1 < 2 ^ 63 by omega)
  refine EvQ.body (fn := a46) rfl rfl rfl ?_
  simp +contextual -implicitDefEqProofs only [K46, SS, reduceAdd,reduceSub,reduceLeDiff,reduceEqDiff,reduceCtorEq]
  refine WC.call (sign_q h s) rfl rfl ?_
  rintro _ _ ⟨rfl, b, rfl, hb, hx⟩
  simp +contextual -implicitDefEqProofs only [K46, SS, reduceAdd,reduceSub,reduceLeDiff,reduceEqDiff,reduceCtorEq]
  refine WC.g2 (fun hf => ?_) (fun hf => ?_)
  · subst hf
    simp +contextual -implicitDefEqProofs only [K46, SS, reduceAdd,reduceSub,reduceLeDiff,reduceEqDiff,reduceCtorEq]
    refine WC.call (word_q h s) rfl rfl ?_
    rintro _ _ ⟨rfl, b, rfl, hb, hy⟩
    simp +contextual -implicitDefEqProofs only [K46, SS, reduceAdd,reduceSub,reduceLeDiff,reduceEqDiff,reduceCtorEq]
    refine WC.br (fun hf => ?_) (fun hf => ?_)
    · obtain ⟨h1, h2⟩ := hb hf
      subst h1
      have hf : b = true := hf
      simp +contextual -implicitDefEqProofs only [K46, SS, reduceAdd,reduceSub,reduceLeDiff,reduceEqDiff,reduceCtorEq, ho, rdC, hs, i1]
      exact WC.ret ⟨_, _, rfl, Or.inr ⟨rfl, h.put (tokL_next h.hL.1 h.hi (by rw [h2]; decide)), by rw [eatB, ← hy rfl, hf, Bool.or_true]⟩⟩
    · have hf : b = false := hf
      simp +contextual -implicitDefEqProofs only [K46, SS, reduceAdd,reduceSub,reduceLeDiff,reduceEqDiff,reduceCtorEq]
      exact WC.ret ⟨_, _, rfl, Or.inl ⟨rfl, rfl, fun he => by rw [eatB, ← hx he, ← hy he, hf]; rfl⟩⟩
  · subst hf
    obtain ⟨h1, h2⟩ := hb rfl
    subst h1
    simp +contextual -implicitDefEqProofs only [K46, SS, reduceAdd,reduceSub,reduceLeDiff,reduceEqDiff,reduceCtorEq, ho, rdC, hs, i1]
    exact WC.ret ⟨_, _, rfl, Or.inr ⟨rfl, h.put (tokL_next h.hL.1 h.hi (by rw [h2]; decide)), by rw [eatB, ← hx rfl]; rfl⟩⟩
theorem must_q {L : List Tok} {o : Nat} {st : St} {i : Nat} {d e : Int} (h : Rd B L o st i d e) (s : List Nat) : EvQ tbl 44 [.ptr o 0, .str s] st (fun a st' => ∃ i' e', Rd B L o st' i' d e' ∧ i ≤ i' ∧ (e' = 0 → e = 0 ∧ i < i') ∧ (e = 0 → mustP L s i = if e' = 0 then some i' else none)) := by
  obtain ⟨bad, ho⟩ := h.ob
  refine EvQ.body (fn := a44) rfl rfl rfl ?_
  simp +contextual -implicitDefEqProofs only [K44, SS, reduceAdd,reduceSub,reduceLeDiff,reduceEqDiff,reduceCtorEq, ho, rdC]
  refine WC.g2 (fun hf => ?_) (fun hf => ?_)
  · have he0 : e = 0 := by rw [eqI_eq] at hf; simpa using hf
    simp +contextual -implicitDefEqProofs only [K44, SS, reduceAdd,reduceSub,reduceLeDiff,reduceEqDiff,reduceCtorEq, hf]
    refine WC.call (eat_q h s) rfl rfl ?_
    rintro a st' (⟨rfl, rfl, hx⟩ | ⟨rfl, _, hr, hx⟩)
    · simp +contextual -implicitDefEqProofs only [K44, SS, reduceAdd,reduceSub,reduceLeDiff,reduceEqDiff,reduceCtorEq, hf]
      refine WC.call (fault_q h 4 (by decide)) rfl rfl ?_
      rintro a st' ⟨e', hr, he'⟩
      simp +contextual -implicitDefEqProofs only [K44, SS, reduceAdd,reduceSub,reduceLeDiff,reduceEqDiff,reduceCtorEq, hf]
      exact WC.ret ⟨_, _, rfl, i, e', hr, Nat.le_refl _, (fun h => absurd h he'), fun _ => by rw [mustP, hx he0, if_neg he']; rfl⟩
    · simp +contextual -implicitDefEqProofs only [K44, SS, reduceAdd,reduceSub,reduceLeDiff,reduceEqDiff,reduceCtorEq, hf]
      exact WC.ret ⟨_, _, rfl, i + 1, 0, hr, by omega, (fun _ => ⟨he0, by omega⟩), fun _ => by rw [mustP, hx]; rfl⟩
  · have he : e ≠ 0 := by rw [eqI_eq] at hf; simpa using hf
    simp +contextual -implicitDefEqProofs only [K44, SS, reduceAdd,reduceSub,reduceLeDiff,reduceEqDiff,reduceCtorEq, show eqI e 0 = false from hf]
    exact WC.ret ⟨_, _, rfl, i, e, h, Nat.le_refl _, (fun h => absurd h he), fun h0 => absurd h0 he⟩
theorem name_q {L : List Tok} {o : Nat} {st : St} {i : Nat} {d e : Int} (h : Rd B L o st i d e) : EvQ tbl 43 [.ptr o 0] st (fun a st' => ∃ t, a = .str t ∧ AdvX B L o i d e (nameP L i) t st') := by
  obtain ⟨bad, ho⟩ := h.ob
  have hs : ∀ y : Obj, (st.set o y)[o]? = some y := fun y => set_get ho
  have hl := h.hL.2
  have hi := h.hi
  have ht := tok_row h.hi
  have i1 := inc64 (show i + 1 < 2 ^ 63 by omega)
  have i2 : wrapA .i64 (subI ((i + 1 : Nat) : Int) 1) = (i : Int) := by rw [subI_eq, wrap64 (by omega) (by omega)]; omega
  have hN : nameP L i = if eqI (L[i]).k 1 then some ((L[i]).t, i + 1) else none := by rw [nameP, List.getElem?_eq_getElem h.hi]
  refine EvQ.body (fn := a43) rfl rfl rfl ?_
  simp +contextual -implicitDefEqProofs only [K43, SS, reduceAdd,reduceSub,reduceLeDiff,reduceEqDiff,reduceCtorEq]
  refine WC.call (kind_q h 1) rfl rfl ?_
  rintro _ _ ⟨rfl, b, rfl, hb⟩
  simp +contextual -implicitDefEqProofs only [K43, SS, reduceAdd,reduceSub,reduceLeDiff,reduceEqDiff,reduceCtorEq]
  refine WC.br (fun hf => ?_) (fun hf => ?_)
  · have hf : b = false := by simpa using hf
    simp +contextual -implicitDefEqProofs only [K43, SS, reduceAdd,reduceSub,reduceLeDiff,reduceEqDiff,reduceCtorEq]
    refine WC.call (fault_q h 4 (by decide)) rfl rfl ?_
    rintro a st' ⟨e', hr, he'⟩
    simp +contextual -implicitDefEqProofs only [K43, SS, reduceAdd,reduceSub,reduceLeDiff,reduceEqDiff,reduceCtorEq]
    refine WC.ret ⟨_, _, rfl, _, rfl, i, e', hr, Nat.le_refl _, (fun h => absurd h he'), fun he => ?_⟩
    rw [hN, if_neg he', if_neg]
    intro hk
    rw [eqI_eq] at hk
    rw [hb.2 ⟨he, by simpa using hk⟩] at hf
    cases hf
  · obtain ⟨he, hk⟩ := hb.1 (by simpa using hf)
    simp +contextual -implicitDefEqProofs only [K43, SS, reduceAdd,reduceSub,reduceLeDiff,reduceEqDiff,reduceCtorEq, ho, rdC, hs, i1, i2, ht, Tok.row]
    subst he
    exact WC.ret ⟨_, _, rfl, _, rfl, i + 1, 0, h.put (tokL_next h.hL.1 h.hi (by rw [hk]; decide)), by omega, (fun _ => ⟨rfl, by omega⟩), fun _ => by rw [hN, hk]; rfl⟩
theorem open_q {L : List Tok} {o : Nat} {st : St} {i : Nat} {d e : Int} (h : Rd B L o st i d e) (hd : 0 ≤ d) (hd2 : d ≤ 24) : EvQ tbl 62 [.ptr o 0] st (fun a st' => ∃ e', a = .bool (eqI e' 0) ∧ Rd B L o st' i (d + 1) e' ∧ (e' = 0 ↔ e = 0 ∧ d + 1 ≤ 24)) := by
  obtain ⟨bad, ho⟩ := h.ob
  have hs : ∀ y : Obj, (st.set o y)[o]? = some y := fun y => set_get ho
  have d1 : wrapA .i64 (addI d 1) = d + 1 := by rw [addI_eq, wrap64 (by omega) (by omega)]
  refine EvQ.body (fn := a62) rfl rfl rfl ?_
  simp +contextual -implicitDefEqProofs only [K62, SS, reduceAdd,reduceSub,reduceLeDiff,reduceEqDiff,reduceCtorEq, ho, rdC, hs, d1]
  refine WC.br (fun hf => ?_) (fun hf => ?_)
  · simp +contextual -implicitDefEqProofs only [K62, SS, reduceAdd,reduceSub,reduceLeDiff,reduceEqDiff,reduceCtorEq]
    rw [ltI_eq] at hf
    have hf : 24 < d + 1 := by simpa using hf
    refine WC.call (fault_q (h.put (d' := d + 1) (bad' := bad) (e' := e) h.hi) 5 (by decide)) rfl rfl ?_
    rintro a st' ⟨e', hr, he'⟩
    obtain ⟨bad', ho'⟩ := hr.ob
    simp +contextual -implicitDefEqProofs only [K62, SS, reduceAdd,reduceSub,reduceLeDiff,reduceEqDiff,reduceCtorEq, ho', rdC]
    exact WC.ret ⟨_, _, rfl, e', rfl, hr, fun h => absurd h he', fun h => by omega⟩
  · simp +contextual -implicitDefEqProofs only [K62, SS, reduceAdd,reduceSub,reduceLeDiff,reduceEqDiff,reduceCtorEq, ho, rdC, hs, d1]
    rw [ltI_eq] at hf
    have hf : ¬ 24 < d + 1 := by simpa using hf
    exact WC.ret ⟨_, _, rfl, e, rfl, h.put h.hi, fun h => ⟨h, by omega⟩, fun h => h.1⟩

/-- the rounds of a loop of a plain reader -/
def loopP {α : Type} (step : Nat → α → Option (Bool × Nat × α)) : Nat → Nat → α → Option (α × Nat)
  | 0, _, _ => none
  | f + 1, i, a => match step i a with
    | none => none
    | some (true, j, b) => some (b, j)
    | some (false, j, b) => loopP step f j b
/-- where such a loop stands -/
def LoopAt {α : Type} (step : Nat → α → Option (Bool × Nat × α)) (w : Option (α × Nat)) (i : Nat) (a : α) (e : Int) : Prop := if e = 0 then ∃ c, c ≤ i ∧ w = loopP step (2002 - c) i a else w = none
theorem LoopAt.start {α : Type} (step : Nat → α → Option (Bool × Nat × α)) (i : Nat) (a : α) {e : Int} (w : Option (α × Nat)) (h : w = if e = 0 then loopP step 2002 i a else none) : LoopAt step w i a e := by
  unfold LoopAt
  split
  · rename_i h0
    rw [if_pos h0] at h
    exact ⟨0, Nat.zero_le _, h⟩
  · rename_i h0
    rw [if_neg h0] at h
    exact h
theorem LoopAt.unroll {α : Type} {step : Nat → α → Option (Bool × Nat × α)} {w : Option (α × Nat)} {i : Nat} {a : α} (hi : i ≤ 2001) (h : LoopAt step w i a 0) : ∃ c, c ≤ i ∧ w = match step i a with
    | none => none
    | some (true, j, b) => some (b, j)
    | some (false, j, b) => loopP step (2002 - (c + 1)) j b := by
  obtain ⟨c, hc, e⟩ := h
  refine ⟨c, hc, ?_⟩
  rw [e, show 2002 - c = (2002 - (c + 1)) + 1 by omega, loopP]
theorem LoopAt.exit {α : Type} {step : Nat → α → Option (Bool × Nat × α)} {w : Option (α × Nat)} {i : Nat} {a : α} (hi : i ≤ 2001) (h : LoopAt step w i a 0) {j : Nat} {b : α} (hs : step i a = some (true, j, b)) : w = some (b, j) := by
  obtain ⟨c, _, e⟩ := h.unroll hi
  rw [e, hs]
theorem LoopAt.next {α : Type} {step : Nat → α → Option (Bool × Nat × α)} {w : Option (α × Nat)} {i : Nat} {a : α} (hi : i ≤ 2001) (h : LoopAt step w i a 0) {j : Nat} {b : α} {e : Int} (hj : e = 0 → i < j) (hs : step i a = if e = 0 then some (false, j, b) else none) : LoopAt step w j b e := by
  obtain ⟨c, hc, e1⟩ := h.unroll hi
  unfold LoopAt
  split
  · rename_i h0
    rw [if_pos h0] at hs
    rw [hs] at e1
    exact ⟨c + 1, by have := hj h0; omega, e1⟩
  · rename_i h0
    rw [if_neg h0] at hs
    rw [hs] at e1
    exact e1
theorem LoopAt.bad {α : Type} {step : Nat → α → Option (Bool × Nat × α)} {w : Option (α × Nat)} {i : Nat} {a : α} {e : Int} (h : LoopAt step w i a e) (he : e ≠ 0) : w = none := by
  unfold LoopAt at h
  rwa [if_neg he] at h

/-- what a loop over the reader counts down -/
def rem (L : List Tok) (i : Nat) (e : Int) : Nat := if e = 0 then L.length - i else 0
theorem rem_lt {L : List Tok} {i i' : Nat} {e e' : Int} (he : e = 0) (hi : i < L.length) (h : e' = 0 → i < i') : rem L i' e' < rem L i e := by
  subst he
  unfold rem
  rw [if_pos rfl]
  split
  · rename_i h0; have := h h0; omega
  · omega
theorem rem_le (L : List Tok) (i : Nat) (e : Int) : rem L i e ≤ L.length := by unfold rem; split <;> omega

/-- what is asked of a round of a loop -/
abbrev LQ {β : Type} (I : Nat → List AV → St → Prop) (mm : Nat) (K : Nat → Out → Option β) (Q : β → Prop) : Out → Prop := fun o => (∃ m' fr' st', o = (Ex.normal, fr', st') ∧ m' < mm ∧ I m' fr' st') ∨ (o.1 ≠ Ex.normal ∧ WC (fun n => K n o) Q)
end Go.Cb.CodeA
set_option maxRecDepth 20000
set_option linter.unusedSimpArgs false
set_option linter.unusedVariables false
namespace Go.Cb.CodeA
open Go Go.Cb
open Nat (reduceAdd reduceSub reduceLeDiff reduceEqDiff)
attribute [local congr] obind_congr gv_congr2 gv2_congr brT_congr seqK_congr blkK_congr m1_congr gm_congr
variable {B : St}

/-- a type as it is named -/
inductive TRef where
  | base (n : List Nat) (b : Bool)
  | wrap (t : TRef) (b : Bool)
def TRef.row : TRef → List AV
  | .base n b => [.str n, .list false [], .bool b]
  | .wrap t b => [.str [], .list false [t.row], .bool b]
theorem TRef.row_cells (t : TRef) : ∃ n xs b, t.row = [.str n, .list false xs, .bool b] := by cases t <;> exact ⟨_, _, _, rfl⟩
theorem dec64 {d : Int} (h1 : 0 ≤ d) (h2 : d ≤ 100) : wrapA .i64 (subI (d + 1) 1) = d := by rw [subI_eq, wrap64 (by omega) (by omega)]; omega

/-- a type as it is read; the number: how many more may be open -/
def typeP (L : List Tok) : Nat → Nat → Option (TRef × Nat)
  | 0, _ => none
  | f + 1, i => if eatB L i [91] then (match typeP L f (i + 1) with
      | none => none
      | some (u, i2) => match mustP L [93] i2 with
        | none => none
        | some i3 => if eatB L i3 [33] then some (.wrap u true, i3 + 1) else some (.wrap u false, i3))
    else (match nameP L i with
      | none => none
      | some (n, i2) => if eatB L i2 [33] then some (.base n true, i2 + 1) else some (.base n false, i2))

theorem type_q (L : List Tok) (o : Nat) : ∀ (f : Nat) {st : St} {i : Nat} {d e : Int}, Rd B L o st i d e → 0 ≤ d → d + f = 24 →
    EvQ tbl 48 [.ptr o 0] st (fun a st' => ∃ t : TRef, a = .agg t.row ∧ AdvX B L o i d e (typeP L f i) t st') := by
  intro f
  induction f with
  | zero =>
    intro st i d e h hd hd2
    obtain rfl : d = 24 := by omega
    refine EvQ.body (fn := a48) rfl rfl rfl ?_
    simp +contextual -implicitDefEqProofs only [K48, SS, reduceAdd,reduceSub,reduceLeDiff,reduceEqDiff,reduceCtorEq]
    refine WC.call (open_q h hd (by omega)) rfl rfl ?_
    rintro _ st1 ⟨e1, rfl, h1, he1⟩
    have he : e1 ≠ 0 := fun h0 => by have := he1.1 h0; omega
    have hf : eqI e1 0 = false := by rw [eqI_eq]; simpa using he
    obtain ⟨bad, ho⟩ := h1.ob
    have hs : ∀ y : Obj, (st1.set o y)[o]? = some y := fun y => set_get ho
    simp +contextual -implicitDefEqProofs only [K48, SS, reduceAdd,reduceSub,reduceLeDiff,reduceEqDiff,reduceCtorEq, hf, ho, rdC, hs, dec64 hd (show (24 : Int) ≤ 100 by omega)]
    exact WC.ret ⟨_, _, rfl, .base [] false, rfl, i, e1, h1.put h1.hi, Nat.le_refl _, (fun h => absurd h he), fun _ => by rw [if_neg he, typeP]⟩
  | succ f ih =>
    intro st i d e h hd hd2
    have hd2' : d ≤ 23 := by omega
    -- the end: one thing less is open
    have fin : ∀ (t : TRef) (tn : List Nat) (w : Bool) (xs : List (List AV)) (tb : Bool) (v3 : AV) (st1 : St) (i1 : Nat) (e1 : Int), t.row = [.str tn, .list false xs, .bool tb] → Rd B L o st1 i1 (d + 1) e1 → i ≤ i1 → (e1 = 0 → e = 0 ∧ i < i1) → (e = 0 → typeP L (f + 1) i = if e1 = 0 then some (t, i1) else none) →
        WC (fun n => exec (callF tbl n) n (a48s22.seq (a48s24.seq ACode.ret)) [.ptr o 0, .box [.str [], .list true [], .bool false], .box [.str tn, .list w xs, .bool tb], v3] st1)
          (fun o_1 => ∃ r st', finK [ResK.bx 1 true 3] (some o_1) = some (r, st') ∧ ∃ t : TRef, r = .agg t.row ∧ AdvX B L o i d e (typeP L (f + 1) i) t st') := by
      intro t tn w xs tb v3 st1 i1 e1 etr h1 hi1 he1 hX
      obtain ⟨bad, ho⟩ := h1.ob
      have hs : ∀ y : Obj, (st1.set o y)[o]? = some y := fun y => set_get ho
      simp +contextual -implicitDefEqProofs only [K48, SS, reduceAdd,reduceSub,reduceLeDiff,reduceEqDiff,reduceCtorEq, ho, rdC, hs, dec64 hd (show d ≤ 100 by omega)]
      refine WC.ret ⟨_, _, rfl, t, ?_, i1, e1, h1.put h1.hi, hi1, he1, hX⟩
      rw [etr]
      rfl
    refine EvQ.body (fn := a48) rfl rfl rfl ?_
    simp +contextual -implicitDefEqProofs only [K48, SS, reduceAdd,reduceSub,reduceLeDiff,reduceEqDiff,reduceCtorEq]
    refine WC.call (open_q h hd (by omega)) rfl rfl ?_
    rintro _ st1 ⟨e1, rfl, h1, he1⟩
    simp +contextual -implicitDefEqProofs only [K48, SS, reduceAdd,reduceSub,reduceLeDiff,reduceEqDiff,reduceCtorEq]
    refine WC.br (fun hf => ?_) (fun hf => ?_)
    rotate_left
    · have he : e1 ≠ 0 := by rw [eqI_eq] at hf; simpa using hf
      have := fin (.base [] false) [] true [] false .undef st1 i e1 rfl h1 (Nat.le_refl _) (fun h => absurd h he) (fun h0 => absurd (he1.2 ⟨h0, by omega⟩) he)
      simp +contextual -implicitDefEqProofs only [K48, SS, reduceAdd,reduceSub,reduceLeDiff,reduceEqDiff,reduceCtorEq, TRef.row] at this ⊢
      exact this
    · have he : e1 = 0 := by rw [eqI_eq] at hf; simpa using hf
      subst he
      obtain ⟨rfl, hd3⟩ := he1.1 rfl
      simp +contextual -implicitDefEqProofs only [K48, SS, reduceAdd,reduceSub,reduceLeDiff,reduceEqDiff,reduceCtorEq]
      refine WC.call (eat_q h1 _) rfl rfl ?_
      rintro _ st2 (⟨rfl, rfl, hE⟩ | ⟨rfl, _, h2, hE⟩)
      · have hE := hE rfl
        simp +contextual -implicitDefEqProofs only [K48, SS, reduceAdd,reduceSub,reduceLeDiff,reduceEqDiff,reduceCtorEq]
        refine WC.call (name_q h1) rfl rfl ?_
        rintro _ st3 ⟨t, rfl, i3, e3, h3, h3a, h3b, hX⟩
        have hX := hX rfl
        simp +contextual -implicitDefEqProofs only [K48, SS, reduceAdd,reduceSub,reduceLeDiff,reduceEqDiff,reduceCtorEq]
        refine WC.call (eat_q h3 _) rfl rfl ?_
        rintro _ st4 (⟨rfl, rfl, hE2⟩ | ⟨rfl, rfl, h4, hE2⟩)
        · have := fin (.base t false) t true [] false .undef _ i3 e3 rfl h3 h3a h3b (fun _ => by
            rw [typeP, hE, hX]
            by_cases h0 : e3 = 0
            · rw [if_pos h0, if_pos h0]; dsimp only; rw [hE2 h0]; rfl
            · rw [if_neg h0, if_neg h0]; rfl)
          simp +contextual -implicitDefEqProofs only [K48, SS, reduceAdd,reduceSub,reduceLeDiff,reduceEqDiff,reduceCtorEq] at this ⊢
          exact this
        · have := fin (.base t true) t true [] true .undef _ (i3 + 1) 0 rfl h4 (by omega) (fun _ => ⟨rfl, by omega⟩) (fun _ => by
            rw [typeP, hE, hX]
            rw [if_pos rfl, if_pos rfl]; dsimp only; rw [hE2]; rfl)
          simp +contextual -implicitDefEqProofs only [K48, SS, reduceAdd,reduceSub,reduceLeDiff,reduceEqDiff,reduceCtorEq] at this ⊢
          exact this
      · simp +contextual -implicitDefEqProofs only [K48, SS, reduceAdd,reduceSub,reduceLeDiff,reduceEqDiff,reduceCtorEq]
        refine WC.call (ih h2 (by omega) (by omega)) rfl rfl ?_
        rintro _ st3 ⟨t, rfl, i3, e3, h3, h3a, h3b, hX⟩
        have hX := hX rfl
        obtain ⟨tn, txs, tb, etr⟩ := t.row_cells
        simp +contextual -implicitDefEqProofs only [K48, SS, reduceAdd,reduceSub,reduceLeDiff,reduceEqDiff,reduceCtorEq, etr]
        refine WC.call (must_q h3 _) rfl rfl ?_
        rintro _ st4 ⟨i4, e4, h4, h4a, h4b, hM⟩
        simp +contextual -implicitDefEqProofs only [K48, SS, reduceAdd,reduceSub,reduceLeDiff,reduceEqDiff,reduceCtorEq]
        refine WC.call (eat_q h4 _) rfl rfl ?_
        have hT : typeP L (f + 1) i = if e4 = 0 then (if eatB L i4 [33] then some (.wrap t true, i4 + 1) else some (.wrap t false, i4)) else none := by
          rw [typeP, hE, if_pos rfl, hX]
          by_cases h0 : e3 = 0
          · rw [if_pos h0]; dsimp only; rw [hM h0]
            by_cases h1 : e4 = 0
            · rw [if_pos h1, if_pos h1]
            · rw [if_neg h1, if_neg h1]
          · rw [if_neg h0, if_neg (fun h => h0 (h4b h).1)]
        rintro _ st5 (⟨rfl, rfl, hE2⟩ | ⟨rfl, rfl, h5, hE2⟩)
        · have := fin (.wrap t false) [] true [[.str tn, .list false txs, .bool tb]] false (.box [.str tn, .list false txs, .bool tb]) _ i4 e4 (by rw [TRef.row, etr]) h4 (by omega) (fun h => ⟨rfl, by omega⟩) (fun _ => by
            rw [hT]
            by_cases h0 : e4 = 0
            · rw [if_pos h0, if_pos h0, hE2 h0]; rfl
            · rw [if_neg h0, if_neg h0])
          simp +contextual -implicitDefEqProofs only [K48, SS, reduceAdd,reduceSub,reduceLeDiff,reduceEqDiff,reduceCtorEq] at this ⊢
          exact this
        · have := fin (.wrap t true) [] true [[.str tn, .list false txs, .bool tb]] true (.box [.str tn, .list false txs, .bool tb]) _ (i4 + 1) 0 (by rw [TRef.row, etr]) h5 (by omega) (fun _ => ⟨rfl, by omega⟩) (fun _ => by
            rw [hT, if_pos rfl, if_pos rfl, hE2, if_pos rfl])
          simp +contextual -implicitDefEqProofs only [K48, SS, reduceAdd,reduceSub,reduceLeDiff,reduceEqDiff,reduceCtorEq] at this ⊢
          exact this
end Go.Cb.CodeA
set_option maxRecDepth 20000
set_option linter.unusedSimpArgs false
set_option linter.unusedVariables false
namespace Go.Cb.CodeA
open Go Go.Cb
open Nat (reduceAdd reduceSub reduceLeDiff reduceEqDiff)
attribute [local congr] obind_congr gv_congr2 gv2_congr brT_congr seqK_congr blkK_congr m1_congr gm_congr
variable {B : St}

/-- a value -/
inductive Val where
  | mk (k n : Int) (s : List Nat) (ks : List (List Nat)) (ls : List Val)
def strRow (x : List Nat) : List AV := [.str x]
mutual
def Val.row : Val → List AV
  | .mk k n s ks ls => [.int .u8 k, .int .i64 n, .str s, .list false (ks.map strRow), .list false (Val.rows ls)]
def Val.rows : List Val → List (List AV)
  | [] => []
  | v :: vs => v.row :: Val.rows vs
end
theorem Val.rows_map : ∀ vs : List Val, Val.rows vs = vs.map Val.row
  | [] => by simp [Val.rows]
  | v :: vs => by simp [Val.rows, Val.rows_map vs]
/-- a value whose objects have as many names as values -/
inductive Val.OK : Val → Prop
  | mk (k n : Int) (s : List Nat) (ks : List (List Nat)) (ls : List Val) (h6 : k = 6 → ks.length = ls.length) (hk : ks.length ≤ 3000) (hl : ls.length ≤ 3000) (h : ∀ v ∈ ls, Val.OK v) : Val.OK (.mk k n s ks ls)
theorem Val.row_eq (k n : Int) (s : List Nat) (ks : List (List Nat)) (ls : List Val) : (Val.mk k n s ks ls).row = [.int .u8 k, .int .i64 n, .str s, .list false (ks.map strRow), .list false (ls.map Val.row)] := by
  rw [Val.row, Val.rows_map]
theorem Val.row_cells (v : Val) : ∃ k n s xs ys, v.row = [.int .u8 k, .int .i64 n, .str s, .list false xs, .list false ys] := by
  cases v; exact ⟨_, _, _, _, _, Val.row_eq _ _ _ _ _⟩
theorem Val.simple (k n : Int) (s : List Nat) (h : k ≠ 6) : (Val.mk k n s [] []).OK ∧ (Val.mk k n s [] []).row = [.int .u8 k, .int .i64 n, .str s, .list false [], .list false []] :=
  ⟨.mk _ _ _ _ _ (fun e => absurd e h) (by simp) (by simp) (by simp), by rw [Val.row_eq]; rfl⟩

def stepL (L : List Tok) (vP : Nat → Option (Val × Nat)) (i : Nat) (l : List Val) : Option (Bool × Nat × List Val) := if eatB L i [93] then some (true, i + 1, l) else (match vP i with
  | none => none
  | some (v, j) => some (false, j, l ++ [v]))
def stepO (L : List Tok) (vP : Nat → Option (Val × Nat)) (i : Nat) (x : List (List Nat) × List Val) : Option (Bool × Nat × (List (List Nat) × List Val)) := if eatB L i [125] then some (true, i + 1, x) else (match nameP L i with
  | none => none
  | some (n, i2) => match mustP L [58] i2 with
    | none => none
    | some i3 => match vP i3 with
      | none => none
      | some (v, j) => some (false, j, (x.1 ++ [n], x.2 ++ [v])))
def listP (w : Option (List Val × Nat)) : Option (Val × Nat) := match w with
  | none => none
  | some (l, j) => some (.mk 5 0 [] [] l, j)
def objP (w : Option ((List (List Nat) × List Val) × Nat)) : Option (Val × Nat) := match w with
  | none => none
  | some (x, j) => some (.mk 6 0 [] x.1 x.2, j)
def value1P (L : List Tok) (vP : Nat → Option (Val × Nat)) (i : Nat) : Option (Val × Nat) := match L[i]? with
  | none => none
  | some t => if eqI t.k 2 then some (.mk 1 t.n [] [] [], i + 1) else (if eqI t.k 3 then some (.mk 2 0 t.t [] [], i + 1)
    else (if eatB L i [116, 114, 117, 101] then some (.mk 3 1 [] [] [], i + 1) else (if eatB L i [102, 97, 108, 115, 101] then some (.mk 3 0 [] [] [], i + 1)
    else (if eatB L i [110, 117, 108, 108] then some (.mk 0 0 [] [] [], i + 1) else (if eqI t.k 1 then some (.mk 4 0 t.t [] [], i + 1)
    else (if eatB L i [91] then listP (loopP (stepL L vP) 2002 (i + 1) []) else (if eatB L i [123] then objP (loopP (stepO L vP) 2002 (i + 1) ([], [])) else none)))))))
/-- a value as it is read -/
def valueP (L : List Tok) : Nat → Nat → Option (Val × Nat)
  | 0, _ => none
  | f + 1, i => value1P L (valueP L f) i
def ValQ (B : St) (L : List Tok) (o : Nat) (f : Nat) : Prop := ∀ {st : St} {i : Nat} {d e : Int}, Rd B L o st i d e → 0 ≤ d → d + f = 24 →
    EvQ tbl 61 [.ptr o 0, .bool true] st (fun a st' => ∃ v : Val, v.OK ∧ a = .agg v.row ∧ AdvX B L o i d e (valueP L f i) v st')

theorem rowsVal (l : List Val) : rowsOk 5 (l.map Val.row) = true := rowsOk_all (by
  intro r hr
  obtain ⟨v, _, rfl⟩ := List.mem_map.1 hr
  obtain ⟨_, _, _, _, _, e⟩ := v.row_cells
  rw [e]
  rfl)
theorem rowsStr (l : List (List Nat)) : rowsOk 1 (l.map strRow) = true := rowsOk_all (by
  intro r hr
  obtain ⟨v, _, rfl⟩ := List.mem_map.1 hr
  rfl)
theorem value1_q {L : List Tok} {o f : Nat} (ih : ValQ B L o f) {st : St} {i : Nat} {d : Int} (h : Rd B L o st i d 0) (hd : 0 ≤ d) (hd2 : d + f = 24) :
    EvQ tbl 71 [.ptr o 0, .bool true] st (fun a st' => ∃ v : Val, v.OK ∧ a = .agg v.row ∧ AdvX B L o i d 0 (value1P L (valueP L f) i) v st') := by
  obtain ⟨bad, ho⟩ := h.ob
  have hs : ∀ y : Obj, (st.set o y)[o]? = some y := fun y => set_get ho
  have hl := h.hL.2
  have hi := h.hi
  have ht := tok_row h.hi
  have i1 := inc64 (show i + 1 < 2 ^ 63 by omega)
  have hV := value1P.eq_1 L (valueP L f) i
  rw [List.getElem?_eq_getElem h.hi] at hV
  dsimp only at hV
  refine EvQ.body (fn := a71) rfl rfl rfl ?_
  simp +contextual -implicitDefEqProofs only [K71, SS, reduceAdd,reduceSub,reduceLeDiff,reduceEqDiff,reduceCtorEq, ho, rdC, hs, i1, ht, Tok.row]
  refine WC.br (fun hk => ?_) (fun hk => ?_)
  · rw [if_pos hk] at hV
    have hk' : (L[i]).k ≠ 0 := by rw [eqI_eq] at hk; simp at hk; rw [hk]; decide
    simp +contextual -implicitDefEqProofs only [K71, SS, reduceAdd,reduceSub,reduceLeDiff,reduceEqDiff,reduceCtorEq, ho, rdC, hs, i1, ht, Tok.row]
    obtain ⟨hv, ev⟩ := Val.simple 1 (L[i]).n [] (by decide)
    exact WC.ret ⟨_, _, rfl, _, hv, by rw [ev]; rfl, i + 1, 0, h.put (tokL_next h.hL.1 h.hi hk'), by omega, (fun _ => ⟨rfl, by omega⟩), fun _ => by rw [hV]; rfl⟩
  rw [hk, if_neg (by decide)] at hV
  simp +contextual -implicitDefEqProofs only [K71, SS, reduceAdd,reduceSub,reduceLeDiff,reduceEqDiff,reduceCtorEq, ho, rdC, hs, i1, ht, Tok.row]
  refine WC.br (fun hk => ?_) (fun hk => ?_)
  · rw [if_pos hk] at hV
    have hk' : (L[i]).k ≠ 0 := by rw [eqI_eq] at hk; simp at hk; rw [hk]; decide
    simp +contextual -implicitDefEqProofs only [K71, SS, reduceAdd,reduceSub,reduceLeDiff,reduceEqDiff,reduceCtorEq, ho, rdC, hs, i1, ht, Tok.row]
    obtain ⟨hv, ev⟩ := Val.simple 2 0 (L[i]).t (by decide)
    exact WC.ret ⟨_, _, rfl, _, hv, by rw [ev]; rfl, i + 1, 0, h.put (tokL_next h.hL.1 h.hi hk'), by omega, (fun _ => ⟨rfl, by omega⟩), fun _ => by rw [hV]; rfl⟩
  rw [hk, if_neg (by decide)] at hV
  simp +contextual -implicitDefEqProofs only [K71, SS, reduceAdd,reduceSub,reduceLeDiff,reduceEqDiff,reduceCtorEq]
  refine WC.call (eat_q h _) rfl rfl ?_
  rintro _ st2 (⟨rfl, rfl, hE⟩ | ⟨rfl, _, h2, hE⟩)
  rotate_left
  · rw [hE, if_pos rfl] at hV
    simp +contextual -implicitDefEqProofs only [K71, SS, reduceAdd,reduceSub,reduceLeDiff,reduceEqDiff,reduceCtorEq]
    obtain ⟨hv, ev⟩ := Val.simple 3 1 [] (by decide)
    exact WC.ret ⟨_, _, rfl, _, hv, by rw [ev]; rfl, i + 1, 0, h2, by omega, (fun _ => ⟨rfl, by omega⟩), fun _ => by rw [hV]; rfl⟩
  rw [hE rfl, if_neg (by decide)] at hV
  simp +contextual -implicitDefEqProofs only [K71, SS, reduceAdd,reduceSub,reduceLeDiff,reduceEqDiff,reduceCtorEq]
  refine WC.call (eat_q h _) rfl rfl ?_
  rintro _ st2 (⟨rfl, rfl, hE⟩ | ⟨rfl, _, h2, hE⟩)
  rotate_left
  · rw [hE, if_pos rfl] at hV
    simp +contextual -implicitDefEqProofs only [K71, SS, reduceAdd,reduceSub,reduceLeDiff,reduceEqDiff,reduceCtorEq]
    obtain ⟨hv, ev⟩ := Val.simple 3 0 [] (by decide)
    exact WC.ret ⟨_, _, rfl, _, hv, by rw [ev]; rfl, i + 1, 0, h2, by omega, (fun _ => ⟨rfl, by omega⟩), fun _ => by rw [hV]; rfl⟩
  rw [hE rfl, if_neg (by decide)] at hV
  simp +contextual -implicitDefEqProofs only [K71, SS, reduceAdd,reduceSub,reduceLeDiff,reduceEqDiff,reduceCtorEq]
  refine WC.call (eat_q h _) rfl rfl ?_
  rintro _ st2 (⟨rfl, rfl, hE⟩ | ⟨rfl, _, h2, hE⟩)
  rotate_left
  · rw [hE, if_pos rfl] at hV
    simp +contextual -implicitDefEqProofs only [K71, SS, reduceAdd,reduceSub,reduceLeDiff,reduceEqDiff,reduceCtorEq]
    obtain ⟨hv, ev⟩ := Val.simple 0 0 [] (by decide)
    exact WC.ret ⟨_, _, rfl, _, hv, by rw [ev]; rfl, i + 1, 0, h2, by omega, (fun _ => ⟨rfl, by omega⟩), fun _ => by rw [hV]; rfl⟩
  rw [hE rfl, if_neg (by decide)] at hV
  simp +contextual -implicitDefEqProofs only [K71, SS, reduceAdd,reduceSub,reduceLeDiff,reduceEqDiff,reduceCtorEq, ho, rdC, hs, i1, ht, Tok.row]
  refine WC.br (fun hk => ?_) (fun hk => ?_)
  · rw [if_pos hk] at hV
    have hk' : (L[i]).k ≠ 0 := by rw [eqI_eq] at hk; simp at hk; rw [hk]; decide
    simp +contextual -implicitDefEqProofs only [K71, SS, reduceAdd,reduceSub,reduceLeDiff,reduceEqDiff,reduceCtorEq, ho, rdC, hs, i1, ht, Tok.row]
    obtain ⟨hv, ev⟩ := Val.simple 4 0 (L[i]).t (by decide)
    exact WC.ret ⟨_, _, rfl, _, hv, by rw [ev]; rfl, i + 1, 0, h.put (tokL_next h.hL.1 h.hi hk'), by omega, (fun _ => ⟨rfl, by omega⟩), fun _ => by rw [hV]; rfl⟩
  rw [hk, if_neg (by decide)] at hV
  simp +contextual -implicitDefEqProofs only [K71, SS, reduceAdd,reduceSub,reduceLeDiff,reduceEqDiff,reduceCtorEq, ho, rdC, hs, i1, ht, Tok.row]
  refine WC.call (sign_q h _) rfl rfl ?_
  rintro _ st2 ⟨rfl, b, rfl, hb, _⟩
  have hbf : (b && !true) = false := by cases b <;> rfl
  simp +contextual -implicitDefEqProofs only [K71, SS, reduceAdd,reduceSub,reduceLeDiff,reduceEqDiff,reduceCtorEq, hbf, Bool.not_true, Bool.and_false]
  refine WC.call (eat_q h _) rfl rfl ?_
  rintro _ st2 (⟨rfl, rfl, hE⟩ | ⟨rfl, _, h2, hE⟩)
  rotate_left
  · -- a list
    rw [hE, if_pos rfl] at hV
    simp +contextual -implicitDefEqProofs only [K71, SS, reduceAdd,reduceSub,reduceLeDiff,reduceEqDiff,reduceCtorEq]
    revert hV
    generalize hw : loopP (stepL L (valueP L f)) 2002 (i + 1) [] = w
    intro hV
    refine WC.loopR (fun mm fr st' => ∃ (i' : Nat) (e' : Int) (l : List Val) (v5 : AV), Rd B L o st' i' d e' ∧ i + 1 ≤ i' ∧ (∀ v ∈ l, v.OK) ∧ mm = rem L i' e' ∧ l.length + mm ≤ L.length ∧ LoopAt (stepL L (valueP L f)) w i' l e' ∧
      fr = [.ptr o 0, .bool true, .box [.int .u8 0, .int .i64 0, .str [], .list true [], .list true []], .box [.int .u8 (L[i]).k, .str (L[i]).t, .int .i64 (L[i]).n, .int .i64 (L[i]).a], .box [.int .u8 5, .int .i64 0, .str [], .list true [], .list true (l.map Val.row)], v5, .undef, .undef]) (m := rem L (i + 1) 0) ⟨i + 1, 0, [], _, h2, Nat.le_refl _, by simp, rfl, by simpa using rem_le L (i + 1) 0, LoopAt.start _ _ _ _ (by rw [if_pos rfl, hw]), rfl⟩ ?_
    rintro mm fr st' ⟨i', e', l, v5, hr, hi', hl', hmm, hlen, hLo, rfl⟩
    obtain ⟨bad', ho'⟩ := hr.ob
    have hi2 := hr.hi
    have hend : ∀ (st3 : St) (i3 : Nat) (e3 : Int), Rd B L o st3 i3 d e3 → i + 1 ≤ i3 → (w = if e3 = 0 then some (l, i3) else none) → WC (fun n => seqC (blkC 0 (seqC (blkC 1 some) (exec (callF tbl n) n (a71s59.seq ACode.ret)))) (exec (callF tbl n) n (a71s99.seq (a71s101.seq ACode.ret))) (Ex.exit 1, [.ptr o 0, .bool true, .box [.int .u8 0, .int .i64 0, .str [], .list true [], .list true []], .box [.int .u8 (L[i]).k, .str (L[i]).t, .int .i64 (L[i]).n, .int .i64 (L[i]).a], .box [.int .u8 5, .int .i64 0, .str [], .list true [], .list true (l.map Val.row)], v5, .undef, .undef], st3))
        (fun o_1 => ∃ r st', finK [ResK.bx 2 true 5] (some o_1) = some (r, st') ∧ ∃ v : Val, v.OK ∧ r = .agg v.row ∧ AdvX B L o i d 0 (value1P L (valueP L f) i) v st') := by
      intro st3 i3 e3 h3 hi3 hw3
      simp +contextual -implicitDefEqProofs only [K71, SS, reduceAdd,reduceSub,reduceLeDiff,reduceEqDiff,reduceCtorEq]
      refine WC.ret ⟨_, _, rfl, .mk 5 0 [] [] l, .mk _ _ _ _ _ (fun h => absurd h (by decide)) (by simp) (by omega) hl', ?_, i3, e3, h3, by omega, (fun _ => ⟨rfl, by omega⟩), fun _ => ?_⟩
      · rw [Val.row_eq]
        rfl
      · rw [hV, hw3]
        by_cases h0 : e3 = 0
        · rw [if_pos h0, if_pos h0]; rfl
        · rw [if_neg h0, if_neg h0]; rfl
    simp +contextual -implicitDefEqProofs only [K71, SS, reduceAdd,reduceSub,reduceLeDiff,reduceEqDiff,reduceCtorEq, ho', rdC]
    refine WC.g2 (fun hf => ?_) (fun hf => ?_)
    rotate_left
    · simp +contextual -implicitDefEqProofs only [K71, SS, reduceAdd,reduceSub,reduceLeDiff,reduceEqDiff,reduceCtorEq, show eqI e' 0 = false from hf]
      have he0 : e' ≠ 0 := by intro h0; subst h0; cases hf
      exact WC.leave (hend st' i' e' hr hi' (by rw [if_neg he0]; exact hLo.bad he0))
    have he' : e' = 0 := by rw [eqI_eq] at hf; simpa using hf
    subst he'
    simp +contextual -implicitDefEqProofs only [K71, SS, reduceAdd,reduceSub,reduceLeDiff,reduceEqDiff,reduceCtorEq, hf]
    refine WC.call (eat_q hr _) rfl rfl ?_
    rintro _ st3 (⟨rfl, rfl, hE3⟩ | ⟨rfl, _, h3, hE3⟩)
    rotate_left
    · simp +contextual -implicitDefEqProofs only [K71, SS, reduceAdd,reduceSub,reduceLeDiff,reduceEqDiff,reduceCtorEq, hf]
      exact WC.leave (hend st3 (i' + 1) 0 h3 (by omega) (by rw [if_pos rfl]; exact hLo.exit (by omega) (by rw [stepL, hE3]; rfl)))
    · have hE3 := hE3 rfl
      simp +contextual -implicitDefEqProofs only [K71, SS, reduceAdd,reduceSub,reduceLeDiff,reduceEqDiff,reduceCtorEq, hf]
      refine WC.call (ih hr hd hd2) rfl rfl ?_
      rintro _ st4 ⟨v, hv, rfl, i4, e4, h4, h4a, h4b, hX4⟩
      have hX4 := hX4 rfl
      obtain ⟨vk, vn, vs, vx, vy, ev⟩ := v.row_cells
      have hh := h4.hi
      have hlt := rem_lt rfl hr.hi (fun h0 => (h4b h0).2)
      have hlr : (l.length + 1) * 80 ≤ 2 ^ 47 := by omega
      simp +contextual -implicitDefEqProofs only [K71, SS, reduceAdd,reduceSub,reduceLeDiff,reduceEqDiff,reduceCtorEq, ev, rowsVal, List.length_map, hlr]
      refine WC.next (m' := rem L i4 e4) (by omega) ⟨i4, e4, l ++ [v], .box [.int .u8 vk, .int .i64 vn, .str vs, .list false vx, .list false vy], h4, by omega, fun x hx => ?_, rfl, by simp only [List.length_append, List.length_cons, List.length_nil]; omega, hLo.next (by omega) (fun h0 => (h4b h0).2) ?_, ?_⟩
      · rcases List.mem_append.1 hx with h0 | h0
        · exact hl' x h0
        · simp at h0; subst h0; exact hv
      · rw [stepL, hE3, if_neg (by decide), hX4]
        by_cases h0 : e4 = 0
        · rw [if_pos h0, if_pos h0]
        · rw [if_neg h0, if_neg h0]
      · simp only [List.map_append, List.map_cons, List.map_nil, ev]
  rw [hE rfl, if_neg (by decide)] at hV
  simp +contextual -implicitDefEqProofs only [K71, SS, reduceAdd,reduceSub,reduceLeDiff,reduceEqDiff,reduceCtorEq]
  refine WC.call (eat_q h _) rfl rfl ?_
  rintro _ st2 (⟨rfl, rfl, hE⟩ | ⟨rfl, _, h2, hE⟩)
  · rw [hE rfl, if_neg (by decide)] at hV
    simp +contextual -implicitDefEqProofs only [K71, SS, reduceAdd,reduceSub,reduceLeDiff,reduceEqDiff,reduceCtorEq]
    refine WC.call (fault_q h 4 (by decide)) rfl rfl ?_
    rintro _ st3 ⟨e3, h3, h3e⟩
    simp +contextual -implicitDefEqProofs only [K71, SS, reduceAdd,reduceSub,reduceLeDiff,reduceEqDiff,reduceCtorEq]
    obtain ⟨hv, ev⟩ := Val.simple 0 0 [] (by decide)
    exact WC.ret ⟨_, _, rfl, _, hv, by rw [ev]; rfl, i, e3, h3, by omega, (fun h => absurd h h3e), fun _ => by rw [hV, if_neg h3e]⟩
  · -- an object
    rw [hE, if_pos rfl] at hV
    simp +contextual -implicitDefEqProofs only [K71, SS, reduceAdd,reduceSub,reduceLeDiff,reduceEqDiff,reduceCtorEq]
    revert hV
    generalize hw : loopP (stepO L (valueP L f)) 2002 (i + 1) ([], []) = w
    intro hV
    refine WC.loopR (fun mm fr st' => ∃ (i' : Nat) (e' : Int) (l : List Val) (ks : List (List Nat)) (v7 : AV), Rd B L o st' i' d e' ∧ i + 1 ≤ i' ∧ (∀ v ∈ l, v.OK) ∧ ks.length = l.length ∧ mm = rem L i' e' ∧ l.length + mm ≤ L.length ∧ LoopAt (stepO L (valueP L f)) w i' (ks, l) e' ∧
      fr = [.ptr o 0, .bool true, .box [.int .u8 0, .int .i64 0, .str [], .list true [], .list true []], .box [.int .u8 (L[i]).k, .str (L[i]).t, .int .i64 (L[i]).n, .int .i64 (L[i]).a], .undef, .undef, .box [.int .u8 6, .int .i64 0, .str [], .list true (ks.map strRow), .list true (l.map Val.row)], v7]) (m := rem L (i + 1) 0) ⟨i + 1, 0, [], [], _, h2, Nat.le_refl _, by simp, rfl, rfl, by simpa using rem_le L (i + 1) 0, LoopAt.start _ _ _ _ (by rw [if_pos rfl, hw]), rfl⟩ ?_
    rintro mm fr st' ⟨i', e', l, ks, v7, hr, hi', hl', hks, hmm, hlen, hLo, rfl⟩
    obtain ⟨bad', ho'⟩ := hr.ob
    have hi2 := hr.hi
    have hend : ∀ (st3 : St) (i3 : Nat) (e3 : Int), Rd B L o st3 i3 d e3 → i + 1 ≤ i3 → (w = if e3 = 0 then some ((ks, l), i3) else none) → WC (fun n => seqC (blkC 0 (seqC (blkC 3 some) (exec (callF tbl n) n (a71s84.seq ACode.ret)))) (exec (callF tbl n) n (a71s99.seq (a71s101.seq ACode.ret))) (Ex.exit 3, [.ptr o 0, .bool true, .box [.int .u8 0, .int .i64 0, .str [], .list true [], .list true []], .box [.int .u8 (L[i]).k, .str (L[i]).t, .int .i64 (L[i]).n, .int .i64 (L[i]).a], .undef, .undef, .box [.int .u8 6, .int .i64 0, .str [], .list true (ks.map strRow), .list true (l.map Val.row)], v7], st3))
        (fun o_1 => ∃ r st', finK [ResK.bx 2 true 5] (some o_1) = some (r, st') ∧ ∃ v : Val, v.OK ∧ r = .agg v.row ∧ AdvX B L o i d 0 (value1P L (valueP L f) i) v st') := by
      intro st3 i3 e3 h3 hi3 hw3
      simp +contextual -implicitDefEqProofs only [K71, SS, reduceAdd,reduceSub,reduceLeDiff,reduceEqDiff,reduceCtorEq]
      refine WC.ret ⟨_, _, rfl, .mk 6 0 [] ks l, .mk _ _ _ _ _ (fun _ => hks) (by omega) (by omega) hl', ?_, i3, e3, h3, by omega, (fun _ => ⟨rfl, by omega⟩), fun _ => ?_⟩
      · rw [Val.row_eq]
        rfl
      · rw [hV, hw3]
        by_cases h0 : e3 = 0
        · rw [if_pos h0, if_pos h0]; rfl
        · rw [if_neg h0, if_neg h0]; rfl
    simp +contextual -implicitDefEqProofs only [K71, SS, reduceAdd,reduceSub,reduceLeDiff,reduceEqDiff,reduceCtorEq, ho', rdC]
    refine WC.g2 (fun hf => ?_) (fun hf => ?_)
    rotate_left
    · simp +contextual -implicitDefEqProofs only [K71, SS, reduceAdd,reduceSub,reduceLeDiff,reduceEqDiff,reduceCtorEq, show eqI e' 0 = false from hf]
      have he0 : e' ≠ 0 := by intro h0; subst h0; cases hf
      exact WC.leave (hend st' i' e' hr hi' (by rw [if_neg he0]; exact hLo.bad he0))
    have he' : e' = 0 := by rw [eqI_eq] at hf; simpa using hf
    subst he'
    simp +contextual -implicitDefEqProofs only [K71, SS, reduceAdd,reduceSub,reduceLeDiff,reduceEqDiff,reduceCtorEq, hf]
    refine WC.call (eat_q hr _) rfl rfl ?_
    rintro _ st3 (⟨rfl, rfl, hE3⟩ | ⟨rfl, _, h3, hE3⟩)
    rotate_left
    · simp +contextual -implicitDefEqProofs only [K71, SS, reduceAdd,reduceSub,reduceLeDiff,reduceEqDiff,reduceCtorEq, hf]
      exact WC.leave (hend st3 (i' + 1) 0 h3 (by omega) (by rw [if_pos rfl]; exact hLo.exit (by omega) (by rw [stepO, hE3]; rfl)))
    · have hE3 := hE3 rfl
      simp +contextual -implicitDefEqProofs only [K71, SS, reduceAdd,reduceSub,reduceLeDiff,reduceEqDiff,reduceCtorEq, hf]
      refine WC.call (name_q hr) rfl rfl ?_
      rintro _ st4 ⟨t, rfl, i4, e4, h4, h4a, h4b, hX4⟩
      have hkr : (ks.length + 1) * 16 ≤ 2 ^ 47 := by omega
      simp +contextual -implicitDefEqProofs only [K71, SS, reduceAdd,reduceSub,reduceLeDiff,reduceEqDiff,reduceCtorEq, rowsStr, List.length_map, hkr]
      refine WC.call (must_q h4 _) rfl rfl ?_
      rintro _ st5 ⟨i5, e5, h5, h5a, h5b, hX5⟩
      simp +contextual -implicitDefEqProofs only [K71, SS, reduceAdd,reduceSub,reduceLeDiff,reduceEqDiff,reduceCtorEq]
      refine WC.call (ih h5 hd hd2) rfl rfl ?_
      rintro _ st6 ⟨v, hv, rfl, i6, e6, h6, h6a, h6b, hX6⟩
      obtain ⟨vk, vn, vs, vx, vy, ev⟩ := v.row_cells
      have hlt : rem L i6 e6 < rem L i' 0 := rem_lt rfl hr.hi (fun h0 => by have := h6b h0; have := h5b this.1; omega)
      have hlr : (l.length + 1) * 80 ≤ 2 ^ 47 := by omega
      simp +contextual -implicitDefEqProofs only [K71, SS, reduceAdd,reduceSub,reduceLeDiff,reduceEqDiff,reduceCtorEq, ev, rowsVal, List.length_map, hlr]
      refine WC.next (m' := rem L i6 e6) (by omega) ⟨i6, e6, l ++ [v], ks ++ [t], .box [.int .u8 vk, .int .i64 vn, .str vs, .list false vx, .list false vy], h6, by omega, fun x hx => ?_, by simp only [List.length_append, hks]; rfl, rfl, by simp only [List.length_append, List.length_cons, List.length_nil]; omega, hLo.next (by omega) (fun h0 => by have := h6b h0; have := h5b this.1; omega) ?_, ?_⟩
      · rcases List.mem_append.1 hx with h0 | h0
        · exact hl' x h0
        · simp at h0; subst h0; exact hv
      · rw [stepO, hE3, if_neg (by decide), hX4 rfl]
        by_cases h0 : e4 = 0
        · rw [if_pos h0]; dsimp only; rw [hX5 h0]
          by_cases h1 : e5 = 0
          · rw [if_pos h1]; dsimp only; rw [hX6 h1]
            by_cases h2 : e6 = 0
            · rw [if_pos h2, if_pos h2]
            · rw [if_neg h2, if_neg h2]
          · rw [if_neg h1, if_neg (fun h => h1 (h6b h).1)]
        · rw [if_neg h0, if_neg (fun h => h0 (h5b (h6b h).1).1)]
      · simp only [List.map_append, List.map_cons, List.map_nil, ev, strRow]

theorem value_q (L : List Tok) (o : Nat) : ∀ f, ValQ B L o f := by
  intro f
  induction f with
  | zero =>
    intro st i d e h hd hd2
    obtain rfl : d = 24 := by omega
    refine EvQ.body (fn := a61) rfl rfl rfl ?_
    simp +contextual -implicitDefEqProofs only [K61, SS, reduceAdd,reduceSub,reduceLeDiff,reduceEqDiff,reduceCtorEq]
    refine WC.call (open_q h hd (by omega)) rfl rfl ?_
    rintro _ st1 ⟨e1, rfl, h1, he1⟩
    have he : e1 ≠ 0 := fun h0 => by have := he1.1 h0; omega
    have hf : eqI e1 0 = false := by rw [eqI_eq]; simpa using he
    obtain ⟨bad, ho⟩ := h1.ob
    have hs : ∀ y : Obj, (st1.set o y)[o]? = some y := fun y => set_get ho
    simp +contextual -implicitDefEqProofs only [K61, SS, reduceAdd,reduceSub,reduceLeDiff,reduceEqDiff,reduceCtorEq, hf, ho, rdC, hs, dec64 hd (show (24 : Int) ≤ 100 by omega)]
    obtain ⟨hv, ev⟩ := Val.simple 0 0 [] (by decide)
    exact WC.ret ⟨_, _, rfl, _, hv, by rw [ev]; rfl, i, e1, h1.put h1.hi, Nat.le_refl _, (fun h => absurd h he), fun _ => by rw [if_neg he, valueP]⟩
  | succ f ih =>
    intro st i d e h hd hd2
    have hd2' : d ≤ 23 := by omega
    have fin : ∀ (v : Val) (k n : Int) (s : List Nat) (w w' : Bool) (xs ys : List (List AV)) (st1 : St) (i1 : Nat) (e1 : Int), v.OK → v.row = [.int .u8 k, .int .i64 n, .str s, .list false xs, .list false ys] → Rd B L o st1 i1 (d + 1) e1 → i ≤ i1 → (e1 = 0 → e = 0 ∧ i < i1) → (e = 0 → valueP L (f + 1) i = if e1 = 0 then some (v, i1) else none) →
        WC (fun n' => exec (callF tbl n') n' (a61s9.seq (a61s11.seq ACode.ret)) [.ptr o 0, .bool true, .box [.int .u8 0, .int .i64 0, .str [], .list true [], .list true []], .box [.int .u8 k, .int .i64 n, .str s, .list w xs, .list w' ys]] st1)
          (fun o_1 => ∃ r st', finK [ResK.bx 2 true 5] (some o_1) = some (r, st') ∧ ∃ v : Val, v.OK ∧ r = .agg v.row ∧ AdvX B L o i d e (valueP L (f + 1) i) v st') := by
      intro v k n s w w' xs ys st1 i1 e1 hv ev h1 hi1 he1 hX
      obtain ⟨bad, ho⟩ := h1.ob
      have hs : ∀ y : Obj, (st1.set o y)[o]? = some y := fun y => set_get ho
      simp +contextual -implicitDefEqProofs only [K61, SS, reduceAdd,reduceSub,reduceLeDiff,reduceEqDiff,reduceCtorEq, ho, rdC, hs, dec64 hd (show d ≤ 100 by omega)]
      refine WC.ret ⟨_, _, rfl, v, hv, ?_, i1, e1, h1.put h1.hi, hi1, he1, hX⟩
      rw [ev]
      rfl
    refine EvQ.body (fn := a61) rfl rfl rfl ?_
    simp +contextual -implicitDefEqProofs only [K61, SS, reduceAdd,reduceSub,reduceLeDiff,reduceEqDiff,reduceCtorEq]
    refine WC.call (open_q h hd (by omega)) rfl rfl ?_
    rintro _ st1 ⟨e1, rfl, h1, he1⟩
    simp +contextual -implicitDefEqProofs only [K61, SS, reduceAdd,reduceSub,reduceLeDiff,reduceEqDiff,reduceCtorEq]
    refine WC.br (fun hf => ?_) (fun hf => ?_)
    rotate_left
    · have he : e1 ≠ 0 := by rw [eqI_eq] at hf; simpa using hf
      obtain ⟨hv, ev⟩ := Val.simple 0 0 [] (by decide)
      have := fin _ 0 0 [] true true [] [] st1 i e1 hv ev h1 (Nat.le_refl _) (fun h => absurd h he) (fun h0 => absurd (he1.2 ⟨h0, by omega⟩) he)
      simp +contextual -implicitDefEqProofs only [K61, SS, reduceAdd,reduceSub,reduceLeDiff,reduceEqDiff,reduceCtorEq] at this ⊢
      exact this
    · have he : e1 = 0 := by rw [eqI_eq] at hf; simpa using hf
      subst he
      obtain ⟨rfl, hd3⟩ := he1.1 rfl
      simp +contextual -implicitDefEqProofs only [K61, SS, reduceAdd,reduceSub,reduceLeDiff,reduceEqDiff,reduceCtorEq]
      refine WC.call (value1_q ih h1 (by omega) (by omega)) rfl rfl ?_
      rintro _ st4 ⟨v, hv, rfl, i4, e4, h4, h4a, h4b, hX⟩
      obtain ⟨vk, vn, vs, vx, vy, ev⟩ := v.row_cells
      simp +contextual -implicitDefEqProofs only [K61, SS, reduceAdd,reduceSub,reduceLeDiff,reduceEqDiff,reduceCtorEq, ev]
      have := fin v vk vn vs false false vx vy st4 i4 e4 hv ev h4 h4a h4b (fun _ => by rw [valueP]; exact hX rfl)
      simp +contextual -implicitDefEqProofs only [K61, SS, reduceAdd,reduceSub,reduceLeDiff,reduceEqDiff,reduceCtorEq] at this ⊢
      exact this
end Go.Cb.CodeA
set_option maxRecDepth 20000
set_option linter.unusedSimpArgs false
set_option linter.unusedVariables false
namespace Go.Cb.CodeA
open Go Go.Cb
open Nat (reduceAdd reduceSub reduceLeDiff reduceEqDiff)
attribute [local congr] obind_congr gv_congr2 gv2_congr brT_congr seqK_congr blkK_congr m1_congr gm_congr
variable {B : St}

/-- a field of a type -/
inductive FDef where
  | mk (n : List Nat) (as : List FDef) (t : TRef) (has : Bool) (v : Val)
mutual
def FDef.row : FDef → List AV
  | .mk n as t has v => .str n :: .list false (FDef.rows as) :: (t.row ++ (.bool has :: v.row))
def FDef.rows : List FDef → List (List AV)
  | [] => []
  | f :: fs => f.row :: FDef.rows fs
end
theorem FDef.rows_map : ∀ fs : List FDef, FDef.rows fs = fs.map FDef.row
  | [] => by simp [FDef.rows]
  | f :: fs => by simp [FDef.rows, FDef.rows_map fs]
theorem FDef.row_eq (n : List Nat) (as : List FDef) (t : TRef) (has : Bool) (v : Val) : (FDef.mk n as t has v).row = .str n :: .list false (as.map FDef.row) :: (t.row ++ (.bool has :: v.row)) := by
  rw [FDef.row, FDef.rows_map]
inductive FDef.OK : FDef → Prop
  | mk (n : List Nat) (as : List FDef) (t : TRef) (has : Bool) (v : Val) (hv : v.OK) (hl : as.length ≤ 3000) (h : ∀ f ∈ as, FDef.OK f) : FDef.OK (.mk n as t has v)
theorem FDef.row_len (f : FDef) : f.row.length = 11 := by
  cases f with
  | mk n as t has v =>
    obtain ⟨_, _, _, e1⟩ := t.row_cells
    obtain ⟨_, _, _, _, _, e2⟩ := v.row_cells
    rw [FDef.row_eq, e1, e2]
    rfl
theorem rowsF (l : List FDef) : rowsOk 11 (l.map FDef.row) = true := rowsOk_all (by
  intro r hr
  obtain ⟨f, _, rfl⟩ := List.mem_map.1 hr
  exact f.row_len)

/-- the value that is none -/
def Val.none : Val := .mk 0 0 [] [] []
theorem Val.none_ok : Val.none.OK := (Val.simple 0 0 [] (by decide)).1
theorem Val.none_row : Val.none.row = [.int .u8 0, .int .i64 0, .str [], .list false [], .list false []] := (Val.simple 0 0 [] (by decide)).2
theorem FDef.row_mk {n : List Nat} {as : List FDef} {t : TRef} {has : Bool} {v : Val} {tn : List Nat} {txs : List (List AV)} {tb : Bool} {vk vn : Int} {vs : List Nat} {vx vy : List (List AV)}
    (et : t.row = [.str tn, .list false txs, .bool tb]) (ev : v.row = [.int .u8 vk, .int .i64 vn, .str vs, .list false vx, .list false vy]) :
    (FDef.mk n as t has v).row = [.str n, .list false (as.map FDef.row), .str tn, .list false txs, .bool tb, .bool has, .int .u8 vk, .int .i64 vn, .str vs, .list false vx, .list false vy] := by
  rw [FDef.row_eq, et, ev]
  rfl
def stepN (L : List Tok) (s : List Nat) (i : Nat) (ks : List (List Nat)) : Option (Bool × Nat × List (List Nat)) := if eatB L i s then (match nameP L (i + 1) with
  | none => none
  | some (n, j) => some (false, j, ks ++ [n])) else some (true, i, ks)
def namesP (L : List Tok) (s : List Nat) (i : Nat) : Option (List (List Nat) × Nat) := match nameP L (if eatB L i s then i + 1 else i) with
  | none => none
  | some (n, i2) => loopP (stepN L s) 2002 i2 [n]
theorem names_q {L : List Tok} {o : Nat} {st : St} {i : Nat} {d e : Int} (h : Rd B L o st i d e) (s : List Nat) : EvQ tbl 45 [.ptr o 0, .str s] st (fun a st' => ∃ ks : List (List Nat), a = .list false (ks.map strRow) ∧ ks.length ≤ 3000 ∧ AdvX B L o i d e (namesP L s i) ks st') := by
  have hl := h.hL.2
  refine EvQ.body (fn := a45) rfl rfl rfl ?_
  simp +contextual -implicitDefEqProofs only [K45, SS, reduceAdd,reduceSub,reduceLeDiff,reduceEqDiff,reduceCtorEq]
  refine WC.call (P := fun a st' => ∃ b i' e', a = .bool b ∧ Rd B L o st' i' d e' ∧ i ≤ i' ∧ (e' = 0 ↔ e = 0) ∧ (e = 0 → i' = if eatB L i s then i + 1 else i)) ((eat_q h _).mono ?_) rfl rfl ?_
  · rintro _ st' (⟨rfl, rfl, hE⟩ | ⟨rfl, rfl, h2, hE⟩)
    · exact ⟨_, _, _, rfl, h, Nat.le_refl _, Iff.rfl, fun h0 => by rw [hE h0]; rfl⟩
    · exact ⟨_, _, _, rfl, h2, by omega, Iff.rfl, fun _ => by rw [hE]; rfl⟩
  rintro _ st1 ⟨b, i1, e1, rfl, h1, hi1, he1, hE1⟩
  simp +contextual -implicitDefEqProofs only [K45, SS, reduceAdd,reduceSub,reduceLeDiff,reduceEqDiff,reduceCtorEq]
  refine WC.call (name_q h1) rfl rfl ?_
  rintro _ st2 ⟨t, rfl, i2, e2, h2, h2a, h2b, hX2⟩
  simp +contextual -implicitDefEqProofs only [K45, SS, reduceAdd,reduceSub,reduceLeDiff,reduceEqDiff,reduceCtorEq]
  have hw : e = 0 → namesP L s i = if e2 = 0 then loopP (stepN L s) 2002 i2 [t] else none := by
    intro h0
    rw [namesP, ← hE1 h0, hX2 (he1.2 h0)]
    by_cases h1 : e2 = 0
    · rw [if_pos h1, if_pos h1]
    · rw [if_neg h1, if_neg h1]
  revert hw
  generalize hgw : (if e2 = 0 then loopP (stepN L s) 2002 i2 [t] else none) = w
  intro hw
  refine WC.loopR (fun mm fr st' => ∃ (i' : Nat) (e' : Int) (ks : List (List Nat)), Rd B L o st' i' d e' ∧ i ≤ i' ∧ (e' = 0 → e = 0 ∧ i < i') ∧ mm = rem L i' e' ∧ ks.length + mm ≤ L.length + 1 ∧ LoopAt (stepN L s) w i' ks e' ∧ fr = [.ptr o 0, .str s, .list true [], .list true (ks.map strRow)]) (m := rem L i2 e2) ⟨i2, e2, [t], h2, by omega, (fun h0 => by have := h2b h0; exact ⟨he1.1 this.1, by omega⟩), rfl, by have := rem_le L i2 e2; simp; omega, LoopAt.start _ _ _ _ hgw.symm, rfl⟩ ?_
  rintro mm fr st' ⟨i', e', ks, hr, hi', he', hmm, hlen, hLo, rfl⟩
  have hl := h.hL.2
  have hii := hr.hi
  simp +contextual -implicitDefEqProofs only [K45, SS, reduceAdd,reduceSub,reduceLeDiff,reduceEqDiff,reduceCtorEq]
  refine WC.call (eat_q hr _) rfl rfl ?_
  rintro _ st3 (⟨rfl, rfl, hE⟩ | ⟨rfl, rfl, h3, hE⟩)
  · simp +contextual -implicitDefEqProofs only [K45, SS, reduceAdd,reduceSub,reduceLeDiff,reduceEqDiff,reduceCtorEq]
    refine WC.leave ?_
    simp +contextual -implicitDefEqProofs only [K45, SS, reduceAdd,reduceSub,reduceLeDiff,reduceEqDiff,reduceCtorEq]
    refine WC.ret ⟨_, _, rfl, ks, rfl, by omega, i', e', hr, hi', he', fun h0 => ?_⟩
    rw [hw h0]
    by_cases h1 : e' = 0
    · subst h1
      rw [if_pos rfl]
      exact hLo.exit (by omega) (by rw [stepN, hE rfl]; rfl)
    · rw [if_neg h1]
      exact hLo.bad h1
  · simp +contextual -implicitDefEqProofs only [K45, SS, reduceAdd,reduceSub,reduceLeDiff,reduceEqDiff,reduceCtorEq]
    refine WC.call (name_q h3) rfl rfl ?_
    rintro _ st4 ⟨t, rfl, i4, e4, h4, h4a, h4b, hX4⟩
    have hlt := rem_lt rfl hr.hi (fun h0 => show i' < i4 by have := (h4b h0).2; omega)
    have hkr : (ks.length + 1) * 16 ≤ 2 ^ 47 := by omega
    simp +contextual -implicitDefEqProofs only [K45, SS, reduceAdd,reduceSub,reduceLeDiff,reduceEqDiff,reduceCtorEq, rowsStr, List.length_map, hkr]
    exact WC.next (m' := rem L i4 e4) (by omega) ⟨i4, e4, ks ++ [t], h4, by omega, fun h0 => ⟨(he' rfl).1, by omega⟩, rfl, by simp only [List.length_append, List.length_cons, List.length_nil]; omega, hLo.next (by omega) (fun h0 => by have := (h4b h0).2; omega) (by
      rw [stepN, hE, if_pos rfl, hX4 rfl]
      by_cases h0 : e4 = 0
      · rw [if_pos h0, if_pos h0]
      · rw [if_neg h0, if_neg h0]), by simp only [List.map_append]; rfl⟩

def stepI (L : List Tok) (s : List Nat) (f : Nat) (i : Nat) (x : Bool × List FDef) : Option (Bool × Nat × (Bool × List FDef)) := if !x.1 && eatB L i s then some (true, i + 1, x) else (match nameP L i with
  | none => none
  | some (n, i2) => match mustP L [58] i2 with
    | none => none
    | some i3 => match typeP L f i3 with
      | none => none
      | some (t, i4) => if eatB L i4 [61] then (match valueP L f (i4 + 1) with
          | none => none
          | some (v, i5) => some (false, i5, (false, x.2 ++ [.mk n [] t true v])))
        else some (false, i4, (false, x.2 ++ [.mk n [] t false Val.none])))
def inputsP (L : List Tok) (s : List Nat) (f : Nat) (i : Nat) : Option (List FDef × Nat) := match loopP (stepI L s f) 2002 i (true, []) with
  | none => none
  | some (x, j) => some (x.2, j)
theorem inputs_q {L : List Tok} {o : Nat} {st : St} {i : Nat} {d e : Int} (h : Rd B L o st i d e) (hd : 0 ≤ d) {f : Nat} (hd2 : d + f = 24) (s : List Nat) : EvQ tbl 47 [.ptr o 0, .str s] st (fun a st' => ∃ fs : List FDef, a = .list false (fs.map FDef.row) ∧ fs.length ≤ 3000 ∧ (∀ f ∈ fs, f.OK) ∧ AdvX B L o i d e (inputsP L s f i) fs st') := by
  have hl := h.hL.2
  refine EvQ.body (fn := a47) rfl rfl rfl ?_
  simp +contextual -implicitDefEqProofs only [K47, SS, reduceAdd,reduceSub,reduceLeDiff,reduceEqDiff,reduceCtorEq]
  have hw : e = 0 → inputsP L s f i = match (if e = 0 then loopP (stepI L s f) 2002 i (true, []) else none) with | none => none | some (x, j) => some (x.2, j) := by
    intro h0
    rw [inputsP, if_pos h0]
  revert hw
  generalize hgw : (if e = 0 then loopP (stepI L s f) 2002 i (true, []) else none) = w
  intro hw
  refine WC.loopR (fun mm fr st' => ∃ (i' : Nat) (e' : Int) (fs : List FDef) (first : Bool) (v5 : AV), Rd B L o st' i' d e' ∧ i ≤ i' ∧ (first = false → e' = 0 → e = 0 ∧ i < i') ∧ (first = true → e' = e) ∧ (∀ f ∈ fs, f.OK) ∧ mm = rem L i' e' ∧ fs.length + mm ≤ L.length ∧ LoopAt (stepI L s f) w i' (first, fs) e' ∧ fr = [.ptr o 0, .str s, .list true [], .list true (fs.map FDef.row), .bool first, v5]) (m := rem L i e) ⟨i, e, [], true, _, h, Nat.le_refl _, (by simp), (fun _ => rfl), (by simp), rfl, by simpa using rem_le L i e, LoopAt.start _ _ _ _ hgw.symm, rfl⟩ ?_
  rintro mm fr st' ⟨i', e', fs, first, v5, hr, hi', he', hfe, hfs, hmm, hlen, hLo, rfl⟩
  obtain ⟨bad', ho'⟩ := hr.ob
  have hii := hr.hi
  have hend : ∀ (st3 : St) (i3 : Nat) (e3 : Int), Rd B L o st3 i3 d e3 → i ≤ i3 → (e3 = 0 → e = 0 ∧ i < i3) → (w = if e3 = 0 then some ((first, fs), i3) else none) → WC (fun n => seqC (blkC 0 some) (exec (callF tbl n) n (a47s36.seq ACode.ret)) (Ex.exit 0, [.ptr o 0, .str s, .list true [], .list true (fs.map FDef.row), .bool first, v5], st3))
      (fun o_1 => ∃ r st', finK [ResK.v 2] (some o_1) = some (r, st') ∧ ∃ fs : List FDef, r = .list false (fs.map FDef.row) ∧ fs.length ≤ 3000 ∧ (∀ f ∈ fs, f.OK) ∧ AdvX B L o i d e (inputsP L s f i) fs st') := by
    intro st3 i3 e3 h3 hi3 he3 hw3
    simp +contextual -implicitDefEqProofs only [K47, SS, reduceAdd,reduceSub,reduceLeDiff,reduceEqDiff,reduceCtorEq]
    refine WC.ret ⟨_, _, rfl, fs, rfl, by omega, hfs, i3, e3, h3, hi3, he3, fun h0 => ?_⟩
    rw [hw h0, hw3]
    by_cases h1 : e3 = 0
    · rw [if_pos h1, if_pos h1]
    · rw [if_neg h1, if_neg h1]
  by_cases he0 : e' = 0
  rotate_left
  · have hf : eqI e' 0 = false := by rw [eqI_eq]; simpa using he0
    simp +contextual -implicitDefEqProofs only [K47, SS, reduceAdd,reduceSub,reduceLeDiff,reduceEqDiff,reduceCtorEq, ho', rdC, hf]
    exact WC.leave (hend st' i' e' hr hi' (fun h0 => absurd h0 he0) (by rw [if_neg he0]; exact hLo.bad he0))
  subst he0
  have body : ∀ (st1 : St), Rd B L o st1 i' d 0 → (!first && eatB L i' s) = false → WC (fun n => exec (callF tbl n) n ((ACode.blk 1 (a47s9.seq (a47s11.seq (a47s13.seq (a47s20.seq a47s22))))).seq a47s29) [.ptr o 0, .str s, .list true [], .list true (fs.map FDef.row), .bool first, v5] st1)
      (LQ (fun mm fr st' => ∃ (i' : Nat) (e' : Int) (fs : List FDef) (first : Bool) (v5 : AV), Rd B L o st' i' d e' ∧ i ≤ i' ∧ (first = false → e' = 0 → e = 0 ∧ i < i') ∧ (first = true → e' = e) ∧ (∀ f ∈ fs, f.OK) ∧ mm = rem L i' e' ∧ fs.length + mm ≤ L.length ∧ LoopAt (stepI L s f) w i' (first, fs) e' ∧ fr = [.ptr o 0, .str s, .list true [], .list true (fs.map FDef.row), .bool first, v5]) mm (fun n => seqC (blkC 0 some) (exec (callF tbl n) n (a47s36.seq ACode.ret))) (fun o_1 => ∃ r st', finK [ResK.v 2] (some o_1) = some (r, st') ∧ ∃ fs : List FDef, r = .list false (fs.map FDef.row) ∧ fs.length ≤ 3000 ∧ (∀ f ∈ fs, f.OK) ∧ AdvX B L o i d e (inputsP L s f i) fs st')) := by
    intro st1 h1 hE1
    simp +contextual -implicitDefEqProofs only [K47, SS, reduceAdd,reduceSub,reduceLeDiff,reduceEqDiff,reduceCtorEq]
    refine WC.call (name_q h1) rfl rfl ?_
    rintro _ st2 ⟨t, rfl, i2, e2, h2, h2a, h2b, hX2⟩
    simp +contextual -implicitDefEqProofs only [K47, SS, reduceAdd,reduceSub,reduceLeDiff,reduceEqDiff,reduceCtorEq]
    refine WC.call (must_q h2 _) rfl rfl ?_
    rintro _ st3 ⟨i3, e3, h3, h3a, h3b, hX3⟩
    simp +contextual -implicitDefEqProofs only [K47, SS, reduceAdd,reduceSub,reduceLeDiff,reduceEqDiff,reduceCtorEq]
    refine WC.call (type_q L o f h3 hd hd2) rfl rfl ?_
    rintro _ st4 ⟨tr, rfl, i4, e4, h4, h4a, h4b, hX4⟩
    obtain ⟨tn, txs, tb, etr⟩ := tr.row_cells
    have hS : stepI L s f i' (first, fs) = if e4 = 0 then (if eatB L i4 [61] then (match valueP L f (i4 + 1) with
          | none => none
          | some (v, i5) => some (false, i5, (false, fs ++ [.mk t [] tr true v])))
        else some (false, i4, (false, fs ++ [.mk t [] tr false Val.none]))) else none := by
      rw [stepI, hE1, if_neg (by decide), hX2 rfl]
      by_cases h0 : e2 = 0
      · rw [if_pos h0]; dsimp only; rw [hX3 h0]
        by_cases h1 : e3 = 0
        · rw [if_pos h1]; dsimp only; rw [hX4 h1]
          by_cases h2 : e4 = 0
          · rw [if_pos h2, if_pos h2]
          · rw [if_neg h2, if_neg h2]
        · rw [if_neg h1, if_neg (fun h => h1 (h4b h).1)]
      · rw [if_neg h0, if_neg (fun h => h0 (h3b (h4b h).1).1)]
    simp +contextual -implicitDefEqProofs only [K47, SS, reduceAdd,reduceSub,reduceLeDiff,reduceEqDiff,reduceCtorEq, etr]
    refine WC.call (eat_q h4 _) rfl rfl ?_
    rintro _ st5 (⟨rfl, rfl, hE5⟩ | ⟨rfl, rfl, h5, hE5⟩)
    · simp +contextual -implicitDefEqProofs only [K47, SS, reduceAdd,reduceSub,reduceLeDiff,reduceEqDiff,reduceCtorEq]
      have hlt : rem L i4 e4 < rem L i' 0 := rem_lt rfl hr.hi (fun h0 => by
        have a4 : e4 = 0 := h0
        have := h4b a4
        have := h3b this.1
        have := h2b this.1
        omega)
      have hfr : (fs.length + 1) * 176 ≤ 2 ^ 47 := by omega
      simp +contextual -implicitDefEqProofs only [K47, SS, reduceAdd,reduceSub,reduceLeDiff,reduceEqDiff,reduceCtorEq, rowsF, List.length_map, hfr]
      refine WC.next (m' := rem L i4 e4) (by omega) ⟨i4, e4, fs ++ [.mk t [] tr false Val.none], false, .box [.str t, .list true [], .str tn, .list false txs, .bool tb, .bool false, .int .u8 0, .int .i64 0, .str [], .list true [], .list true []], h4, by omega, fun _ h0 => ?_, by simp, fun f hf => ?_, rfl, by simp only [List.length_append, List.length_cons, List.length_nil]; omega, hLo.next (by omega) (fun h0 => by have := h4b h0; have := h3b this.1; have := h2b this.1; omega) ?_, ?_⟩
      · have a4 : e4 = 0 := h0
        have b4 := h4b a4
        have b3 := h3b b4.1
        have b2 := h2b b3.1
        refine ⟨?_, by omega⟩
        cases first with
        | true => exact (hfe rfl).symm
        | false => exact (he' rfl rfl).1
      · rcases List.mem_append.1 hf with h0 | h0
        · exact hfs f h0
        · simp at h0; subst h0; exact .mk _ _ _ _ _ Val.none_ok (by simp) (by simp)
      · rw [hS]
        by_cases h0 : e4 = 0
        · rw [if_pos h0, if_pos h0, hE5 h0]; rfl
        · rw [if_neg h0, if_neg h0]
      · simp only [List.map_append, List.map_cons, List.map_nil, FDef.row_mk etr Val.none_row]
    · simp +contextual -implicitDefEqProofs only [K47, SS, reduceAdd,reduceSub,reduceLeDiff,reduceEqDiff,reduceCtorEq]
      refine WC.call (value_q L o f h5 hd hd2) rfl rfl ?_
      rintro _ st6 ⟨v, hv, rfl, i6, e6, h6, h6a, h6b, hX6⟩
      obtain ⟨vk, vn, vs, vx, vy, ev⟩ := v.row_cells
      simp +contextual -implicitDefEqProofs only [K47, SS, reduceAdd,reduceSub,reduceLeDiff,reduceEqDiff,reduceCtorEq, ev]
      have hlt : rem L i6 e6 < rem L i' 0 := rem_lt rfl hr.hi (fun h0 => by
        have a4 : (0 : Int) = 0 := rfl
        have := h4b a4
        have := h3b this.1
        have := h2b this.1
        omega)
      have hfr : (fs.length + 1) * 176 ≤ 2 ^ 47 := by omega
      simp +contextual -implicitDefEqProofs only [K47, SS, reduceAdd,reduceSub,reduceLeDiff,reduceEqDiff,reduceCtorEq, rowsF, List.length_map, hfr]
      refine WC.next (m' := rem L i6 e6) (by omega) ⟨i6, e6, fs ++ [.mk t [] tr true v], false, .box [.str t, .list true [], .str tn, .list false txs, .bool tb, .bool true, .int .u8 vk, .int .i64 vn, .str vs, .list false vx, .list false vy], h6, by omega, fun _ h0 => ?_, by simp, fun f hf => ?_, rfl, by simp only [List.length_append, List.length_cons, List.length_nil]; omega, hLo.next (by omega) (fun h0 => by have := h4b rfl; have := h3b this.1; have := h2b this.1; omega) ?_, ?_⟩
      · have a4 : (0 : Int) = 0 := rfl
        have b4 := h4b a4
        have b3 := h3b b4.1
        have b2 := h2b b3.1
        refine ⟨?_, by omega⟩
        cases first with
        | true => exact (hfe rfl).symm
        | false => exact (he' rfl rfl).1
      · rcases List.mem_append.1 hf with h0 | h0
        · exact hfs f h0
        · simp at h0; subst h0; exact .mk _ _ _ _ _ hv (by simp) (by simp)
      · rw [hS, if_pos rfl, hE5, if_pos rfl, hX6 rfl]
        by_cases h0 : e6 = 0
        · rw [if_pos h0, if_pos h0]
        · rw [if_neg h0, if_neg h0]
      · simp only [List.map_append, List.map_cons, List.map_nil, FDef.row_mk etr ev]
  cases first with
  | true =>
    simp +contextual -implicitDefEqProofs only [K47, SS, reduceAdd,reduceSub,reduceLeDiff,reduceEqDiff,reduceCtorEq, ho', rdC, show eqI 0 0 = true from rfl]
    have := body st' hr rfl
    simp +contextual -implicitDefEqProofs only [K47, SS, reduceAdd,reduceSub,reduceLeDiff,reduceEqDiff,reduceCtorEq] at this ⊢
    exact this
  | false =>
    simp +contextual -implicitDefEqProofs only [K47, SS, reduceAdd,reduceSub,reduceLeDiff,reduceEqDiff,reduceCtorEq, ho', rdC, show eqI 0 0 = true from rfl]
    refine WC.call (eat_q hr _) rfl rfl ?_
    rintro _ st3 (⟨rfl, rfl, hE⟩ | ⟨rfl, _, h3, hE⟩)
    · have := body st3 hr (by rw [hE rfl]; rfl)
      simp +contextual -implicitDefEqProofs only [K47, SS, reduceAdd,reduceSub,reduceLeDiff,reduceEqDiff,reduceCtorEq] at this ⊢
      exact this
    · simp +contextual -implicitDefEqProofs only [K47, SS, reduceAdd,reduceSub,reduceLeDiff,reduceEqDiff,reduceCtorEq]
      exact WC.leave (hend st3 (i' + 1) 0 h3 (by omega) (fun _ => ⟨(he' rfl rfl).1, by omega⟩) (by rw [if_pos rfl]; exact hLo.exit (by omega) (by rw [stepI, hE]; rfl)))
end Go.Cb.CodeA
set_option maxRecDepth 20000
set_option linter.unusedSimpArgs false
set_option linter.unusedVariables false
namespace Go.Cb.CodeA
open Go Go.Cb
open Nat (reduceAdd reduceSub reduceLeDiff reduceEqDiff)
attribute [local congr] obind_congr gv_congr2 gv2_congr brT_congr seqK_congr blkK_congr m1_congr gm_congr
variable {B : St}

/-- a declaration -/
structure TDef where
  k : Int
  n : List Nat
  fs : List FDef
  ns : List (List Nat)
def TDef.row (t : TDef) : List AV := [.int .u8 t.k, .str t.n, .list false (t.fs.map FDef.row), .list false (t.ns.map strRow)]
structure TDef.OK (t : TDef) : Prop where
  lf : t.fs.length ≤ 3000
  ln : t.ns.length ≤ 3000
  fs : ∀ f ∈ t.fs, f.OK
  un : t.k = 3 → t.fs = []
abbrev bx1 : AV := .box [.int .u8 0, .str [], .list true [], .list true []]
def decQ (B : St) (L : List Tok) (o i : Nat) (d : Int) (X : Option (TDef × Nat)) (o_1 : Out) : Prop := ∃ r st', finK [ResK.bx 1 true 4] (some o_1) = some (r, st') ∧ ∃ t : TDef, t.OK ∧ r = .agg t.row ∧ AdvX B L o i d 0 X t st'

/-- how each kind of declaration is read -/
def unionP (L : List Tok) (k : Int) (n : List Nat) (i : Nat) : Option (TDef × Nat) := match mustP L [61] i with
  | none => none
  | some i3 => match namesP L [124] i3 with
    | none => none
    | some (ks, j) => some (⟨k, n, [], ks⟩, j)
def inputP (L : List Tok) (f : Nat) (k : Int) (n : List Nat) (i : Nat) : Option (TDef × Nat) := match mustP L [123] i with
  | none => none
  | some i3 => match inputsP L [125] f i3 with
    | none => none
    | some (fs, j) => some (⟨k, n, fs, []⟩, j)
def enumStep (L : List Tok) (i : Nat) (x : Bool × List (List Nat)) : Option (Bool × Nat × (Bool × List (List Nat))) := if !x.1 && eatB L i [125] then some (true, i + 1, x)
  else (if wordB L i [116, 114, 117, 101] || wordB L i [102, 97, 108, 115, 101] || wordB L i [110, 117, 108, 108] then none else (match nameP L i with
    | none => none
    | some (n, j) => some (false, j, (false, x.2 ++ [n]))))
def enumX (k : Int) (n : List Nat) (w : Option ((Bool × List (List Nat)) × Nat)) : Option (TDef × Nat) := match w with
  | none => none
  | some (x, j) => some (⟨k, n, [], x.2⟩, j)
def enumP (L : List Tok) (k : Int) (n : List Nat) (i : Nat) : Option (TDef × Nat) := match mustP L [123] i with
  | none => none
  | some i3 => enumX k n (loopP (enumStep L) 2002 i3 (true, []))
def argsP (L : List Tok) (f : Nat) (i : Nat) : Option (List FDef × Nat) := if eatB L i [40] then inputsP L [41] f (i + 1) else some ([], i)
def fieldStep (L : List Tok) (f : Nat) (i : Nat) (x : Bool × List FDef) : Option (Bool × Nat × (Bool × List FDef)) := if !x.1 && eatB L i [125] then some (true, i + 1, x)
  else (match nameP L i with
    | none => none
    | some (n, i2) => match argsP L f i2 with
      | none => none
      | some (as, i3) => match mustP L [58] i3 with
        | none => none
        | some i4 => match typeP L f i4 with
          | none => none
          | some (t, j) => some (false, j, (false, x.2 ++ [.mk n as t false Val.none])))
def fieldX (k : Int) (n : List Nat) (ns : List (List Nat)) (w : Option ((Bool × List FDef) × Nat)) : Option (TDef × Nat) := match w with
  | none => none
  | some (x, j) => some (⟨k, n, x.2, ns⟩, j)
def implP (L : List Tok) (k : Int) (i : Nat) : Option (List (List Nat) × Nat) := if eqI k 1 && eatB L i [105, 109, 112, 108, 101, 109, 101, 110, 116, 115] then namesP L [38] (i + 1) else some ([], i)
def fieldsP (L : List Tok) (f : Nat) (k : Int) (n : List Nat) (i : Nat) : Option (TDef × Nat) := match implP L k i with
  | none => none
  | some (ns, i3) => match mustP L [123] i3 with
    | none => none
    | some i4 => fieldX k n ns (loopP (fieldStep L f) 2002 i4 (true, []))

theorem dec_fin {L : List Tok} {o i : Nat} {d : Int} {X : Option (TDef × Nat)} (k : Int) (n : List Nat) (fs : List FDef) (ns : List (List Nat)) (w w' : Bool) (v3 v4 v5 v6 : AV) (st : St) (hf : fs.length ≤ 3000) (hn : ns.length ≤ 3000) (h : ∀ f ∈ fs, f.OK) (hu : k = 3 → fs = []) (ha : AdvX B L o i d 0 X ⟨k, n, fs, ns⟩ st) :
    WC (fun n' => exec (callF tbl n') n' (a27s114.seq ACode.ret) [.ptr o 0, bx1, .box [.int .u8 k, .str n, .list w (fs.map FDef.row), .list w' (ns.map strRow)], v3, v4, v5, v6] st) (decQ B L o i d X) := by
  simp +contextual -implicitDefEqProofs only [K27, SS, reduceAdd,reduceSub,reduceLeDiff,reduceEqDiff,reduceCtorEq]
  exact WC.ret ⟨_, _, rfl, ⟨k, n, fs, ns⟩, ⟨hf, hn, h, hu⟩, rfl, ha⟩

theorem dec_union {L : List Tok} {o i : Nat} {d : Int} {X : Option (TDef × Nat)} {f : Nat} (hd : 0 ≤ d) (hd2 : d + f = 24) (n : List Nat) (st : St) (i1 : Nat) (e1 : Int) (h1 : Rd B L o st i1 d e1) (hi1 : i ≤ i1) (he1 : e1 = 0 → i < i1) (k : Int) (hX : X = if e1 = 0 then unionP L k n i1 else none) (v6 : AV) :
    WC (fun n' => exec (callF tbl n') n' ((ACode.blk 1 a27s42).seq (a27s114.seq ACode.ret)) [.ptr o 0, bx1, .box [.int .u8 k, .str n, .list true [], .list true []], .undef, .undef, .undef, v6] st) (decQ B L o i d X) := by
  simp +contextual -implicitDefEqProofs only [K27, SS, reduceAdd,reduceSub,reduceLeDiff,reduceEqDiff,reduceCtorEq]
  refine WC.call (must_q h1 _) rfl rfl ?_
  rintro _ st2 ⟨i2, e2, h2, h2a, h2b, hX2⟩
  simp +contextual -implicitDefEqProofs only [K27, SS, reduceAdd,reduceSub,reduceLeDiff,reduceEqDiff,reduceCtorEq]
  refine WC.call (names_q h2 _) rfl rfl ?_
  rintro _ st3 ⟨ks, rfl, hks, i3, e3, h3, h3a, h3b, hX3⟩
  simp +contextual -implicitDefEqProofs only [K27, SS, reduceAdd,reduceSub,reduceLeDiff,reduceEqDiff,reduceCtorEq]
  have := dec_fin (L := L) (o := o) (i := i) (d := d) (X := X) k n [] ks true false .undef .undef .undef v6 st3 (by simp) hks (by simp) (fun _ => rfl) ⟨i3, e3, h3, by omega, (fun h0 => ⟨rfl, by have := h3b h0; omega⟩), fun _ => by
    rw [hX]
    by_cases z1 : e1 = 0
    · rw [if_pos z1, unionP, hX2 z1]
      by_cases z2 : e2 = 0
      · rw [if_pos z2]; dsimp only; rw [hX3 z2]
        by_cases z3 : e3 = 0
        · rw [if_pos z3, if_pos z3]
        · rw [if_neg z3, if_neg z3]
      · rw [if_neg z2, if_neg (fun h => z2 (h3b h).1)]
    · rw [if_neg z1, if_neg (fun h => z1 (h2b (h3b h).1).1)]⟩
  simp +contextual -implicitDefEqProofs only [K27, SS, reduceAdd,reduceSub,reduceLeDiff,reduceEqDiff,reduceCtorEq] at this ⊢
  exact this
theorem dec_input {L : List Tok} {o i : Nat} {d : Int} {X : Option (TDef × Nat)} {f : Nat} (hd : 0 ≤ d) (hd2 : d + f = 24) (n : List Nat) (st : St) (i1 : Nat) (e1 : Int) (h1 : Rd B L o st i1 d e1) (hi1 : i ≤ i1) (he1 : e1 = 0 → i < i1) (k : Int) (hk3 : k ≠ 3) (hX : X = if e1 = 0 then inputP L f k n i1 else none) (v6 : AV) :
    WC (fun n' => exec (callF tbl n') n' ((ACode.blk 1 a27s71).seq (a27s114.seq ACode.ret)) [.ptr o 0, bx1, .box [.int .u8 k, .str n, .list true [], .list true []], .undef, .undef, .undef, v6] st) (decQ B L o i d X) := by
  simp +contextual -implicitDefEqProofs only [K27, SS, reduceAdd,reduceSub,reduceLeDiff,reduceEqDiff,reduceCtorEq]
  refine WC.call (must_q h1 _) rfl rfl ?_
  rintro _ st2 ⟨i2, e2, h2, h2a, h2b, hX2⟩
  simp +contextual -implicitDefEqProofs only [K27, SS, reduceAdd,reduceSub,reduceLeDiff,reduceEqDiff,reduceCtorEq]
  refine WC.call (inputs_q h2 hd hd2 _) rfl rfl ?_
  rintro _ st3 ⟨fs, rfl, hfs, hok, i3, e3, h3, h3a, h3b, hX3⟩
  simp +contextual -implicitDefEqProofs only [K27, SS, reduceAdd,reduceSub,reduceLeDiff,reduceEqDiff,reduceCtorEq]
  have := dec_fin (L := L) (o := o) (i := i) (d := d) (X := X) k n fs [] false true .undef .undef .undef v6 st3 hfs (by simp) hok (fun h => absurd h hk3) ⟨i3, e3, h3, by omega, (fun h0 => ⟨rfl, by have := h3b h0; omega⟩), fun _ => by
    rw [hX]
    by_cases z1 : e1 = 0
    · rw [if_pos z1, inputP, hX2 z1]
      by_cases z2 : e2 = 0
      · rw [if_pos z2]; dsimp only; rw [hX3 z2]
        by_cases z3 : e3 = 0
        · rw [if_pos z3, if_pos z3]
        · rw [if_neg z3, if_neg z3]
      · rw [if_neg z2, if_neg (fun h => z2 (h3b h).1)]
    · rw [if_neg z1, if_neg (fun h => z1 (h2b (h3b h).1).1)]⟩
  simp +contextual -implicitDefEqProofs only [K27, SS, reduceAdd,reduceSub,reduceLeDiff,reduceEqDiff,reduceCtorEq] at this ⊢
  exact this
def enumI (B : St) (L : List Tok) (o i : Nat) (d : Int) (w : Option ((Bool × List (List Nat)) × Nat)) (n : List Nat) (k : Int) (v6 : AV) (mm : Nat) (fr : List AV) (st : St) : Prop := ∃ (i' : Nat) (e' : Int) (ns : List (List Nat)) (first : Bool), Rd B L o st i' d e' ∧ i ≤ i' ∧ (e' = 0 → i < i') ∧ mm = rem L i' e' ∧ ns.length + mm ≤ L.length ∧ LoopAt (enumStep L) w i' (first, ns) e' ∧
  fr = [.ptr o 0, bx1, .box [.int .u8 k, .str n, .list true [], .list true (ns.map strRow)], .bool first, .undef, .undef, v6]
theorem enum_end {L : List Tok} {o i : Nat} {d : Int} {X : Option (TDef × Nat)} {w : Option ((Bool × List (List Nat)) × Nat)} {n : List Nat} {k : Int} (hX : X = enumX k n w) {v6 : AV} {ns : List (List Nat)} (hns : ns.length ≤ 3000) {b : Bool} {st : St} {i' : Nat} {e' : Int} (h : Rd B L o st i' d e') (hi : i ≤ i') (he : e' = 0 → i < i') (hw : w = if e' = 0 then some ((b, ns), i') else none) :
    WC (fun n' => seqC (blkC 1 (blkC 4 some)) (exec (callF tbl n') n' (a27s114.seq ACode.ret)) (.exit 4, [.ptr o 0, bx1, .box [.int .u8 k, .str n, .list true [], .list true (ns.map strRow)], .bool b, .undef, .undef, v6], st)) (decQ B L o i d X) := by
  simp +contextual -implicitDefEqProofs only [K27, SS, reduceAdd,reduceSub,reduceLeDiff,reduceEqDiff,reduceCtorEq]
  have := dec_fin (L := L) (o := o) (i := i) (d := d) (X := X) k n [] ns true true (.bool b) .undef .undef v6 st (by simp) hns (by simp) (fun _ => rfl) ⟨i', e', h, hi, (fun h0 => ⟨rfl, he h0⟩), fun _ => by
    rw [hX, hw]
    by_cases z : e' = 0
    · rw [if_pos z, if_pos z]; rfl
    · rw [if_neg z, if_neg z]; rfl⟩
  simp +contextual -implicitDefEqProofs only [K27, SS, reduceAdd,reduceSub,reduceLeDiff,reduceEqDiff,reduceCtorEq] at this ⊢
  exact this
theorem enum_cont {L : List Tok} {o i : Nat} {d : Int} {X : Option (TDef × Nat)} {w : Option ((Bool × List (List Nat)) × Nat)} {n : List Nat} {k : Int} {v6 : AV} {ns : List (List Nat)} {mm : Nat} (hlen : ns.length + mm ≤ L.length) {b : Bool} {st : St} {i' : Nat} {e' : Int} (h : Rd B L o st i' d e') (hi : i ≤ i') (hmm : mm = rem L i' 0) (hLo : LoopAt (enumStep L) w i' (b, ns) 0) (hS : enumStep L i' (b, ns) = if e' = 0 then (match nameP L i' with | none => none | some (n, j) => some (false, j, (false, ns ++ [n]))) else none) :
    WC (fun n' => exec (callF tbl n') n' ((ACode.blk 5 a27s55).seq a27s59) [.ptr o 0, bx1, .box [.int .u8 k, .str n, .list true [], .list true (ns.map strRow)], .bool b, .undef, .undef, v6] st)
      (LQ (enumI B L o i d w n k v6) mm (fun n' => seqC (blkC 1 (blkC 4 some)) (exec (callF tbl n') n' (a27s114.seq ACode.ret))) (decQ B L o i d X)) := by
  have hl := h.hL.2
  have hii := h.hi
  simp +contextual -implicitDefEqProofs only [K27, SS, reduceAdd,reduceSub,reduceLeDiff,reduceEqDiff,reduceCtorEq]
  refine WC.call (name_q h) rfl rfl ?_
  rintro _ st4 ⟨t, rfl, i4, e4, h4, h4a, h4b, hX4⟩
  have hlt : rem L i4 e4 < rem L i' 0 := rem_lt rfl h.hi (fun h0 => (h4b h0).2)
  have hkr : (ns.length + 1) * 16 ≤ 2 ^ 47 := by omega
  simp +contextual -implicitDefEqProofs only [K27, SS, reduceAdd,reduceSub,reduceLeDiff,reduceEqDiff,reduceCtorEq, rowsStr, List.length_map, hkr]
  exact WC.next (m' := rem L i4 e4) (by omega) ⟨i4, e4, ns ++ [t], false, h4, by omega, fun h0 => by have := h4b h0; omega, rfl, by simp only [List.length_append, List.length_cons, List.length_nil]; omega, hLo.next (by omega) (fun h0 => (h4b h0).2) (by
    rw [hS]
    by_cases z : e' = 0
    · rw [if_pos z, hX4 z]
      by_cases z4 : e4 = 0
      · rw [if_pos z4, if_pos z4]
      · rw [if_neg z4, if_neg z4]
    · rw [if_neg z, if_neg (fun h => z (h4b h).1)]), by simp only [List.map_append]; rfl⟩
theorem enum_body {L : List Tok} {o i : Nat} {d : Int} {X : Option (TDef × Nat)} {w : Option ((Bool × List (List Nat)) × Nat)} {n : List Nat} {k : Int} {v6 : AV} {ns : List (List Nat)} {mm : Nat} (hlen : ns.length + mm ≤ L.length) {b : Bool} {st : St} {i' : Nat} (h : Rd B L o st i' d 0) (hi : i ≤ i') (hmm : mm = rem L i' 0) (hLo : LoopAt (enumStep L) w i' (b, ns) 0) (hE : (!b && eatB L i' [125]) = false) :
    WC (fun n' => exec (callF tbl n') n' ((ACode.blk 5 (a27s53.seq a27s55)).seq a27s59) [.ptr o 0, bx1, .box [.int .u8 k, .str n, .list true [], .list true (ns.map strRow)], .bool b, .undef, .undef, v6] st)
      (LQ (enumI B L o i d w n k v6) mm (fun n' => seqC (blkC 1 (blkC 4 some)) (exec (callF tbl n') n' (a27s114.seq ACode.ret))) (decQ B L o i d X)) := by
  have hc : ∀ {st : St} {e' : Int}, Rd B L o st i' d e' → _ → _ := fun {st} {e'} h hS => enum_cont (L := L) (o := o) (i := i) (d := d) (X := X) (w := w) (n := n) (k := k) (v6 := v6) (ns := ns) (mm := mm) hlen (b := b) (st := st) (i' := i') (e' := e') h hi hmm hLo hS
  have hS0 : enumStep L i' (b, ns) = if wordB L i' [116, 114, 117, 101] || wordB L i' [102, 97, 108, 115, 101] || wordB L i' [110, 117, 108, 108] then none else (match nameP L i' with
    | none => none
    | some (n, j) => some (false, j, (false, ns ++ [n]))) := by
    rw [enumStep, hE, if_neg (by decide)]
  have fault : ∀ {st : St}, Rd B L o st i' d 0 → (wordB L i' [116, 114, 117, 101] || wordB L i' [102, 97, 108, 115, 101] || wordB L i' [110, 117, 108, 108]) = true → WC (fun n' => exec (callF tbl n') n' ((ACode.blk 5 (a27s52.seq a27s55)).seq a27s59) [.ptr o 0, bx1, .box [.int .u8 k, .str n, .list true [], .list true (ns.map strRow)], .bool b, .undef, .undef, v6] st)
      (LQ (enumI B L o i d w n k v6) mm (fun n' => seqC (blkC 1 (blkC 4 some)) (exec (callF tbl n') n' (a27s114.seq ACode.ret))) (decQ B L o i d X)) := by
    intro st h hb
    simp +contextual -implicitDefEqProofs only [K27, SS, reduceAdd,reduceSub,reduceLeDiff,reduceEqDiff,reduceCtorEq]
    refine WC.call (fault_q h 4 (by decide)) rfl rfl ?_
    rintro _ st1 ⟨e1, h1, hne⟩
    have := hc h1 (by rw [hS0, hb, if_pos rfl, if_neg hne])
    simp +contextual -implicitDefEqProofs only [K27, SS, reduceAdd,reduceSub,reduceLeDiff,reduceEqDiff,reduceCtorEq] at this ⊢
    exact this
  simp +contextual -implicitDefEqProofs only [K27, SS, reduceAdd,reduceSub,reduceLeDiff,reduceEqDiff,reduceCtorEq]
  refine WC.call (word_q h _) rfl rfl ?_
  rintro _ _ ⟨rfl, b1, rfl, _, w1⟩
  have w1 := w1 rfl
  cases b1 with
  | true =>
    have := fault h (by rw [← w1]; rfl)
    simp +contextual -implicitDefEqProofs only [K27, SS, reduceAdd,reduceSub,reduceLeDiff,reduceEqDiff,reduceCtorEq] at this ⊢
    exact this
  | false =>
  simp +contextual -implicitDefEqProofs only [K27, SS, reduceAdd,reduceSub,reduceLeDiff,reduceEqDiff,reduceCtorEq]
  refine WC.call (word_q h _) rfl rfl ?_
  rintro _ _ ⟨rfl, b1, rfl, _, w2⟩
  have w2 := w2 rfl
  cases b1 with
  | true =>
    have := fault h (by rw [← w1, ← w2]; rfl)
    simp +contextual -implicitDefEqProofs only [K27, SS, reduceAdd,reduceSub,reduceLeDiff,reduceEqDiff,reduceCtorEq] at this ⊢
    exact this
  | false =>
  simp +contextual -implicitDefEqProofs only [K27, SS, reduceAdd,reduceSub,reduceLeDiff,reduceEqDiff,reduceCtorEq]
  refine WC.call (word_q h _) rfl rfl ?_
  rintro _ _ ⟨rfl, b1, rfl, _, w3⟩
  have w3 := w3 rfl
  cases b1 with
  | true =>
    have := fault h (by rw [← w1, ← w2, ← w3]; rfl)
    simp +contextual -implicitDefEqProofs only [K27, SS, reduceAdd,reduceSub,reduceLeDiff,reduceEqDiff,reduceCtorEq] at this ⊢
    exact this
  | false =>
    have := hc h (by rw [hS0, ← w1, ← w2, ← w3, if_neg (by decide), if_pos rfl])
    simp +contextual -implicitDefEqProofs only [K27, SS, reduceAdd,reduceSub,reduceLeDiff,reduceEqDiff,reduceCtorEq] at this ⊢
    exact this
theorem dec_enum {L : List Tok} {o i : Nat} {d : Int} {X : Option (TDef × Nat)} {f : Nat} (hd : 0 ≤ d) (hd2 : d + f = 24) (n : List Nat) (st : St) (i1 : Nat) (e1 : Int) (h1 : Rd B L o st i1 d e1) (hi1 : i ≤ i1) (he1 : e1 = 0 → i < i1) (k : Int) (hX : X = if e1 = 0 then enumP L k n i1 else none) (v6 : AV) :
    WC (fun n' => exec (callF tbl n') n' ((ACode.blk 1 a27s65).seq (a27s114.seq ACode.ret)) [.ptr o 0, bx1, .box [.int .u8 k, .str n, .list true [], .list true []], .undef, .undef, .undef, v6] st) (decQ B L o i d X) := by
  have hl := h1.hL.2
  simp +contextual -implicitDefEqProofs only [K27, SS, reduceAdd,reduceSub,reduceLeDiff,reduceEqDiff,reduceCtorEq]
  refine WC.call (must_q h1 _) rfl rfl ?_
  rintro _ st2 ⟨i2, e2, h2, h2a, h2b, hX2⟩
  simp +contextual -implicitDefEqProofs only [K27, SS, reduceAdd,reduceSub,reduceLeDiff,reduceEqDiff,reduceCtorEq]
  have hXw : X = enumX k n (if e2 = 0 then loopP (enumStep L) 2002 i2 (true, []) else none) := by
    rw [hX]
    by_cases z1 : e1 = 0
    · rw [if_pos z1, enumP, hX2 z1]
      by_cases z2 : e2 = 0
      · rw [if_pos z2, if_pos z2]
      · rw [if_neg z2, if_neg z2]; rfl
    · rw [if_neg z1, if_neg (fun h => z1 (h2b h).1)]; rfl
  revert hXw
  generalize hgw : (if e2 = 0 then loopP (enumStep L) 2002 i2 (true, []) else none) = w
  intro hXw
  refine WC.loopR (enumI B L o i d w n k v6) (m := rem L i2 e2) ⟨i2, e2, [], true, h2, by omega, fun h0 => by have := h2b h0; omega, rfl, by simpa using rem_le L i2 e2, LoopAt.start _ _ _ _ hgw.symm, rfl⟩ ?_
  rintro mm fr st' ⟨i', e', ns, first, hr, hi', he', hmm, hlen, hLo, rfl⟩
  obtain ⟨bad', ho'⟩ := hr.ob
  have hii := hr.hi
  by_cases he0 : e' = 0
  rotate_left
  · have hf : eqI e' 0 = false := by rw [eqI_eq]; simpa using he0
    simp +contextual -implicitDefEqProofs only [K27, SS, reduceAdd,reduceSub,reduceLeDiff,reduceEqDiff,reduceCtorEq, ho', rdC, hf]
    exact WC.leave (enum_end hXw (by omega) hr hi' he' (by rw [if_neg he0]; exact hLo.bad he0))
  subst he0
  have body := fun {st : St} (h : Rd B L o st i' d 0) hE => enum_body (L := L) (o := o) (i := i) (d := d) (X := X) (w := w) (n := n) (k := k) (v6 := v6) hlen (b := first) h hi' hmm hLo hE
  cases first with
  | true =>
    simp +contextual -implicitDefEqProofs only [K27, SS, reduceAdd,reduceSub,reduceLeDiff,reduceEqDiff,reduceCtorEq, ho', rdC, show eqI 0 0 = true from rfl]
    have := body hr rfl
    simp +contextual -implicitDefEqProofs only [K27, SS, reduceAdd,reduceSub,reduceLeDiff,reduceEqDiff,reduceCtorEq] at this ⊢
    exact this
  | false =>
    simp +contextual -implicitDefEqProofs only [K27, SS, reduceAdd,reduceSub,reduceLeDiff,reduceEqDiff,reduceCtorEq, ho', rdC, show eqI 0 0 = true from rfl]
    refine WC.call (eat_q hr _) rfl rfl ?_
    rintro _ st3 (⟨rfl, rfl, hE⟩ | ⟨rfl, _, h3, hE⟩)
    · simp +contextual -implicitDefEqProofs only [K27, SS, reduceAdd,reduceSub,reduceLeDiff,reduceEqDiff,reduceCtorEq]
      have := body hr (by rw [hE rfl]; rfl)
      simp +contextual -implicitDefEqProofs only [K27, SS, reduceAdd,reduceSub,reduceLeDiff,reduceEqDiff,reduceCtorEq] at this ⊢
      exact this
    · simp +contextual -implicitDefEqProofs only [K27, SS, reduceAdd,reduceSub,reduceLeDiff,reduceEqDiff,reduceCtorEq]
      exact WC.leave (enum_end hXw (by omega) h3 (by omega) (fun _ => by omega) (by rw [if_pos rfl]; exact hLo.exit (by omega) (by rw [enumStep, hE]; rfl)))

def fieldI (B : St) (L : List Tok) (o i : Nat) (d : Int) (f : Nat) (w : Option ((Bool × List FDef) × Nat)) (n : List Nat) (k : Int) (v6 : AV) (w' : Bool) (ns : List (List Nat)) (mm : Nat) (fr : List AV) (st : St) : Prop := ∃ (i' : Nat) (e' : Int) (fs : List FDef) (first : Bool) (v5 : AV), Rd B L o st i' d e' ∧ i ≤ i' ∧ (e' = 0 → i < i') ∧ (∀ f ∈ fs, f.OK) ∧ mm = rem L i' e' ∧ fs.length + mm ≤ L.length ∧ LoopAt (fieldStep L f) w i' (first, fs) e' ∧
  fr = [.ptr o 0, bx1, .box [.int .u8 k, .str n, .list true (fs.map FDef.row), .list w' (ns.map strRow)], .undef, .bool first, v5, v6]
abbrev fieldK (tbl : Nat → Option AFn) (n' : Nat) (o : Out) : Option Out := seqC (blkC 1 (blkC 2 some)) (exec (callF tbl n') n' (a27s114.seq ACode.ret)) o
theorem field_end {L : List Tok} {o i : Nat} {d : Int} {X : Option (TDef × Nat)} {w : Option ((Bool × List FDef) × Nat)} {n : List Nat} {k : Int} {ns : List (List Nat)} (hX : X = fieldX k n ns w) (hk3 : k ≠ 3) {v6 : AV} {w' : Bool} {fs : List FDef} (hns : ns.length ≤ 3000) (hfs : fs.length ≤ 3000) (hok : ∀ f ∈ fs, f.OK) {b : Bool} {v5 : AV} {st : St} {i' : Nat} {e' : Int} (h : Rd B L o st i' d e') (hi : i ≤ i') (he : e' = 0 → i < i') (hw : w = if e' = 0 then some ((b, fs), i') else none) :
    WC (fun n' => fieldK tbl n' (.exit 2, [.ptr o 0, bx1, .box [.int .u8 k, .str n, .list true (fs.map FDef.row), .list w' (ns.map strRow)], .undef, .bool b, v5, v6], st)) (decQ B L o i d X) := by
  simp +contextual -implicitDefEqProofs only [K27, SS, reduceAdd,reduceSub,reduceLeDiff,reduceEqDiff,reduceCtorEq, fieldK]
  have := dec_fin (L := L) (o := o) (i := i) (d := d) (X := X) k n fs ns true w' .undef (.bool b) v5 v6 st hfs hns hok (fun h => absurd h hk3) ⟨i', e', h, hi, (fun h0 => ⟨rfl, he h0⟩), fun _ => by
    rw [hX, hw]
    by_cases z : e' = 0
    · rw [if_pos z, if_pos z]; rfl
    · rw [if_neg z, if_neg z]; rfl⟩
  simp +contextual -implicitDefEqProofs only [K27, SS, reduceAdd,reduceSub,reduceLeDiff,reduceEqDiff,reduceCtorEq] at this ⊢
  exact this
theorem field_body {L : List Tok} {o i : Nat} {d : Int} {X : Option (TDef × Nat)} {f : Nat} {w : Option ((Bool × List FDef) × Nat)} (hd : 0 ≤ d) (hd2 : d + f = 24) {n : List Nat} {k : Int} {v6 : AV} {w' : Bool} {ns : List (List Nat)} {fs : List FDef} {mm : Nat} (hok : ∀ f ∈ fs, f.OK) (hlen : fs.length + mm ≤ L.length) {b : Bool} {v5 : AV} {st : St} {i' : Nat} (h : Rd B L o st i' d 0) (hi : i ≤ i') (hmm : mm = rem L i' 0) (hLo : LoopAt (fieldStep L f) w i' (b, fs) 0) (hE : (!b && eatB L i' [125]) = false) :
    WC (fun n' => exec (callF tbl n') n' ((ACode.blk 3 (a27s83.seq (a27s87.seq (a27s89.seq (a27s91.seq a27s93))))).seq a27s100) [.ptr o 0, bx1, .box [.int .u8 k, .str n, .list true (fs.map FDef.row), .list w' (ns.map strRow)], .undef, .bool b, v5, v6] st)
      (LQ (fieldI B L o i d f w n k v6 w' ns) mm (fieldK tbl) (decQ B L o i d X)) := by
  have hl := h.hL.2
  have hii := h.hi
  have tail : ∀ (t : List Nat) (as : List FDef) (wf : Bool) (has : as.length ≤ 3000) (haok : ∀ f ∈ as, f.OK) (st2 : St) (i2 : Nat) (e2 : Int) (h2 : Rd B L o st2 i2 d e2) (h2a : i' ≤ i2) (h2b : e2 = 0 → i' < i2) (hS : fieldStep L f i' (b, fs) = if e2 = 0 then (match mustP L [58] i2 with
        | none => none
        | some i4 => match typeP L f i4 with
          | none => none
          | some (u, j) => some (false, j, (false, fs ++ [.mk t as u false Val.none]))) else none),
      WC (fun n' => exec (callF tbl n') n' ((ACode.blk 3 (a27s89.seq (a27s91.seq a27s93))).seq a27s100) [.ptr o 0, bx1, .box [.int .u8 k, .str n, .list true (fs.map FDef.row), .list w' (ns.map strRow)], .undef, .bool b, .box [.str t, .list wf (as.map FDef.row), .str [], .list true [], .bool false, .bool false, .int .u8 0, .int .i64 0, .str [], .list true [], .list true []], v6] st2)
      (LQ (fieldI B L o i d f w n k v6 w' ns) mm (fieldK tbl) (decQ B L o i d X)) := by
    intro t as wf has haok st2 i2 e2 h2 h2a h2b hS
    simp +contextual -implicitDefEqProofs only [K27, SS, reduceAdd,reduceSub,reduceLeDiff,reduceEqDiff,reduceCtorEq]
    refine WC.call (must_q h2 _) rfl rfl ?_
    rintro _ st3 ⟨i3, e3, h3, h3a, h3b, hX3⟩
    simp +contextual -implicitDefEqProofs only [K27, SS, reduceAdd,reduceSub,reduceLeDiff,reduceEqDiff,reduceCtorEq]
    refine WC.call (type_q L o f h3 hd hd2) rfl rfl ?_
    rintro _ st4 ⟨tr, rfl, i4, e4, h4, h4a, h4b, hX4⟩
    obtain ⟨tn, txs, tb, etr⟩ := tr.row_cells
    have hlt : rem L i4 e4 < rem L i' 0 := rem_lt rfl h.hi (fun h0 => by
      have b4 := h4b h0
      have b3 := h3b b4.1
      have b2 := h2b b3.1
      omega)
    have hfr : (fs.length + 1) * 176 ≤ 2 ^ 47 := by omega
    simp +contextual -implicitDefEqProofs only [K27, SS, reduceAdd,reduceSub,reduceLeDiff,reduceEqDiff,reduceCtorEq, etr, rowsF, List.length_map, hfr]
    refine WC.next (m' := rem L i4 e4) (by omega) ⟨i4, e4, fs ++ [.mk t as tr false Val.none], false, .box [.str t, .list wf (as.map FDef.row), .str tn, .list false txs, .bool tb, .bool false, .int .u8 0, .int .i64 0, .str [], .list true [], .list true []], h4, by omega, fun h0 => ?_, fun f hf => ?_, rfl, by simp only [List.length_append, List.length_cons, List.length_nil]; omega, hLo.next (by omega) (fun h0 => by have b4 := h4b h0; have b3 := h3b b4.1; have b2 := h2b b3.1; omega) ?_, ?_⟩
    · have b4 := h4b h0
      have b3 := h3b b4.1
      have b2 := h2b b3.1
      omega
    · rcases List.mem_append.1 hf with h0 | h0
      · exact hok f h0
      · simp at h0; subst h0; exact .mk _ _ _ _ _ Val.none_ok has haok
    · rw [hS]
      by_cases z2 : e2 = 0
      · rw [if_pos z2, hX3 z2]
        by_cases z3 : e3 = 0
        · rw [if_pos z3]; dsimp only; rw [hX4 z3]
          by_cases z4 : e4 = 0
          · rw [if_pos z4, if_pos z4]
          · rw [if_neg z4, if_neg z4]
        · rw [if_neg z3, if_neg (fun h => z3 (h4b h).1)]
      · rw [if_neg z2, if_neg (fun h => z2 (h3b (h4b h).1).1)]
    · simp only [List.map_append, List.map_cons, List.map_nil, FDef.row_mk etr Val.none_row]
  have hS0 := fieldStep.eq_1 L f i' (b, fs)
  dsimp only at hS0
  rw [hE, if_neg (by decide)] at hS0
  simp +contextual -implicitDefEqProofs only [K27, SS, reduceAdd,reduceSub,reduceLeDiff,reduceEqDiff,reduceCtorEq]
  refine WC.call (name_q h) rfl rfl ?_
  rintro _ st2 ⟨t, rfl, i2, e2, h2, h2a, h2b, hX2⟩
  rw [hX2 rfl] at hS0
  simp +contextual -implicitDefEqProofs only [K27, SS, reduceAdd,reduceSub,reduceLeDiff,reduceEqDiff,reduceCtorEq]
  refine WC.call (eat_q h2 _) rfl rfl ?_
  rintro _ st3 (⟨rfl, rfl, hE3⟩ | ⟨rfl, rfl, h3, hE3⟩)
  · have := tail t [] true (by simp) (by simp) st3 i2 e2 h2 (by omega) (fun h0 => (h2b h0).2) (by
      rw [hS0]
      by_cases z : e2 = 0
      · rw [if_pos z, if_pos z]; dsimp only; rw [argsP, hE3 z]; rfl
      · rw [if_neg z, if_neg z])
    simp +contextual -implicitDefEqProofs only [K27, SS, reduceAdd,reduceSub,reduceLeDiff,reduceEqDiff,reduceCtorEq] at this ⊢
    exact this
  · simp +contextual -implicitDefEqProofs only [K27, SS, reduceAdd,reduceSub,reduceLeDiff,reduceEqDiff,reduceCtorEq]
    refine WC.call (inputs_q h3 hd hd2 _) rfl rfl ?_
    rintro _ st4 ⟨as, rfl, has, haok, i4, e4, h4, h4a, h4b, hX4⟩
    have := tail t as false has haok st4 i4 e4 h4 (by omega) (fun h0 => by have := h4b h0; omega) (by
      rw [hS0, if_pos rfl]
      dsimp only
      rw [argsP, hE3, if_pos rfl, hX4 rfl]
      by_cases z : e4 = 0
      · rw [if_pos z, if_pos z]
      · rw [if_neg z, if_neg z])
    simp +contextual -implicitDefEqProofs only [K27, SS, reduceAdd,reduceSub,reduceLeDiff,reduceEqDiff,reduceCtorEq] at this ⊢
    exact this
theorem dec_fields {L : List Tok} {o i : Nat} {d : Int} {X : Option (TDef × Nat)} {f : Nat} (hd : 0 ≤ d) (hd2 : d + f = 24) (n : List Nat) (st : St) (i1 : Nat) (e1 : Int) (h1 : Rd B L o st i1 d e1) (hi1 : i ≤ i1) (he1 : e1 = 0 → i < i1) (k : Int) (hk3 : k ≠ 3) (hX : X = if e1 = 0 then fieldsP L f k n i1 else none) (v6 : AV) :
    WC (fun n' => exec (callF tbl n') n' ((ACode.blk 1 a27s107).seq (a27s114.seq ACode.ret)) [.ptr o 0, bx1, .box [.int .u8 k, .str n, .list true [], .list true []], .undef, .undef, .undef, v6] st) (decQ B L o i d X) := by
  have hl := h1.hL.2
  have tail : ∀ (w' : Bool) (ns : List (List Nat)) (hns : ns.length ≤ 3000) (st : St) (i1 : Nat) (e1 : Int) (h1 : Rd B L o st i1 d e1) (hi1 : i ≤ i1) (he1 : e1 = 0 → i < i1) (hX : X = if e1 = 0 then (match mustP L [123] i1 with
        | none => none
        | some i4 => fieldX k n ns (loopP (fieldStep L f) 2002 i4 (true, []))) else none),
      WC (fun n' => exec (callF tbl n') n' ((ACode.blk 1 (a27s77.seq (a27s79.seq (ACode.blk 2 (a27s81.seq ((ACode.blk 3 (a27s83.seq (a27s87.seq (a27s89.seq (a27s91.seq a27s93))))).seq a27s100)).loop)))).seq (a27s114.seq ACode.ret)) [.ptr o 0, bx1, .box [.int .u8 k, .str n, .list true [], .list w' (ns.map strRow)], .undef, .undef, .undef, v6] st) (decQ B L o i d X) := by
    intro w' ns hns st i1 e1 h1 hi1 he1 hX
    simp +contextual -implicitDefEqProofs only [K27, SS, reduceAdd,reduceSub,reduceLeDiff,reduceEqDiff,reduceCtorEq]
    refine WC.call (must_q h1 _) rfl rfl ?_
    rintro _ st2 ⟨i2, e2, h2, h2a, h2b, hX2⟩
    simp +contextual -implicitDefEqProofs only [K27, SS, reduceAdd,reduceSub,reduceLeDiff,reduceEqDiff,reduceCtorEq]
    have hXw : X = fieldX k n ns (if e2 = 0 then loopP (fieldStep L f) 2002 i2 (true, []) else none) := by
      rw [hX]
      by_cases z1 : e1 = 0
      · rw [if_pos z1, hX2 z1]
        by_cases z2 : e2 = 0
        · rw [if_pos z2, if_pos z2]
        · rw [if_neg z2, if_neg z2]; rfl
      · rw [if_neg z1, if_neg (fun h => z1 (h2b h).1)]; rfl
    revert hXw
    generalize hgw : (if e2 = 0 then loopP (fieldStep L f) 2002 i2 (true, []) else none) = w
    intro hXw
    refine WC.loopR (fieldI B L o i d f w n k v6 w' ns) (m := rem L i2 e2) ⟨i2, e2, [], true, .undef, h2, by omega, (fun h0 => by have := h2b h0; omega), by simp, rfl, by simpa using rem_le L i2 e2, LoopAt.start _ _ _ _ hgw.symm, rfl⟩ ?_
    rintro mm fr st' ⟨i', e', fs, first, v5, hr, hi', he', hok, hmm, hlen, hLo, rfl⟩
    obtain ⟨bad', ho'⟩ := hr.ob
    have hii := hr.hi
    by_cases he0 : e' = 0
    rotate_left
    · have hf : eqI e' 0 = false := by rw [eqI_eq]; simpa using he0
      simp +contextual -implicitDefEqProofs only [K27, SS, reduceAdd,reduceSub,reduceLeDiff,reduceEqDiff,reduceCtorEq, ho', rdC, hf]
      exact WC.leave (field_end hXw hk3 hns (by omega) hok hr hi' he' (by rw [if_neg he0]; exact hLo.bad he0))
    subst he0
    have body := fun {st : St} (h : Rd B L o st i' d 0) hE => field_body (L := L) (o := o) (i := i) (d := d) (X := X) (f := f) (w := w) hd hd2 (n := n) (k := k) (v6 := v6) (w' := w') (ns := ns) hok hlen (b := first) (v5 := v5) h hi' hmm hLo hE
    cases first with
    | true =>
      simp +contextual -implicitDefEqProofs only [K27, SS, reduceAdd,reduceSub,reduceLeDiff,reduceEqDiff,reduceCtorEq, ho', rdC, show eqI 0 0 = true from rfl]
      have := body hr rfl
      simp +contextual -implicitDefEqProofs only [K27, SS, reduceAdd,reduceSub,reduceLeDiff,reduceEqDiff,reduceCtorEq] at this ⊢
      exact this
    | false =>
      simp +contextual -implicitDefEqProofs only [K27, SS, reduceAdd,reduceSub,reduceLeDiff,reduceEqDiff,reduceCtorEq, ho', rdC, show eqI 0 0 = true from rfl]
      refine WC.call (eat_q hr _) rfl rfl ?_
      rintro _ st3 (⟨rfl, rfl, hE⟩ | ⟨rfl, _, h3, hE⟩)
      · simp +contextual -implicitDefEqProofs only [K27, SS, reduceAdd,reduceSub,reduceLeDiff,reduceEqDiff,reduceCtorEq]
        have := body hr (by rw [hE rfl]; rfl)
        simp +contextual -implicitDefEqProofs only [K27, SS, reduceAdd,reduceSub,reduceLeDiff,reduceEqDiff,reduceCtorEq] at this ⊢
        exact this
      · simp +contextual -implicitDefEqProofs only [K27, SS, reduceAdd,reduceSub,reduceLeDiff,reduceEqDiff,reduceCtorEq]
        exact WC.leave (field_end hXw hk3 hns (by omega) hok h3 (by omega) (fun _ => by omega) (by rw [if_pos rfl]; exact hLo.exit (by omega) (by rw [fieldStep, hE]; rfl)))
  simp +contextual -implicitDefEqProofs only [K27, SS, reduceAdd,reduceSub,reduceLeDiff,reduceEqDiff,reduceCtorEq]
  refine WC.g2 (fun hf => ?_) (fun hf => ?_)
  · simp +contextual -implicitDefEqProofs only [K27, SS, reduceAdd,reduceSub,reduceLeDiff,reduceEqDiff,reduceCtorEq, hf]
    refine WC.call (eat_q h1 _) rfl rfl ?_
    rintro _ st3 (⟨rfl, rfl, hE⟩ | ⟨rfl, rfl, h3, hE⟩)
    · have := tail true [] (by simp) st3 i1 e1 h1 hi1 he1 (by
        rw [hX]
        by_cases z : e1 = 0
        · rw [if_pos z, if_pos z, fieldsP, implP, hE z, Bool.and_false]; rfl
        · rw [if_neg z, if_neg z])
      simp +contextual -implicitDefEqProofs only [K27, SS, reduceAdd,reduceSub,reduceLeDiff,reduceEqDiff,reduceCtorEq] at this ⊢
      exact this
    · simp +contextual -implicitDefEqProofs only [K27, SS, reduceAdd,reduceSub,reduceLeDiff,reduceEqDiff,reduceCtorEq]
      refine WC.call (names_q h3 _) rfl rfl ?_
      rintro _ st4 ⟨ks, rfl, hks, i4, e4, h4, h4a, h4b, hX4⟩
      have := tail false ks hks st4 i4 e4 h4 (by omega) (fun h0 => by have := h4b h0; omega) (by
        rw [hX, if_pos rfl, fieldsP, implP, hE, Bool.and_true, if_pos hf, hX4 rfl]
        by_cases z : e4 = 0
        · rw [if_pos z, if_pos z]
        · rw [if_neg z, if_neg z])
      simp +contextual -implicitDefEqProofs only [K27, SS, reduceAdd,reduceSub,reduceLeDiff,reduceEqDiff,reduceCtorEq] at this ⊢
      exact this
  · have hf' : eqI k 1 = false := hf
    have := tail true [] (by simp) st i1 e1 h1 hi1 he1 (by
      rw [hX]
      by_cases z : e1 = 0
      · rw [if_pos z, if_pos z, fieldsP, implP, hf']; rfl
      · rw [if_neg z, if_neg z])
    simp +contextual -implicitDefEqProofs only [K27, SS, reduceAdd,reduceSub,reduceLeDiff,reduceEqDiff,reduceCtorEq, hf'] at this ⊢
    exact this
end Go.Cb.CodeA
set_option maxRecDepth 20000
set_option linter.unusedSimpArgs false
set_option linter.unusedVariables false
namespace Go.Cb.CodeA
open Go Go.Cb
open Nat (reduceAdd reduceSub reduceLeDiff reduceEqDiff)
attribute [local congr] obind_congr gv_congr2 gv2_congr brT_congr seqK_congr blkK_congr m1_congr gm_congr
variable {B : St}

/-- a declaration as it is read -/
def declP (L : List Tok) (f : Nat) (k : Int) (i : Nat) : Option (TDef × Nat) := match nameP L (i + 1) with
  | none => none
  | some (n, i2) => if eqI k 3 then unionP L k n i2 else (if eqI k 4 then enumP L k n i2 else (if eqI k 5 then inputP L f k n i2 else fieldsP L f k n i2))
def oneP (L : List Tok) (f : Nat) (i : Nat) : Option (TDef × Nat) :=
  if wordB L i [116, 121, 112, 101] then declP L f 1 i else (if wordB L i [105, 110, 116, 101, 114, 102, 97, 99, 101] then declP L f 2 i else (if wordB L i [117, 110, 105, 111, 110] then declP L f 3 i
  else (if wordB L i [101, 110, 117, 109] then declP L f 4 i else (if wordB L i [105, 110, 112, 117, 116] then declP L f 5 i else none))))
theorem one_rest {L : List Tok} {o i : Nat} {d : Int} {X : Option (TDef × Nat)} {f : Nat} (hd : 0 ≤ d) (hd2 : d + f = 24) (st : St) (h : Rd B L o st i d 0) (hk1 : (L[i]'h.hi).k = 1) (k : Int) (hX : X = declP L f k i) :
    WC (fun n' => exec (callF tbl n') n' (a27s32.seq (a27s34.seq ((a27s36.seq (ACode.blk 1 a27s110)).seq (a27s114.seq ACode.ret)))) [.ptr o 0, bx1, .box [.int .u8 k, .str [], .list true [], .list true []], .undef, .undef, .undef, .undef] st) (decQ B L o i d X) := by
  obtain ⟨bad, ho⟩ := h.ob
  have hs : ∀ y : Obj, (st.set o y)[o]? = some y := fun y => set_get ho
  have hl := h.hL.2
  have hi := h.hi
  have i1 := inc64 (show i + 1 < 2 ^ 63 by omega)
  have h1 : Rd B L o (st.set o (.cells (rdC L (i + 1) d bad 0))) (i + 1) d 0 := h.put (tokL_next h.hL.1 h.hi (by rw [hk1]; decide))
  simp +contextual -implicitDefEqProofs only [K27, SS, reduceAdd,reduceSub,reduceLeDiff,reduceEqDiff,reduceCtorEq, ho, rdC, hs, i1]
  refine WC.call (name_q h1) rfl rfl ?_
  rintro _ st2 ⟨t, rfl, i2, e2, h2, h2a, h2b, hX2⟩
  have hX : X = if e2 = 0 then (if eqI k 3 then unionP L k t i2 else (if eqI k 4 then enumP L k t i2 else (if eqI k 5 then inputP L f k t i2 else fieldsP L f k t i2))) else none := by
    rw [hX, declP, hX2 rfl]
    by_cases z : e2 = 0
    · rw [if_pos z, if_pos z]
    · rw [if_neg z, if_neg z]
  simp +contextual -implicitDefEqProofs only [K27, SS, reduceAdd,reduceSub,reduceLeDiff,reduceEqDiff,reduceCtorEq]
  refine WC.br (fun hk3 => ?_) (fun hk3 => ?_)
  · have := dec_union (L := L) (o := o) (i := i) (X := X) hd hd2 t st2 i2 e2 h2 (by omega) (fun h0 => by omega) k (by rw [hX, if_pos hk3]) (.int .u8 k)
    simp +contextual -implicitDefEqProofs only [K27, SS, reduceAdd,reduceSub,reduceLeDiff,reduceEqDiff,reduceCtorEq] at this ⊢
    exact this
  rw [hk3, if_neg (show ¬ (false = true) by decide)] at hX
  have hk3 : k ≠ 3 := by rw [eqI_eq] at hk3; simpa using hk3
  simp +contextual -implicitDefEqProofs only [K27, SS, reduceAdd,reduceSub,reduceLeDiff,reduceEqDiff,reduceCtorEq]
  refine WC.br (fun hk => ?_) (fun hk => ?_)
  · have := dec_enum (L := L) (o := o) (i := i) (X := X) hd hd2 t st2 i2 e2 h2 (by omega) (fun h0 => by omega) k (by rw [hX, if_pos hk]) (.int .u8 k)
    simp +contextual -implicitDefEqProofs only [K27, SS, reduceAdd,reduceSub,reduceLeDiff,reduceEqDiff,reduceCtorEq] at this ⊢
    exact this
  rw [hk, if_neg (show ¬ (false = true) by decide)] at hX
  simp +contextual -implicitDefEqProofs only [K27, SS, reduceAdd,reduceSub,reduceLeDiff,reduceEqDiff,reduceCtorEq]
  refine WC.br (fun hk => ?_) (fun hk => ?_)
  · have := dec_input (L := L) (o := o) (i := i) (X := X) hd hd2 t st2 i2 e2 h2 (by omega) (fun h0 => by omega) k hk3 (by rw [hX, if_pos hk]) (.int .u8 k)
    simp +contextual -implicitDefEqProofs only [K27, SS, reduceAdd,reduceSub,reduceLeDiff,reduceEqDiff,reduceCtorEq] at this ⊢
    exact this
  · rw [hk, if_neg (show ¬ (false = true) by decide)] at hX
    have := dec_fields (L := L) (o := o) (i := i) (X := X) hd hd2 t st2 i2 e2 h2 (by omega) (fun h0 => by omega) k hk3 hX (.int .u8 k)
    simp +contextual -implicitDefEqProofs only [K27, SS, reduceAdd,reduceSub,reduceLeDiff,reduceEqDiff,reduceCtorEq] at this ⊢
    exact this
theorem oneT_q {L : List Tok} {o i : Nat} {d : Int} {f : Nat} (hd : 0 ≤ d) (hd2 : d + f = 24) {st : St} (h : Rd B L o st i d 0) : EvQ tbl 27 [.ptr o 0] st (fun a st' => ∃ t : TDef, t.OK ∧ a = .agg t.row ∧ AdvX B L o i d 0 (oneP L f i) t st') := by
  refine EvQ.body (fn := a27) rfl rfl rfl ?_
  show WC _ (decQ B L o i d (oneP L f i))
  have hX := oneP.eq_1 L f i
  simp +contextual -implicitDefEqProofs only [K27, SS, reduceAdd,reduceSub,reduceLeDiff,reduceEqDiff,reduceCtorEq]
  refine WC.call (word_q h _) rfl rfl ?_
  rintro _ _ ⟨rfl, b, rfl, hb, hw⟩
  rw [← hw rfl] at hX
  cases b with
  | true =>
    have := one_rest hd hd2 _ h (hb rfl).2 1 (X := oneP L f i) (by rw [hX]; rfl)
    simp +contextual -implicitDefEqProofs only [K27, SS, reduceAdd,reduceSub,reduceLeDiff,reduceEqDiff,reduceCtorEq] at this ⊢
    exact this
  | false =>
  rw [if_neg (show ¬ (false = true) by decide)] at hX
  simp +contextual -implicitDefEqProofs only [K27, SS, reduceAdd,reduceSub,reduceLeDiff,reduceEqDiff,reduceCtorEq]
  refine WC.call (word_q h _) rfl rfl ?_
  rintro _ _ ⟨rfl, b, rfl, hb, hw⟩
  rw [← hw rfl] at hX
  cases b with
  | true =>
    have := one_rest hd hd2 _ h (hb rfl).2 2 (X := oneP L f i) (by rw [hX]; rfl)
    simp +contextual -implicitDefEqProofs only [K27, SS, reduceAdd,reduceSub,reduceLeDiff,reduceEqDiff,reduceCtorEq] at this ⊢
    exact this
  | false =>
  rw [if_neg (show ¬ (false = true) by decide)] at hX
  simp +contextual -implicitDefEqProofs only [K27, SS, reduceAdd,reduceSub,reduceLeDiff,reduceEqDiff,reduceCtorEq]
  refine WC.call (word_q h _) rfl rfl ?_
  rintro _ _ ⟨rfl, b, rfl, hb, hw⟩
  rw [← hw rfl] at hX
  cases b with
  | true =>
    have := one_rest hd hd2 _ h (hb rfl).2 3 (X := oneP L f i) (by rw [hX]; rfl)
    simp +contextual -implicitDefEqProofs only [K27, SS, reduceAdd,reduceSub,reduceLeDiff,reduceEqDiff,reduceCtorEq] at this ⊢
    exact this
  | false =>
  rw [if_neg (show ¬ (false = true) by decide)] at hX
  simp +contextual -implicitDefEqProofs only [K27, SS, reduceAdd,reduceSub,reduceLeDiff,reduceEqDiff,reduceCtorEq]
  refine WC.call (word_q h _) rfl rfl ?_
  rintro _ _ ⟨rfl, b, rfl, hb, hw⟩
  rw [← hw rfl] at hX
  cases b with
  | true =>
    have := one_rest hd hd2 _ h (hb rfl).2 4 (X := oneP L f i) (by rw [hX]; rfl)
    simp +contextual -implicitDefEqProofs only [K27, SS, reduceAdd,reduceSub,reduceLeDiff,reduceEqDiff,reduceCtorEq] at this ⊢
    exact this
  | false =>
  rw [if_neg (show ¬ (false = true) by decide)] at hX
  simp +contextual -implicitDefEqProofs only [K27, SS, reduceAdd,reduceSub,reduceLeDiff,reduceEqDiff,reduceCtorEq]
  refine WC.call (word_q h _) rfl rfl ?_
  rintro _ _ ⟨rfl, b, rfl, hb, hw⟩
  rw [← hw rfl] at hX
  cases b with
  | true =>
    have := one_rest hd hd2 _ h (hb rfl).2 5 (X := oneP L f i) (by rw [hX]; rfl)
    simp +contextual -implicitDefEqProofs only [K27, SS, reduceAdd,reduceSub,reduceLeDiff,reduceEqDiff,reduceCtorEq] at this ⊢
    exact this
  | false =>
  rw [if_neg (show ¬ (false = true) by decide)] at hX
  simp +contextual -implicitDefEqProofs only [K27, SS, reduceAdd,reduceSub,reduceLeDiff,reduceEqDiff,reduceCtorEq]
  refine WC.call (fault_q h 4 (by decide)) rfl rfl ?_
  rintro _ st1 ⟨e1, h1, he1⟩
  simp +contextual -implicitDefEqProofs only [K27, SS, reduceAdd,reduceSub,reduceLeDiff,reduceEqDiff,reduceCtorEq]
  exact WC.ret ⟨_, _, rfl, ⟨0, [], [], []⟩, ⟨by simp, by simp, by simp, fun _ => rfl⟩, rfl, i, e1, h1, Nat.le_refl _, (fun h0 => absurd h0 he1), fun _ => by rw [hX, if_neg he1]⟩

theorem rowsT (l : List TDef) : rowsOk 4 (l.map TDef.row) = true := rowsOk_all (by
  intro r hr
  obtain ⟨t, _, rfl⟩ := List.mem_map.1 hr
  rfl)
def typeStep (L : List Tok) (i : Nat) (x : Bool × List TDef) : Option (Bool × Nat × (Bool × List TDef)) := if !x.1 && kindB' L i 0 then some (true, i, x) else (match oneP L 24 i with
  | none => none
  | some (t, j) => some (false, j, (false, x.2 ++ [t])))
def typesX (w : Option ((Bool × List TDef) × Nat)) : Option (List TDef) := match w with
  | none => none
  | some (x, _) => some x.2
/-- the declarations of a text -/
def typesS (s : List Nat) : Option (List TDef) := match tokensS s with
  | none => none
  | some L => typesX (loopP (typeStep L) 2002 0 (true, []))
/-- what Types answers: a fault and nothing, or declarations, one at least -/
def TypesOK (s : List Nat) (a : AV) : Prop := ∃ (l : List TDef) (at' e : Int), a = .tuple [.list false (l.map TDef.row), .int .i64 at', .int .i64 e] ∧ l.length ≤ 3000 ∧ (∀ t ∈ l, t.OK) ∧ (e = 0 → l ≠ []) ∧ (e ≠ 0 → l = []) ∧ typesS s = if e = 0 then some l else none
theorem types_q (s : List Nat) (st0 : St) : EvQ tbl 9 [.str s] st0 (fun a st' => Gr st0 st' ∧ TypesOK s a) := by
  refine EvQ.body (fn := a9) rfl rfl rfl ?_
  simp +contextual -implicitDefEqProofs only [K9, SS, reduceAdd,reduceSub,reduceLeDiff,reduceEqDiff,reduceCtorEq]
  refine WC.call (tokens_q s st0) rfl rfl ?_
  rintro _ st ⟨rfl, L, at', e, rfl, hL, hXt⟩
  simp +contextual -implicitDefEqProofs only [K9, SS, reduceAdd,reduceSub,reduceLeDiff,reduceEqDiff,reduceCtorEq]
  refine WC.br (fun he => ?_) (fun he => ?_)
  · simp +contextual -implicitDefEqProofs only [K9, SS, reduceAdd,reduceSub,reduceLeDiff,reduceEqDiff,reduceCtorEq]
    exact WC.ret ⟨_, _, rfl, fun _ _ h => h, [], _, _, rfl, by simp, by simp, (fun h0 => by subst h0; cases he), (fun _ => rfl), by
      have he' : e ≠ 0 := fun h0 => by subst h0; cases he
      rw [typesS, hXt, if_neg he', if_neg he']⟩
  have he : e = 0 := by rw [eqI_eq] at he; simpa using he
  obtain ⟨hL1, hL2⟩ := hL he
  have hW : typesS s = typesX (loopP (typeStep L) 2002 0 (true, [])) := by rw [typesS, hXt, if_pos he]
  revert hW
  generalize hgw : loopP (typeStep L) 2002 0 (true, []) = w
  intro hW
  have hpos : 0 < L.length := by obtain ⟨L', a, rfl, _⟩ := hL1; simp
  simp +contextual -implicitDefEqProofs only [K9, SS, reduceAdd,reduceSub,reduceLeDiff,reduceEqDiff,reduceCtorEq]
  have hR : Rd st L st.length (st ++ [.cells (rdC L 0 0 0 0)]) 0 0 0 := ⟨⟨hL1, hL2⟩, hpos, ⟨0, by simp⟩, fun o x h => by rw [List.getElem?_append_left (List.getElem?_eq_some_iff.1 h).1]; exact h, Nat.le_refl _⟩
  refine WC.loopR (fun mm fr st' => ∃ (i' : Nat) (e' : Int) (l : List TDef) (first : Bool) (v10 : AV), Rd st L st.length st' i' 0 e' ∧ (first = true → e' = 0) ∧ (first = false → l ≠ []) ∧ (∀ t ∈ l, t.OK) ∧ mm = rem L i' e' ∧ l.length + mm ≤ L.length ∧ LoopAt (typeStep L) w i' (first, l) e' ∧
    fr = [.str s, .list true [], .int .i64 0, .int .i64 0, .list false (L.map Tok.row), .int .i64 at', .int .i64 e, .ptr st.length 0, .list true (l.map TDef.row), .bool first, v10]) (m := rem L 0 0) ⟨0, 0, [], true, _, hR, (fun _ => rfl), (by simp), (by simp), rfl, by simpa using rem_le L 0 0, LoopAt.start _ _ _ _ (by rw [if_pos rfl, hgw]), rfl⟩ ?_
  rintro mm fr st' ⟨i', e', l, first, v10, hr, hf1, hf2, hok, hmm, hlen, hLo, rfl⟩
  obtain ⟨bad', ho'⟩ := hr.ob
  have hii := hr.hi
  have hend : first = false → (w = if e' = 0 then some ((false, l), i') else none) → WC (fun n => seqC (blkC 0 some) (exec (callF tbl n) n (a9s34.seq (a9s36.seq ACode.ret))) (.exit 0, [.str s, .list true [], .int .i64 0, .int .i64 0, .list false (L.map Tok.row), .int .i64 at', .int .i64 e, .ptr st.length 0, .list true (l.map TDef.row), .bool first, v10], st')) (fun o => ∃ r st', finK [ResK.v 1, ResK.v 2, ResK.v 3] (some o) = some (r, st') ∧ Gr st st' ∧ TypesOK s r) := by
    intro hfirst hw
    simp +contextual -implicitDefEqProofs only [K9, SS, reduceAdd,reduceSub,reduceLeDiff,reduceEqDiff,reduceCtorEq, ho', rdC]
    refine WC.br (fun h => ?_) (fun h => ?_)
    · have he' : e' ≠ 0 := by rw [eqI_eq] at h; simpa using h
      simp +contextual -implicitDefEqProofs only [K9, SS, reduceAdd,reduceSub,reduceLeDiff,reduceEqDiff,reduceCtorEq, ho', rdC]
      exact WC.ret ⟨_, _, rfl, hr.gr, [], _, _, rfl, by simp, by simp, (fun h0 => absurd h0 he'), (fun _ => rfl), by rw [hW, hw, if_neg he', if_neg he']; rfl⟩
    · have he' : e' = 0 := by rw [eqI_eq] at h; simpa using h
      simp +contextual -implicitDefEqProofs only [K9, SS, reduceAdd,reduceSub,reduceLeDiff,reduceEqDiff,reduceCtorEq]
      exact WC.ret ⟨_, _, rfl, hr.gr, l, _, _, rfl, by omega, hok, (fun _ => hf2 hfirst), (fun h0 => absurd rfl h0), by rw [hW, hw, if_pos he']; rfl⟩
  have body : e' = 0 → (!first && kindB' L i' 0) = false → WC (fun n => exec (callF tbl n) n ((ACode.blk 1 (a9s18.seq a9s20)).seq a9s24) [.str s, .list true [], .int .i64 0, .int .i64 0, .list false (L.map Tok.row), .int .i64 at', .int .i64 e, .ptr st.length 0, .list true (l.map TDef.row), .bool first, v10] st')
      (LQ (fun mm fr st' => ∃ (i' : Nat) (e' : Int) (l : List TDef) (first : Bool) (v10 : AV), Rd st L st.length st' i' 0 e' ∧ (first = true → e' = 0) ∧ (first = false → l ≠ []) ∧ (∀ t ∈ l, t.OK) ∧ mm = rem L i' e' ∧ l.length + mm ≤ L.length ∧ LoopAt (typeStep L) w i' (first, l) e' ∧
    fr = [.str s, .list true [], .int .i64 0, .int .i64 0, .list false (L.map Tok.row), .int .i64 at', .int .i64 e, .ptr st.length 0, .list true (l.map TDef.row), .bool first, v10]) mm (fun n => seqC (blkC 0 some) (exec (callF tbl n) n (a9s34.seq (a9s36.seq ACode.ret)))) (fun o => ∃ r st', finK [ResK.v 1, ResK.v 2, ResK.v 3] (some o) = some (r, st') ∧ Gr st st' ∧ TypesOK s r)) := by
    intro he0 hE
    subst he0
    simp +contextual -implicitDefEqProofs only [K9, SS, reduceAdd,reduceSub,reduceLeDiff,reduceEqDiff,reduceCtorEq]
    refine WC.call (oneT_q (f := 24) (by decide) (by decide) hr) rfl rfl ?_
    rintro _ st2 ⟨t, ht, rfl, i2, e2, h2, h2a, h2b, hX2⟩
    have hlt : rem L i2 e2 < rem L i' 0 := rem_lt rfl hr.hi (fun h0 => (h2b h0).2)
    have hfr : (l.length + 1) * 72 ≤ 2 ^ 47 := by omega
    simp +contextual -implicitDefEqProofs only [K9, SS, reduceAdd,reduceSub,reduceLeDiff,reduceEqDiff,reduceCtorEq, TDef.row, rowsT, List.length_map, hfr]
    refine WC.next (m' := rem L i2 e2) (by omega) ⟨i2, e2, l ++ [t], false, .box [.int .u8 t.k, .str t.n, .list false (t.fs.map FDef.row), .list false (t.ns.map strRow)], h2, (by simp), (by simp), fun x hx => ?_, rfl, by simp only [List.length_append, List.length_cons, List.length_nil]; omega, hLo.next (by omega) (fun h0 => (h2b h0).2) ?_, ?_⟩
    · rcases List.mem_append.1 hx with h0 | h0
      · exact hok x h0
      · simp at h0; subst h0; exact ht
    · rw [typeStep, hE, if_neg (by decide), hX2 rfl]
      by_cases z : e2 = 0
      · rw [if_pos z, if_pos z]
      · rw [if_neg z, if_neg z]
    · simp only [List.map_append, List.map_cons, List.map_nil, TDef.row]
  cases first with
  | true =>
    obtain rfl := hf1 rfl
    have := body rfl rfl
    simp +contextual -implicitDefEqProofs only [K9, SS, reduceAdd,reduceSub,reduceLeDiff,reduceEqDiff,reduceCtorEq] at this ⊢
    exact this
  | false =>
    by_cases he0 : e' = 0
    · subst he0
      simp +contextual -implicitDefEqProofs only [K9, SS, reduceAdd,reduceSub,reduceLeDiff,reduceEqDiff,reduceCtorEq, ho', rdC, show eqI 0 0 = true from rfl]
      refine WC.call (kind_q hr _) rfl rfl ?_
      rintro _ _ ⟨rfl, b, rfl, hb⟩
      have hbk : b = kindB' L i' 0 := by
        rw [kindB', List.getElem?_eq_getElem hii]
        cases b with
        | true => have := (hb.1 rfl).2; dsimp only; rw [this]; rfl
        | false =>
          dsimp only
          rcases bool_tf (eqI (L[i']).k 0) with h | h
          · rw [eqI_eq] at h
            have := hb.2 ⟨rfl, by simpa using h⟩
            cases this
          · rw [h]
      cases b with
      | true =>
        simp +contextual -implicitDefEqProofs only [K9, SS, reduceAdd,reduceSub,reduceLeDiff,reduceEqDiff,reduceCtorEq]
        exact WC.leave (hend rfl (by rw [if_pos rfl]; exact hLo.exit (by omega) (by rw [typeStep, ← hbk]; rfl)))
      | false =>
        have := body rfl (by rw [← hbk]; rfl)
        simp +contextual -implicitDefEqProofs only [K9, SS, reduceAdd,reduceSub,reduceLeDiff,reduceEqDiff,reduceCtorEq] at this ⊢
        exact this
    · have hf : eqI e' 0 = false := by rw [eqI_eq]; simpa using he0
      simp +contextual -implicitDefEqProofs only [K9, SS, reduceAdd,reduceSub,reduceLeDiff,reduceEqDiff,reduceCtorEq, ho', rdC, hf]
      exact WC.leave (hend rfl (by rw [if_neg he0]; exact hLo.bad he0))
end Go.Cb.CodeA
set_option maxRecDepth 20000
set_option linter.unusedSimpArgs false
set_option linter.unusedVariables false
namespace Go.Cb.CodeA
open Go Go.Cb
open Nat (reduceAdd reduceSub reduceLeDiff reduceEqDiff)
attribute [local congr] obind_congr gv_congr2 gv2_congr brT_congr seqK_congr blkK_congr m1_congr gm_congr

theorem Gr.refl (st : St) : Gr st st := fun _ _ h => h
theorem Gr.trans {a b c : St} (h : Gr a b) (h' : Gr b c) : Gr a c := fun o x hx => h' o x (h o x hx)
theorem Gr.app (st t : St) : Gr st (st ++ t) := fun o x h => by
  rw [List.getElem?_append_left (List.getElem?_eq_some_iff.1 h).1]; exact h

theorem root_q0 (n : List Nat) (st : St) : EvQ tbl 34 [.str n] st (fun a st' => st' = st ∧ a = .bool (eqN n [81, 117, 101, 114, 121] || eqN n [77, 117, 116, 97, 116, 105, 111, 110])) := by
  refine EvQ.body (fn := a34) rfl rfl rfl ?_
  simp +contextual -implicitDefEqProofs only [K34, SS, reduceAdd,reduceSub,reduceLeDiff,reduceEqDiff,reduceCtorEq]
  exact WC.ret ⟨_, _, rfl, rfl, rfl⟩
/-- the first place of a name, or -1 -/
def idx : List (List Nat) → List Nat → Int
  | [], _ => -1
  | x :: xs, n => if eqN n x then 0 else (if idx xs n < 0 then -1 else idx xs n + 1)
def hasN (l : List (List Nat)) (n : List Nat) : Bool := l.any (fun x => eqN n x)
theorem idx_le (l : List (List Nat)) (n : List Nat) : -1 ≤ idx l n ∧ idx l n < l.length := by
  induction l with
  | nil => simp [idx]
  | cons x xs ih =>
    simp only [idx, List.length_cons]
    split
    · omega
    · split <;> omega
theorem idx_has (l : List (List Nat)) (n : List Nat) : (!ltI (idx l n) 0) = hasN l n := by
  rw [ltI_eq]
  induction l with
  | nil => rfl
  | cons x xs ih =>
    simp only [idx, hasN, List.any_cons] at ih ⊢
    by_cases hx : eqN n x = true
    · simp [hx]
    · simp only [hx, Bool.false_eq_true, if_false, Bool.false_or]
      rw [← ih]
      by_cases h : idx xs n < 0
      · simp [h]
      · simp [h]; omega

theorem index_q (l : List (List Nat)) (hl : l.length ≤ 10000) (n : List Nat) (st : St) : EvQ tbl 36 [.list false (l.map strRow), .str n] st (fun a st' => st' = st ∧ a = .int .i64 (idx l n)) := by
  refine EvQ.body (fn := a36) rfl rfl rfl ?_
  simp +contextual -implicitDefEqProofs only [K36, SS, reduceAdd,reduceSub,reduceLeDiff,reduceEqDiff,reduceCtorEq, List.length_map]
  refine WC.loopR (fun mm fr st' => st' = st ∧ ∃ (i : Nat) (v3 : AV), i ≤ l.length ∧ mm = l.length - i ∧ idx l n = (if idx (l.drop i) n < 0 then -1 else idx (l.drop i) n + i) ∧ fr = [.list false (l.map strRow), .str n, .int .i64 0, v3, .int .i64 l.length, .int .i64 i]) (m := l.length) ⟨rfl, 0, _, Nat.zero_le _, rfl, by rw [List.drop_zero]; have := (idx_le l n).1; split <;> omega, rfl⟩ ?_
  rintro mm fr st' ⟨rfl, i, v3, hi, rfl, hidx, rfl⟩
  simp +contextual -implicitDefEqProofs only [K36, SS, reduceAdd,reduceSub,reduceLeDiff,reduceEqDiff,reduceCtorEq]
  by_cases hil : i < l.length
  · have e2 : (l.map strRow)[i]? = some (strRow l[i]) := by rw [List.getElem?_map, List.getElem?_eq_getElem hil]; rfl
    rw [List.drop_eq_getElem_cons hil] at hidx
    revert e2 hidx
    generalize l[i] = x
    intro hidx e2
    simp +contextual -implicitDefEqProofs only [K36, SS, reduceAdd,reduceSub,reduceLeDiff,reduceEqDiff,reduceCtorEq, hil, e2, strRow]
    simp only [idx] at hidx
    refine WC.br (fun hx => ?_) (fun hx => ?_)
    · simp [hx] at hidx
      simp +contextual -implicitDefEqProofs only [K36, SS, reduceAdd,reduceSub,reduceLeDiff,reduceEqDiff,reduceCtorEq]
      refine WC.leaveR ?_
      simp +contextual -implicitDefEqProofs only [K36, SS, reduceAdd,reduceSub,reduceLeDiff,reduceEqDiff,reduceCtorEq]
      exact WC.ret ⟨_, _, rfl, rfl, by rw [hidx]; rfl⟩
    · simp [hx] at hidx
      simp +contextual -implicitDefEqProofs only [K36, SS, reduceAdd,reduceSub,reduceLeDiff,reduceEqDiff,reduceCtorEq, inc64 (show i + 1 < 2 ^ 63 by omega)]
      refine WC.next (m' := l.length - (i + 1)) (by omega) ⟨rfl, i + 1, _, hil, rfl, ?_, rfl⟩
      rw [hidx]
      have := (idx_le (l.drop (i + 1)) n).1
      by_cases h : idx (l.drop (i + 1)) n < 0
      · simp [h]
      · simp only [h, if_false]
        have h2 : ¬ idx (l.drop (i + 1)) n + 1 < 0 := by omega
        simp only [h2, if_false]
        omega
  · simp +contextual -implicitDefEqProofs only [K36, SS, reduceAdd,reduceSub,reduceLeDiff,reduceEqDiff,reduceCtorEq, hil]
    refine WC.leave ?_
    simp +contextual -implicitDefEqProofs only [K36, SS, reduceAdd,reduceSub,reduceLeDiff,reduceEqDiff,reduceCtorEq]
    refine WC.ret ⟨_, _, rfl, rfl, ?_⟩
    rw [hidx, List.drop_of_length_le (by omega)]
    rfl
theorem contains_q (l : List (List Nat)) (hl : l.length ≤ 10000) (n : List Nat) (st : St) : EvQ tbl 29 [.list false (l.map strRow), .str n] st (fun a st' => st' = st ∧ a = .bool (hasN l n)) := by
  refine EvQ.body (fn := a29) rfl rfl rfl ?_
  simp +contextual -implicitDefEqProofs only [K29, SS, reduceAdd,reduceSub,reduceLeDiff,reduceEqDiff,reduceCtorEq]
  refine WC.call (index_q l hl n st) rfl rfl ?_
  rintro _ _ ⟨rfl, rfl⟩
  simp +contextual -implicitDefEqProofs only [K29, SS, reduceAdd,reduceSub,reduceLeDiff,reduceEqDiff,reduceCtorEq, idx_has]
  exact WC.ret ⟨_, _, rfl, rfl, rfl⟩
/-- does a text begin so? -/
def beginsN (s p : List Nat) : Bool := decide (p.length ≤ s.length) && eqN (s.take p.length) p
theorem hasPrefix0_q (s p : List Nat) (st : St) : EvQ tbl 49 [.str s, .str p] st (fun a st' => st' = st ∧ a = .bool (beginsN s p)) := by
  refine EvQ.body (fn := a49) rfl rfl rfl ?_
  by_cases h : s.length < p.length
  · simp +contextual -implicitDefEqProofs only [K49, SS, reduceAdd,reduceSub,reduceLeDiff,reduceEqDiff,reduceCtorEq, h]
    exact WC.ret ⟨_, _, rfl, rfl, by simp [beginsN, show ¬ p.length ≤ s.length by omega]; rfl⟩
  · simp +contextual -implicitDefEqProofs only [K49, SS, reduceAdd,reduceSub,reduceLeDiff,reduceEqDiff,reduceCtorEq, h, show p.length ≤ s.length by omega]
    exact WC.ret ⟨_, _, rfl, rfl, by simp [beginsN, show p.length ≤ s.length by omega]; rfl⟩
theorem hasPrefix_q (s p : List Nat) (st : St) : EvQ tbl 30 [.str s, .str p] st (fun a st' => st' = st ∧ a = .bool (beginsN s p)) := by
  refine EvQ.body (fn := a30) rfl rfl rfl ?_
  simp +contextual -implicitDefEqProofs only [K30, SS, reduceAdd,reduceSub,reduceLeDiff,reduceEqDiff,reduceCtorEq]
  refine WC.call (hasPrefix0_q s p st) rfl rfl ?_
  rintro _ _ ⟨rfl, rfl⟩
  simp +contextual -implicitDefEqProofs only [K30, SS, reduceAdd,reduceSub,reduceLeDiff,reduceEqDiff,reduceCtorEq]
  exact WC.ret ⟨_, _, rfl, rfl, rfl⟩
def FDef.name : FDef → List Nat
  | .mk n _ _ _ _ => n
def FDef.args : FDef → List FDef
  | .mk _ as _ _ _ => as
def FDef.ty : FDef → TRef
  | .mk _ _ t _ _ => t
def FDef.has : FDef → Bool
  | .mk _ _ _ h _ => h
def FDef.val : FDef → Val
  | .mk _ _ _ _ v => v
def namesF (fs : List FDef) : List (List Nat) := fs.map FDef.name
theorem FDef.row_cells (f : FDef) : ∃ tn txs tb vk vn vs vx vy, f.ty.row = [.str tn, .list false txs, .bool tb] ∧ f.val.row = [.int .u8 vk, .int .i64 vn, .str vs, .list false vx, .list false vy] ∧
    f.row = [.str f.name, .list false (f.args.map FDef.row), .str tn, .list false txs, .bool tb, .bool f.has, .int .u8 vk, .int .i64 vn, .str vs, .list false vx, .list false vy] := by
  cases f with
  | mk n as t has v =>
    obtain ⟨tn, txs, tb, e1⟩ := t.row_cells
    obtain ⟨vk, vn, vs, vx, vy, e2⟩ := v.row_cells
    exact ⟨_, _, _, _, _, _, _, _, e1, e2, FDef.row_mk e1 e2⟩
theorem list_q (fs : List FDef) (hl : fs.length ≤ 10000) (st : St) : EvQ tbl 37 [.list false (fs.map FDef.row)] st (fun a st' => st' = st ∧ a = .list true ((namesF fs).map strRow)) := by
  refine EvQ.body (fn := a37) rfl rfl rfl ?_
  simp +contextual -implicitDefEqProofs only [K37, SS, reduceAdd,reduceSub,reduceLeDiff,reduceEqDiff,reduceCtorEq, List.length_map]
  refine WC.loopR (fun mm fr st' => st' = st ∧ ∃ (i : Nat) (v3 : AV), i ≤ fs.length ∧ mm = fs.length - i ∧ fr = [.list false (fs.map FDef.row), .list true [], .list true ((namesF (fs.take i)).map strRow), v3, .list false (fs.map FDef.row), .int .i64 fs.length, .int .i64 i]) (m := fs.length) ⟨rfl, 0, _, Nat.zero_le _, rfl, rfl⟩ ?_
  rintro mm fr st' ⟨rfl, i, v3, hi, rfl, rfl⟩
  simp +contextual -implicitDefEqProofs only [K37, SS, reduceAdd,reduceSub,reduceLeDiff,reduceEqDiff,reduceCtorEq]
  by_cases hil : i < fs.length
  · have e2 : (fs.map FDef.row)[i]? = some (fs[i]).row := by rw [List.getElem?_map, List.getElem?_eq_getElem hil]; rfl
    have e3 : fs.take (i + 1) = fs.take i ++ [fs[i]] := by rw [List.take_add_one, List.getElem?_eq_getElem hil]; rfl
    revert e2 e3
    generalize fs[i] = f
    intro e2 e3
    obtain ⟨tn, txs, tb, vk, vn, vs, vx, vy, _, _, ef⟩ := f.row_cells
    rw [ef] at e2
    have hlen : ((namesF (fs.take i)).map strRow).length = i := by simp [namesF]; omega
    have hc : (i + 1) * 16 ≤ 2 ^ 47 := by omega
    simp +contextual -implicitDefEqProofs only [K37, SS, reduceAdd,reduceSub,reduceLeDiff,reduceEqDiff,reduceCtorEq, hil, e2, rowsStr, hlen, hc, inc64 (show i + 1 < 2 ^ 63 by omega)]
    refine WC.next (m' := fs.length - (i + 1)) (by omega) ⟨rfl, i + 1, .box [.str f.name, .list false (f.args.map FDef.row), .str tn, .list false txs, .bool tb, .bool f.has, .int .u8 vk, .int .i64 vn, .str vs, .list false vx, .list false vy], hil, rfl, ?_⟩
    rw [e3]
    simp only [namesF, List.map_append, List.map_cons, List.map_nil, strRow]
  · simp +contextual -implicitDefEqProofs only [K37, SS, reduceAdd,reduceSub,reduceLeDiff,reduceEqDiff,reduceCtorEq, hil]
    refine WC.leave ?_
    simp +contextual -implicitDefEqProofs only [K37, SS, reduceAdd,reduceSub,reduceLeDiff,reduceEqDiff,reduceCtorEq]
    refine WC.ret ⟨_, _, rfl, rfl, ?_⟩
    rw [List.take_of_length_le (by omega)]
    rfl
end Go.Cb.CodeA
set_option maxRecDepth 20000
set_option linter.unusedSimpArgs false
set_option linter.unusedVariables false
namespace Go.Cb.CodeA
open Go Go.Cb
open Nat (reduceAdd reduceSub reduceLeDiff reduceEqDiff)
attribute [local congr] obind_congr gv_congr2 gv2_congr brT_congr seqK_congr blkK_congr m1_congr gm_congr

def TRef.baseN : TRef → List Nat
  | .base n _ => n
  | .wrap t _ => t.baseN
def TRef.name : TRef → List Nat
  | .base n _ => n
  | .wrap _ _ => []
def TRef.bang : TRef → Bool
  | .base _ b => b
  | .wrap _ b => b
def TRef.rows : TRef → List (List AV)
  | .base _ _ => []
  | .wrap t _ => [t.row]
theorem TRef.row_eq (t : TRef) : t.row = [.str t.name, .list false t.rows, .bool t.bang] := by cases t <;> rfl
def TRef.size : TRef → Nat
  | .base _ _ => 0
  | .wrap t _ => t.size + 1
theorem base_q (t : TRef) (st : St) : EvQ tbl 63 [.agg t.row] st (fun a st' => st' = st ∧ a = .str t.baseN) := by
  rw [t.row_eq]
  refine EvQ.body (fn := a63) rfl rfl rfl ?_
  simp +contextual -implicitDefEqProofs only [K63, SS, reduceAdd,reduceSub,reduceLeDiff,reduceEqDiff,reduceCtorEq]
  refine WC.loopR (fun mm fr st' => st' = st ∧ ∃ (u : TRef), u.baseN = t.baseN ∧ mm = u.size ∧ fr = [.agg [.str t.name, .list false t.rows, .bool t.bang], .box [.str u.name, .list false u.rows, .bool u.bang], .str []]) (m := t.size) ⟨rfl, t, rfl, rfl, rfl⟩ ?_
  rintro mm fr st' ⟨rfl, u, hu, rfl, rfl⟩
  cases u with
  | base n b =>
    simp +contextual -implicitDefEqProofs only [K63, SS, reduceAdd,reduceSub,reduceLeDiff,reduceEqDiff,reduceCtorEq, TRef.rows, show ltI 0 ((0 : Nat) : Int) = false from rfl]
    refine WC.leave ?_
    simp +contextual -implicitDefEqProofs only [K63, SS, reduceAdd,reduceSub,reduceLeDiff,reduceEqDiff,reduceCtorEq]
    exact WC.ret ⟨_, _, rfl, rfl, by rw [← hu]; rfl⟩
  | wrap u b =>
    have eu := u.row_eq
    simp +contextual -implicitDefEqProofs only [K63, SS, reduceAdd,reduceSub,reduceLeDiff,reduceEqDiff,reduceCtorEq, TRef.rows, eu, show ltI 0 ((1 : Nat) : Int) = true from rfl]
    exact WC.next (m' := u.size) (by simp [TRef.size]) ⟨rfl, u, hu, rfl, rfl⟩

/-- are two types one? -/
def sameT : TRef → TRef → Bool
  | .base n b, .base m c => eqN n m && (b == c)
  | .wrap t b, .wrap u c => (b == c) && sameT t u
  | _, _ => false
theorem equalF_ne (xs ys : List (List AV)) (h : xs.length ≠ ys.length) (st : St) : EvQ tbl 38 [.list false xs, .list false ys, .func 18 [] []] st (fun a st' => st' = st ∧ a = .bool false) := by
  refine EvQ.body (fn := a38) rfl rfl rfl ?_
  simp +contextual -implicitDefEqProofs only [K38, SS, reduceAdd,reduceSub,reduceLeDiff,reduceEqDiff,reduceCtorEq, h]
  exact WC.ret ⟨_, _, rfl, rfl, rfl⟩
theorem equalF_nil (st : St) : EvQ tbl 38 [.list false [], .list false [], .func 18 [] []] st (fun a st' => st' = st ∧ a = .bool true) := by
  refine EvQ.body (fn := a38) rfl rfl rfl ?_
  simp +contextual -implicitDefEqProofs only [K38, SS, reduceAdd,reduceSub,reduceLeDiff,reduceEqDiff,reduceCtorEq]
  refine WC.loopR (fun mm fr st' => st' = st ∧ fr = [.list false [], .list false [], .func 18 [] [], .bool false, .undef, .undef, .undef, .list false [], .int .i64 0, .int .i64 0]) (m := 0) ⟨rfl, rfl⟩ ?_
  rintro mm fr st' ⟨rfl, rfl⟩
  simp +contextual -implicitDefEqProofs only [K38, SS, reduceAdd,reduceSub,reduceLeDiff,reduceEqDiff,reduceCtorEq, show ltI 0 0 = false from rfl]
  refine WC.leave ?_
  simp +contextual -implicitDefEqProofs only [K38, SS, reduceAdd,reduceSub,reduceLeDiff,reduceEqDiff,reduceCtorEq]
  exact WC.ret ⟨_, _, rfl, rfl, rfl⟩
theorem equalF_one (t u : TRef) (c : Bool) (h : ∀ st, EvQ tbl 18 [.agg t.row, .agg u.row] st (fun a st' => st' = st ∧ a = .bool c)) (st : St) : EvQ tbl 38 [.list false [t.row], .list false [u.row], .func 18 [] []] st (fun a st' => st' = st ∧ a = .bool c) := by
  have et := t.row_eq
  have eu := u.row_eq
  rw [et, eu] at h ⊢
  refine EvQ.body (fn := a38) rfl rfl rfl ?_
  simp +contextual -implicitDefEqProofs only [K38, SS, reduceAdd,reduceSub,reduceLeDiff,reduceEqDiff,reduceCtorEq]
  refine WC.loopR (fun mm fr st' => st' = st ∧ ((mm = 1 ∧ fr = [.list false [[.str t.name, .list false t.rows, .bool t.bang]], .list false [[.str u.name, .list false u.rows, .bool u.bang]], .func 18 [] [], .bool false, .undef, .undef, .undef, .list false [[.str t.name, .list false t.rows, .bool t.bang]], .int .i64 1, .int .i64 0]) ∨
    (mm = 0 ∧ c = true ∧ ∃ v4 v5 v6, fr = [.list false [[.str t.name, .list false t.rows, .bool t.bang]], .list false [[.str u.name, .list false u.rows, .bool u.bang]], .func 18 [] [], .bool false, v4, v5, v6, .list false [[.str t.name, .list false t.rows, .bool t.bang]], .int .i64 1, .int .i64 1]))) (m := 1) ⟨rfl, Or.inl ⟨rfl, rfl⟩⟩ ?_
  rintro mm fr st' ⟨rfl, ⟨rfl, rfl⟩ | ⟨rfl, hc, v4, v5, v6, rfl⟩⟩
  · simp +contextual -implicitDefEqProofs only [K38, SS, reduceAdd,reduceSub,reduceLeDiff,reduceEqDiff,reduceCtorEq, show ltI 0 1 = true from rfl]
    refine WC.callV (h _) rfl rfl ?_
    rintro _ _ ⟨rfl, rfl⟩
    simp +contextual -implicitDefEqProofs only [K38, SS, reduceAdd,reduceSub,reduceLeDiff,reduceEqDiff,reduceCtorEq]
    refine WC.br (fun hc => ?_) (fun hc => ?_)
    · simp +contextual -implicitDefEqProofs only [K38, SS, reduceAdd,reduceSub,reduceLeDiff,reduceEqDiff,reduceCtorEq]
      refine WC.leaveR ?_
      simp +contextual -implicitDefEqProofs only [K38, SS, reduceAdd,reduceSub,reduceLeDiff,reduceEqDiff,reduceCtorEq]
      exact WC.ret ⟨_, _, rfl, rfl, by cases c <;> simp_all <;> rfl⟩
    · simp +contextual -implicitDefEqProofs only [K38, SS, reduceAdd,reduceSub,reduceLeDiff,reduceEqDiff,reduceCtorEq, show wrapA .i64 (addI 0 1) = 1 from rfl]
      exact WC.next (m' := 0) (by decide) ⟨rfl, Or.inr ⟨rfl, by cases c <;> simp_all, _, _, _, rfl⟩⟩
  · simp +contextual -implicitDefEqProofs only [K38, SS, reduceAdd,reduceSub,reduceLeDiff,reduceEqDiff,reduceCtorEq, show ltI 1 1 = false from rfl]
    refine WC.leave ?_
    simp +contextual -implicitDefEqProofs only [K38, SS, reduceAdd,reduceSub,reduceLeDiff,reduceEqDiff,reduceCtorEq]
    exact WC.ret ⟨_, _, rfl, rfl, by rw [hc]; rfl⟩
theorem same_q : ∀ (t u : TRef) (st : St), EvQ tbl 18 [.agg t.row, .agg u.row] st (fun a st' => st' = st ∧ a = .bool (sameT t u)) := by
  intro t
  induction t with
  | base n b =>
    intro u st
    cases u with
    | base m c =>
      refine EvQ.body (fn := a18) rfl rfl rfl ?_
      simp only [TRef.row]
      simp +contextual -implicitDefEqProofs only [K18, SS, reduceAdd,reduceSub,reduceLeDiff,reduceEqDiff,reduceCtorEq]
      refine WC.g2 (fun h => ?_) (fun h => ?_)
      · simp +contextual -implicitDefEqProofs only [K18, SS, reduceAdd,reduceSub,reduceLeDiff,reduceEqDiff,reduceCtorEq, h]
        refine WC.call (equalF_nil _) rfl rfl ?_
        rintro _ _ ⟨rfl, rfl⟩
        simp +contextual -implicitDefEqProofs only [K18, SS, reduceAdd,reduceSub,reduceLeDiff,reduceEqDiff,reduceCtorEq, h]
        exact WC.ret ⟨_, _, rfl, rfl, by rw [sameT, h]; rfl⟩
      · have h : (eqN n m && b == c) = false := h
        simp +contextual -implicitDefEqProofs only [K18, SS, reduceAdd,reduceSub,reduceLeDiff,reduceEqDiff,reduceCtorEq, h]
        exact WC.ret ⟨_, _, rfl, rfl, by rw [sameT, h]; rfl⟩
    | wrap w c =>
      refine EvQ.body (fn := a18) rfl rfl rfl ?_
      simp only [TRef.row]
      simp +contextual -implicitDefEqProofs only [K18, SS, reduceAdd,reduceSub,reduceLeDiff,reduceEqDiff,reduceCtorEq]
      refine WC.g2 (fun h => ?_) (fun h => ?_)
      · simp +contextual -implicitDefEqProofs only [K18, SS, reduceAdd,reduceSub,reduceLeDiff,reduceEqDiff,reduceCtorEq, h]
        refine WC.call (equalF_ne _ _ (by simp) _) rfl rfl ?_
        rintro _ _ ⟨rfl, rfl⟩
        simp +contextual -implicitDefEqProofs only [K18, SS, reduceAdd,reduceSub,reduceLeDiff,reduceEqDiff,reduceCtorEq, h]
        exact WC.ret ⟨_, _, rfl, rfl, rfl⟩
      · have h : (eqN n [] && b == c) = false := h
        simp +contextual -implicitDefEqProofs only [K18, SS, reduceAdd,reduceSub,reduceLeDiff,reduceEqDiff,reduceCtorEq, h]
        exact WC.ret ⟨_, _, rfl, rfl, rfl⟩
  | wrap t b ih =>
    intro u st
    cases u with
    | base m c =>
      refine EvQ.body (fn := a18) rfl rfl rfl ?_
      simp only [TRef.row]
      simp +contextual -implicitDefEqProofs only [K18, SS, reduceAdd,reduceSub,reduceLeDiff,reduceEqDiff,reduceCtorEq]
      refine WC.g2 (fun h => ?_) (fun h => ?_)
      · simp +contextual -implicitDefEqProofs only [K18, SS, reduceAdd,reduceSub,reduceLeDiff,reduceEqDiff,reduceCtorEq, h]
        refine WC.call (equalF_ne _ _ (by simp) _) rfl rfl ?_
        rintro _ _ ⟨rfl, rfl⟩
        simp +contextual -implicitDefEqProofs only [K18, SS, reduceAdd,reduceSub,reduceLeDiff,reduceEqDiff,reduceCtorEq, h]
        exact WC.ret ⟨_, _, rfl, rfl, rfl⟩
      · have h : (eqN [] m && b == c) = false := h
        simp +contextual -implicitDefEqProofs only [K18, SS, reduceAdd,reduceSub,reduceLeDiff,reduceEqDiff,reduceCtorEq, h]
        exact WC.ret ⟨_, _, rfl, rfl, rfl⟩
    | wrap u c =>
      refine EvQ.body (fn := a18) rfl rfl rfl ?_
      simp only [TRef.row]
      simp +contextual -implicitDefEqProofs only [K18, SS, reduceAdd,reduceSub,reduceLeDiff,reduceEqDiff,reduceCtorEq, show eqN [] [] = true from rfl]
      refine WC.g2 (fun h => ?_) (fun h => ?_)
      · simp +contextual -implicitDefEqProofs only [K18, SS, reduceAdd,reduceSub,reduceLeDiff,reduceEqDiff,reduceCtorEq, h]
        refine WC.call (equalF_one t u (sameT t u) (fun st => ih u st) _) rfl rfl ?_
        rintro _ _ ⟨rfl, rfl⟩
        simp +contextual -implicitDefEqProofs only [K18, SS, reduceAdd,reduceSub,reduceLeDiff,reduceEqDiff,reduceCtorEq, h]
        exact WC.ret ⟨_, _, rfl, rfl, by rw [sameT, h]; rfl⟩
      · have h : (b == c) = false := h
        simp +contextual -implicitDefEqProofs only [K18, SS, reduceAdd,reduceSub,reduceLeDiff,reduceEqDiff,reduceCtorEq, h]
        exact WC.ret ⟨_, _, rfl, rfl, by rw [sameT, h]; rfl⟩
end Go.Cb.CodeA
set_option maxRecDepth 20000
set_option linter.unusedSimpArgs false
set_option linter.unusedVariables false
namespace Go.Cb.CodeA
open Go Go.Cb
open Nat (reduceAdd reduceSub reduceLeDiff reduceEqDiff)
attribute [local congr] obind_congr gv_congr2 gv2_congr brT_congr seqK_congr blkK_congr m1_congr gm_congr

/-- the first declaration of a name -/
def lk (l : List TDef) (n : List Nat) : Option TDef := l.find? (fun t => eqN n t.n)
def lkI : List TDef → List Nat → Nat → Option Nat
  | [], _, _ => none
  | t :: ts, n, i => if eqN n t.n then some i else lkI ts n (i + 1)
def entsFrom : List TDef → Nat → List (AV × AV)
  | [], _ => []
  | t :: ts, i => (.str t.n, .int .i64 i) :: entsFrom ts (i + 1)
theorem mfind_ents (n : List Nat) : ∀ (l : List TDef) (i : Nat), mfind 1 (.str n) (entsFrom l i) i = some ((lkI l n i).map fun j => (j, .int .i64 (j : Int)))
  | [], i => rfl
  | t :: ts, i => by
    have ih := mfind_ents n ts (i + 1)
    simp only [entsFrom, mfind, eqKey, if_true, lkI]
    cases h : eqN n t.n with
    | true => simp
    | false => simp [ih]
theorem lkI_some (n : List Nat) : ∀ (l : List TDef) (i j : Nat), lkI l n i = some j → ∃ m t, j = i + m ∧ l[m]? = some t ∧ lk l n = some t
  | [], i, j, h => by simp [lkI] at h
  | t :: ts, i, j, h => by
    simp only [lkI] at h
    by_cases hx : eqN n t.n = true
    · simp [hx] at h
      exact ⟨0, t, by omega, rfl, by simp [lk, hx]⟩
    · simp [hx] at h
      obtain ⟨m, u, rfl, h1, h2⟩ := lkI_some n ts (i + 1) j h
      refine ⟨m + 1, u, by omega, by simpa using h1, ?_⟩
      simp only [lk, List.find?_cons, hx] at h2 ⊢
      exact h2
theorem lkI_none (n : List Nat) : ∀ (l : List TDef) (i : Nat), lkI l n i = none → lk l n = none
  | [], i, h => rfl
  | t :: ts, i, h => by
    simp only [lkI] at h
    by_cases hx : eqN n t.n = true
    · simp [hx] at h
    · simp [hx] at h
      have := lkI_none n ts (i + 1) h
      simp only [lk, List.find?_cons, hx] at this ⊢
      exact this

/-- the schema's object: types, and the places of their names -/
structure Sch (l : List TDef) (so : Nat) (st : St) : Prop where
  len : l.length ≤ 3001
  ok : ∀ t ∈ l, t.OK
  ob : ∃ w mo, st[so]? = some (.cells [.list w (l.map TDef.row), .map mo]) ∧ st[mo]? = some (.map (entsFrom l 0))
theorem Sch.gr {l : List TDef} {so : Nat} {st st' : St} (h : Sch l so st) (hg : Gr st st') : Sch l so st' :=
  ⟨h.len, h.ok, let ⟨w, mo, h1, h2⟩ := h.ob; ⟨w, mo, hg _ _ h1, hg _ _ h2⟩⟩
def TDef.zero : TDef := ⟨0, [], [], []⟩
def typeA (o : Option TDef) : AV := .tuple [.agg (o.getD TDef.zero).row, .bool o.isSome]

theorem mget_e (call : CallT) (bx : AV) (st : St) (o : Nat) (n : List Nat) : semMget 1 [.int .i64 0] false true call [.map o, .str n] bx st =
    match st[o]? with
    | some (.map es) => (match (match mfind 1 (.str n) es 0 with
      | some r => match (match r with | some (_, v) => some v | none => some (.int .i64 0)) with
        | some v => some (.tuple [v, .bool r.isSome])
        | none => none
      | none => none) with
      | some v => some (v, bx, st)
      | none => none)
    | _ => none := by
  unfold semMget
  dsimp only
  cases st[o]? with
  | none => rfl
  | some ob =>
    cases ob with
    | map es =>
      dsimp only
      cases mfind 1 (.str n) es 0 with
      | none => rfl
      | some r => cases r <;> rfl
    | _ => rfl
theorem type_s {l : List TDef} {so : Nat} {st : St} (h : Sch l so st) (n : List Nat) : EvQ tbl 15 [.ptr so 0, .str n] st (fun a st' => st' = st ∧ a = typeA (lk l n)) := by
  obtain ⟨w, mo, h1, h2⟩ := h.ob
  have hm := mfind_ents n l 0
  refine EvQ.body (fn := a15) rfl rfl rfl ?_
  cases hj : lkI l n 0 with
  | none =>
    rw [hj] at hm
    rw [lkI_none n l 0 hj]
    simp only [Option.map_none] at hm
    simp +contextual -implicitDefEqProofs only [K15, SS, reduceAdd,reduceSub,reduceLeDiff,reduceEqDiff,reduceCtorEq, h1, mget_e, h2, hm, Option.isSome_none]
    exact WC.ret ⟨_, _, rfl, rfl, rfl⟩
  | some j =>
    rw [hj] at hm
    obtain ⟨m, t, rfl, ht, hl⟩ := lkI_some n l 0 j hj
    rw [hl]
    simp only [Option.map_some, Nat.zero_add] at hm
    have e2 : (l.map TDef.row)[m]? = some t.row := by rw [List.getElem?_map, ht]; rfl
    simp +contextual -implicitDefEqProofs only [K15, SS, reduceAdd,reduceSub,reduceLeDiff,reduceEqDiff,reduceCtorEq, h1, mget_e, h2, hm, Option.isSome_some, e2, TDef.row]
    exact WC.ret ⟨_, _, rfl, rfl, rfl⟩
def scalars : List (List Nat) := [[66, 111, 111, 108, 101, 97, 110], [73, 68], [73, 110, 116], [83, 116, 114, 105, 110, 103]]
def scalarB (n : List Nat) : Bool := hasN scalars n
theorem scalar_s (so : Nat) (n : List Nat) (st : St) : EvQ tbl 21 [.ptr so 0, .str n] st (fun a st' => st' = st ∧ a = .bool (scalarB n)) := by
  refine EvQ.body (fn := a21) rfl rfl rfl ?_
  simp +contextual -implicitDefEqProofs only [K21, SS, reduceAdd,reduceSub,reduceLeDiff,reduceEqDiff,reduceCtorEq, chunks]
  refine WC.call (contains_q scalars (by decide) n _) rfl rfl ?_
  rintro _ _ ⟨rfl, rfl⟩
  simp +contextual -implicitDefEqProofs only [K21, SS, reduceAdd,reduceSub,reduceLeDiff,reduceEqDiff,reduceCtorEq]
  exact WC.ret ⟨_, _, rfl, rfl, rfl⟩
def kindB (l : List TDef) (n : List Nat) (k : Int) : Bool := match lk l n with
  | some t => eqI t.k k
  | none => false
theorem kind_s {l : List TDef} {so : Nat} {st : St} (h : Sch l so st) (n : List Nat) (k : Int) : EvQ tbl 35 [.ptr so 0, .str n, .int .u8 k] st (fun a st' => st' = st ∧ a = .bool (kindB l n k)) := by
  refine EvQ.body (fn := a35) rfl rfl rfl ?_
  simp +contextual -implicitDefEqProofs only [K35, SS, reduceAdd,reduceSub,reduceLeDiff,reduceEqDiff,reduceCtorEq]
  refine WC.call (type_s h n) rfl rfl ?_
  rintro _ _ ⟨rfl, rfl⟩
  cases hl : lk l n with
  | none =>
    simp +contextual -implicitDefEqProofs only [K35, SS, reduceAdd,reduceSub,reduceLeDiff,reduceEqDiff,reduceCtorEq, typeA, Option.getD_none, TDef.zero, TDef.row, Option.isSome_none]
    exact WC.ret ⟨_, _, rfl, rfl, by simp only [kindB, hl]; rfl⟩
  | some t =>
    simp +contextual -implicitDefEqProofs only [K35, SS, reduceAdd,reduceSub,reduceLeDiff,reduceEqDiff,reduceCtorEq, typeA, Option.getD_some, TDef.row, Option.isSome_some]
    exact WC.ret ⟨_, _, rfl, rfl, by simp only [kindB, hl]; rfl⟩
theorem enum_s {l : List TDef} {so : Nat} {st : St} (h : Sch l so st) (n : List Nat) : EvQ tbl 22 [.ptr so 0, .str n] st (fun a st' => st' = st ∧ a = .bool (kindB l n 4)) := by
  refine EvQ.body (fn := a22) rfl rfl rfl ?_
  simp +contextual -implicitDefEqProofs only [K22, SS, reduceAdd,reduceSub,reduceLeDiff,reduceEqDiff,reduceCtorEq]
  refine WC.call (kind_s h n 4) rfl rfl ?_
  rintro _ _ ⟨rfl, rfl⟩
  simp +contextual -implicitDefEqProofs only [K22, SS, reduceAdd,reduceSub,reduceLeDiff,reduceEqDiff,reduceCtorEq]
  exact WC.ret ⟨_, _, rfl, rfl, rfl⟩
theorem input_s {l : List TDef} {so : Nat} {st : St} (h : Sch l so st) (n : List Nat) : EvQ tbl 23 [.ptr so 0, .str n] st (fun a st' => st' = st ∧ a = .bool (kindB l n 5)) := by
  refine EvQ.body (fn := a23) rfl rfl rfl ?_
  simp +contextual -implicitDefEqProofs only [K23, SS, reduceAdd,reduceSub,reduceLeDiff,reduceEqDiff,reduceCtorEq]
  refine WC.call (kind_s h n 5) rfl rfl ?_
  rintro _ _ ⟨rfl, rfl⟩
  simp +contextual -implicitDefEqProofs only [K23, SS, reduceAdd,reduceSub,reduceLeDiff,reduceEqDiff,reduceCtorEq]
  exact WC.ret ⟨_, _, rfl, rfl, rfl⟩
def rootB (n : List Nat) : Bool := eqN n [81, 117, 101, 114, 121] || eqN n [77, 117, 116, 97, 116, 105, 111, 110]
theorem root_s (n : List Nat) (st : St) : EvQ tbl 34 [.str n] st (fun a st' => st' = st ∧ a = .bool (rootB n)) := root_q0 n st
def compB (l : List TDef) (n : List Nat) : Bool := !rootB n && (kindB l n 1 || kindB l n 2 || kindB l n 3)
theorem comp_s {l : List TDef} {so : Nat} {st : St} (h : Sch l so st) (n : List Nat) : EvQ tbl 12 [.ptr so 0, .str n] st (fun a st' => st' = st ∧ a = .bool (compB l n)) := by
  refine EvQ.body (fn := a12) rfl rfl rfl ?_
  unfold compB
  simp +contextual -implicitDefEqProofs only [K12, SS, reduceAdd,reduceSub,reduceLeDiff,reduceEqDiff,reduceCtorEq]
  refine WC.call (root_s _ _) rfl rfl ?_
  rintro _ _ ⟨rfl, rfl⟩
  simp +contextual -implicitDefEqProofs only [K12, SS, reduceAdd,reduceSub,reduceLeDiff,reduceEqDiff,reduceCtorEq]
  generalize rootB n = b0
  cases b0 with
  | true =>
    simp +contextual -implicitDefEqProofs only [K12, SS, reduceAdd,reduceSub,reduceLeDiff,reduceEqDiff,reduceCtorEq]
    exact WC.ret ⟨_, _, rfl, rfl, rfl⟩
  | false =>
  simp +contextual -implicitDefEqProofs only [K12, SS, reduceAdd,reduceSub,reduceLeDiff,reduceEqDiff,reduceCtorEq]
  refine WC.call (kind_s h _ _) rfl rfl ?_
  rintro _ _ ⟨rfl, rfl⟩
  generalize kindB l n 1 = b1
  cases b1 with
  | true =>
    simp +contextual -implicitDefEqProofs only [K12, SS, reduceAdd,reduceSub,reduceLeDiff,reduceEqDiff,reduceCtorEq]
    exact WC.ret ⟨_, _, rfl, rfl, rfl⟩
  | false =>
  simp +contextual -implicitDefEqProofs only [K12, SS, reduceAdd,reduceSub,reduceLeDiff,reduceEqDiff,reduceCtorEq]
  refine WC.call (kind_s h _ _) rfl rfl ?_
  rintro _ _ ⟨rfl, rfl⟩
  generalize kindB l n 2 = b2
  cases b2 with
  | true =>
    simp +contextual -implicitDefEqProofs only [K12, SS, reduceAdd,reduceSub,reduceLeDiff,reduceEqDiff,reduceCtorEq]
    exact WC.ret ⟨_, _, rfl, rfl, rfl⟩
  | false =>
  simp +contextual -implicitDefEqProofs only [K12, SS, reduceAdd,reduceSub,reduceLeDiff,reduceEqDiff,reduceCtorEq]
  refine WC.call (kind_s h _ _) rfl rfl ?_
  rintro _ _ ⟨rfl, rfl⟩
  simp +contextual -implicitDefEqProofs only [K12, SS, reduceAdd,reduceSub,reduceLeDiff,reduceEqDiff,reduceCtorEq]
  exact WC.ret ⟨_, _, rfl, rfl, rfl⟩
end Go.Cb.CodeA
set_option maxRecDepth 20000
set_option linter.unusedSimpArgs false
set_option linter.unusedVariables false
namespace Go.Cb.CodeA
open Go Go.Cb
open Nat (reduceAdd reduceSub reduceLeDiff reduceEqDiff)
attribute [local congr] obind_congr gv_congr2 gv2_congr brT_congr seqK_congr blkK_congr m1_congr gm_congr

/-- a fault: its number, its name -/
abbrev Flt := Int × List Nat
def fltA (f : Flt) : AV := .agg [.int .i64 f.1, .str f.2]
def twiceGo : List (List Nat) → List (List Nat) → Flt
  | _, [] => (0, [])
  | seen, n :: rest => if hasN seen n then (7, n) else (if beginsN n [95, 95] then (1, n) else twiceGo (seen ++ [n]) rest)
def twiceS (l : List (List Nat)) : Flt := twiceGo [] l
theorem twice_s (l : List (List Nat)) (hl : l.length ≤ 10000) (st : St) : EvQ tbl 50 [.list false (l.map strRow)] st (fun a st' => st' = st ∧ a = fltA (twiceS l)) := by
  refine EvQ.body (fn := a50) rfl rfl rfl ?_
  simp +contextual -implicitDefEqProofs only [K50, SS, reduceAdd,reduceSub,reduceLeDiff,reduceEqDiff,reduceCtorEq, List.length_map]
  refine WC.loopR (fun mm fr st' => st' = st ∧ ∃ (i : Nat) (v2 v3 : AV), i ≤ l.length ∧ mm = l.length - i ∧ twiceS l = twiceGo (l.take i) (l.drop i) ∧ fr = [.list false (l.map strRow), .box [.int .i64 0, .str []], v2, v3, .list false (l.map strRow), .int .i64 l.length, .int .i64 i]) (m := l.length) ⟨rfl, 0, _, _, Nat.zero_le _, rfl, rfl, rfl⟩ ?_
  rintro mm fr st' ⟨rfl, i, v2, v3, hi, rfl, hgo, rfl⟩
  simp +contextual -implicitDefEqProofs only [K50, SS, reduceAdd,reduceSub,reduceLeDiff,reduceEqDiff,reduceCtorEq]
  by_cases hil : i < l.length
  · have e2 : (l.map strRow)[i]? = some (strRow l[i]) := by rw [List.getElem?_map, List.getElem?_eq_getElem hil]; rfl
    have e3 : l.take (i + 1) = l.take i ++ [l[i]] := by rw [List.take_add_one, List.getElem?_eq_getElem hil]; rfl
    rw [List.drop_eq_getElem_cons hil, twiceGo] at hgo
    revert hgo e2 e3
    generalize l[i] = x
    intro hgo e2 e3
    simp +contextual -implicitDefEqProofs only [K50, SS, reduceAdd,reduceSub,reduceLeDiff,reduceEqDiff,reduceCtorEq, hil, e2, strRow, rowsStr, List.length_map, show i ≤ l.length by omega]
    refine WC.call (contains_q (l.take i) (by simp; omega) x _) rfl (by rw [List.map_take]; rfl) ?_
    rintro _ _ ⟨rfl, rfl⟩
    simp +contextual -implicitDefEqProofs only [K50, SS, reduceAdd,reduceSub,reduceLeDiff,reduceEqDiff,reduceCtorEq]
    refine WC.br (fun hx => ?_) (fun hx => ?_)
    · rw [if_pos hx] at hgo
      simp +contextual -implicitDefEqProofs only [K50, SS, reduceAdd,reduceSub,reduceLeDiff,reduceEqDiff,reduceCtorEq]
      refine WC.leaveR ?_
      simp +contextual -implicitDefEqProofs only [K50, SS, reduceAdd,reduceSub,reduceLeDiff,reduceEqDiff,reduceCtorEq]
      exact WC.ret ⟨_, _, rfl, rfl, by rw [hgo]; rfl⟩
    rw [if_neg (by rw [hx]; decide)] at hgo
    simp +contextual -implicitDefEqProofs only [K50, SS, reduceAdd,reduceSub,reduceLeDiff,reduceEqDiff,reduceCtorEq]
    refine WC.call (hasPrefix_q x _ _) rfl rfl ?_
    rintro _ _ ⟨rfl, rfl⟩
    simp +contextual -implicitDefEqProofs only [K50, SS, reduceAdd,reduceSub,reduceLeDiff,reduceEqDiff,reduceCtorEq]
    refine WC.br (fun hx => ?_) (fun hx => ?_)
    · rw [if_pos hx] at hgo
      simp +contextual -implicitDefEqProofs only [K50, SS, reduceAdd,reduceSub,reduceLeDiff,reduceEqDiff,reduceCtorEq]
      refine WC.leaveR ?_
      simp +contextual -implicitDefEqProofs only [K50, SS, reduceAdd,reduceSub,reduceLeDiff,reduceEqDiff,reduceCtorEq]
      exact WC.ret ⟨_, _, rfl, rfl, by rw [hgo]; rfl⟩
    · rw [if_neg (by rw [hx]; decide)] at hgo
      simp +contextual -implicitDefEqProofs only [K50, SS, reduceAdd,reduceSub,reduceLeDiff,reduceEqDiff,reduceCtorEq, inc64 (show i + 1 < 2 ^ 63 by omega)]
      exact WC.next (m' := l.length - (i + 1)) (by omega) ⟨rfl, i + 1, _, _, hil, rfl, by rw [hgo, e3], rfl⟩
  · simp +contextual -implicitDefEqProofs only [K50, SS, reduceAdd,reduceSub,reduceLeDiff,reduceEqDiff,reduceCtorEq, hil]
    refine WC.leave ?_
    simp +contextual -implicitDefEqProofs only [K50, SS, reduceAdd,reduceSub,reduceLeDiff,reduceEqDiff,reduceCtorEq]
    refine WC.ret ⟨_, _, rfl, rfl, ?_⟩
    rw [hgo, List.drop_of_length_le (by omega), twiceGo]
    rfl

theorem indexF_s (cf : Nat) (caps : List AV) (hc : caps.map AV.weak = caps) (p : FDef → Bool) (fs : List FDef) (hl : fs.length ≤ 10000) (st0 : St)
    (h : ∀ f ∈ fs, ∀ st, Gr st0 st → EvQ tbl cf (.agg f.row :: caps) st (fun a st' => Gr st st' ∧ a = .bool (p f))) (st : St) (hg : Gr st0 st) :
    EvQ tbl 75 [.list false (fs.map FDef.row), .func cf [] caps] st (fun a st' => Gr st st' ∧ ∃ r, a = .int .i64 r ∧ (!ltI r 0) = fs.any p) := by
  refine EvQ.body (fn := a75) rfl rfl rfl ?_
  simp +contextual -implicitDefEqProofs only [K75, SS, reduceAdd,reduceSub,reduceLeDiff,reduceEqDiff,reduceCtorEq, List.length_map]
  refine WC.loopR (fun mm fr st' => Gr st st' ∧ ∃ (i : Nat) (v3 : AV), i ≤ fs.length ∧ mm = fs.length - i ∧ fs.any p = (fs.drop i).any p ∧ fr = [.list false (fs.map FDef.row), .func cf [] caps, .int .i64 0, v3, .int .i64 fs.length, .int .i64 i]) (m := fs.length) ⟨Gr.refl _, 0, _, Nat.zero_le _, rfl, rfl, rfl⟩ ?_
  rintro mm fr st' ⟨hg', i, v3, hi, rfl, hany, rfl⟩
  simp +contextual -implicitDefEqProofs only [K75, SS, reduceAdd,reduceSub,reduceLeDiff,reduceEqDiff,reduceCtorEq]
  by_cases hil : i < fs.length
  · have e2 : (fs.map FDef.row)[i]? = some (fs[i]).row := by rw [List.getElem?_map, List.getElem?_eq_getElem hil]; rfl
    have hf := h _ (List.getElem_mem hil) st' (hg.trans hg')
    rw [List.drop_eq_getElem_cons hil, List.any_cons] at hany
    revert hany e2 hf
    generalize fs[i] = f
    intro hany e2 hf
    obtain ⟨tn, txs, tb, vk, vn, vs, vx, vy, _, _, ef⟩ := f.row_cells
    rw [ef] at e2 hf
    simp +contextual -implicitDefEqProofs only [K75, SS, reduceAdd,reduceSub,reduceLeDiff,reduceEqDiff,reduceCtorEq, hil, e2]
    refine WC.callV hf rfl (by simp only [List.nil_append, List.cons_append, List.map_cons, hc]; rfl) ?_
    rintro _ st2 ⟨hg2, rfl⟩
    simp +contextual -implicitDefEqProofs only [K75, SS, reduceAdd,reduceSub,reduceLeDiff,reduceEqDiff,reduceCtorEq]
    refine WC.br (fun hx => ?_) (fun hx => ?_)
    · simp +contextual -implicitDefEqProofs only [K75, SS, reduceAdd,reduceSub,reduceLeDiff,reduceEqDiff,reduceCtorEq]
      refine WC.leaveR ?_
      simp +contextual -implicitDefEqProofs only [K75, SS, reduceAdd,reduceSub,reduceLeDiff,reduceEqDiff,reduceCtorEq]
      refine WC.ret ⟨_, _, rfl, hg'.trans hg2, _, rfl, ?_⟩
      rw [hany, hx, ltI_eq]
      simp
    · simp +contextual -implicitDefEqProofs only [K75, SS, reduceAdd,reduceSub,reduceLeDiff,reduceEqDiff,reduceCtorEq, inc64 (show i + 1 < 2 ^ 63 by omega)]
      exact WC.next (m' := fs.length - (i + 1)) (by omega) ⟨hg'.trans hg2, i + 1, _, hil, rfl, by rw [hany, hx]; rfl, rfl⟩
  · simp +contextual -implicitDefEqProofs only [K75, SS, reduceAdd,reduceSub,reduceLeDiff,reduceEqDiff,reduceCtorEq, hil]
    refine WC.leave ?_
    simp +contextual -implicitDefEqProofs only [K75, SS, reduceAdd,reduceSub,reduceLeDiff,reduceEqDiff,reduceCtorEq]
    refine WC.ret ⟨_, _, rfl, hg', _, rfl, ?_⟩
    rw [hany, List.drop_of_length_le (by omega)]
    rfl
theorem containsF_s (cf : Nat) (caps : List AV) (hc : caps.map AV.weak = caps) (p : FDef → Bool) (fs : List FDef) (hl : fs.length ≤ 10000) (st0 : St)
    (h : ∀ f ∈ fs, ∀ st, Gr st0 st → EvQ tbl cf (.agg f.row :: caps) st (fun a st' => Gr st st' ∧ a = .bool (p f))) (st : St) (hg : Gr st0 st) :
    EvQ tbl 65 [.list false (fs.map FDef.row), .func cf [] caps] st (fun a st' => Gr st st' ∧ a = .bool (fs.any p)) := by
  refine EvQ.body (fn := a65) rfl rfl rfl ?_
  simp +contextual -implicitDefEqProofs only [K65, SS, reduceAdd,reduceSub,reduceLeDiff,reduceEqDiff,reduceCtorEq]
  refine WC.call (indexF_s cf caps hc p fs hl st0 h st hg) rfl rfl ?_
  rintro _ st' ⟨hg', r, rfl, hr⟩
  simp +contextual -implicitDefEqProofs only [K65, SS, reduceAdd,reduceSub,reduceLeDiff,reduceEqDiff,reduceCtorEq, hr]
  exact WC.ret ⟨_, _, rfl, hg', rfl⟩
theorem indexV_s (cf : Nat) (caps : List AV) (hc : caps.map AV.weak = caps) (p : Val → Bool) (fs : List Val) (hl : fs.length ≤ 10000) (st0 : St)
    (h : ∀ f ∈ fs, ∀ st, Gr st0 st → EvQ tbl cf (.agg f.row :: caps) st (fun a st' => Gr st st' ∧ a = .bool (p f))) (st : St) (hg : Gr st0 st) :
    EvQ tbl 77 [.list false (fs.map Val.row), .func cf [] caps] st (fun a st' => Gr st st' ∧ ∃ r, a = .int .i64 r ∧ (!ltI r 0) = fs.any p) := by
  refine EvQ.body (fn := a77) rfl rfl rfl ?_
  simp +contextual -implicitDefEqProofs only [K77, SS, reduceAdd,reduceSub,reduceLeDiff,reduceEqDiff,reduceCtorEq, List.length_map]
  refine WC.loopR (fun mm fr st' => Gr st st' ∧ ∃ (i : Nat) (v3 : AV), i ≤ fs.length ∧ mm = fs.length - i ∧ fs.any p = (fs.drop i).any p ∧ fr = [.list false (fs.map Val.row), .func cf [] caps, .int .i64 0, v3, .int .i64 fs.length, .int .i64 i]) (m := fs.length) ⟨Gr.refl _, 0, _, Nat.zero_le _, rfl, rfl, rfl⟩ ?_
  rintro mm fr st' ⟨hg', i, v3, hi, rfl, hany, rfl⟩
  simp +contextual -implicitDefEqProofs only [K77, SS, reduceAdd,reduceSub,reduceLeDiff,reduceEqDiff,reduceCtorEq]
  by_cases hil : i < fs.length
  · have e2 : (fs.map Val.row)[i]? = some (fs[i]).row := by rw [List.getElem?_map, List.getElem?_eq_getElem hil]; rfl
    have hf := h _ (List.getElem_mem hil) st' (hg.trans hg')
    rw [List.drop_eq_getElem_cons hil, List.any_cons] at hany
    revert hany e2 hf
    generalize fs[i] = f
    intro hany e2 hf
    obtain ⟨vk, vn, vs, vx, vy, ef⟩ := f.row_cells
    rw [ef] at e2 hf
    simp +contextual -implicitDefEqProofs only [K77, SS, reduceAdd,reduceSub,reduceLeDiff,reduceEqDiff,reduceCtorEq, hil, e2]
    refine WC.callV hf rfl (by simp only [List.nil_append, List.cons_append, List.map_cons, hc]; rfl) ?_
    rintro _ st2 ⟨hg2, rfl⟩
    simp +contextual -implicitDefEqProofs only [K77, SS, reduceAdd,reduceSub,reduceLeDiff,reduceEqDiff,reduceCtorEq]
    refine WC.br (fun hx => ?_) (fun hx => ?_)
    · simp +contextual -implicitDefEqProofs only [K77, SS, reduceAdd,reduceSub,reduceLeDiff,reduceEqDiff,reduceCtorEq]
      refine WC.leaveR ?_
      simp +contextual -implicitDefEqProofs only [K77, SS, reduceAdd,reduceSub,reduceLeDiff,reduceEqDiff,reduceCtorEq]
      refine WC.ret ⟨_, _, rfl, hg'.trans hg2, _, rfl, ?_⟩
      rw [hany, hx, ltI_eq]
      simp
    · simp +contextual -implicitDefEqProofs only [K77, SS, reduceAdd,reduceSub,reduceLeDiff,reduceEqDiff,reduceCtorEq, inc64 (show i + 1 < 2 ^ 63 by omega)]
      exact WC.next (m' := fs.length - (i + 1)) (by omega) ⟨hg'.trans hg2, i + 1, _, hil, rfl, by rw [hany, hx]; rfl, rfl⟩
  · simp +contextual -implicitDefEqProofs only [K77, SS, reduceAdd,reduceSub,reduceLeDiff,reduceEqDiff,reduceCtorEq, hil]
    refine WC.leave ?_
    simp +contextual -implicitDefEqProofs only [K77, SS, reduceAdd,reduceSub,reduceLeDiff,reduceEqDiff,reduceCtorEq]
    refine WC.ret ⟨_, _, rfl, hg', _, rfl, ?_⟩
    rw [hany, List.drop_of_length_le (by omega)]
    rfl
theorem containsV_s (cf : Nat) (caps : List AV) (hc : caps.map AV.weak = caps) (p : Val → Bool) (fs : List Val) (hl : fs.length ≤ 10000) (st0 : St)
    (h : ∀ f ∈ fs, ∀ st, Gr st0 st → EvQ tbl cf (.agg f.row :: caps) st (fun a st' => Gr st st' ∧ a = .bool (p f))) (st : St) (hg : Gr st0 st) :
    EvQ tbl 72 [.list false (fs.map Val.row), .func cf [] caps] st (fun a st' => Gr st st' ∧ a = .bool (fs.any p)) := by
  refine EvQ.body (fn := a72) rfl rfl rfl ?_
  simp +contextual -implicitDefEqProofs only [K72, SS, reduceAdd,reduceSub,reduceLeDiff,reduceEqDiff,reduceCtorEq]
  refine WC.call (indexV_s cf caps hc p fs hl st0 h st hg) rfl rfl ?_
  rintro _ st' ⟨hg', r, rfl, hr⟩
  simp +contextual -implicitDefEqProofs only [K72, SS, reduceAdd,reduceSub,reduceLeDiff,reduceEqDiff,reduceCtorEq, hr]
  exact WC.ret ⟨_, _, rfl, hg', rfl⟩
end Go.Cb.CodeA
set_option maxRecDepth 20000
set_option linter.unusedSimpArgs false
set_option linter.unusedVariables false
namespace Go.Cb.CodeA
open Go Go.Cb
open Nat (reduceAdd reduceSub reduceLeDiff reduceEqDiff)
attribute [local congr] obind_congr gv_congr2 gv2_congr brT_congr seqK_congr blkK_congr m1_congr gm_congr

/-- the first field of a name -/
def fldAt (fs : List FDef) (n : List Nat) : Option FDef := fs.find? (fun f => eqN n f.name)
theorem idx_fld (n : List Nat) : ∀ fs : List FDef, (fldAt fs n = none ∧ idx (namesF fs) n = -1) ∨ (∃ (i : Nat) (f : FDef), fldAt fs n = some f ∧ idx (namesF fs) n = i ∧ fs[i]? = some f)
  | [] => Or.inl ⟨rfl, rfl⟩
  | f :: fs => by
    simp only [fldAt, List.find?_cons, namesF, List.map_cons, idx]
    by_cases hx : eqN n f.name = true
    · exact Or.inr ⟨0, f, by simp [hx], by simp [hx], rfl⟩
    · simp only [hx, Bool.false_eq_true, if_false]
      rcases idx_fld n fs with ⟨h1, h2⟩ | ⟨i, g, h1, h2, h3⟩
      · left
        simp only [fldAt, namesF] at h1 h2
        exact ⟨h1, by rw [h2]; rfl⟩
      · right
        simp only [fldAt, namesF] at h1 h2
        refine ⟨i + 1, g, h1, ?_, by simpa using h3⟩
        rw [h2, if_neg (by omega)]
        omega

def objGo (d : TDef) : List (List Nat) → List (List Nat) → List (TRef → Bool) → Bool
  | _, [], _ => true
  | _, _ :: _, [] => false
  | seen, k :: ks, c :: cs => match fldAt d.fs k with
    | none => false
    | some f => if hasN seen k then false else (if c f.ty then objGo d (seen ++ [k]) ks cs else false)
def objS (d : TDef) (ks : List (List Nat)) (cs : List (TRef → Bool)) : Bool := objGo d [] ks cs && !(d.fs.any fun f => f.ty.bang && !f.has && !hasN ks f.name)
def intS : List Nat := [73, 110, 116]
def stringS : List Nat := [83, 116, 114, 105, 110, 103]
def booleanS : List Nat := [66, 111, 111, 108, 101, 97, 110]
def idS : List Nat := [73, 68]
def fitsT (l : List TDef) (k n : Int) (s : List Nat) (ks : List (List Nat)) (cs : List (TRef → Bool)) : TRef → Bool
  | .wrap u b => if eqI k 0 then !b else (if eqI k 5 then cs.all (fun c => c u) else fitsT l k n s ks cs u)
  | .base m b => if eqI k 0 then !b else (if eqN m intS then eqI k 1 && eqI n (wrapA .i64 (wrapA .i32 n)) else (if eqN m stringS then eqI k 2 else (if eqN m booleanS then eqI k 3 else (if eqN m idS then eqI k 2 || eqI k 1 else
      (if eqI ((lk l m).getD TDef.zero).k 4 then eqI k 4 && hasN ((lk l m).getD TDef.zero).ns s else (if eqI ((lk l m).getD TDef.zero).k 5 then eqI k 6 && objS ((lk l m).getD TDef.zero) ks cs else false))))))
mutual
def fitsV (l : List TDef) : Val → TRef → Bool
  | .mk k n s ks ls, t => fitsT l k n s ks (fitsL l ls) t
def fitsL (l : List TDef) : List Val → List (TRef → Bool)
  | [] => []
  | v :: vs => (fun t => fitsV l v t) :: fitsL l vs
end
theorem fitsL_map (l : List TDef) : ∀ vs : List Val, fitsL l vs = vs.map fun v => fun t => fitsV l v t
  | [] => by simp [fitsL]
  | v :: vs => by simp [fitsL, fitsL_map l vs]
theorem fitsL_all (l : List TDef) (vs : List Val) (u : TRef) : (fitsL l vs).all (fun c => c u) = !(vs.any fun v => !fitsV l v u) := by
  rw [fitsL_map]
  induction vs with
  | nil => rfl
  | cons v vs ih => simp only [List.map_cons, List.all_cons, List.any_cons, ih, Bool.not_or, Bool.not_not]

def FitsQ (l : List TDef) (so : Nat) (v : Val) : Prop := ∀ (t : TRef) (st : St), Sch l so st → EvQ tbl 64 [.ptr so 0, .agg t.row, .agg v.row] st (fun a st' => Gr st st' ∧ a = .bool (fitsV l v t))

/-- two things more stand behind the store -/
theorem two_more (st : St) (a b : Obj) : Gr st (st ++ [a] ++ [b]) ∧ (st ++ [a] ++ [b])[st.length]? = some a ∧ (st ++ [a] ++ [b])[(st ++ [a]).length]? = some b := by
  refine ⟨(Gr.app _ _).trans (Gr.app _ _), ?_, ?_⟩
  · simp
  · simp
theorem one_more (st : St) (a : Obj) : Gr st (st ++ [a]) ∧ (st ++ [a])[st.length]? = some a := ⟨Gr.app _ _, by simp⟩

theorem objf_s (f : FDef) (o : Nat) (st : St) {k n : Int} {s : List Nat} {ks : List (List Nat)} {ys : List (List AV)} (hks : ks.length ≤ 10000) (h : st[o]? = some (.cells [.int .u8 k, .int .i64 n, .str s, .list false (ks.map strRow), .list false ys])) :
    EvQ tbl 78 [.agg f.row, .ptr o 0] st (fun a st' => Gr st st' ∧ a = .bool (f.ty.bang && !f.has && !hasN ks f.name)) := by
  obtain ⟨tn, txs, tb, vk, vn, vs, vx, vy, et, ev, ef⟩ := f.row_cells
  have hb : f.ty.bang = tb := by
    have := f.ty.row_eq.symm.trans et
    simp at this
    exact this.2.2
  rw [ef, hb]
  refine EvQ.body (fn := a78) rfl rfl rfl ?_
  simp +contextual -implicitDefEqProofs only [K78, SS, reduceAdd,reduceSub,reduceLeDiff,reduceEqDiff,reduceCtorEq, h]
  refine WC.g2 (fun hg => ?_) (fun hg => ?_)
  · simp +contextual -implicitDefEqProofs only [K78, SS, reduceAdd,reduceSub,reduceLeDiff,reduceEqDiff,reduceCtorEq, hg, h]
    refine WC.call (contains_q ks hks _ _) rfl rfl ?_
    rintro _ _ ⟨rfl, rfl⟩
    simp +contextual -implicitDefEqProofs only [K78, SS, reduceAdd,reduceSub,reduceLeDiff,reduceEqDiff,reduceCtorEq, hg]
    exact WC.ret ⟨_, _, rfl, Gr.refl _, rfl⟩
  · have hg : (tb && !f.has) = false := hg
    simp +contextual -implicitDefEqProofs only [K78, SS, reduceAdd,reduceSub,reduceLeDiff,reduceEqDiff,reduceCtorEq, hg]
    exact WC.ret ⟨_, _, rfl, Gr.refl _, rfl⟩

theorem ltI_neg1 : ltI (-1) 0 = true := rfl
theorem ltI_nat0 (i : Nat) : ltI (i : Int) 0 = false := by rw [ltI_eq]; simp
theorem object_s {l : List TDef} {so : Nat} {k n : Int} {s : List Nat} {ks : List (List Nat)} {ls : List Val} (hk : ks.length = ls.length) (hl : ls.length ≤ 3000) (ih : ∀ v ∈ ls, FitsQ l so v) (d : TDef) (hd : d.OK) (st : St) (h : Sch l so st) :
    EvQ tbl 74 [.ptr so 0, .agg d.row, .agg (Val.mk k n s ks ls).row] st (fun a st' => Gr st st' ∧ a = .bool (objS d ks (fitsL l ls))) := by
  rw [Val.row_eq, TDef.row]
  refine EvQ.body (fn := a74) rfl rfl rfl ?_
  have hdf := hd.lf
  obtain ⟨hg1, h4⟩ := one_more st (.cells [.int .u8 k, .int .i64 n, .str s, .list false (ks.map strRow), .list false (ls.map Val.row)])
  simp +contextual -implicitDefEqProofs only [K74, SS, reduceAdd,reduceSub,reduceLeDiff,reduceEqDiff,reduceCtorEq]
  revert hg1 h4
  generalize st ++ [Obj.cells [AV.int .u8 k, AV.int .i64 n, AV.str s, AV.list false (ks.map strRow), AV.list false (ls.map Val.row)]] = st1
  generalize st.length = o4
  intro hg1 h4
  simp +contextual -implicitDefEqProofs only [K74, SS, reduceAdd,reduceSub,reduceLeDiff,reduceEqDiff,reduceCtorEq, h4, List.length_map]
  refine WC.loopR (fun mm fr st' => Gr st1 st' ∧ ∃ (i : Nat) (v6 v7 v8 : AV), i ≤ ks.length ∧ mm = ks.length - i ∧ objGo d [] ks (fitsL l ls) = objGo d (ks.take i) (ks.drop i) ((fitsL l ls).drop i) ∧
    fr = [.ptr so 0, .agg [.int .u8 d.k, .str d.n, .list false (d.fs.map FDef.row), .list false (d.ns.map strRow)], .agg [.int .u8 k, .int .i64 n, .str s, .list false (ks.map strRow), .list false (ls.map Val.row)], .box [.int .u8 d.k, .str d.n, .list false (d.fs.map FDef.row), .list false (d.ns.map strRow)], .ptr o4 0, .bool false, v6, v7, v8, .list false (ks.map strRow), .int .i64 ks.length, .int .i64 i]) (m := ks.length) ⟨Gr.refl _, 0, _, _, _, Nat.zero_le _, rfl, rfl, rfl⟩ ?_
  rintro mm fr st' ⟨hg', i, v6, v7, v8, hi, rfl, hgo, rfl⟩
  have h4' := hg' _ _ h4
  have hS := h.gr (hg1.trans hg')
  simp +contextual -implicitDefEqProofs only [K74, SS, reduceAdd,reduceSub,reduceLeDiff,reduceEqDiff,reduceCtorEq]
  by_cases hil : i < ks.length
  · have e2 : (ks.map strRow)[i]? = some (strRow ks[i]) := by rw [List.getElem?_map, List.getElem?_eq_getElem hil]; rfl
    have e3 : ks.take (i + 1) = ks.take i ++ [ks[i]] := by rw [List.take_add_one, List.getElem?_eq_getElem hil]; rfl
    have hil2 : i < ls.length := by omega
    have e4 : (ls.map Val.row)[i]? = some (ls[i]).row := by rw [List.getElem?_map, List.getElem?_eq_getElem hil2]; rfl
    have e5 : (fitsL l ls).drop i = (fun t => fitsV l ls[i] t) :: (fitsL l ls).drop (i + 1) := by
      rw [fitsL_map]
      rw [List.drop_eq_getElem_cons (by simpa using hil2)]
      simp
    have ihv := ih _ (List.getElem_mem hil2)
    rw [List.drop_eq_getElem_cons hil, e5, objGo] at hgo
    revert hgo e2 e3 e4 ihv
    generalize ks[i] = x
    generalize ls[i] = v
    intro e2 e3 hgo e4 ihv
    simp +contextual -implicitDefEqProofs only [K74, SS, reduceAdd,reduceSub,reduceLeDiff,reduceEqDiff,reduceCtorEq, hil, e2, strRow]
    refine WC.call (list_q d.fs (by omega) _) rfl rfl ?_
    rintro _ _ ⟨rfl, rfl⟩
    simp +contextual -implicitDefEqProofs only [K74, SS, reduceAdd,reduceSub,reduceLeDiff,reduceEqDiff,reduceCtorEq]
    refine WC.call (index_q (namesF d.fs) (by simp [namesF]; omega) x _) rfl rfl ?_
    rintro _ _ ⟨rfl, rfl⟩
    rcases idx_fld x d.fs with ⟨f1, f2⟩ | ⟨j, f, f1, f2, f3⟩
    · rw [f1] at hgo
      simp +contextual -implicitDefEqProofs only [K74, SS, reduceAdd,reduceSub,reduceLeDiff,reduceEqDiff,reduceCtorEq, f2, ltI_neg1]
      refine WC.leaveR ?_
      simp +contextual -implicitDefEqProofs only [K74, SS, reduceAdd,reduceSub,reduceLeDiff,reduceEqDiff,reduceCtorEq]
      exact WC.ret ⟨_, _, rfl, hg1.trans hg', by rw [objS, hgo]; rfl⟩
    · rw [f1] at hgo
      have f4 : (d.fs.map FDef.row)[j]? = some f.row := by rw [List.getElem?_map, f3]; rfl
      obtain ⟨tn, txs, tb, vk, vn, vs, vx, vy, et, ev, ef⟩ := f.row_cells
      rw [ef] at f4
      obtain ⟨wk, wn, ws, wx, wy, ew⟩ := v.row_cells
      rw [ew] at e4
      simp +contextual -implicitDefEqProofs only [K74, SS, reduceAdd,reduceSub,reduceLeDiff,reduceEqDiff,reduceCtorEq, f2, ltI_nat0, h4', rowsStr, List.length_map, show i ≤ ks.length by omega]
      refine WC.call (contains_q (ks.take i) (by simp; omega) x _) rfl (by rw [List.map_take]; rfl) ?_
      rintro _ _ ⟨rfl, rfl⟩
      cases hx : hasN (ks.take i) x with
      | true =>
        simp only [hx, if_true] at hgo
        simp +contextual -implicitDefEqProofs only [K74, SS, reduceAdd,reduceSub,reduceLeDiff,reduceEqDiff,reduceCtorEq]
        refine WC.leaveR ?_
        simp +contextual -implicitDefEqProofs only [K74, SS, reduceAdd,reduceSub,reduceLeDiff,reduceEqDiff,reduceCtorEq]
        exact WC.ret ⟨_, _, rfl, hg1.trans hg', by rw [objS, hgo]; rfl⟩
      | false =>
        simp only [hx, Bool.false_eq_true, if_false] at hgo
        have ihv' := ihv f.ty _ hS
        rw [et, ew] at ihv'
        simp +contextual -implicitDefEqProofs only [K74, SS, reduceAdd,reduceSub,reduceLeDiff,reduceEqDiff,reduceCtorEq, f4, h4', e4]
        refine WC.call ihv' rfl rfl ?_
        rintro _ st3 ⟨hg3, rfl⟩
        simp +contextual -implicitDefEqProofs only [K74, SS, reduceAdd,reduceSub,reduceLeDiff,reduceEqDiff,reduceCtorEq]
        refine WC.br (fun hy => ?_) (fun hy => ?_)
        · have hy : fitsV l v f.ty = false := by simpa using hy
          simp only [hy, Bool.false_eq_true, if_false] at hgo
          simp +contextual -implicitDefEqProofs only [K74, SS, reduceAdd,reduceSub,reduceLeDiff,reduceEqDiff,reduceCtorEq]
          refine WC.leaveR ?_
          simp +contextual -implicitDefEqProofs only [K74, SS, reduceAdd,reduceSub,reduceLeDiff,reduceEqDiff,reduceCtorEq]
          exact WC.ret ⟨_, _, rfl, (hg1.trans hg').trans hg3, by rw [objS, hgo]; rfl⟩
        · have hy : fitsV l v f.ty = true := by simpa using hy
          simp only [hy, if_true] at hgo
          simp +contextual -implicitDefEqProofs only [K74, SS, reduceAdd,reduceSub,reduceLeDiff,reduceEqDiff,reduceCtorEq, inc64 (show i + 1 < 2 ^ 63 by omega)]
          exact WC.next (m' := ks.length - (i + 1)) (by omega) ⟨hg'.trans hg3, i + 1, _, _, _, hil, rfl, by rw [hgo, e3], rfl⟩
  · simp +contextual -implicitDefEqProofs only [K74, SS, reduceAdd,reduceSub,reduceLeDiff,reduceEqDiff,reduceCtorEq, hil]
    refine WC.leave ?_
    rw [List.drop_of_length_le (show ks.length ≤ i by omega), objGo] at hgo
    simp +contextual -implicitDefEqProofs only [K74, SS, reduceAdd,reduceSub,reduceLeDiff,reduceEqDiff,reduceCtorEq]
    refine WC.call (containsF_s 78 [.ptr o4 0] rfl (fun f => f.ty.bang && !f.has && !hasN ks f.name) d.fs (by omega) st' (fun f _ st2 hg2 => objf_s f o4 st2 (by omega) (hg2 _ _ h4')) st' (Gr.refl _)) rfl rfl ?_
    rintro _ st3 ⟨hg3, rfl⟩
    simp +contextual -implicitDefEqProofs only [K74, SS, reduceAdd,reduceSub,reduceLeDiff,reduceEqDiff,reduceCtorEq]
    exact WC.ret ⟨_, _, rfl, (hg1.trans hg').trans hg3, by rw [objS, hgo]; rfl⟩
end Go.Cb.CodeA
/- What functions of the abstract machine answer. No conditions but those that each theorem names. -/
set_option maxRecDepth 20000
set_option linter.unusedSimpArgs false
set_option linter.unusedVariables false
namespace Go.Cb.CodeA
open Go Go.Cb
open Nat (reduceAdd reduceSub reduceLeDiff reduceEqDiff)
attribute [local congr] obind_congr gv_congr2 gv2_congr brT_congr seqK_congr blkK_congr m1_congr gm_congr

theorem lk_ok {l : List TDef} {so : Nat} {st : St} (h : Sch l so st) (n : List Nat) : ((lk l n).getD TDef.zero).OK := by
  cases hl : lk l n with
  | none => exact ⟨by simp [TDef.zero], by simp [TDef.zero], by simp [TDef.zero], fun _ => rfl⟩
  | some t => exact h.ok t (List.mem_of_find?_eq_some hl)
theorem fitsC_s {l : List TDef} {so : Nat} {v : Val} (ih : FitsQ l so v) (u : TRef) (b : Bool) (o3 o4 : Nat) (st : St) (h : Sch l so st) (h3 : st[o3]? = some (.cells [.ptr so 0])) (h4 : st[o4]? = some (.cells [.str [], .list false [u.row], .bool b])) :
    EvQ tbl 73 [.agg v.row, .ptr o3 0, .ptr o4 0] st (fun a st' => Gr st st' ∧ a = .bool (!fitsV l v u)) := by
  obtain ⟨vk, vn, vs, vx, vy, ev⟩ := v.row_cells
  have eu := u.row_eq
  have i1 := ih u st h
  rw [ev, eu] at i1
  rw [eu] at h4
  rw [ev]
  refine EvQ.body (fn := a73) rfl rfl rfl ?_
  simp +contextual -implicitDefEqProofs only [K73, SS, reduceAdd,reduceSub,reduceLeDiff,reduceEqDiff,reduceCtorEq, h3, h4]
  refine WC.call i1 rfl rfl ?_
  rintro _ st3 ⟨hg3, rfl⟩
  simp +contextual -implicitDefEqProofs only [K73, SS, reduceAdd,reduceSub,reduceLeDiff,reduceEqDiff,reduceCtorEq]
  exact WC.ret ⟨_, _, rfl, hg3, rfl⟩
theorem fits_s {l : List TDef} {so : Nat} {v : Val} (hv : v.OK) : FitsQ l so v := by
  induction hv with
  | mk k n s ks ls h6 hk hl hok ih =>
    intro t
    induction t with
    | wrap u b iht =>
      intro st h
      simp only [fitsV, fitsT]
      rw [Val.row_eq, TRef.row]
      have eu := u.row_eq
      obtain ⟨hg, h3, h4⟩ := two_more st (.cells [.ptr so 0]) (.cells [.str [], .list false [u.row], .bool b])
      refine EvQ.body (fn := a64) rfl rfl rfl ?_
      simp +contextual -implicitDefEqProofs only [K64, SS, reduceAdd,reduceSub,reduceLeDiff,reduceEqDiff,reduceCtorEq]
      revert hg h3 h4
      generalize st ++ [Obj.cells [AV.ptr so 0]] ++ [Obj.cells [AV.str [], AV.list false [u.row], AV.bool b]] = st1
      generalize (st ++ [Obj.cells [AV.ptr so 0]]).length = o4
      generalize st.length = o3
      intro hg h3 h4
      refine WC.br (fun h0 => ?_) (fun h0 => ?_)
      · simp +contextual -implicitDefEqProofs only [K64, SS, reduceAdd,reduceSub,reduceLeDiff,reduceEqDiff,reduceCtorEq, h4]
        exact WC.ret ⟨_, _, rfl, hg, by rw [if_pos h0]; rfl⟩
      rw [if_neg (by rw [h0]; decide)]
      simp +contextual -implicitDefEqProofs only [K64, SS, reduceAdd,reduceSub,reduceLeDiff,reduceEqDiff,reduceCtorEq, h4, show ltI 0 ((1 : Nat) : Int) = true from rfl]
      cases h5 : eqI k 5 with
      | true =>
        simp +contextual -implicitDefEqProofs only [K64, SS, reduceAdd,reduceSub,reduceLeDiff,reduceEqDiff,reduceCtorEq, h4]
        refine WC.call (containsV_s 73 [.ptr o3 0, .ptr o4 0] rfl (fun v => !fitsV l v u) ls (by omega) st1 (fun v hv st2 hg2 => fitsC_s (ih v hv) u b o3 o4 st2 ((h.gr hg).gr hg2) (hg2 _ _ h3) (hg2 _ _ h4)) st1 (Gr.refl _)) rfl rfl ?_
        rintro _ st3 ⟨hg3, rfl⟩
        simp +contextual -implicitDefEqProofs only [K64, SS, reduceAdd,reduceSub,reduceLeDiff,reduceEqDiff,reduceCtorEq]
        exact WC.ret ⟨_, _, rfl, hg.trans hg3, by rw [fitsL_all]; rfl⟩
      | false =>
        have i1 := iht st1 (h.gr hg)
        rw [Val.row_eq, eu] at i1
        rw [eu] at h4
        simp +contextual -implicitDefEqProofs only [K64, SS, reduceAdd,reduceSub,reduceLeDiff,reduceEqDiff,reduceCtorEq, h3, h4]
        refine WC.call i1 rfl rfl ?_
        rintro _ st3 ⟨hg3, rfl⟩
        simp +contextual -implicitDefEqProofs only [K64, SS, reduceAdd,reduceSub,reduceLeDiff,reduceEqDiff,reduceCtorEq]
        exact WC.ret ⟨_, _, rfl, hg.trans hg3, by rw [fitsV]; rfl⟩
    | base m b =>
      intro st h
      simp only [fitsV, fitsT]
      rw [Val.row_eq, TRef.row]
      obtain ⟨hg, h3, h4⟩ := two_more st (.cells [.ptr so 0]) (.cells [.str m, .list false [], .bool b])
      refine EvQ.body (fn := a64) rfl rfl rfl ?_
      simp +contextual -implicitDefEqProofs only [K64, SS, reduceAdd,reduceSub,reduceLeDiff,reduceEqDiff,reduceCtorEq]
      revert hg h3 h4
      generalize st ++ [Obj.cells [AV.ptr so 0]] ++ [Obj.cells [AV.str m, AV.list false [], AV.bool b]] = st1
      generalize (st ++ [Obj.cells [AV.ptr so 0]]).length = o4
      generalize st.length = o3
      intro hg h3 h4
      refine WC.br (fun h0 => ?_) (fun h0 => ?_)
      · simp +contextual -implicitDefEqProofs only [K64, SS, reduceAdd,reduceSub,reduceLeDiff,reduceEqDiff,reduceCtorEq, h4]
        exact WC.ret ⟨_, _, rfl, hg, by rw [if_pos h0]; rfl⟩
      rw [if_neg (by rw [h0]; decide)]
      simp +contextual -implicitDefEqProofs only [K64, SS, reduceAdd,reduceSub,reduceLeDiff,reduceEqDiff,reduceCtorEq, h4, show ltI 0 ((0 : Nat) : Int) = false from rfl]
      refine WC.br (fun h1 => ?_) (fun h1 => ?_)
      · simp +contextual -implicitDefEqProofs only [K64, SS, reduceAdd,reduceSub,reduceLeDiff,reduceEqDiff,reduceCtorEq, h4]
        exact WC.ret ⟨_, _, rfl, hg, by rw [if_pos (show eqN m intS = true from h1)]; rfl⟩
      rw [if_neg (by rw [show eqN m intS = false from h1]; decide)]
      simp +contextual -implicitDefEqProofs only [K64, SS, reduceAdd,reduceSub,reduceLeDiff,reduceEqDiff,reduceCtorEq]
      refine WC.br (fun h1 => ?_) (fun h1 => ?_)
      · simp +contextual -implicitDefEqProofs only [K64, SS, reduceAdd,reduceSub,reduceLeDiff,reduceEqDiff,reduceCtorEq, h4]
        exact WC.ret ⟨_, _, rfl, hg, by rw [if_pos (show eqN m stringS = true from h1)]; rfl⟩
      rw [if_neg (by rw [show eqN m stringS = false from h1]; decide)]
      simp +contextual -implicitDefEqProofs only [K64, SS, reduceAdd,reduceSub,reduceLeDiff,reduceEqDiff,reduceCtorEq]
      refine WC.br (fun h1 => ?_) (fun h1 => ?_)
      · simp +contextual -implicitDefEqProofs only [K64, SS, reduceAdd,reduceSub,reduceLeDiff,reduceEqDiff,reduceCtorEq, h4]
        exact WC.ret ⟨_, _, rfl, hg, by rw [if_pos (show eqN m booleanS = true from h1)]; rfl⟩
      rw [if_neg (by rw [show eqN m booleanS = false from h1]; decide)]
      simp +contextual -implicitDefEqProofs only [K64, SS, reduceAdd,reduceSub,reduceLeDiff,reduceEqDiff,reduceCtorEq]
      refine WC.br (fun h1 => ?_) (fun h1 => ?_)
      · simp +contextual -implicitDefEqProofs only [K64, SS, reduceAdd,reduceSub,reduceLeDiff,reduceEqDiff,reduceCtorEq, h4]
        exact WC.ret ⟨_, _, rfl, hg, by rw [if_pos (show eqN m idS = true from h1)]; rfl⟩
      rw [if_neg (by rw [show eqN m idS = false from h1]; decide)]
      have hS := h.gr hg
      have hd := lk_ok hS m
      simp +contextual -implicitDefEqProofs only [K64, SS, reduceAdd,reduceSub,reduceLeDiff,reduceEqDiff,reduceCtorEq, h3, h4]
      refine WC.call (type_s hS m) rfl rfl ?_
      rintro _ _ ⟨rfl, rfl⟩
      revert hd
      generalize lk l m = q
      intro hd
      simp +contextual -implicitDefEqProofs only [K64, SS, reduceAdd,reduceSub,reduceLeDiff,reduceEqDiff,reduceCtorEq, typeA]
      revert hd
      generalize q.getD TDef.zero = d
      intro hd
      simp +contextual -implicitDefEqProofs only [K64, SS, reduceAdd,reduceSub,reduceLeDiff,reduceEqDiff,reduceCtorEq, TDef.row]
      refine WC.br (fun h1 => ?_) (fun h1 => ?_)
      · rw [if_pos h1]
        have hdn := hd.ln
        cases h4k : eqI k 4 with
        | true =>
          simp +contextual -implicitDefEqProofs only [K64, SS, reduceAdd,reduceSub,reduceLeDiff,reduceEqDiff,reduceCtorEq, h4k]
          refine WC.call (contains_q d.ns (by omega) s _) rfl rfl ?_
          rintro _ _ ⟨rfl, rfl⟩
          simp +contextual -implicitDefEqProofs only [K64, SS, reduceAdd,reduceSub,reduceLeDiff,reduceEqDiff,reduceCtorEq, h4k]
          exact WC.ret ⟨_, _, rfl, hg, rfl⟩
        | false =>
          simp +contextual -implicitDefEqProofs only [K64, SS, reduceAdd,reduceSub,reduceLeDiff,reduceEqDiff,reduceCtorEq, h4k]
          exact WC.ret ⟨_, _, rfl, hg, rfl⟩
      rw [if_neg (by rw [h1]; decide)]
      simp +contextual -implicitDefEqProofs only [K64, SS, reduceAdd,reduceSub,reduceLeDiff,reduceEqDiff,reduceCtorEq]
      refine WC.br (fun h1 => ?_) (fun h1 => ?_)
      · rw [if_pos h1]
        cases h6k : eqI k 6 with
        | true =>
          have hk6 : ks.length = ls.length := h6 (by rw [eqI_eq] at h6k; simpa using h6k)
          have ob := object_s (l := l) (so := so) (k := k) (n := n) (s := s) hk6 hl ih d hd _ hS
          rw [Val.row_eq, TDef.row] at ob
          simp +contextual -implicitDefEqProofs only [K64, SS, reduceAdd,reduceSub,reduceLeDiff,reduceEqDiff,reduceCtorEq, h3, h4, h6k]
          refine WC.call ob rfl rfl ?_
          rintro _ st3 ⟨hg3, rfl⟩
          simp +contextual -implicitDefEqProofs only [K64, SS, reduceAdd,reduceSub,reduceLeDiff,reduceEqDiff,reduceCtorEq, h6k]
          exact WC.ret ⟨_, _, rfl, hg.trans hg3, rfl⟩
        | false =>
          simp +contextual -implicitDefEqProofs only [K64, SS, reduceAdd,reduceSub,reduceLeDiff,reduceEqDiff,reduceCtorEq, h6k]
          exact WC.ret ⟨_, _, rfl, hg, rfl⟩
      rw [if_neg (by rw [h1]; decide)]
      simp +contextual -implicitDefEqProofs only [K64, SS, reduceAdd,reduceSub,reduceLeDiff,reduceEqDiff,reduceCtorEq]
      exact WC.ret ⟨_, _, rfl, hg, rfl⟩
end Go.Cb.CodeA
