import Derived.Test.YtpalalebligmoaaGreatDoorP3
set_option maxRecDepth 20000
set_option linter.unusedSimpArgs false
set_option linter.unusedVariables false
namespace Go.Cb.CodeA
open Go Go.Cb
open Nat (reduceAdd reduceSub reduceLeDiff reduceEqDiff)
attribute [local congr] obind_congr gv_congr2 gv2_congr brT_congr seqK_congr blkK_congr m1_congr gm_congr
/-- a value without variables and references -/
inductive Val.Plain : Val → Prop
  | mk (k n : Int) (s : List Nat) (ks : List (List Nat)) (ls : List Val) (hk : k < 7) (h : ∀ v ∈ ls, Val.Plain v) : Val.Plain (.mk k n s ks ls)
theorem Val.Plain.sub {v : Val} (h : v.Plain) : ∀ u ∈ v.vals, u.Plain := by cases h; assumption
theorem Val.Plain.kd {v : Val} (h : v.Plain) : v.kind < 7 := by cases h; assumption
theorem holds_q {v : Val} (h : v.Fin) : ∀ st : St, EvQ tbl 18 [.agg v.row] st (fun a st' => st' = st ∧ ∃ b, a = .bool b ∧ (b = false → v.Plain)) := by
  induction h with
  | mk k n s ks ls hk hl h ih =>
    intro st
    rw [Val.row_eq]
    refine EvQ.body (fn := a18) rfl rfl rfl ?_
    simp +contextual -implicitDefEqProofs only [K18, SS, reduceAdd,reduceSub,reduceLeDiff,reduceEqDiff,reduceCtorEq]
    refine WC.br (fun hc => ?_) (fun hc => ?_)
    · simp +contextual -implicitDefEqProofs only [K18, SS, reduceAdd,reduceSub,reduceLeDiff,reduceEqDiff,reduceCtorEq]
      exact WC.ret ⟨_, _, rfl, rfl, _, rfl, fun h => by cases h⟩
    have hk7 : k < 7 := by rw [ltI_eq] at hc; simpa using hc
    simp +contextual -implicitDefEqProofs only [K18, SS, reduceAdd,reduceSub,reduceLeDiff,reduceEqDiff,reduceCtorEq]
    refine WC.loopR (fun mm fr st' => st' = st ∧ ∃ (i : Nat), i ≤ ls.length ∧ mm = ls.length - i ∧ (∀ v ∈ ls.take i, v.Plain) ∧ fr = [.agg [.int .u8 k, .int .i64 n, .str s, .list false (ks.map strRow), .list false (ls.map Val.row)], .box [.int .u8 k, .int .i64 n, .str s, .list false (ks.map strRow), .list false (ls.map Val.row)], .bool false, .int .i64 i]) (m := ls.length) ⟨rfl, 0, Nat.zero_le _, rfl, by simp, rfl⟩ ?_
    rintro mm fr st' ⟨rfl, i, hi, rfl, hsz, rfl⟩
    simp +contextual -implicitDefEqProofs only [K18, SS, reduceAdd,reduceSub,reduceLeDiff,reduceEqDiff,reduceCtorEq, ltN, List.length_map]
    by_cases hil : i < ls.length
    · have e2 := val_at hil
      have ih1 := ih _ (List.getElem_mem hil)
      have hta := take_all (P := Val.Plain) hil hsz
      revert e2 ih1 hta
      generalize ls[i] = u
      intro e2 ih1 hta
      obtain ⟨k1, n1, s1, ks1, ls1, e1⟩ := u.row_cells
      rw [e1] at e2
      simp only [e1] at ih1
      simp +contextual -implicitDefEqProofs only [K18, SS, reduceAdd,reduceSub,reduceLeDiff,reduceEqDiff,reduceCtorEq, hil, e2]
      refine WC.call (ih1 _) rfl rfl ?_
      rintro _ _ ⟨rfl, b, rfl, hb⟩
      cases b with
      | true =>
        simp +contextual -implicitDefEqProofs only [K18, SS, reduceAdd,reduceSub,reduceLeDiff,reduceEqDiff,reduceCtorEq]
        refine WC.leaveR ?_
        simp +contextual -implicitDefEqProofs only [K18, SS, reduceAdd,reduceSub,reduceLeDiff,reduceEqDiff,reduceCtorEq]
        exact WC.ret ⟨_, _, rfl, rfl, _, rfl, fun h => by cases h⟩
      | false =>
        simp +contextual -implicitDefEqProofs only [K18, SS, reduceAdd,reduceSub,reduceLeDiff,reduceEqDiff,reduceCtorEq, inc64 (show i + 1 < 2 ^ 63 by omega)]
        exact WC.next (m' := ls.length - (i + 1)) (by omega) ⟨rfl, i + 1, hil, rfl, hta (hb rfl), rfl⟩
    · simp +contextual -implicitDefEqProofs only [K18, SS, reduceAdd,reduceSub,reduceLeDiff,reduceEqDiff,reduceCtorEq, hil]
      refine WC.leave ?_
      simp +contextual -implicitDefEqProofs only [K18, SS, reduceAdd,reduceSub,reduceLeDiff,reduceEqDiff,reduceCtorEq]
      refine WC.ret ⟨_, _, rfl, rfl, _, rfl, fun _ => .mk _ _ _ _ _ hk7 ?_⟩
      rwa [List.take_of_length_le (by omega)] at hsz
/-! a value that fits becomes one, and no other does -/
def Fit (r : CRes) (b : Bool) : Prop := eqI r.2.2 0 = b ∧ r.2.1 = b
theorem fit_err {e : Int} (h : e ≠ 0) : Fit (cErr e) false := ⟨(eqI_ne _ _).2 h, rfl⟩
theorem pre_fit {b : Bool} {v : Val} {r : CRes} {g : Bool} (hp : v.Plain) (h : v.kind ≠ 0 → Fit r g) : Fit (preF false b v r) (if eqI v.kind 0 then !b else g) := by
  unfold preF
  have h7 : eqI v.kind 7 = false := (eqI_ne _ _).2 (by have := hp.kd; omega)
  rw [h7, Bool.false_and, if_neg (by decide)]
  by_cases h0 : v.kind = 0
  · rw [if_pos ((eqI_iff _ _).2 h0), if_pos ((eqI_iff _ _).2 h0)]
    cases b with
    | true => exact fit_err (by decide)
    | false => exact ⟨rfl, rfl⟩
  · rw [if_neg (fun x => h0 ((eqI_iff _ _).1 x)), if_neg (fun x => h0 ((eqI_iff _ _).1 x))]
    exact h h0
theorem listG_fit {f : Val → CRes} {g : Val → Bool} {b : Bool} : ∀ (l acc : List Val), (∀ x ∈ l, Fit (f x) (g x)) → Fit (listG f b l acc) (l.all g)
  | [], acc, _ => ⟨rfl, rfl⟩
  | x :: l, acc, h => by
    obtain ⟨h1, h2⟩ := h x (by simp)
    rw [listG, h1, h2, List.all_cons]
    cases hg : g x with
    | true =>
      rw [if_pos rfl, if_pos rfl, Bool.true_and]
      exact listG_fit l _ fun z hz => h z (by simp [hz])
    | false =>
      rw [if_neg (by decide), Bool.false_and]
      rw [hg] at h1
      exact fit_err ((eqI_ne _ _).1 h1)
theorem value_fit {N : List Nat → Val → CRes} {B : List Nat → Val → Bool} : ∀ (T : Ty), (∀ x : Val, x.Ok → x.Plain → Fit (N T.leaf x) (B T.leaf x)) → ∀ v : Val, v.Ok → v.Plain → Fit (valueF false N T v) (fitG B T v)
  | .one n b, hN, v, hv, hp => pre_fit hp fun _ => hN v hv hp
  | .lst n t b, hN, v, hv, hp => pre_fit hp fun _ => by
    unfold listF
    by_cases h5 : v.kind = 5
    · rw [if_pos ((eqI_iff _ _).2 h5), if_pos ((eqI_iff _ _).2 h5)]
      exact listG_fit _ _ fun x hx => value_fit t hN x (hv.sub x hx) (hp.sub x hx)
    · rw [if_neg (fun x => h5 ((eqI_iff _ _).1 x)), if_neg (fun x => h5 ((eqI_iff _ _).1 x))]
      have := listG_fit (f := valueF false N t) (g := fitG B t) (b := t.bang) [v] [] fun x hx => by simp at hx; subst hx; exact value_fit t hN x hv hp
      rw [List.all_cons, List.all_nil, Bool.and_true] at this
      exact this
theorem named_fit {fl : Val → CRes} {fb : Val → Bool} {n : List Nat} {v : Val} (hv : v.Ok) (h : n = sI → v.kind = 6 → eqI (fl v).2.2 0 = fb v) : Fit (namedF false fl n v) (fitNm fb n v) := by
  have hr := hv.inR
  revert h
  refine name_cases (Q := fun n => (n = sI → v.kind = 6 → eqI (fl v).2.2 0 = fb v) → Fit (namedF false fl n v) (fitNm fb n v)) ?_ ?_ ?_ ?_ ?_ ?_ ?_ n
  · intro _
    rw [named_int, fit_int, Bool.and_assoc, ← wrap_i32_i64 hr]
    cases eqI v.kind 1 && eqI v.num (wrapA .i64 (wrapA .i32 v.num)) <;> exact ⟨rfl, rfl⟩
  · intro _
    rw [named_string, fit_string]
    cases eqI v.kind 2 <;> exact ⟨rfl, rfl⟩
  · intro _
    rw [named_bool, fit_bool]
    cases eqI v.kind 3 <;> exact ⟨rfl, rfl⟩
  · intro _
    rw [named_id, fit_id]
    cases eqI v.kind 2 <;> cases eqI v.kind 1 <;> exact ⟨rfl, rfl⟩
  · intro _
    rw [named_e, fit_e, Bool.and_false, Bool.or_false]
    cases eqI v.kind 4 <;> cases (gI [[65], [66]] v.text).isSome <;> exact ⟨rfl, rfl⟩
  · intro h
    rw [named_i, fit_i]
    cases hk : eqI v.kind 6 with
    | true =>
      have := h rfl ((eqI_iff _ _).1 hk)
      rw [if_pos rfl, if_neg (by decide)]
      exact ⟨this, this⟩
    | false => exact ⟨rfl, rfl⟩
  · intro n h1 h2 h3 h4 h5 h6 _
    rw [named_else _ _ _ _ h1 h2 h3 h4 h5 h6, fit_else _ _ _ h1 h2 h3 h4 h5 h6]
    exact fit_err (by decide)
theorem field_fit {f : FD} (hf : f.T.leaf ≠ sI) {x : Val} (hx : x.Ok) (hp : x.Plain) : Fit (valueF false (N0 false) f.T x) (fitG B0 f.T x) :=
  value_fit f.T (fun y hy _ => named_fit hy fun h => absurd h hf) x hx hp
/-- a field's part -/
def partF (v : Val) (f : FD) : Bool := match v.at f.name with | some x => fitG B0 f.T x | none => !(f.T.bang && !f.has)
theorem dflt_fit (f : FD) (hf : f ∈ FI) (hh : f.has = true) : eqI (valueF false (N0 false) f.T f.v).2.2 0 = true ∧ (valueF false (N0 false) f.T f.v).2.1 = true := by
  revert hh
  refine FI_cases (Q := fun f => f.has = true → eqI (valueF false (N0 false) f.T f.v).2.2 0 = true ∧ (valueF false (N0 false) f.T f.v).2.1 = true) ?_ ?_ ?_ f hf
  · intro h; cases h
  · intro _; exact ⟨by kernel_rfl, by kernel_rfl⟩
  · intro h; cases h
theorem goF_fit {v : Val} (hv : v.Ok) (hp : v.Plain) (hat : ∀ n x, v.at n = some x → x.Plain) : ∀ (F : List FD) (ks : List (List Nat)) (ls : List Val), (∀ f ∈ F, f ∈ FI) → eqI (goF N0 false v F ks ls).2.2 0 = F.all (partF v)
  | [], ks, ls, _ => rfl
  | f :: F, ks, ls, hF => by
    have hfI := hF f (by simp)
    have ih := fun ks ls => goF_fit hv hp hat F ks ls fun g hg => hF g (by simp [hg])
    rw [goF, List.all_cons]
    have key : (eqI (giveF N0 false f v).2.2 0 = true ∧ ((giveF N0 false f v).2.1 = true ∨ f.T.bang = false) ∧ partF v f = true) ∨ (eqI (giveF N0 false f v).2.2 0 = true ∧ (giveF N0 false f v).2.1 = false ∧ f.T.bang = true ∧ partF v f = false) ∨ (eqI (giveF N0 false f v).2.2 0 = false ∧ partF v f = false) := by
      unfold giveF partF
      cases h : v.at f.name with
      | none =>
        dsimp only
        unfold dflF
        dsimp only
        rw [show (eqI 0 0 && !false && f.has) = f.has from rfl]
        cases hh : f.has with
        | true =>
          rw [if_pos rfl]
          obtain ⟨d1, d2⟩ := dflt_fit f hfI hh
          refine .inl ⟨d1, .inl d2, ?_⟩
          cases f.T.bang <;> rfl
        | false =>
          rw [if_neg (by decide)]
          cases hb : f.T.bang with
          | true => exact .inr (.inl ⟨rfl, rfl, rfl, rfl⟩)
          | false => exact .inl ⟨rfl, .inr rfl, rfl⟩
      | some x =>
        dsimp only
        obtain ⟨h1, h2⟩ := field_fit (FI_leaf f hfI) (at_ok hv h) (hat _ _ h)
        have : dflF N0 f (valueF false (N0 false) f.T x) = valueF false (N0 false) f.T x := by
          unfold dflF
          rw [if_neg]
          rw [h1, h2]
          cases fitG B0 f.T x <;> simp
        rw [this, h1, h2]
        cases fitG B0 f.T x with
        | true => exact .inl ⟨rfl, .inl rfl, rfl⟩
        | false => exact .inr (.inr ⟨rfl, rfl⟩)
    rcases key with ⟨k1, k2, k3⟩ | ⟨k1, k2, k3, k4⟩ | ⟨k1, k2⟩
    · rw [if_pos k1, k3, Bool.true_and]
      cases hok : (giveF N0 false f v).2.1 with
      | true => rw [if_pos rfl]; exact ih _ _
      | false =>
        rcases k2 with k2 | k2
        · rw [hok] at k2; cases k2
        · rw [if_neg (by decide), if_neg (by rw [k2]; decide)]; exact ih _ _
    · rw [if_pos k1, k4, Bool.false_and, k2, if_neg (by decide), if_pos k3]
      rfl
    · rw [if_neg (by rw [k1]; decide), k2, Bool.false_and]
      exact k1
theorem fitL_iff {N : List Nat → Val → Bool} {F : List FD} : ∀ (ks : List (List Nat)) (xs : List Val) (seen : List (List Nat)), ks.length = xs.length →
    (fitL N F seen ks xs = true ↔ ∀ (i : Nat) k x, ks[i]? = some k → xs[i]? = some x → ∃ j f, fI F k = some j ∧ F[j]? = some f ∧ (gI (seen ++ ks.take i) k).isSome = false ∧ fitG N f.T x = true)
  | [], xs, seen, _ => by
    refine ⟨fun _ i k x h => by simp at h, fun _ => by unfold fitL; rfl⟩
  | k :: ks, [], seen, h => by simp at h
  | k :: ks, x :: xs, seen, hl => by
    have hl' : ks.length = xs.length := by simpa using hl
    rw [fitL, Bool.and_eq_true, fitL_iff ks xs (seen ++ [k]) hl']
    constructor
    · rintro ⟨h1, h2⟩ i k' x' hk hx
      cases i with
      | zero =>
        simp only [List.getElem?_cons_zero, Option.some.injEq] at hk hx
        subst hk; subst hx
        split at h1
        · rename_i j hj
          split at h1
          · rename_i f hf
            simp only [Bool.and_eq_true, Bool.not_eq_true'] at h1
            exact ⟨j, f, hj, hf, by simpa using h1.1, h1.2⟩
          · cases h1
        · cases h1
      | succ i =>
        obtain ⟨j, f, a, b, c, d⟩ := h2 i k' x' (by simpa using hk) (by simpa using hx)
        exact ⟨j, f, a, b, by simpa using c, d⟩
    · intro h
      refine ⟨?_, fun i k' x' hk hx => ?_⟩
      · obtain ⟨j, f, a, b, c, d⟩ := h 0 k x rfl rfl
        rw [a]
        dsimp only
        rw [b]
        dsimp only
        rw [d, show (gI seen k).isSome = false by simpa using c]
        rfl
      · obtain ⟨j, f, a, b, c, d⟩ := h (i + 1) k' x' (by simpa using hk) (by simpa using hx)
        exact ⟨j, f, a, b, by simpa using c, d⟩
end Go.Cb.CodeA
