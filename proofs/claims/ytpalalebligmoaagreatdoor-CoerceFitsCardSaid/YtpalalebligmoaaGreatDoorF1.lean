import Derived.Test.YtpalalebligmoaaGreatDoorF0
set_option maxRecDepth 20000
set_option linter.unusedSimpArgs false
set_option linter.unusedVariables false
namespace Go.Cb.CodeA
open Go Go.Cb
open Nat (reduceAdd reduceSub reduceLeDiff reduceEqDiff)
attribute [local congr] obind_congr gv_congr2 gv2_congr brT_congr seqK_congr blkK_congr m1_congr gm_congr
/-- may a value stand for a type? -/
def fitG (N : List Nat → Val → Bool) : Ty → Val → Bool
  | .one n b, v => if eqI v.kind 0 then !b else N n v
  | .lst _ t b, v => if eqI v.kind 0 then !b else if eqI v.kind 5 then v.vals.all (fitG N t) else fitG N t v
def fitNm (fl : Val → Bool) (n : List Nat) (v : Val) : Bool :=
  if eqN n [73, 110, 116] then eqI v.kind 1 && !ltI v.num (-2147483648) && !ltI 2147483647 v.num
  else if eqN n [83, 116, 114, 105, 110, 103] then eqI v.kind 2
  else if eqN n [66, 111, 111, 108, 101, 97, 110] then eqI v.kind 3
  else if eqN n [73, 68] then eqI v.kind 2 || eqI v.kind 1
  else if eqI (tk n) 4 then eqI v.kind 4 && (gI [[65], [66]] v.text).isSome
  else if !eqI (tk n) 5 || !eqI v.kind 6 then false
  else fl v
theorem fit_list_q (G : St → Prop) (N : List Nat → Val → Bool) (n : List Nat) (t : Ty) (b : Bool) (hT : ∀ st, G st → ∀ x : Val, x.Ok → EvQ tbl 15 [.ptr 23 0, .agg t.row, .agg x.row, .bool false] st (fun a st' => G st' ∧ a = .bool (fitG N t x)))
    (st : St) (hst : G st) (v : Val) (hv : v.Ok) : EvQ tbl 15 [.ptr 23 0, .agg (Ty.lst n t b).row, .agg v.row, .bool false] st (fun a st' => G st' ∧ a = .bool (fitG N (.lst n t b) v)) := by
  have hlen := hv.len
  have hsub := hv.sub
  have hself := hT st hst v hv
  rw [v.row_eta, t.row_eta] at hself
  rw [fitG, show (Ty.lst n t b).row = [.str n, .list false [t.row], .bool b] from rfl]
  rw [t.row_eta] at hT ⊢
  rw [v.row_eta]
  revert hlen hsub
  generalize v.vals = L at *
  intro hlen hsub
  refine EvQ.body (fn := a15) rfl rfl rfl ?_
  simp +contextual -implicitDefEqProofs only [K15, SS, reduceAdd,reduceSub,reduceLeDiff,reduceEqDiff,reduceCtorEq]
  rcases bool_tf (eqI v.kind 0) with h0 | h0
  · rw [if_pos h0]
    simp +contextual -implicitDefEqProofs only [K15, SS, reduceAdd,reduceSub,reduceLeDiff,reduceEqDiff,reduceCtorEq, h0]
    exact WC.ret ⟨_, _, rfl, hst, rfl⟩
  rw [if_neg (by rw [h0]; decide)]
  simp +contextual -implicitDefEqProofs only [K15, SS, reduceAdd,reduceSub,reduceLeDiff,reduceEqDiff,reduceCtorEq, h0, List.length_cons, List.length_nil, show ltI 0 (((0 + 1 : Nat) : Int)) = true from rfl, show ltI 0 (((1 : Nat) : Int)) = true from rfl]
  rcases bool_tf (eqI v.kind 5) with h5 | h5
  rotate_left
  · rw [if_neg (by rw [h5]; decide)]
    simp +contextual -implicitDefEqProofs only [K15, SS, reduceAdd,reduceSub,reduceLeDiff,reduceEqDiff,reduceCtorEq, h5, Bool.not_false, List.getElem?_cons_zero]
    refine WC.call hself rfl rfl ?_
    rintro _ _ ⟨hG, rfl⟩
    simp +contextual -implicitDefEqProofs only [K15, SS, reduceAdd,reduceSub,reduceLeDiff,reduceEqDiff,reduceCtorEq]
    exact WC.ret ⟨_, _, rfl, hG, rfl⟩
  rw [if_pos h5]
  simp +contextual -implicitDefEqProofs only [K15, SS, reduceAdd,reduceSub,reduceLeDiff,reduceEqDiff,reduceCtorEq, h5, Bool.not_true]
  refine WC.loopR (fun mm fr st' => G st' ∧ ∃ (i : Nat), i ≤ L.length ∧ mm = L.length - i ∧ L.all (fitG N t) = (L.drop i).all (fitG N t) ∧ fr = [.ptr 23 0, .agg [.str n, .list false [[.str t.name, .list false t.of, .bool t.bang]], .bool b], .agg [.int .u8 v.kind, .int .i64 v.num, .str v.text, .list false (v.names.map strRow), .list false (L.map Val.row)], .bool false, .box [.str n, .list false [[.str t.name, .list false t.of, .bool t.bang]], .bool b], .box [.int .u8 v.kind, .int .i64 v.num, .str v.text, .list false (v.names.map strRow), .list false (L.map Val.row)], .bool false, .int .i64 i, .undef, .undef, .undef, .undef, .undef]) (m := L.length) ⟨hst, 0, Nat.zero_le _, rfl, by simp, rfl⟩ ?_
  rintro mm fr st' ⟨hG, i, hi, rfl, hX, rfl⟩
  simp +contextual -implicitDefEqProofs only [K15, SS, reduceAdd,reduceSub,reduceLeDiff,reduceEqDiff,reduceCtorEq, ltN, List.length_map]
  by_cases hil : i < L.length
  rotate_left
  · rw [List.drop_of_length_le (by omega)] at hX
    simp +contextual -implicitDefEqProofs only [K15, SS, reduceAdd,reduceSub,reduceLeDiff,reduceEqDiff,reduceCtorEq, hil]
    refine WC.leave ?_
    simp +contextual -implicitDefEqProofs only [K15, SS, reduceAdd,reduceSub,reduceLeDiff,reduceEqDiff,reduceCtorEq]
    exact WC.ret ⟨_, _, rfl, hG, by rw [hX]; rfl⟩
  have e2 := val_at hil
  have hx := hT _ hG _ (hsub _ (List.getElem_mem hil))
  rw [List.drop_eq_getElem_cons hil, List.all_cons] at hX
  revert e2 hX hx
  generalize L[i] = x
  intro hX e2 hx
  rw [x.row_eta] at e2 hx
  simp +contextual -implicitDefEqProofs only [K15, SS, reduceAdd,reduceSub,reduceLeDiff,reduceEqDiff,reduceCtorEq, hil, e2, List.getElem?_cons_zero]
  refine WC.call hx rfl rfl ?_
  rintro _ _ ⟨hG, rfl⟩
  rcases bool_tf (fitG N t x) with hf | hf
  · rw [hf, Bool.true_and] at hX
    simp +contextual -implicitDefEqProofs only [K15, SS, reduceAdd,reduceSub,reduceLeDiff,reduceEqDiff,reduceCtorEq, hf, Bool.not_true, inc64 (show i + 1 < 2 ^ 63 by omega)]
    exact WC.next (m' := L.length - (i + 1)) (by omega) ⟨hG, i + 1, hil, rfl, hX, rfl⟩
  · rw [hf, Bool.false_and] at hX
    simp +contextual -implicitDefEqProofs only [K15, SS, reduceAdd,reduceSub,reduceLeDiff,reduceEqDiff,reduceCtorEq, hf, Bool.not_false]
    refine WC.leaveR ?_
    simp +contextual -implicitDefEqProofs only [K15, SS, reduceAdd,reduceSub,reduceLeDiff,reduceEqDiff,reduceCtorEq]
    exact WC.ret ⟨_, _, rfl, hG, by rw [hX]; rfl⟩
/-- an object's names stand for fields, each once, with values that fit -/
def fitL (N : List Nat → Val → Bool) (F : List FD) (seen : List (List Nat)) : List (List Nat) → List Val → Bool
  | k :: ks, x :: xs => (match fI F k with | some i => (match F[i]? with | some f => !(gI seen k).isSome && fitG N f.T x | none => false) | none => false) && fitL N F (seen ++ [k]) ks xs
  | _, _ => true
def fitR (F : List FD) (K : List (List Nat)) : Bool := F.all fun f => !(f.T.bang && !f.has) || (gI K f.name).isSome
def fitF (N : List Nat → Val → Bool) (F : List FD) (v : Val) : Bool := fitL N F [] v.names v.vals && fitR F v.names
theorem fI_lt : ∀ {F : List FD} {n : List Nat} {i : Nat}, fI F n = some i → i < F.length
  | [], n, i, h => by cases h
  | f :: F, n, i, h => by
    rw [fI] at h
    split at h
    · injection h with h; subst h; simp
    · cases hg : fI F n with
      | none => rw [hg] at h; cases h
      | some j =>
        rw [hg] at h
        injection h with h
        subst h
        have := fI_lt hg
        simp; omega
theorem fit_one_q (G : St → Prop) (hGS : ∀ st, G st → Sch st) (N N' : List Nat → Val → Bool) (fl : Val → Bool) (n : List Nat) (b : Bool)
    (hN : N n = fitNm fl n) (hfl : n = [73] → fl = fitF N' FI)
    (hT : n = [73] → ∀ f ∈ FI, ∀ st, G st → ∀ x : Val, x.Ok → EvQ tbl 15 [.ptr 23 0, .agg f.T.row, .agg x.row, .bool false] st (fun a st' => G st' ∧ a = .bool (fitG N' f.T x)))
    (st : St) (hst : G st) (v : Val) (hv : v.Ok) : EvQ tbl 15 [.ptr 23 0, .agg (Ty.one n b).row, .agg v.row, .bool false] st (fun a st' => G st' ∧ a = .bool (fitG N (.one n b) v)) := by
  have hlen := hv.len
  have hsub := hv.sub
  have hev := hv.ev
  rw [fitG, hN, show (Ty.one n b).row = [.str n, .list false [], .bool b] from rfl, v.row_eta]
  unfold fitNm
  refine EvQ.body (fn := a15) rfl rfl rfl ?_
  simp +contextual -implicitDefEqProofs only [K15, SS, reduceAdd,reduceSub,reduceLeDiff,reduceEqDiff,reduceCtorEq]
  rcases bool_tf (eqI v.kind 0) with h0 | h0
  · rw [if_pos h0]
    simp +contextual -implicitDefEqProofs only [K15, SS, reduceAdd,reduceSub,reduceLeDiff,reduceEqDiff,reduceCtorEq, h0]
    exact WC.ret ⟨_, _, rfl, hst, rfl⟩
  rw [if_neg (by rw [h0]; decide)]
  simp +contextual -implicitDefEqProofs only [K15, SS, reduceAdd,reduceSub,reduceLeDiff,reduceEqDiff,reduceCtorEq, h0, List.length_nil, show ltI 0 (((0 : Nat) : Int)) = false from rfl]
  rcases bool_tf (eqN n [73, 110, 116]) with c | c
  · rw [if_pos c]
    simp +contextual -implicitDefEqProofs only [K15, SS, reduceAdd,reduceSub,reduceLeDiff,reduceEqDiff,reduceCtorEq, c]
    exact WC.ret ⟨_, _, rfl, hst, rfl⟩
  rw [if_neg (by rw [c]; decide)]
  simp +contextual -implicitDefEqProofs only [K15, SS, reduceAdd,reduceSub,reduceLeDiff,reduceEqDiff,reduceCtorEq, c]
  rcases bool_tf (eqN n [83, 116, 114, 105, 110, 103]) with c | c
  · rw [if_pos c]
    simp +contextual -implicitDefEqProofs only [K15, SS, reduceAdd,reduceSub,reduceLeDiff,reduceEqDiff,reduceCtorEq, c]
    exact WC.ret ⟨_, _, rfl, hst, rfl⟩
  rw [if_neg (by rw [c]; decide)]
  simp +contextual -implicitDefEqProofs only [K15, SS, reduceAdd,reduceSub,reduceLeDiff,reduceEqDiff,reduceCtorEq, c]
  rcases bool_tf (eqN n [66, 111, 111, 108, 101, 97, 110]) with c | c
  · rw [if_pos c]
    simp +contextual -implicitDefEqProofs only [K15, SS, reduceAdd,reduceSub,reduceLeDiff,reduceEqDiff,reduceCtorEq, c]
    exact WC.ret ⟨_, _, rfl, hst, rfl⟩
  rw [if_neg (by rw [c]; decide)]
  simp +contextual -implicitDefEqProofs only [K15, SS, reduceAdd,reduceSub,reduceLeDiff,reduceEqDiff,reduceCtorEq, c]
  rcases bool_tf (eqN n [73, 68]) with c | c
  · rw [if_pos c]
    simp +contextual -implicitDefEqProofs only [K15, SS, reduceAdd,reduceSub,reduceLeDiff,reduceEqDiff,reduceCtorEq, c]
    exact WC.ret ⟨_, _, rfl, hst, rfl⟩
  rw [if_neg (by rw [c]; decide)]
  simp +contextual -implicitDefEqProofs only [K15, SS, reduceAdd,reduceSub,reduceLeDiff,reduceEqDiff,reduceCtorEq, c]
  refine WC.call (rtype_q n (hGS _ hst)) rfl rfl ?_
  rintro _ _ ⟨rfl, nm, fs, ns, rfl, hE, hI⟩
  simp +contextual -implicitDefEqProofs only [K15, SS, reduceAdd,reduceSub,reduceLeDiff,reduceEqDiff,reduceCtorEq]
  rcases bool_tf (eqI (tk n) 4) with c4 | c4
  · rw [if_pos c4]
    have hns := hE (tk_E c4)
    subst hns
    simp +contextual -implicitDefEqProofs only [K15, SS, reduceAdd,reduceSub,reduceLeDiff,reduceEqDiff,reduceCtorEq, c4]
    rcases bool_tf (eqI v.kind 4) with k4 | k4
    · simp +contextual -implicitDefEqProofs only [K15, SS, reduceAdd,reduceSub,reduceLeDiff,reduceEqDiff,reduceCtorEq, k4]
      refine WC.call (has_q [[65], [66]] (by decide) v.text _) rfl rfl ?_
      rintro _ _ ⟨rfl, rfl⟩
      simp +contextual -implicitDefEqProofs only [K15, SS, reduceAdd,reduceSub,reduceLeDiff,reduceEqDiff,reduceCtorEq, k4, Bool.true_and]
      exact WC.ret ⟨_, _, rfl, hst, rfl⟩
    · simp +contextual -implicitDefEqProofs only [K15, SS, reduceAdd,reduceSub,reduceLeDiff,reduceEqDiff,reduceCtorEq, k4, Bool.false_and]
      exact WC.ret ⟨_, _, rfl, hst, rfl⟩
  rw [if_neg (by rw [c4]; decide)]
  simp +contextual -implicitDefEqProofs only [K15, SS, reduceAdd,reduceSub,reduceLeDiff,reduceEqDiff,reduceCtorEq, c4]
  rcases bool_tf (!eqI (tk n) 5 || !eqI v.kind 6) with c5 | c5
  · rw [if_pos c5]
    simp +contextual -implicitDefEqProofs only [K15, SS, reduceAdd,reduceSub,reduceLeDiff,reduceEqDiff,reduceCtorEq, c5]
    exact WC.ret ⟨_, _, rfl, hst, rfl⟩
  rw [if_neg (by rw [c5]; decide)]
  have hn : n = sI := tk_I (by cases h : eqI (tk n) 5 <;> simp_all)
  have hk6 : v.kind = 6 := by
    have : eqI v.kind 6 = true := by cases h : eqI v.kind 6 <;> simp_all
    rw [eqI_eq] at this; simpa using this
  have hfs := hI hn
  subst hfs
  rw [hfl hn]
  have hT := hT hn
  have hkl := hev hk6
  simp +contextual -implicitDefEqProofs only [K15, SS, reduceAdd,reduceSub,reduceLeDiff,reduceEqDiff,reduceCtorEq, c5]
  unfold fitF
  revert hlen hsub hkl
  generalize v.names = K
  generalize v.vals = L
  intro hlen hsub hkl
  refine WC.loopR (fun mm fr st' => G st' ∧ ∃ (i : Nat) (w : AV), i ≤ K.length ∧ mm = K.length - i ∧ fitL N' FI [] K L = fitL N' FI (K.take i) (K.drop i) (L.drop i) ∧ fr = [.ptr 23 0, .agg [.str n, .list false [], .bool b], .agg [.int .u8 v.kind, .int .i64 v.num, .str v.text, .list false (K.map strRow), .list false (L.map Val.row)], .bool false, .box [.str n, .list false [], .bool b], .box [.int .u8 v.kind, .int .i64 v.num, .str v.text, .list false (K.map strRow), .list false (L.map Val.row)], .bool false, .undef, .box [.int .u8 (tk n), .str nm, .list false (FI.map FD.row), .list false ns], .int .i64 i, w, .undef, .str n]) (m := K.length) ⟨hst, 0, _, Nat.zero_le _, rfl, by simp, rfl⟩ ?_
  rintro mm fr st' ⟨hG, i, w, hi, rfl, hX, rfl⟩
  simp +contextual -implicitDefEqProofs only [K15, SS, reduceAdd,reduceSub,reduceLeDiff,reduceEqDiff,reduceCtorEq, ltN, List.length_map]
  by_cases hil : i < K.length
  · have hil2 : i < L.length := by omega
    have e1 := str_at hil
    have e2 := val_at hil2
    have hxo := hsub _ (List.getElem_mem hil2)
    rw [List.drop_eq_getElem_cons hil, List.drop_eq_getElem_cons hil2, fitL] at hX
    have htk : K.take (i + 1) = K.take i ++ [K[i]] := by rw [List.take_add_one, List.getElem?_eq_getElem hil]; rfl
    rw [← htk] at hX
    clear htk
    revert e1 e2 hX hxo
    generalize K[i] = k
    generalize L[i] = x
    intro hX e1 e2 hxo
    rw [x.row_eta] at e2
    simp +contextual -implicitDefEqProofs only [K15, SS, reduceAdd,reduceSub,reduceLeDiff,reduceEqDiff,reduceCtorEq, hil, e1]
    refine WC.call (field_q FI FI_len k _) rfl rfl ?_
    rintro _ _ ⟨rfl, rfl⟩
    cases hf : fI FI k with
    | none =>
      rw [hf] at hX
      dsimp only at hX
      rw [Bool.false_and] at hX
      dsimp only
      simp +contextual -implicitDefEqProofs only [K15, SS, reduceAdd,reduceSub,reduceLeDiff,reduceEqDiff,reduceCtorEq, show ltI (-1) 0 = true from rfl]
      refine WC.leaveR ?_
      simp +contextual -implicitDefEqProofs only [K15, SS, reduceAdd,reduceSub,reduceLeDiff,reduceEqDiff,reduceCtorEq]
      refine WC.ret ⟨_, _, rfl, hG, ?_⟩
      rw [hX]
      rfl
    | some j =>
      have hj := fI_lt hf
      rw [hf] at hX
      dsimp only at hX
      have e3 : (FI.map FD.row)[j]? = some (FI[j]).row := by rw [List.getElem?_map, List.getElem?_eq_getElem hj]; rfl
      have hT1 := fun st h => hT FI[j] (List.getElem_mem hj) st h x hxo
      rw [List.getElem?_eq_getElem hj] at hX
      revert e3 hX hT1
      generalize FI[j] = f
      intro hX e3 hT1
      dsimp only at hX
      rw [FD.row] at e3
      rw [f.T.row_eta, x.row_eta] at hT1
      have hcq := has_q (K.take i) (by rw [List.length_take]; omega) k
      have hle : i ≤ K.length := hi
      dsimp only
      rw [List.map_take] at hcq
      simp +contextual -implicitDefEqProofs only [K15, SS, reduceAdd,reduceSub,reduceLeDiff,reduceEqDiff,reduceCtorEq, show ltI (j : Int) 0 = false by rw [ltI_eq]; simp, e1, hle, List.length_map, rowsS, Option.map_some]
      refine WC.call (hcq _) rfl rfl ?_
      rintro _ _ ⟨rfl, rfl⟩
      rcases bool_tf (gI (K.take i) k).isSome with c1 | c1
      · rw [c1, Bool.not_true, Bool.false_and, Bool.false_and] at hX
        simp +contextual -implicitDefEqProofs only [K15, SS, reduceAdd,reduceSub,reduceLeDiff,reduceEqDiff,reduceCtorEq, c1]
        refine WC.leaveR ?_
        simp +contextual -implicitDefEqProofs only [K15, SS, reduceAdd,reduceSub,reduceLeDiff,reduceEqDiff,reduceCtorEq]
        refine WC.ret ⟨_, _, rfl, hG, ?_⟩
        rw [hX]
        rfl
      rw [c1, Bool.not_false, Bool.true_and] at hX
      simp +contextual -implicitDefEqProofs only [K15, SS, reduceAdd,reduceSub,reduceLeDiff,reduceEqDiff,reduceCtorEq, c1, e2, e3]
      refine WC.call (hT1 _ hG) rfl rfl ?_
      rintro _ _ ⟨hG, rfl⟩
      rcases bool_tf (fitG N' f.T x) with c2 | c2
      · rw [c2, Bool.true_and] at hX
        simp +contextual -implicitDefEqProofs only [K15, SS, reduceAdd,reduceSub,reduceLeDiff,reduceEqDiff,reduceCtorEq, c1, c2, Bool.not_true, inc64 (show i + 1 < 2 ^ 63 by omega)]
        exact WC.next (m' := K.length - (i + 1)) (by omega) ⟨hG, i + 1, _, hil, rfl, hX, rfl⟩
      · rw [c2, Bool.false_and] at hX
        simp +contextual -implicitDefEqProofs only [K15, SS, reduceAdd,reduceSub,reduceLeDiff,reduceEqDiff,reduceCtorEq, c1, c2, Bool.not_false]
        refine WC.leaveR ?_
        simp +contextual -implicitDefEqProofs only [K15, SS, reduceAdd,reduceSub,reduceLeDiff,reduceEqDiff,reduceCtorEq]
        refine WC.ret ⟨_, _, rfl, hG, ?_⟩
        rw [hX]
        rfl
  · rw [List.drop_of_length_le (show K.length ≤ i by omega)] at hX
    have hX : fitL N' FI [] K L = true := by rw [hX]; unfold fitL; rfl
    rw [hX, Bool.true_and]
    simp +contextual -implicitDefEqProofs only [K15, SS, reduceAdd,reduceSub,reduceLeDiff,reduceEqDiff,reduceCtorEq, hil]
    refine WC.leave ?_
    simp +contextual -implicitDefEqProofs only [K15, SS, reduceAdd,reduceSub,reduceLeDiff,reduceEqDiff,reduceCtorEq]
    generalize AV.int .i64 (i : Int) = v9
    generalize hFI : FI = F at *
    have hFl : F.length ≤ 3000 := by rw [← hFI]; exact FI_len
    clear hfl hi hil
    clear hX
    refine WC.loopR (fun mm fr st' => G st' ∧ ∃ (i : Nat), i ≤ F.length ∧ mm = F.length - i ∧ fitR F K = fitR (F.drop i) K ∧ fr = [.ptr 23 0, .agg [.str n, .list false [], .bool b], .agg [.int .u8 v.kind, .int .i64 v.num, .str v.text, .list false (K.map strRow), .list false (L.map Val.row)], .bool false, .box [.str n, .list false [], .bool b], .box [.int .u8 v.kind, .int .i64 v.num, .str v.text, .list false (K.map strRow), .list false (L.map Val.row)], .bool false, .undef, .box [.int .u8 (tk n), .str nm, .list false (F.map FD.row), .list false ns], v9, w, .int .i64 i, .str n]) (m := F.length) ⟨hG, 0, Nat.zero_le _, rfl, by simp, rfl⟩ ?_
    clear hG
    rintro mm fr st' ⟨hG, i, hi, rfl, hX, rfl⟩
    simp +contextual -implicitDefEqProofs only [K15, SS, reduceAdd,reduceSub,reduceLeDiff,reduceEqDiff,reduceCtorEq, ltN, List.length_map]
    by_cases hil : i < F.length
    · have e3 : (F.map FD.row)[i]? = some (F[i]).row := by rw [List.getElem?_map, List.getElem?_eq_getElem hil]; rfl
      rw [List.drop_eq_getElem_cons hil] at hX
      simp only [fitR, List.all_cons] at hX
      revert e3 hX
      generalize F[i] = f
      intro hX e3
      rw [FD.row] at e3
      have hhq := has_q K (by omega) f.name
      simp +contextual -implicitDefEqProofs only [K15, SS, reduceAdd,reduceSub,reduceLeDiff,reduceEqDiff,reduceCtorEq, hil, e3]
      rcases bool_tf (f.T.bang && !f.has) with c1 | c1
      · rw [c1, Bool.not_true, Bool.false_or] at hX
        simp +contextual -implicitDefEqProofs only [K15, SS, reduceAdd,reduceSub,reduceLeDiff,reduceEqDiff,reduceCtorEq, c1]
        refine WC.call (hhq _) rfl rfl ?_
        rintro _ _ ⟨rfl, rfl⟩
        rcases bool_tf (gI K f.name).isSome with c2 | c2
        · rw [c2, Bool.true_and] at hX
          simp +contextual -implicitDefEqProofs only [K15, SS, reduceAdd,reduceSub,reduceLeDiff,reduceEqDiff,reduceCtorEq, c1, c2, Bool.not_true, inc64 (show i + 1 < 2 ^ 63 by omega)]
          exact WC.next (m' := F.length - (i + 1)) (by omega) ⟨hG, i + 1, hil, rfl, hX, rfl⟩
        · rw [c2, Bool.false_and] at hX
          simp +contextual -implicitDefEqProofs only [K15, SS, reduceAdd,reduceSub,reduceLeDiff,reduceEqDiff,reduceCtorEq, c1, c2, Bool.not_false]
          refine WC.leaveR ?_
          simp +contextual -implicitDefEqProofs only [K15, SS, reduceAdd,reduceSub,reduceLeDiff,reduceEqDiff,reduceCtorEq]
          refine WC.ret ⟨_, _, rfl, hG, ?_⟩
          unfold fitR
          rw [hX]
          rfl
      · rw [c1, Bool.not_false, Bool.true_or, Bool.true_and] at hX
        simp +contextual -implicitDefEqProofs only [K15, SS, reduceAdd,reduceSub,reduceLeDiff,reduceEqDiff,reduceCtorEq, c1, inc64 (show i + 1 < 2 ^ 63 by omega)]
        exact WC.next (m' := F.length - (i + 1)) (by omega) ⟨hG, i + 1, hil, rfl, hX, rfl⟩
    · rw [List.drop_of_length_le (show F.length ≤ i by omega)] at hX
      simp +contextual -implicitDefEqProofs only [K15, SS, reduceAdd,reduceSub,reduceLeDiff,reduceEqDiff,reduceCtorEq, hil]
      refine WC.leave ?_
      simp +contextual -implicitDefEqProofs only [K15, SS, reduceAdd,reduceSub,reduceLeDiff,reduceEqDiff,reduceCtorEq]
      exact WC.ret ⟨_, _, rfl, hG, by rw [hX]; rfl⟩
end Go.Cb.CodeA
