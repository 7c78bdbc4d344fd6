/-
  THE ABSTRACT MACHINE, part 6: each operation that only reckons, kind by kind.
-/
import Derived.Test.YtkfbiiedabbgfaaDoorXAm5
namespace Go.Cb

theorem blt_eq (a b : Nat) : Nat.blt a b = decide (a < b) := by rw [Bool.eq_iff_iff, Nat.blt_eq]; simp
theorem wrap_i64 {n : Int} (h1 : -9223372036854775808 ≤ n) (h2 : n < 9223372036854775808) : IntKind.i64.wrap n = n := by
  simp only [IntKind.wrap, IntKind.signed, IntKind.bits]
  simp only [show ((2 : Int) ^ 64) = 18446744073709551616 from by decide, show ((2 : Int) ^ (64 - 1)) = 9223372036854775808 from by decide, Bool.true_and, decide_eq_true_eq]
  omega
theorem wrap_i32 {n : Int} (h1 : -2147483648 ≤ n) (h2 : n < 2147483648) : IntKind.i32.wrap n = n := by
  simp only [IntKind.wrap, IntKind.signed, IntKind.bits]
  simp only [show ((2 : Int) ^ 32) = 4294967296 from by decide, show ((2 : Int) ^ (32 - 1)) = 2147483648 from by decide, Bool.true_and, decide_eq_true_eq]
  omega
theorem wrap_u8 {n : Int} (h1 : 0 ≤ n) (h2 : n < 256) : IntKind.u8.wrap n = n := by
  unfold IntKind.wrap
  rw [show IntKind.u8.signed = false from rfl]
  simp only [Bool.false_and, Bool.false_eq_true, if_false]
  exact Int.emod_eq_of_lt h1 h2
theorem wrap_u64 {n : Int} (h1 : 0 ≤ n) (h2 : n < 18446744073709551616) : IntKind.u64.wrap n = n := by
  unfold IntKind.wrap
  rw [show IntKind.u64.signed = false from rfl]
  simp only [Bool.false_and, Bool.false_eq_true, if_false]
  exact Int.emod_eq_of_lt h1 h2
theorem wrapA_eq (k : IntKind) (n : Int) : wrapA k n = k.wrap n := by
  unfold wrapA
  split
  case h_7 => rfl
  case h_1 =>
    rw [blt_eq]
    split
    · rename_i m h
      have h := of_decide_eq_true h
      exact (wrap_i64 (by simp only [Int.ofNat_eq_natCast]; omega) (by simp only [Int.ofNat_eq_natCast]; omega)).symm
    · rfl
  case h_2 =>
    rw [blt_eq]
    split
    · rename_i m h
      have h := of_decide_eq_true h
      exact (wrap_i64 (by simp only [Int.negSucc_eq]; omega) (by simp only [Int.negSucc_eq]; omega)).symm
    · rfl
  case h_3 =>
    rw [blt_eq]
    split
    · rename_i m h
      have h := of_decide_eq_true h
      exact (wrap_u8 (by simp only [Int.ofNat_eq_natCast]; omega) (by simp only [Int.ofNat_eq_natCast]; omega)).symm
    · rfl
  case h_4 =>
    rw [blt_eq]
    split
    · rename_i m h
      have h := of_decide_eq_true h
      exact (wrap_u64 (by simp only [Int.ofNat_eq_natCast]; omega) (by simp only [Int.ofNat_eq_natCast]; omega)).symm
    · rfl
  case h_5 =>
    rw [blt_eq]
    split
    · rename_i m h
      have h := of_decide_eq_true h
      exact (wrap_i32 (by simp only [Int.ofNat_eq_natCast]; omega) (by simp only [Int.ofNat_eq_natCast]; omega)).symm
    · rfl
  case h_6 =>
    rw [blt_eq]
    split
    · rename_i m h
      have h := of_decide_eq_true h
      exact (wrap_i32 (by simp only [Int.negSucc_eq]; omega) (by simp only [Int.negSucc_eq]; omega)).symm
    · rfl

@[simp] theorem eqI_eq (a b : Int) : eqI a b = (a == b) := by
  cases a <;> cases b <;> simp only [eqI] <;> rw [Bool.eq_iff_iff] <;> simp only [Nat.beq_eq, beq_iff_eq, Int.ofNat_eq_natCast, Int.negSucc_eq, Bool.false_eq_true, false_iff] <;> omega
@[simp] theorem ltI_eq (a b : Int) : ltI a b = decide (a < b) := by
  cases a <;> cases b <;> simp only [ltI, blt_eq] <;> rw [Bool.eq_iff_iff] <;> simp <;> omega
@[simp] theorem addI_eq (a b : Int) : addI a b = a + b := by cases a <;> cases b <;> rfl
@[simp] theorem subI_eq (a b : Int) : subI a b = a - b := by
  cases a <;> cases b <;> simp only [subI] <;> try rfl
  rename_i m n
  split
  · rename_i h
    have := Nat.le_of_ble_eq_true h
    show ((m - n : Nat) : Int) = (m : Int) - (n : Int)
    omega
  · rfl
theorem eqN_eq : ∀ a b : List Nat, eqN a b = (a == b)
  | [], [] => rfl
  | [], _ :: _ => rfl
  | _ :: _, [] => rfl
  | x :: a, y :: b => by simp only [eqN, eqN_eq a b]; rw [Bool.eq_iff_iff]; simp

/-- what an operation that only reckons comes to -/
def PureRes (c : Cx) (g : Gh) (w : World) (bx : Nat → Nat) (fr : List AV) (a : Act) (o : Oper) (r : AV) : Prop :=
  ∃ v, (execOp a.eval o).run c.P w = .ok (.value v) w ∧ ArgOK g w bx fr No r v

theorem run_sizeOf {P : Program} {t : TypeId} {n : Nat} (h : (P.info? t).map (·.size) = some n) (w : World) : (sizeOf t).run P w = .ok n w := by
  obtain ⟨i, hi, hn⟩ := Option.map_eq_some_iff.1 h
  simp [sizeOf, typeInfo, hi, hn]
theorem run_isAgg {P : Program} {t : TypeId} {b : Bool} (c : Cx) (hc : c.P = P) (h : isAggB c t = some b) (w : World) : (isAgg t).run P w = .ok b w := by
  subst hc
  unfold isAggB at h
  unfold isAgg
  split at h
  · rename_i fs hu; simp at h; subst h; simp [run_underlying hu]
  · rename_i n e hu; simp at h; subst h; simp [run_underlying hu]
  · rename_i d h1 h2 hu
    simp at h; subst h
    simp only [Sem.run_bind, run_underlying hu, Result.andThen_ok]
    cases d <;> first | rfl | exact (h1 _ rfl).elim | exact (h2 _ _ rfl).elim
  · cases h

theorem Addr.add_ad (b f n : Nat) : (ad b f).add n = ad b (f + n) := by
  unfold Addr.add
  split
  · rename_i h; subst h; rfl
  · rfl

section
variable {c : Cx} {g : Gh} {w : World} {pr : Nat → Option Pl} {bx : Nat → Nat} {σ : Sig} {a : Act} {o : Oper} {call : CallT} {b b' r : AV} {st st' : St}

theorem ArgOK.rel {fr : List AV} {mine : Nat → Prop} {x : AV} {v : Value} (h : ArgOK g w bx fr mine x v) (h1 : ∀ i f, x ≠ .loc i f) (h2 : ∀ cs, x ≠ .box cs) : Rel g w x v := by
  cases x <;> first | exact ValOK.rel h | exact absurd rfl (h1 _ _) | exact absurd rfl (h2 _)
theorem ArgOK.plain {fr : List AV} {mine : Nat → Prop} {x : AV} {v : Value} (h : ArgOK g w bx fr mine x v) (hp : x.plain = true) : ValOK g w mine x v := by
  cases x <;> first | exact h | (simp [AV.plain] at hp)
theorem ArgOK.of_val {fr : List AV} {mine : Nat → Prop} {x : AV} {v : Value} (h : ValOK g w mine x v) (h1 : ∀ i f, x ≠ .loc i f) : ArgOK g w bx fr mine x v := by
  cases x <;> first | exact h | exact absurd rfl (h1 _ _) | trivial


/-- one, two, three operands -/
theorem ArgsOK.one {fr : List AV} {as : List AV} {v : Value} (h : ArgsOK g w bx fr as [v]) : ∃ p, as = [p] ∧ ArgOK g w bx fr No p v := by
  cases h with | cons h1 h => cases h; exact ⟨_, rfl, h1⟩
theorem ArgsOK.two {fr : List AV} {as : List AV} {v u : Value} (h : ArgsOK g w bx fr as [v, u]) : ∃ p q, as = [p, q] ∧ ArgOK g w bx fr No p v ∧ ArgOK g w bx fr No q u := by
  cases h with | cons h1 h => obtain ⟨q, rfl, h2⟩ := ArgsOK.one h; exact ⟨_, q, rfl, h1, h2⟩
theorem ArgsOK.three {fr : List AV} {as : List AV} {v u t : Value} (h : ArgsOK g w bx fr as [v, u, t]) :
    ∃ p q s, as = [p, q, s] ∧ ArgOK g w bx fr No p v ∧ ArgOK g w bx fr No q u ∧ ArgOK g w bx fr No s t := by
  cases h with | cons h1 h => obtain ⟨q, s, rfl, h2, h3⟩ := ArgsOK.two h; exact ⟨_, q, s, rfl, h1, h2, h3⟩

variable {fr : List AV} {as : List AV}

theorem sim_mv {x : Operand} (ho : o.op = .move x ∨ o.op = .assign x) (hr : ArgsOK g w bx fr as [a.eval x])
    (hs : semMv call as b st = some (r, b', st')) : PureRes c g w bx fr a o r ∧ b' = b ∧ st' = st := by
  obtain ⟨p, rfl, h1⟩ := hr.one
  simp only [semMv, Option.some.injEq, Prod.mk.injEq] at hs
  obtain ⟨rfl, rfl, rfl⟩ := hs
  exact ⟨⟨a.eval x, by rcases ho with ho | ho <;> simp [execOp, ho], h1⟩, rfl, rfl⟩

theorem sim_pick {x y z : Operand} (ho : o.op = .pick x y z) (hr : ArgsOK g w bx fr as [a.eval x, a.eval y, a.eval z])
    (hs : semPick call as b st = some (r, b', st')) : PureRes c g w bx fr a o r ∧ b' = b ∧ st' = st := by
  obtain ⟨p, q, s, rfl, h1, h2, h3⟩ := hr.three
  unfold semPick at hs
  split at hs
  · rename_i t q' s' heq
    simp only [List.cons.injEq, and_true] at heq
    obtain ⟨rfl, rfl, rfl⟩ := heq
    have e1 : a.eval x = .bool t := by simpa [Rel] using h1.rel (by simp) (by simp)
    have key : ∀ (u : AV) (vx : Value), ArgOK g w bx fr No u vx → (if u.plain = true then some (u, b, st) else none) = some (r, b', st') → ArgOK g w bx fr No r vx ∧ b' = b ∧ st' = st := by
      intro u vx hu hh
      split at hh
      · simp only [Option.some.injEq, Prod.mk.injEq] at hh
        obtain ⟨rfl, rfl, rfl⟩ := hh
        exact ⟨hu, rfl, rfl⟩
      · cases hh
    cases t with
    | true => obtain ⟨k1, k2, k3⟩ := key q _ h2 (by simpa using hs); exact ⟨⟨a.eval y, by simp [execOp, ho, e1, asBool], k1⟩, k2, k3⟩
    | false => obtain ⟨k1, k2, k3⟩ := key s _ h3 (by simpa using hs); exact ⟨⟨a.eval z, by simp [execOp, ho, e1, asBool], k1⟩, k2, k3⟩
  · cases hs

theorem sim_nilchk {x : Operand} (ho : o.op = .nilCheck x) (hr : ArgsOK g w bx fr as [a.eval x])
    (hs : semNilchk call as b st = some (r, b', st')) : PureRes c g w bx fr a o r ∧ b' = b ∧ st' = st := by
  obtain ⟨p, rfl, h1⟩ := hr.one
  unfold semNilchk at hs
  split at hs <;> try cases hs
  · rename_i k f heq
    simp only [List.cons.injEq, and_true] at heq; subst heq
    have e := h1.rel (by simp) (by simp)
    simp only [Rel] at e
    exact ⟨⟨a.eval x, by simp [execOp, ho, e.2], h1⟩, rfl, rfl⟩
  · rename_i k f heq
    simp only [List.cons.injEq, and_true] at heq; subst heq
    exact ⟨⟨a.eval x, by simp [execOp, ho, h1.2], h1⟩, rfl, rfl⟩
  · rename_i cs heq
    simp only [List.cons.injEq, and_true] at heq; subst heq
    have e := h1.rel (by simp) (by simp)
    simp only [Rel] at e
    obtain ⟨bb, f, e, _⟩ := e
    exact ⟨⟨a.eval x, by simp [execOp, ho, e], h1⟩, rfl, rfl⟩
  · rename_i f x1 x2 heq
    simp only [List.cons.injEq, and_true] at heq; subst heq
    have e := h1.rel (by simp) (by simp)
    simp only [Rel] at e
    obtain ⟨a1, a2, e, _⟩ := e
    exact ⟨⟨a.eval x, by simp [execOp, ho, e], h1⟩, rfl, rfl⟩

theorem run_fieldAt {s : TypeId} {f : Nat} {fl : Field} {n : Nat} {bb ff : Nat} (hf : fieldOf c s f = some fl) (hn : sizeB c fl.type = some n) (h0 : n ≠ 0) :
    (Instr.fieldAt s (.pointer (some (ad bb ff))) f).run c.P w = .ok (.pointer (some (ad bb (ff + fl.offset)))) w := by
  unfold fieldOf at hf
  split at hf
  · rename_i fs hu
    simp [Instr.fieldAt, run_underlying hu, hf, Instr.sureAddr, fieldPlace, run_sizeOf (w := w) hn, h0, Addr.add_ad]
  · cases hf

theorem sim_fad {s : TypeId} {x : Operand} {f : Nat} {fl : Field} {n off : Nat} (ho : o.op = .fieldAddr s x f) (hf : fieldOf c s f = some fl) (hn : sizeB c fl.type = some n) (h0 : n ≠ 0) (hoff : fl.offset = off)
    (hr : ArgsOK g w bx fr as [a.eval x]) (hs : semFad off call as b st = some (r, b', st')) : PureRes c g w bx fr a o r ∧ b' = b ∧ st' = st := by
  obtain ⟨p, rfl, h1⟩ := hr.one
  subst hoff
  unfold semFad at hs
  split at hs <;> try cases hs
  · rename_i k f heq
    simp only [List.cons.injEq, and_true] at heq; subst heq
    have e := h1.rel (by simp) (by simp)
    simp only [Rel] at e
    exact ⟨⟨.pointer (some (ad (g.m k) (f + fl.offset))), by simp only [execOp, ho, e.2, Sem.run_bind, run_fieldAt (c := c) hf hn h0, Result.andThen_ok, Sem.run_pure], ValOK.mk' (by simp [Rel, e.1]) (by simp) (by simp)⟩, rfl, rfl⟩
  · rename_i k f heq
    simp only [List.cons.injEq, and_true] at heq; subst heq
    exact ⟨⟨.pointer (some (ad (bx k) (f + fl.offset))), by simp only [execOp, ho, h1.2, Sem.run_bind, run_fieldAt (c := c) hf hn h0, Result.andThen_ok, Sem.run_pure], ⟨h1.1, rfl⟩⟩, rfl, rfl⟩
  · rename_i cs heq
    simp only [List.cons.injEq, and_true] at heq; subst heq
    have e := h1.rel (by simp) (by simp)
    simp only [Rel] at e
    obtain ⟨bb, f, e, hc⟩ := e
    exact ⟨⟨.pointer (some (ad bb (f + fl.offset))), by simp only [execOp, ho, e, Sem.run_bind, run_fieldAt (c := c) hf hn h0, Result.andThen_ok, Sem.run_pure], ValOK.mk' (by simp only [Rel]; exact ⟨bb, _, rfl, hc.drop _⟩) (by simp) (by simp)⟩, rfl, rfl⟩

theorem sim_ext {x : Operand} {i : Nat} (ho : o.op = .extract x i) (hr : ArgsOK g w bx fr as [a.eval x])
    (hs : semExt i call as b st = some (r, b', st')) : PureRes c g w bx fr a o r ∧ b' = b ∧ st' = st := by
  obtain ⟨p, rfl, h1⟩ := hr.one
  unfold semExt at hs
  split at hs
  · rename_i vs heq
    simp only [List.cons.injEq, and_true] at heq; subst heq
    have e := h1.rel (by simp) (by simp)
    simp only [Rel] at e
    obtain ⟨arr, e, hl⟩ := e
    split at hs
    · rename_i u hu
      obtain ⟨v, hv, hrel⟩ := hl.get hu
      simp only [Option.some.injEq, Prod.mk.injEq] at hs
      obtain ⟨rfl, rfl, rfl⟩ := hs
      refine ⟨⟨v, ?_, ArgOK.of_val (ValOK.of_weak hrel) ?_⟩, rfl, rfl⟩
      · have : arr[i]? = some v := by simpa using hv
        simp [execOp, ho, e, Instr.extract, this]
      · intro i f; cases u <;> simp [AV.weak] <;> simp [Rel] at hrel
    · cases hs
  · cases hs

theorem sim_un {t : TypeId} {x : Operand} {op : UnOp} (ho : o.op = .unOp op t x) (hr : ArgsOK g w bx fr as [a.eval x])
    (hs : semUn op call as b st = some (r, b', st')) : PureRes c g w bx fr a o r ∧ b' = b ∧ st' = st := by
  obtain ⟨p, rfl, h1⟩ := hr.one
  unfold semUn at hs
  split at hs <;> try cases hs
  · rename_i t heq
    simp only [List.cons.injEq, and_true] at heq; subst heq
    have e : a.eval x = .bool t := by simpa [Rel] using h1.rel (by simp) (by simp)
    exact ⟨⟨.bool !t, by simp [execOp, ho, e, Op.unary], ValOK.mk' (by simp [Rel]) (by simp) (by simp)⟩, rfl, rfl⟩
  · rename_i k n heq
    simp only [List.cons.injEq, and_true] at heq; subst heq
    have e : a.eval x = .int k n := by simpa [Rel] using h1.rel (by simp) (by simp)
    exact ⟨⟨.int k (k.wrap (0 - n)), by simp [execOp, ho, e, Op.unary, Op.intArith], ValOK.mk' (by simp only [Rel, wrapA_eq]) (by simp) (by simp)⟩, rfl, rfl⟩
end
end Go.Cb
