/-
  THE ABSTRACT MACHINE, part 8: the rest of the operations that only reckon: arithmetic, pieces of texts and lists, structs, look-ups.
-/
import Derived.Test.YtkfbiiedabbgfaaDoorXAm7
set_option maxRecDepth 4000
namespace Go.Cb

theorem map_toNat_inj {a b : List UInt8} (h : a.map UInt8.toNat = b.map UInt8.toNat) : a = b := by
  induction a generalizing b with
  | nil => cases b <;> simp_all
  | cons x a ih =>
    cases b with
    | nil => simp at h
    | cons y b =>
      simp only [List.map_cons, List.cons.injEq] at h
      rw [UInt8.toNat_inj.1 h.1, ih h.2]
theorem eqN_map (a b : List UInt8) : eqN (a.map UInt8.toNat) (b.map UInt8.toNat) = (a == b) := by
  rw [eqN_eq, Bool.eq_iff_iff]
  simp only [beq_iff_eq]
  exact ⟨map_toNat_inj, fun h => by rw [h]⟩
theorem lessN_map : ∀ a b : List UInt8, lessN (a.map UInt8.toNat) (b.map UInt8.toNat) = Op.bytesLess a b
  | [], [] => rfl
  | [], _ :: _ => rfl
  | _ :: _, [] => rfl
  | x :: a, y :: b => by
    simp only [List.map_cons, lessN, Op.bytesLess, lessN_map a b, blt_eq]
    congr 1
    · rw [Bool.eq_iff_iff, Bool.and_eq_true, Bool.and_eq_true]
      simp [UInt8.toNat_inj]

section
variable {c : Cx} {g : Gh} {w : World} {pr : Nat → Option Pl} {bx : Nat → Nat} {a : Act} {o : Oper} {call : CallT} {b b' r : AV} {st st' : St} {fr as : List AV}

theorem run_int {t yt : TypeId} {x y : Operand} {op : BinOp} {k k' : IntKind} {m n : Int} (ho : o.op = .binOp op t x y yt) (e1 : a.eval x = .int k m) (e2 : a.eval y = .int k' n)
    (hs : binA op (.int k m) (.int k' n) = some r) : ∃ v, (execOp a.eval o).run c.P w = .ok (.value v) w ∧ ValOK g w No r v := by
  have key : ∀ v, (binOp op t (.int k m) (.int k' n)).run c.P w = .ok v w → (execOp a.eval o).run c.P w = .ok (.value v) w := by
    intro v h
    have hg : (eqGuard op t x y (.int k m) (.int k' n)).run c.P w = .ok () w := by cases op <;> rfl
    simp only [execOp, ho, e1, e2, Sem.run_bind, hg, h, Result.andThen_ok, Sem.run_pure]
  have int : ∀ kk z, r = .int kk z → ValOK g w No r (.int kk z) := fun kk z e => by rw [e]; exact ValOK.mk' (by simp [Rel]) (by simp) (by simp)
  have bool : ∀ z, r = .bool z → ValOK g w No r (.bool z) := fun z e => by rw [e]; exact ValOK.mk' (by simp [Rel]) (by simp) (by simp)
  unfold binA at hs
  by_cases hk : k = k'
  · subst hk
    cases op <;> simp only [if_true] at hs
    case shl => split at hs <;> simp at hs; rename_i hn; exact ⟨_, key _ (by simp [binOp, Op.shift, hn]), int _ _ hs.symm⟩
    case shr => split at hs <;> simp at hs; rename_i hn; exact ⟨_, key _ (by simp [binOp, Op.shift, hn]), int _ _ hs.symm⟩
    case add => simp [wrapA_eq] at hs; exact ⟨_, key _ (by simp [binOp, Op.intArith]), int _ _ hs.symm⟩
    case sub => simp [wrapA_eq] at hs; exact ⟨_, key _ (by simp [binOp, Op.intArith]), int _ _ hs.symm⟩
    case mul => simp [wrapA_eq] at hs; exact ⟨_, key _ (by simp [binOp, Op.intArith]), int _ _ hs.symm⟩
    case quo => split at hs <;> simp at hs; rename_i hn; exact ⟨_, key _ (by simp [binOp, Op.intDiv, hn]), int _ _ hs.symm⟩
    case rem => split at hs <;> simp at hs; rename_i hn; exact ⟨_, key _ (by simp [binOp, Op.intDiv, hn]), int _ _ hs.symm⟩
    case and => simp at hs; exact ⟨_, key _ (by simp [binOp, Op.intBits]), int _ _ hs.symm⟩
    case eql => simp at hs; exact ⟨_, key _ (by simp [binOp, Op.intCmp]), bool _ hs.symm⟩
    case neq => simp at hs; exact ⟨_, key _ (by simp [binOp, Op.intCmp, bne]), bool _ hs.symm⟩
    case lss => simp at hs; exact ⟨_, key _ (by simp [binOp, Op.intCmp]), bool _ hs.symm⟩
    case leq => simp at hs; exact ⟨.bool (decide (m ≤ n)), key _ (by simp [binOp, Op.intCmp]), bool _ (by rw [← hs]; congr 1; rw [Bool.eq_iff_iff]; simp)⟩
    case gtr => simp at hs; exact ⟨_, key _ (by simp [binOp, Op.intCmp]), bool _ hs.symm⟩
    case geq => simp at hs; exact ⟨.bool (decide (m ≥ n)), key _ (by simp [binOp, Op.intCmp]), bool _ (by rw [← hs]; congr 1; rw [Bool.eq_iff_iff]; simp)⟩
    all_goals simp at hs
  · cases op <;> simp only [hk, if_false] at hs
    case shl => split at hs <;> simp at hs; rename_i hn; exact ⟨_, key _ (by simp [binOp, Op.shift, hn]), int _ _ hs.symm⟩
    case shr => split at hs <;> simp at hs; rename_i hn; exact ⟨_, key _ (by simp [binOp, Op.shift, hn]), int _ _ hs.symm⟩
    all_goals simp at hs

theorem run_str {t yt : TypeId} {x y : Operand} {op : BinOp} {s u : ByteArray} (ho : o.op = .binOp op t x y yt) (e1 : a.eval x = .string s) (e2 : a.eval y = .string u)
    (hs : binA op (.str (s.data.toList.map UInt8.toNat)) (.str (u.data.toList.map UInt8.toNat)) = some r) : ∃ v, (execOp a.eval o).run c.P w = .ok (.value v) w ∧ ValOK g w No r v := by
  have key : ∀ v, (binOp op t (.string s) (.string u)).run c.P w = .ok v w → (execOp a.eval o).run c.P w = .ok (.value v) w := by
    intro v h
    have hg : (eqGuard op t x y (.string s) (.string u)).run c.P w = .ok () w := by cases op <;> rfl
    simp only [execOp, ho, e1, e2, Sem.run_bind, hg, h, Result.andThen_ok, Sem.run_pure]
  have bool : ∀ z, r = .bool z → ValOK g w No r (.bool z) := fun z e => by rw [e]; exact ValOK.mk' (by simp [Rel]) (by simp) (by simp)
  unfold binA at hs
  cases op <;> simp only [eqN_map, lessN_map, Option.some.injEq] at hs
  case add =>
    split at hs <;> simp at hs
    rename_i hn
    refine ⟨.string (s ++ u), key _ ?_, ?_⟩
    · have hsz : ¬ (((s.size + u.size : Nat) : Int) > IntKind.i64.max) := by
        simp only [List.length_map, Array.length_toList] at hn
        have h1 : s.data.size = s.size := rfl
        have h2 : u.data.size = u.size := rfl
        have h3 : IntKind.i64.max = 9223372036854775807 := by decide
        rw [h3]
        have h4 : (2 : Nat) ^ 62 = 4611686018427387904 := by decide
        rw [h4, h1, h2] at hn
        omega
      show (Op.stringOp .add s u).run c.P w = _
      simp only [Op.stringOp, if_neg hsz, Sem.run_pure]
    · rw [← hs]
      refine ValOK.mk' ?_ (by simp) (by simp)
      simp only [Rel]
      exact ⟨s ++ u, rfl, by simp [ByteArray.data_append]⟩
  case eql => exact ⟨_, key _ (by simp [binOp, Op.stringOp, ByteArray.toList_eq]), bool _ hs.symm⟩
  case neq => exact ⟨_, key _ (by simp [binOp, Op.stringOp, ByteArray.toList_eq]), bool _ hs.symm⟩
  case lss => exact ⟨_, key _ (by simp [binOp, Op.stringOp, ByteArray.toList_eq]), bool _ hs.symm⟩
  case leq => exact ⟨_, key _ (by simp [binOp, Op.stringOp, ByteArray.toList_eq]), bool _ hs.symm⟩
  case gtr => exact ⟨_, key _ (by simp only [binOp, Op.stringOp, ByteArray.toList_eq, Sem.run_pure]), bool _ hs.symm⟩
  case geq => exact ⟨_, key _ (by simp [binOp, Op.stringOp, ByteArray.toList_eq]), bool _ hs.symm⟩
  all_goals simp at hs

theorem sim_bin {t yt : TypeId} {x y : Operand} {op : BinOp} (ho : o.op = .binOp op t x y yt) (hr : ArgsOK g w bx fr as [a.eval x, a.eval y])
    (hs : semBin op call as b st = some (r, b', st')) : PureRes c g w bx fr a o r ∧ b' = b ∧ st' = st := by
  obtain ⟨p, q, rfl, h1, h2⟩ := hr.two
  simp only [semBin] at hs
  obtain ⟨v, hv, he⟩ := Option.map_eq_some_iff.1 hs
  simp only [Prod.mk.injEq] at he
  obtain ⟨rfl, rfl, rfl⟩ := he
  have nl : ∀ i f, v ≠ .loc i f := by
    intro i f e
    subst e
    unfold binA at hv
    split at hv
    · cases op <;> simp at hv <;> (first | (split at hv <;> simp at hv) | skip) <;> (first | (split at hv <;> simp at hv) | skip)
    · cases op <;> simp at hv
    · cases hv
  unfold binA at hv
  split at hv
  · rename_i k m k' n
    have e1 : a.eval x = .int k m := by simpa [Rel] using h1.rel (by simp) (by simp)
    have e2 : a.eval y = .int k' n := by simpa [Rel] using h2.rel (by simp) (by simp)
    obtain ⟨u, hu, hk⟩ := run_int (c := c) (g := g) (w := w) ho e1 e2 (r := v) (by unfold binA; exact hv)
    exact ⟨⟨u, hu, ArgOK.of_val hk nl⟩, rfl, rfl⟩
  · have e1 := h1.rel (by simp) (by simp)
    have e2 := h2.rel (by simp) (by simp)
    simp only [Rel] at e1 e2
    obtain ⟨s, e1, rfl⟩ := e1
    obtain ⟨u, e2, rfl⟩ := e2
    obtain ⟨u, hu, hk⟩ := run_str (c := c) (g := g) (w := w) ho e1 e2 (r := v) (by unfold binA; exact hv)
    exact ⟨⟨u, hu, ArgOK.of_val hk nl⟩, rfl, rfl⟩
  · cases hv

theorem equal_eq (t : TypeId) (x y : Value) : Op.equal t x y = Op.equalIn (9999 + 1) t x y := rfl

theorem sim_binB {t yt : TypeId} {x y : Operand} {op : BinOp} (ho : o.op = .binOp op t x y yt) (hu : c.P.underlying t = some .bool) (hr : ArgsOK g w bx fr as [a.eval x, a.eval y])
    (hs : semBinB op call as b st = some (r, b', st')) : PureRes c g w bx fr a o r ∧ b' = b ∧ st' = st := by
  obtain ⟨p, q, rfl, h1, h2⟩ := hr.two
  simp only [semBinB] at hs
  obtain ⟨v, hv, he⟩ := Option.map_eq_some_iff.1 hs
  simp only [Prod.mk.injEq] at he
  obtain ⟨rfl, rfl, rfl⟩ := he
  unfold binBA at hv
  split at hv
  · rename_i m n
    have e1 : a.eval x = .bool m := by simpa [Rel] using h1.rel (by simp) (by simp)
    have e2 : a.eval y = .bool n := by simpa [Rel] using h2.rel (by simp) (by simp)
    have heq : (Op.equal t (.bool m) (.bool n)).run c.P w = .ok (m == n) w := by
      rw [equal_eq, Op.equalIn, Sem.run_bind, run_underlying hu, Result.andThen_ok]
      rfl
    cases op <;> simp at hv
    · subst hv
      have hg : (eqGuard .eql t x y (.bool m) (.bool n)).run c.P w = .ok () w := rfl
      exact ⟨⟨.bool (m == n), by simp only [execOp, ho, e1, e2, hg, binOp, Sem.run_bind, heq, Result.andThen_ok, Sem.run_pure], ValOK.mk' (by simp [Rel]) (by simp) (by simp)⟩, rfl, rfl⟩
    · subst hv
      have hg : (eqGuard .neq t x y (.bool m) (.bool n)).run c.P w = .ok () w := rfl
      exact ⟨⟨.bool !(m == n), by simp only [execOp, ho, e1, e2, hg, binOp, Sem.run_bind, heq, Result.andThen_ok, Sem.run_pure], ValOK.mk' (by simp [Rel]) (by simp) (by simp)⟩, rfl, rfl⟩
  · cases hv

theorem sim_binP {t yt e : TypeId} {x y : Operand} {op : BinOp} (ho : o.op = .binOp op t x y yt) (hu : c.P.underlying t = some (.pointer e)) (hr : ArgsOK g w bx fr as [a.eval x, a.eval y])
    (hs : semBinP op call as b st = some (r, b', st')) : PureRes c g w bx fr a o r ∧ b' = b ∧ st' = st := by
  obtain ⟨p, q, rfl, h1, h2⟩ := hr.two
  simp only [semBinP] at hs
  obtain ⟨v, hv, he⟩ := Option.map_eq_some_iff.1 hs
  simp only [Prod.mk.injEq] at he
  obtain ⟨rfl, rfl, rfl⟩ := he
  have key : ∀ (p1 p2 : Option Addr) (z : Bool), a.eval x = .pointer p1 → a.eval y = .pointer p2 → (Op.equal t (.pointer p1) (.pointer p2)).run c.P w = .ok z w →
      (op = .eql → (execOp a.eval o).run c.P w = .ok (.value (.bool z)) w) ∧ (op = .neq → (execOp a.eval o).run c.P w = .ok (.value (.bool !z)) w) := by
    intro p1 p2 z e1 e2 heq
    constructor
    · intro eo; subst eo
      have hg : ∀ o, (eqGuard o t x y (.pointer p1) (.pointer p2)).run c.P w = .ok () w := fun o => by cases o <;> rfl
      simp only [execOp, ho, e1, e2, hg, binOp, Sem.run_bind, heq, Result.andThen_ok, Sem.run_pure]
    · intro eo; subst eo
      have hg : ∀ o, (eqGuard o t x y (.pointer p1) (.pointer p2)).run c.P w = .ok () w := fun o => by cases o <;> rfl
      simp only [execOp, ho, e1, e2, hg, binOp, Sem.run_bind, heq, Result.andThen_ok, Sem.run_pure]
  have bool : ∀ z, ValOK g w No (.bool z) (.bool z) := fun z => ValOK.mk' (by simp [Rel]) (by simp) (by simp)
  unfold binPA at hv
  split at hv
  · have e1 := h1.rel (by simp) (by simp)
    have e2 := h2.rel (by simp) (by simp)
    simp only [Rel] at e1 e2
    obtain ⟨k1, k2⟩ := key _ _ false e1.2 e2 (by rw [equal_eq, Op.equalIn, Sem.run_bind, run_underlying hu, Result.andThen_ok]; rfl)
    cases op <;> simp at hv
    · subst hv; exact ⟨⟨_, k1 rfl, bool _⟩, rfl, rfl⟩
    · subst hv; exact ⟨⟨_, k2 rfl, bool _⟩, rfl, rfl⟩
  · have e1 := h1.rel (by simp) (by simp)
    have e2 := h2.rel (by simp) (by simp)
    simp only [Rel] at e1 e2
    obtain ⟨k1, k2⟩ := key _ _ false e1 e2.2 (by rw [equal_eq, Op.equalIn, Sem.run_bind, run_underlying hu, Result.andThen_ok]; rfl)
    cases op <;> simp at hv
    · subst hv; exact ⟨⟨_, k1 rfl, bool _⟩, rfl, rfl⟩
    · subst hv; exact ⟨⟨_, k2 rfl, bool _⟩, rfl, rfl⟩
  · have e1 := h1.rel (by simp) (by simp)
    have e2 := h2.rel (by simp) (by simp)
    simp only [Rel] at e1 e2
    obtain ⟨k1, k2⟩ := key _ _ true e1 e2 (by rw [equal_eq, Op.equalIn, Sem.run_bind, run_underlying hu, Result.andThen_ok]; rfl)
    cases op <;> simp at hv
    · subst hv; exact ⟨⟨_, k1 rfl, bool _⟩, rfl, rfl⟩
    · subst hv; exact ⟨⟨_, k2 rfl, bool _⟩, rfl, rfl⟩
  · cases hv
end
end Go.Cb
