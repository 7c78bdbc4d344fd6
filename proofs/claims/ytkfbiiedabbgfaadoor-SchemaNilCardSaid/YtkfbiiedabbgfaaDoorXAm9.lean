/-
  THE ABSTRACT MACHINE, part 9: pieces of texts and lists, closures, structs, look-ups.
-/
import Derived.Test.YtkfbiiedabbgfaaDoorXAm8
set_option maxRecDepth 4000
namespace Go.Cb

section
variable {c : Cx} {g : Gh} {w : World} {pr : Nat → Option Pl} {bx : Nat → Nat} {a : Act} {o : Oper} {call : CallT} {b b' r : AV} {st st' : St} {fr as : List AV}

theorem bound_ok {P : Program} {x : AV} {v : Value} {top n : Nat} {code : BoundsCode} (h : bound x top = some n) (hx : ArgOK g w bx fr No x v) : (Instr.sliceBound v top code).run P w = .ok n w ∧ n ≤ top := by
  unfold bound at h
  split at h
  · rename_i k i
    split at h
    · rename_i hb
      simp only [Option.some.injEq] at h
      subst h
      have e : v = .int k i := by simpa [Rel] using hx.rel (by simp) (by simp)
      subst e
      exact ⟨by simp [Instr.sliceBound, asIntOf, hb.1, hb.2], by omega⟩
    · cases h
  · cases h

theorem bounds_ok {P : Program} {isS : Bool} {len cap : Nat} {low high : Option Value} {rs : List AV} {l h : Nat} (hb : bounds low.isSome high.isSome rs len = some (l, h))
    (hr : ArgsOK g w bx fr rs (low.toList ++ high.toList)) (hle : len ≤ cap) : (∃ h', (Instr.sliceBounds isS len cap low high none).run P w = .ok (l, h', cap) w ∧ h' = h) ∧ l ≤ h ∧ h ≤ len := by
  have up : ∀ {x : AV} {v : Value} {n : Nat} {code : BoundsCode}, bound x len = some n → ArgOK g w bx fr No x v → (Instr.sliceBound v cap code).run P w = .ok n w ∧ n ≤ len := by
    intro x v n code h1 h2
    unfold bound at h1
    split at h1
    · rename_i k i
      split at h1
      · rename_i hbb
        simp only [Option.some.injEq] at h1
        subst h1
        have e : v = .int k i := by simpa [Rel] using h2.rel (by simp) (by simp)
        subst e
        exact ⟨by simp [Instr.sliceBound, asIntOf, hbb.1, show i ≤ (cap : Int) by omega], by omega⟩
      · cases h1
    · cases h1
  cases low with
  | none =>
    cases high with
    | none =>
      cases hr
      simp only [bounds, Option.isSome_none, Option.some.injEq, Prod.mk.injEq] at hb
      obtain ⟨rfl, rfl⟩ := hb
      exact ⟨⟨_, by simp [Instr.sliceBounds], rfl⟩, Nat.zero_le _, Nat.le_refl _⟩
    | some hv =>
      obtain ⟨p, rfl, h1⟩ := ArgsOK.one (by simpa using hr)
      simp only [bounds, Option.isSome_none, Option.isSome_some] at hb
      obtain ⟨n, hn, he⟩ := Option.map_eq_some_iff.1 hb
      simp only [Prod.mk.injEq] at he
      obtain ⟨rfl, rfl⟩ := he
      obtain ⟨u1, u2⟩ := up (code := if isS then .sliceAcap else .sliceAlen) hn h1
      exact ⟨⟨_, by simp [Instr.sliceBounds, u1], rfl⟩, Nat.zero_le _, u2⟩
  | some lv =>
    cases high with
    | none =>
      obtain ⟨p, rfl, h1⟩ := ArgsOK.one (by simpa using hr)
      simp only [bounds, Option.isSome_none, Option.isSome_some] at hb
      obtain ⟨n, hn, he⟩ := Option.map_eq_some_iff.1 hb
      simp only [Prod.mk.injEq] at he
      obtain ⟨rfl, rfl⟩ := he
      obtain ⟨u1, u2⟩ := bound_ok (P := P) (code := .sliceB) hn h1
      exact ⟨⟨_, by simp [Instr.sliceBounds, u1], rfl⟩, u2, Nat.le_refl _⟩
    | some hv =>
      obtain ⟨p, q, rfl, h1, h2⟩ := ArgsOK.two (by simpa using hr)
      simp only [bounds, Option.isSome_some] at hb
      split at hb
      · rename_i m hm
        obtain ⟨n, hn, he⟩ := Option.map_eq_some_iff.1 hb
        simp only [Prod.mk.injEq] at he
        obtain ⟨rfl, rfl⟩ := he
        obtain ⟨u1, u2⟩ := up (code := if isS then .sliceAcap else .sliceAlen) hm h2
        obtain ⟨v1, v2⟩ := bound_ok (P := P) (code := .sliceB) hn h1
        exact ⟨⟨_, by simp [Instr.sliceBounds, u1, v1], rfl⟩, v2, u2⟩
      · cases hb

theorem ArgsOK.cons_inv {v : Value} {vs : List Value} (h : ArgsOK g w bx fr as (v :: vs)) : ∃ p ps, as = p :: ps ∧ ArgOK g w bx fr No p v ∧ ArgsOK g w bx fr ps vs := by
  cases h with | cons h1 h => exact ⟨_, _, rfl, h1, h⟩

theorem sim_slS {t : TypeId} {x : Operand} {lo hi : Option Operand} (ho : o.op = .slice t x lo hi none) (hu : c.P.underlying t = some .string)
    (hr : ArgsOK g w bx fr as (a.eval x :: ((lo.map a.eval).toList ++ (hi.map a.eval).toList))) (hs : semSlS lo.isSome hi.isSome call as b st = some (r, b', st')) : PureRes c g w bx fr a o r ∧ b' = b ∧ st' = st := by
  obtain ⟨p, ps, rfl, h1, h2⟩ := hr.cons_inv
  unfold semSlS at hs
  split at hs
  · rename_i s rs heq
    simp only [List.cons.injEq] at heq
    obtain ⟨rfl, rfl⟩ := heq
    obtain ⟨⟨l, h⟩, hb, he⟩ := Option.map_eq_some_iff.1 hs
    simp only [Prod.mk.injEq] at he
    obtain ⟨rfl, rfl, rfl⟩ := he
    have e1 := h1.rel (by simp) (by simp)
    simp only [Rel] at e1
    obtain ⟨bs, e1, rfl⟩ := e1
    have hlen : (bs.data.toList.map UInt8.toNat).length = bs.size := by rw [List.length_map]; rfl
    rw [hlen] at hb
    obtain ⟨⟨h', hrun, rfl⟩, hl, hh⟩ := bounds_ok (P := c.P) (isS := false) (low := lo.map a.eval) (high := hi.map a.eval) (cap := bs.size) (by simpa using hb) h2 (Nat.le_refl _)
    refine ⟨⟨.string (bs.extract l h'), ?_, ValOK.mk' ?_ (by simp) (by simp)⟩, rfl, rfl⟩
    · simp [execOp, ho, e1, Instr.sliceAt, Instr.slice, run_underlying hu, hrun]
    · simp only [Rel]
      refine ⟨_, rfl, ?_⟩
      rw [ByteArray.data_extract, Array.toList_extract, List.extract_eq_take_drop, ← List.map_take, ← List.map_drop, List.drop_take]
  · cases hs

theorem sim_slL {t e : TypeId} {x : Operand} {lo hi : Option Operand} {sz : Nat} (ho : o.op = .slice t x lo hi none) (hu : c.P.underlying t = some (.slice e)) (hn : sizeB c e = some sz)
    (hr : ArgsOK g w bx fr as (a.eval x :: ((lo.map a.eval).toList ++ (hi.map a.eval).toList))) (hs : semSlL sz lo.isSome hi.isSome call as b st = some (r, b', st')) : PureRes c g w bx fr a o r ∧ b' = b ∧ st' = st := by
  obtain ⟨p, ps, rfl, h1, h2⟩ := hr.cons_inv
  unfold semSlL at hs
  split at hs
  · rename_i own xs rs heq
    simp only [List.cons.injEq] at heq
    obtain ⟨rfl, rfl⟩ := heq
    split at hs
    · rename_i hrows
      obtain ⟨⟨l, h⟩, hb, he⟩ := Option.map_eq_some_iff.1 hs
      simp only [Prod.mk.injEq] at he
      obtain ⟨rfl, rfl, rfl⟩ := he
      have e1 := h1.rel (by simp) (by simp)
      simp only [Rel] at e1
      obtain ⟨a0, n, cap, e1, rfl, hcap, hnil, hx⟩ := e1
      obtain ⟨⟨h', hrun, rfl⟩, hl, hh⟩ := bounds_ok (P := c.P) (isS := true) (low := lo.map a.eval) (high := hi.map a.eval) (cap := cap) (by simpa using hb) h2 hcap
      refine ⟨⟨.slice (if cap = l then a0 else a0.map (·.add (l * sz))) (h' - l) (cap - l), ?_, ValOK.mk' ?_ (by simp) (by simp)⟩, rfl, rfl⟩
      · simp [execOp, ho, e1, Instr.sliceAt, Instr.slice, run_underlying hu, hrun, run_sizeOf (w := w) hn]
      · simp only [Rel]
        refine ⟨_, _, _, rfl, by simp; omega, by omega, fun hnone => ?_, fun hne => ?_⟩
        · have : a0 = none := by split at hnone <;> simp_all
          have := hnil this
          omega
        · have hlt : l < h' := by
            rcases Nat.lt_or_ge l h' with h0 | h0
            · exact h0
            · exact absurd (by rw [List.drop_eq_nil_iff]; simp; omega) hne
          have hxs : xs ≠ [] := by intro h0; subst h0; simp at hh; omega
          obtain ⟨bb, f, sz', rfl, hrr⟩ := hx hxs
          obtain rfl : sz' = sz := by
            cases xs with
            | nil => exact absurd rfl hxs
            | cons row rest =>
              simp only [rowsOk, beq_iff_eq] at hrows
              simp only [RelRows] at hrr
              omega
          rw [if_neg (by omega)]
          exact ⟨bb, f + l * sz', sz', by simp [Addr.add_ad], (hrr.take h').drop l⟩
    · cases hs
  · cases hs

theorem sim_slZ {t e : TypeId} {x : Operand} {k k' : IntKind} (ho : o.op = .slice t x none (some (.const (.int k 0))) (some (.const (.int k' 0)))) (hu : c.P.underlying t = some (.slice e)) (hn : (sizeB c e).isSome = true)
    (hr : ArgsOK g w bx fr as [a.eval x]) (hs : semSlZ call as b st = some (r, b', st')) : PureRes c g w bx fr a o r ∧ b' = b ∧ st' = st := by
  obtain ⟨p, rfl, h1⟩ := hr.one
  unfold semSlZ at hs
  split at hs
  · rename_i own xs heq
    simp only [List.cons.injEq, and_true] at heq; subst heq
    simp only [Option.some.injEq, Prod.mk.injEq] at hs
    obtain ⟨rfl, rfl, rfl⟩ := hs
    have e1 := h1.rel (by simp) (by simp)
    simp only [Rel] at e1
    obtain ⟨a0, n, cap, e1, rfl, hcap, hnil, hx⟩ := e1
    obtain ⟨sz, hsz⟩ := Option.isSome_iff_exists.1 hn
    refine ⟨⟨.slice a0 0 0, ?_, ⟨by simp only [Rel]; exact ⟨a0, 0, 0, rfl, rfl, Nat.le_refl _, fun _ => rfl, fun h => absurd rfl h⟩, fun xs _ => .inl ⟨a0, 0, rfl⟩, fun cs e => (by cases e)⟩⟩, rfl, rfl⟩
    have c1 : a.eval (.const (.int k 0)) = .int k 0 := rfl
    have c2 : a.eval (.const (.int k' 0)) = .int k' 0 := rfl
    simp [execOp, ho, e1, c1, c2, Instr.sliceAt, Instr.slice, run_underlying hu, Instr.sliceBounds, Instr.sliceBound, asIntOf, run_sizeOf (w := w) hsz]
  · cases hs

theorem chunks_rows : ∀ {len sz : Nat} {cs : List AV} {bb f : Nat}, cs.length = len * sz → RelCells g w bb f cs → RelRows g w bb f sz (chunks sz len cs)
  | 0, _, _, _, _, _, _ => by simp [chunks, RelRows]
  | len + 1, sz, cs, bb, f, hl, h => by
    rw [Nat.succ_mul] at hl
    simp only [chunks, RelRows]
    exact ⟨by rw [List.length_take]; omega, h.take sz, chunks_rows (by rw [List.length_drop]; omega) (h.drop sz)⟩
theorem chunks_length : ∀ (sz len : Nat) (cs : List AV), (chunks sz len cs).length = len
  | _, 0, _ => rfl
  | sz, len + 1, cs => by simp [chunks, chunks_length sz len]

theorem sim_slA {t e : TypeId} {x : Operand} {lo hi : Option Operand} {len sz : Nat} (ho : o.op = .slice t x lo hi none) (hu : c.P.underlying t = some (.array len e)) (hn : sizeB c e = some sz)
    (hr : ArgsOK g w bx fr as (a.eval x :: ((lo.map a.eval).toList ++ (hi.map a.eval).toList))) (hs : semSlA len sz lo.isSome hi.isSome call as b st = some (r, b', st')) : PureRes c g w bx fr a o r ∧ b' = b ∧ st' = st := by
  obtain ⟨p, ps, rfl, h1, h2⟩ := hr.cons_inv
  unfold semSlA at hs
  split at hs
  · rename_i cs rs heq
    simp only [List.cons.injEq] at heq
    obtain ⟨rfl, rfl⟩ := heq
    split at hs
    · rename_i hlen
      obtain ⟨⟨l, h⟩, hb, he⟩ := Option.map_eq_some_iff.1 hs
      simp only [Prod.mk.injEq] at he
      obtain ⟨rfl, rfl, rfl⟩ := he
      have e1 := h1.rel (by simp) (by simp)
      simp only [Rel] at e1
      obtain ⟨bb, f, e1, hc⟩ := e1
      obtain ⟨⟨h', hrun, rfl⟩, hl, hh⟩ := bounds_ok (P := c.P) (isS := false) (low := lo.map a.eval) (high := hi.map a.eval) (cap := len) (by simpa using hb) h2 (Nat.le_refl _)
      refine ⟨⟨.slice (some (if len = l then ad bb f else (ad bb f).add (l * sz))) (h' - l) (len - l), ?_, ValOK.mk' ?_ (by simp) (by simp)⟩, rfl, rfl⟩
      · simp [execOp, ho, e1, Instr.sliceAt, run_underlying hu, Instr.sureAddr, hrun, run_sizeOf (w := w) hn]
      · simp only [Rel]
        refine ⟨_, _, _, rfl, by rw [List.length_drop, List.length_take, chunks_length]; omega, by omega, fun hnone => by simp at hnone, fun hne => ?_⟩
        have hlt : l < h' := by
          rcases Nat.lt_or_ge l h' with h0 | h0
          · exact h0
          · exact absurd (by rw [List.drop_eq_nil_iff, List.length_take, chunks_length]; omega) hne
        rw [if_neg (by omega), Addr.add_ad]
        exact ⟨bb, f + l * sz, sz, rfl, ((chunks_rows hlen hc).take h').drop l⟩
    · cases hs
  · cases hs

theorem allPlain_rel : ∀ {as : List AV} {vs : List Value}, ArgsOK g w bx fr as vs → allPlain as = true → RelL g w (as.map AV.weak) vs
  | [], _, h, _ => by cases h; simp [RelL]
  | x :: as, _, h, hp => by
    cases h with
    | cons h1 h2 =>
      simp only [allPlain, Bool.and_eq_true] at hp
      simp only [List.map_cons, RelL]
      exact ⟨_, _, rfl, (h1.plain hp.1).rel.weak, allPlain_rel h2 hp.2⟩

theorem sim_mkF {f n : Nat} {first caps : Array Operand} (ho : o.op = .makeFunc (.func f) first caps) (hn : first.size = n) (hr : ArgsOK g w bx fr as ((first ++ caps).toList.map a.eval))
    (hs : semMkF f n call as b st = some (r, b', st')) : PureRes c g w bx fr a o r ∧ b' = b ∧ st' = st := by
  unfold semMkF at hs
  split at hs
  · rename_i hp
    simp only [Option.some.injEq, Prod.mk.injEq] at hs
    obtain ⟨rfl, rfl, rfl⟩ := hs
    have hl := allPlain_rel hr hp
    refine ⟨⟨.func (.func f) (first.map a.eval) (caps.map a.eval), by simp [execOp, ho, Instr.makeFunc], ValOK.mk' ?_ (by simp) (by simp)⟩, rfl, rfl⟩
    simp only [Rel]
    refine ⟨_, _, rfl, ?_, ?_⟩
    · have := hl.take n
      rw [show ((first ++ caps).toList.map a.eval).take n = (first.map a.eval).toList by simp [← hn]] at this
      exact this
    · have := hl.drop n
      rw [show ((first ++ caps).toList.map a.eval).drop n = (caps.map a.eval).toList by simp [← hn]] at this
      exact this
  · cases hs
end
end Go.Cb
