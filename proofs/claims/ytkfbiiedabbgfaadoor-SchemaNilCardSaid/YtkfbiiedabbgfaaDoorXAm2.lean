/-
  THE ABSTRACT MACHINE, part 2: what a value of the model must be to stand for an abstract one, and that it stays one.
-/
import Derived.Test.YtkfbiiedabbgfaaDoorXAm1
import Derived.WalkKit
import Derived.Deep.MidRow
namespace Go.Cb

/-- n: how many objects the store has; m: their blocks; cl: the cells that are claimed, for ever; sr: what of the store a block belongs to (an object; the spare room behind a list in its cell). -/
structure Gh where
  n : Nat
  m : Nat → Nat
  cl : Nat → Nat → Prop
  sr : Nat → Option (Nat × Option Nat)

abbrev ad (b f : Nat) : Addr := ⟨b, f, none⟩

mutual
def Rel (g : Gh) (w : World) : AV → Value → Prop
  | .undef, _ => True
  | .bool b, v => v = .bool b
  | .int k n, v => v = .int k n
  | .str s, v => ∃ b : ByteArray, v = .string b ∧ b.data.toList.map UInt8.toNat = s
  | .list _ xs, v => ∃ a n cap, v = .slice a n cap ∧ n = xs.length ∧ n ≤ cap ∧ (a = none → cap = 0) ∧ (xs ≠ [] → ∃ b f sz, a = some (ad b f) ∧ RelRows g w b f sz xs)
  | .ptr o f, v => o < g.n ∧ v = .pointer (some (ad (g.m o) f))
  | .nilp, v => v = .pointer none
  | .ro cs, v => ∃ b f, v = .pointer (some (ad b f)) ∧ RelCells g w b f cs
  | .loc _ _, _ => False
  | .box _, _ => False
  | .map o, v => o < g.n ∧ v = .map (some (g.m o))
  | .nilm, v => v = .map none
  | .func f first caps, v => ∃ a b : Array Value, v = .func (.func f) a b ∧ RelL g w first a.toList ∧ RelL g w caps b.toList
  | .nilf, v => v = .nilFunc
  | .agg cs, v => ∃ a : Array Value, v = .agg a ∧ RelL g w cs a.toList ∧ ∀ c ∈ a.toList, c.oneCell' = true
  | .tuple vs, v => ∃ a : Array Value, v = .tuple a ∧ RelL g w vs a.toList
  | .iface t x, v => ∃ y, v = .iface t y ∧ Rel g w x y
  | .nili, v => v = .nilIface
def RelL (g : Gh) (w : World) : List AV → List Value → Prop
  | [], vs => vs = []
  | c :: cs, vs => ∃ v r, vs = v :: r ∧ Rel g w c v ∧ RelL g w cs r
def RelCells (g : Gh) (w : World) (b f : Nat) : List AV → Prop
  | [] => True
  | c :: cs => (∃ v, w.cell? (ad b f) = some v ∧ v.oneCell' = true ∧ g.cl b f ∧ Rel g w c v) ∧ RelCells g w b (f + 1) cs
def RelRows (g : Gh) (w : World) (b f sz : Nat) : List (List AV) → Prop
  | [] => True
  | r :: rs => r.length = sz ∧ RelCells g w b f r ∧ RelRows g w b (f + sz) sz rs
end

/-- the world has gone on: what was claimed is as it was -/
structure Ext (g : Gh) (w : World) (g' : Gh) (w' : World) : Prop where
  n : g.n ≤ g'.n
  m : ∀ o, o < g.n → g'.m o = g.m o
  cl : ∀ b f, g.cl b f → g'.cl b f
  cell : ∀ b f, g.cl b f → w'.cell? (ad b f) = w.cell? (ad b f)

theorem Ext.refl (g : Gh) (w : World) : Ext g w g w := ⟨Nat.le_refl _, fun _ _ => rfl, fun _ _ h => h, fun _ _ _ => rfl⟩
theorem Ext.trans {g g' g'' : Gh} {w w' w'' : World} (h : Ext g w g' w') (h' : Ext g' w' g'' w'') : Ext g w g'' w'' :=
  ⟨Nat.le_trans h.n h'.n, fun o ho => (h'.m o (Nat.lt_of_lt_of_le ho h.n)).trans (h.m o ho), fun b f c => h'.cl b f (h.cl b f c),
    fun b f c => (h'.cell b f (h.cl b f c)).trans (h.cell b f c)⟩

set_option linter.unusedSectionVars false
section
variable {g g' : Gh} {w w' : World} (h : Ext g w g' w')
include h
mutual
theorem Rel.ext : ∀ (a : AV) (v : Value), Rel g w a v → Rel g' w' a v
  | .undef, _, _ => by simp [Rel]
  | .bool _, _, r => by simpa [Rel] using r
  | .int _ _, _, r => by simpa [Rel] using r
  | .str _, _, r => by simpa [Rel] using r
  | .list _ xs, _, r => by
    simp only [Rel] at r ⊢
    obtain ⟨a, n, cap, h1, h2, h3, h4, h5⟩ := r
    exact ⟨a, n, cap, h1, h2, h3, h4, fun hx => let ⟨b, f, sz, e, rr⟩ := h5 hx; ⟨b, f, sz, e, RelRows.ext b f sz xs rr⟩⟩
  | .ptr _ _, _, r => by
    simp only [Rel] at r ⊢
    exact ⟨Nat.lt_of_lt_of_le r.1 h.n, by rw [h.m _ r.1]; exact r.2⟩
  | .nilp, _, r => by simpa [Rel] using r
  | .ro cs, _, r => by
    simp only [Rel] at r ⊢
    obtain ⟨b, f, e, rr⟩ := r
    exact ⟨b, f, e, RelCells.ext b f cs rr⟩
  | .loc _ _, _, r => by simp [Rel] at r
  | .box _, _, r => by simp [Rel] at r
  | .map _, _, r => by
    simp only [Rel] at r ⊢
    exact ⟨Nat.lt_of_lt_of_le r.1 h.n, by rw [h.m _ r.1]; exact r.2⟩
  | .nilm, _, r => by simpa [Rel] using r
  | .func _ x y, _, r => by
    simp only [Rel] at r ⊢
    obtain ⟨a, b, e, r1, r2⟩ := r
    exact ⟨a, b, e, RelL.ext x _ r1, RelL.ext y _ r2⟩
  | .nilf, _, r => by simpa [Rel] using r
  | .agg cs, _, r => by
    simp only [Rel] at r ⊢
    obtain ⟨a, e, r1, r2⟩ := r
    exact ⟨a, e, RelL.ext cs _ r1, r2⟩
  | .tuple vs, _, r => by
    simp only [Rel] at r ⊢
    obtain ⟨a, e, r1⟩ := r
    exact ⟨a, e, RelL.ext vs _ r1⟩
  | .iface _ x, _, r => by
    simp only [Rel] at r ⊢
    obtain ⟨y, e, r1⟩ := r
    exact ⟨y, e, Rel.ext x _ r1⟩
  | .nili, _, r => by simpa [Rel] using r
theorem RelL.ext : ∀ (as : List AV) (vs : List Value), RelL g w as vs → RelL g' w' as vs
  | [], _, r => by simpa [RelL] using r
  | a :: as, _, r => by
    simp only [RelL] at r ⊢
    obtain ⟨v, l, e, r1, r2⟩ := r
    exact ⟨v, l, e, Rel.ext a v r1, RelL.ext as l r2⟩
theorem RelCells.ext : ∀ (b f : Nat) (cs : List AV), RelCells g w b f cs → RelCells g' w' b f cs
  | _, _, [], _ => by simp [RelCells]
  | b, f, c :: cs, r => by
    simp only [RelCells] at r ⊢
    obtain ⟨⟨v, e, o, cl, r1⟩, r2⟩ := r
    exact ⟨⟨v, (h.cell b f cl).trans e, o, h.cl b f cl, Rel.ext c v r1⟩, RelCells.ext b (f + 1) cs r2⟩
theorem RelRows.ext : ∀ (b f sz : Nat) (xs : List (List AV)), RelRows g w b f sz xs → RelRows g' w' b f sz xs
  | _, _, _, [], _ => by simp [RelRows]
  | b, f, sz, x :: xs, r => by
    simp only [RelRows] at r ⊢
    obtain ⟨e, r1, r2⟩ := r
    exact ⟨e, RelCells.ext b f x r1, RelRows.ext b (f + sz) sz xs r2⟩
end
end

/-! weak copies -/
theorem Rel.weak1 {g : Gh} {w : World} : ∀ {a : AV} {v : Value}, Rel g w a v → Rel g w a.weak1 v := by
  intro a v h
  cases a <;> first | exact h | (simp only [AV.weak1, Rel] at h ⊢; exact h)
theorem RelL.weak1 {g : Gh} {w : World} : ∀ {as : List AV} {vs : List Value}, RelL g w as vs → RelL g w (as.map AV.weak1) vs
  | [], _, h => h
  | a :: as, _, h => by
    simp only [RelL, List.map_cons] at h ⊢
    obtain ⟨v, r, e, h1, h2⟩ := h
    exact ⟨v, r, e, h1.weak1, RelL.weak1 h2⟩
theorem Rel.weak {g : Gh} {w : World} {a : AV} {v : Value} (h : Rel g w a v) : Rel g w a.weak v := by
  cases a <;> first
    | exact h
    | (simp only [AV.weak, Rel] at h ⊢; exact h)
    | (simp only [AV.weak, Rel] at h ⊢
       obtain ⟨x, e, r1, r2⟩ := h
       exact ⟨x, e, r1.weak1, r2⟩)

theorem RelL.length {g : Gh} {w : World} : ∀ {as : List AV} {vs : List Value}, RelL g w as vs → as.length = vs.length
  | [], _, h => by simp [RelL] at h; simp [h]
  | a :: as, _, h => by
    simp only [RelL] at h
    obtain ⟨v, r, rfl, _, h2⟩ := h
    simp [RelL.length h2]
theorem RelL.get {g : Gh} {w : World} : ∀ {as : List AV} {vs : List Value}, RelL g w as vs → ∀ {i : Nat} {a : AV}, as[i]? = some a → ∃ v, vs[i]? = some v ∧ Rel g w a v
  | [], _, _, _, _, hi => by simp at hi
  | a :: as, _, h, i, b, hi => by
    simp only [RelL] at h
    obtain ⟨v, r, rfl, h1, h2⟩ := h
    cases i with
    | zero => simp at hi; subst hi; exact ⟨v, rfl, h1⟩
    | succ i => simpa using RelL.get h2 (by simpa using hi)
theorem RelL.of_get {g : Gh} {w : World} : ∀ {as : List AV} {vs : List Value}, as.length = vs.length → (∀ (i : Nat) (a : AV) (v : Value), as[i]? = some a → vs[i]? = some v → Rel g w a v) → RelL g w as vs
  | [], [], _, _ => by simp [RelL]
  | a :: as, v :: vs, hl, h => by
    simp only [RelL]
    exact ⟨v, vs, rfl, h 0 a v rfl rfl, RelL.of_get (by simpa using hl) fun i a v h1 h2 => h (i + 1) a v (by simpa using h1) (by simpa using h2)⟩
theorem RelL.append {g : Gh} {w : World} : ∀ {as bs : List AV} {vs us : List Value}, RelL g w as vs → RelL g w bs us → RelL g w (as ++ bs) (vs ++ us)
  | [], _, _, _, h, h' => by simp [RelL] at h; subst h; simpa using h'
  | a :: as, _, _, _, h, h' => by
    simp only [RelL, List.cons_append] at h ⊢
    obtain ⟨v, r, rfl, h1, h2⟩ := h
    exact ⟨v, r ++ _, rfl, h1, RelL.append h2 h'⟩
theorem RelL.take {g : Gh} {w : World} : ∀ {as : List AV} {vs : List Value} (n : Nat), RelL g w as vs → RelL g w (as.take n) (vs.take n)
  | [], _, n, h => by simp [RelL] at h; subst h; simp [RelL]
  | a :: as, _, 0, h => by simp [RelL]
  | a :: as, _, n + 1, h => by
    simp only [RelL, List.take_succ_cons] at h ⊢
    obtain ⟨v, r, rfl, h1, h2⟩ := h
    exact ⟨v, r.take n, rfl, h1, RelL.take n h2⟩
theorem RelL.drop {g : Gh} {w : World} : ∀ {as : List AV} {vs : List Value} (n : Nat), RelL g w as vs → RelL g w (as.drop n) (vs.drop n)
  | [], _, n, h => by simp [RelL] at h; subst h; simp [RelL]
  | a :: as, _, 0, h => by simpa using h
  | a :: as, _, n + 1, h => by
    simp only [RelL, List.drop_succ_cons] at h ⊢
    obtain ⟨v, r, rfl, _, h2⟩ := h
    exact RelL.drop n h2

theorem RelCells.drop {g : Gh} {w : World} {b : Nat} : ∀ {cs : List AV} {f : Nat} (n : Nat), RelCells g w b f cs → RelCells g w b (f + n) (cs.drop n)
  | [], _, n, _ => by simp [RelCells]
  | c :: cs, f, 0, h => h
  | c :: cs, f, n + 1, h => by
    simp only [RelCells] at h
    have := RelCells.drop n h.2
    rw [List.drop_succ_cons, show f + (n + 1) = f + 1 + n by omega]
    exact this
theorem RelCells.take {g : Gh} {w : World} {b : Nat} : ∀ {cs : List AV} {f : Nat} (n : Nat), RelCells g w b f cs → RelCells g w b f (cs.take n)
  | [], _, n, _ => by simp [RelCells]
  | c :: cs, f, 0, h => by simp [RelCells]
  | c :: cs, f, n + 1, h => by
    simp only [RelCells, List.take_succ_cons] at h ⊢
    exact ⟨h.1, RelCells.take n h.2⟩
theorem RelCells.get {g : Gh} {w : World} {b : Nat} : ∀ {cs : List AV} {f i : Nat} {c : AV}, RelCells g w b f cs → cs[i]? = some c →
    ∃ v, w.cell? (ad b (f + i)) = some v ∧ v.oneCell' = true ∧ g.cl b (f + i) ∧ Rel g w c v
  | [], _, _, _, _, hi => by simp at hi
  | a :: cs, f, i, c, h, hi => by
    simp only [RelCells] at h
    cases i with
    | zero => simp at hi; subst hi; exact h.1
    | succ i =>
      have := RelCells.get h.2 (i := i) (by simpa using hi)
      rw [show f + (i + 1) = f + 1 + i by omega]; exact this
theorem RelRows.get {g : Gh} {w : World} {b sz : Nat} : ∀ {xs : List (List AV)} {f i : Nat} {r : List AV}, RelRows g w b f sz xs → xs[i]? = some r →
    r.length = sz ∧ RelCells g w b (f + i * sz) r
  | [], _, _, _, _, hi => by simp at hi
  | a :: xs, f, i, r, h, hi => by
    simp only [RelRows] at h
    cases i with
    | zero => simp at hi; subst hi; exact ⟨h.1, by simpa using h.2.1⟩
    | succ i =>
      have := RelRows.get h.2.2 (i := i) (by simpa using hi)
      rw [show f + (i + 1) * sz = f + sz + i * sz by rw [Nat.succ_mul]; omega]; exact this
theorem RelRows.drop {g : Gh} {w : World} {b sz : Nat} : ∀ {xs : List (List AV)} {f : Nat} (n : Nat), RelRows g w b f sz xs → RelRows g w b (f + n * sz) sz (xs.drop n)
  | [], _, n, _ => by simp [RelRows]
  | c :: cs, f, 0, h => by simpa using h
  | c :: cs, f, n + 1, h => by
    simp only [RelRows] at h
    have := RelRows.drop n h.2.2
    rw [List.drop_succ_cons, show f + (n + 1) * sz = f + sz + n * sz by rw [Nat.succ_mul]; omega]
    exact this
theorem RelRows.take {g : Gh} {w : World} {b sz : Nat} : ∀ {xs : List (List AV)} {f : Nat} (n : Nat), RelRows g w b f sz xs → RelRows g w b f sz (xs.take n)
  | [], _, n, _ => by simp [RelRows]
  | c :: cs, f, 0, h => by simp [RelRows]
  | c :: cs, f, n + 1, h => by
    simp only [RelRows, List.take_succ_cons] at h ⊢
    exact ⟨h.1, h.2.1, RelRows.take n h.2.2⟩
theorem RelRows.append {g : Gh} {w : World} {b sz : Nat} : ∀ {xs ys : List (List AV)} {f : Nat}, RelRows g w b f sz xs → RelRows g w b (f + xs.length * sz) sz ys → RelRows g w b f sz (xs ++ ys)
  | [], _, _, _, h => by simpa using h
  | x :: xs, ys, f, h, h' => by
    simp only [RelRows, List.cons_append] at h ⊢
    refine ⟨h.1, h.2.1, RelRows.append h.2.2 ?_⟩
    rw [show f + sz + xs.length * sz = f + (x :: xs).length * sz by simp [Nat.succ_mul]; omega]
    exact h'
theorem RelRows.all {g : Gh} {w : World} {b sz : Nat} {xs : List (List AV)} {f : Nat} (h : RelRows g w b f sz xs) : ∀ r ∈ xs, r.length = sz := by
  intro r hr
  obtain ⟨i, hi⟩ := List.mem_iff_getElem?.1 hr
  exact (h.get hi).1
end Go.Cb
