import Derived.Test.YthnliekianmljaaGreatDoorC8
set_option maxRecDepth 20000
set_option linter.unusedSimpArgs false
set_option linter.unusedVariables false
namespace Go.Cb.CodeA
open Go Go.Cb

/-! one name, in brackets of some depth: its text, its tokens, what is read -/
abbrev TKey := Int × List Nat
def Tok.key (t : Tok) : TKey := (t.k, t.t)
def opensN : Nat → List Nat
 | 0 => []
 | k + 1 => 46 :: 46 :: 46 :: 32 :: 123 :: opensN k
def shutsN : Nat → List Nat
 | 0 => []
 | k + 1 => shutsN k ++ [125]
def nestK : Nat → Nat → List TKey
 | 0, c => [(1, [c])]
 | k + 1, c => (4, [46, 46, 46]) :: (4, [123]) :: (nestK k c ++ [(4, [125])])
def fieldN (c : Nat) : Sel := .mk 1 [] [c] [] [] [] []
def nestS : Nat → Nat → Sel
 | 0, c => fieldN c
 | k + 1, c => .mk 3 [] [] [] [] [] [nestS k c]
theorem tok_dots (f i : Nat) (r : List Nat) (acc : List Tok) : ∃ i', tokG (f + 1) i (46 :: 46 :: 46 :: r) acc = tokG f i' r (acc ++ [⟨4, [46, 46, 46], 0, (i : Int)⟩]) := ⟨_, rfl⟩
theorem tok_white (f i : Nat) (r : List Nat) (acc : List Tok) : tokG (f + 1) i (32 :: r) acc = tokG f (i + 1) r acc := rfl
theorem tok_open (f i : Nat) (r : List Nat) (acc : List Tok) : ∃ i', tokG (f + 1) i (123 :: r) acc = tokG f i' r (acc ++ [⟨4, [123], 0, (i : Int)⟩]) := ⟨_, rfl⟩
theorem tok_shut (f i : Nat) (r : List Nat) (acc : List Tok) : ∃ i', tokG (f + 1) i (125 :: r) acc = tokG f i' r (acc ++ [⟨4, [125], 0, (i : Int)⟩]) := ⟨_, rfl⟩
theorem span_head {c : Nat} {r : List Nat} (hc : nameC c = true) (hr : headB nameC r = false) : spanG nameC [] (c :: r) = ([c], r) := by
 rw [spanG, if_pos hc]
 cases r with
 | nil => rfl
 | cons x r =>
  rw [spanG, if_neg (by rw [show nameC x = false from hr]; decide)]
  rfl
theorem letter_cases {c : Nat} (h1 : 97 ≤ c) (h2 : c ≤ 104) : c = 97 ∨ c = 98 ∨ c = 99 ∨ c = 100 ∨ c = 101 ∨ c = 102 ∨ c = 103 ∨ c = 104 := by omega
theorem tok_name {c : Nat} (h1 : 97 ≤ c) (h2 : c ≤ 104) (f i : Nat) (r : List Nat) (hr : headB nameC r = false) (acc : List Tok) : ∃ i', tokG (f + 1) i (c :: r) acc = tokG f i' r (acc ++ [⟨1, [c], 0, (i : Int)⟩]) := by
 have key : whiteC c = false ∧ eqI (c : Int) 35 = false ∧ letterB (c : Int) = true ∧ nameC c = true := by
  rcases letter_cases h1 h2 with rfl | rfl | rfl | rfl | rfl | rfl | rfl | rfl <;> decide
 obtain ⟨k1, k2, k3, k4⟩ := key
 have h : oneS (c :: r) = some (1, [c], 0, r) := by
  show (if letterB (c : Int) = true then nameS (c :: r) else _) = _
  rw [if_pos k3, nameS, span_head k4 hr]
  rfl
 refine ⟨i + ((c :: r).length - r.length), ?_⟩
 rw [tokG, if_neg (by rw [k1]; decide), if_neg (by rw [k2]; decide), h]
theorem tok_nest {c : Nat} (h1 : 97 ≤ c) (h2 : c ≤ 104) : ∀ (k i : Nat) (r : List Nat), headB nameC r = false → ∀ f acc, ∃ T i', T.map Tok.key = nestK k c ∧ tokG (f + (4 * k + 1)) i (opensN k ++ c :: (shutsN k ++ r)) acc = tokG f i' r (acc ++ T)
 | 0, i, r, hr, f, acc => by
  obtain ⟨i', e⟩ := tok_name h1 h2 f i r hr acc
  exact ⟨[⟨1, [c], 0, (i : Int)⟩], i', rfl, e⟩
 | k + 1, i, r, hr, f, acc => by
  obtain ⟨i1, e1⟩ := tok_dots (f + (4 * k + 1) + 1 + 1 + 1) i (32 :: 123 :: (opensN k ++ c :: (shutsN k ++ 125 :: r))) acc
  obtain ⟨i2, e2⟩ := tok_open (f + (4 * k + 1) + 1) (i1 + 1) (opensN k ++ c :: (shutsN k ++ 125 :: r)) (acc ++ [⟨4, [46, 46, 46], 0, (i : Int)⟩])
  obtain ⟨T, i3, e3, e4⟩ := tok_nest h1 h2 k i2 (125 :: r) rfl (f + 1) (acc ++ [⟨4, [46, 46, 46], 0, (i : Int)⟩] ++ [⟨4, [123], 0, ((i1 + 1 : Nat) : Int)⟩])
  obtain ⟨i4, e5⟩ := tok_shut f i3 r (acc ++ [⟨4, [46, 46, 46], 0, (i : Int)⟩] ++ [⟨4, [123], 0, ((i1 + 1 : Nat) : Int)⟩] ++ T)
  refine ⟨[⟨4, [46, 46, 46], 0, (i : Int)⟩, ⟨4, [123], 0, ((i1 + 1 : Nat) : Int)⟩] ++ T ++ [⟨4, [125], 0, (i3 : Int)⟩], i4, ?_, ?_⟩
  · simp [nestK, e3, Tok.key]
  · rw [show f + (4 * (k + 1) + 1) = f + (4 * k + 1) + 1 + 1 + 1 + 1 by omega, show opensN (k + 1) ++ c :: (shutsN (k + 1) ++ r) = 46 :: 46 :: 46 :: 32 :: 123 :: (opensN k ++ c :: (shutsN k ++ 125 :: r)) by simp [opensN, shutsN], e1, tok_white, e2, show f + (4 * k + 1) + 1 = f + 1 + (4 * k + 1) by omega, e4, e5]
    simp
structure Item where
 k : Nat
 c : Nat
 hk : k < 4
 h1 : 97 ≤ c
 h2 : c ≤ 104
def Item.text (x : Item) : List Nat := 32 :: (opensN x.k ++ x.c :: shutsN x.k)
def itemsK (l : List Item) : List TKey := l.flatMap fun x => nestK x.k x.c
def itemsN (l : List Item) : List Nat := l.flatMap Item.text
theorem tok_item (x : Item) (i : Nat) (r : List Nat) (hr : headB nameC r = false) (f : Nat) (acc : List Tok) : ∃ T i', T.map Tok.key = nestK x.k x.c ∧ tokG (f + (4 * x.k + 2)) i (x.text ++ r) acc = tokG f i' r (acc ++ T) := by
 obtain ⟨T, i', e1, e2⟩ := tok_nest x.h1 x.h2 x.k (i + 1) r hr f acc
 refine ⟨T, i', e1, ?_⟩
 rw [show f + (4 * x.k + 2) = f + (4 * x.k + 1) + 1 by omega, show x.text ++ r = 32 :: (opensN x.k ++ x.c :: (shutsN x.k ++ r)) by simp [Item.text], tok_white, e2]
def costs : List Item → Nat
 | [] => 0
 | x :: l => (4 * x.k + 2) + costs l
theorem costs_le (l : List Item) : costs l ≤ 14 * l.length := by
 induction l with
 | nil => exact Nat.le_refl _
 | cons x l ih => have := x.hk; rw [costs, List.length_cons]; omega
theorem tok_items : ∀ (l : List Item) (i : Nat) (r : List Nat), headB nameC r = false → ∀ f acc, ∃ T i', T.map Tok.key = itemsK l ∧ tokG (f + costs l) i (itemsN l ++ r) acc = tokG f i' r (acc ++ T)
 | [], i, r, hr, f, acc => ⟨[], i, rfl, by rw [List.append_nil]; rfl⟩
 | x :: l, i, r, hr, f, acc => by
  have hr' : headB nameC (itemsN l ++ r) = false := by
   cases l with
   | nil => exact hr
   | cons y l => rfl
  obtain ⟨T1, i1, e1, e2⟩ := tok_item x i (itemsN l ++ r) hr' (f + costs l) acc
  obtain ⟨T2, i2, e3, e4⟩ := tok_items l i1 r hr f (acc ++ T1)
  refine ⟨T1 ++ T2, i2, by rw [List.map_append, e1, e3]; rfl, ?_⟩
  rw [costs, show f + (4 * x.k + 2 + costs l) = f + costs l + (4 * x.k + 2) by omega, show itemsN (x :: l) ++ r = x.text ++ (itemsN l ++ r) by simp [itemsN], e2, e4, List.append_assoc]
def lawN (l : List Item) : List Nat := 123 :: (itemsN l ++ [125])
theorem items_len (l : List Item) : (itemsN l).length ≤ 21 * l.length := by
 induction l with
 | nil => simp [itemsN]
 | cons x l ih =>
  have hk := x.hk
  have h1 : ∀ k, (opensN k).length = 5 * k := by intro k; induction k with | zero => rfl | succ k ih => simp [opensN, ih]; omega
  have h2 : ∀ k, (shutsN k).length = k := by intro k; induction k with | zero => rfl | succ k ih => simp [shutsN, ih]
  rw [show itemsN (x :: l) = x.text ++ itemsN l by simp [itemsN], List.length_append, List.length_cons, Item.text, List.length_cons, List.length_append, List.length_cons, h1, h2]
  omega
theorem tok_law (l : List Item) (hl : l.length ≤ 20) : ∃ L, tokensS (lawN l) = some L ∧ L.map Tok.key = (4, [123]) :: (itemsK l ++ [(4, [125]), (0, [])]) := by
 have hc := costs_le l
 have hn := items_len l
 obtain ⟨F, hF⟩ : ∃ F, 2002 = F + 1 + 1 + costs l + 1 := ⟨1999 - costs l, by omega⟩
 obtain ⟨i1, e1⟩ := tok_open (F + 1 + 1 + costs l) 0 (itemsN l ++ [125]) []
 obtain ⟨T, i2, e2, e3⟩ := tok_items l i1 [125] rfl (F + 1 + 1) ([] ++ [⟨4, [123], 0, ((0 : Nat) : Int)⟩])
 obtain ⟨i3, e4⟩ := tok_shut (F + 1) i2 [] ([] ++ [⟨4, [123], 0, ((0 : Nat) : Int)⟩] ++ T)
 refine ⟨[] ++ [⟨4, [123], 0, ((0 : Nat) : Int)⟩] ++ T ++ [⟨4, [125], 0, (i2 : Int)⟩] ++ [⟨0, [], 0, (i3 : Int)⟩], ?_, ?_⟩
 · rw [tokensS, if_neg (by rw [lawN, List.length_cons, List.length_append]; simp only [List.length_cons, List.length_nil]; omega), hF, lawN, e1, e3, e4]
   rfl
 · simp [e2, Tok.key]
/-! reading them -/
theorem eat_at {L : List Tok} {i : Nat} {k : Int} {t : List Nat} (h : (L.map Tok.key)[i]? = some (k, t)) (s : List Nat) : eatB L i s = ((eqI k 4 && eqN t s) || (eqI k 1 && eqN t s)) ∧ signB L i s = (eqI k 4 && eqN t s) ∧ wordB L i s = (eqI k 1 && eqN t s) ∧ (∀ q, kindB' L i q = eqI k q) ∧ nameP L i = if eqI k 1 then some (t, i + 1) else none := by
 rw [List.getElem?_map] at h
 cases hL : L[i]? with
 | none => rw [hL] at h; cases h
 | some x =>
  rw [hL] at h
  cases h
  have a1 : signB L i s = (eqI x.k 4 && eqN x.t s) := by rw [signB, hL]
  have a2 : wordB L i s = (eqI x.k 1 && eqN x.t s) := by rw [wordB, hL]
  have a3 : ∀ q, kindB' L i q = eqI x.k q := fun q => by rw [kindB', hL]
  have a4 : nameP L i = if eqI x.k 1 then some (x.t, i + 1) else none := by rw [nameP, hL]
  exact ⟨by rw [eatB, a1, a2], a1, a2, a3, a4⟩
/-- what stands at a place and behind it -/
def Look (L : List Tok) (i : Nat) (ks : List TKey) : Prop := (L.map Tok.key).drop i = ks
theorem Look.head {L : List Tok} {i : Nat} {k : TKey} {ks : List TKey} (h : Look L i (k :: ks)) : (L.map Tok.key)[i]? = some k := by
 have := congrArg List.head? h
 rwa [List.head?_drop] at this
theorem Look.tail {L : List Tok} {i : Nat} {k : TKey} {ks : List TKey} (h : Look L i (k :: ks)) : Look L (i + 1) ks := by
 have := congrArg (List.drop 1) h
 rwa [List.drop_drop] at this
/-- a token behind which a field ends -/
def Stop (k : TKey) : Prop := k = (4, [125]) ∨ k = (4, [46, 46, 46]) ∨ ∃ c, k = (1, [c]) ∧ 97 ≤ c ∧ c ≤ 104
theorem Stop.no {L : List Tok} {i : Nat} {k : TKey} {ks : List TKey} (hl : Look L i (k :: ks)) (h : Stop k) : eatB L i [58] = false ∧ eatB L i [40] = false ∧ eatB L i [64] = false ∧ signB L i [123] = false := by
 have he := fun s => eat_at hl.head s
 rcases h with rfl | rfl | ⟨c, rfl, h1, h2⟩
 · exact ⟨(he _).1, (he _).1, (he _).1, (he _).2.1⟩
 · exact ⟨(he _).1, (he _).1, (he _).1, (he _).2.1⟩
 · have key : eqN [c] [58] = false ∧ eqN [c] [40] = false ∧ eqN [c] [64] = false := by
    rcases letter_cases h1 h2 with rfl | rfl | rfl | rfl | rfl | rfl | rfl | rfl <;> decide
   exact ⟨by rw [(he _).1, key.1]; rfl, by rw [(he _).1, key.2.1]; rfl, by rw [(he _).1, key.2.2]; rfl, (he _).2.1⟩
theorem args_no {L : List Tok} {f i : Nat} (h : eatB L i [40] = false) : argsP L f i = some ([], i) := by rw [argsP, if_neg (by rw [h]; decide)]
theorem dirs_no {L : List Tok} {f i : Nat} (h : eatB L i [64] = false) : dirsP L f i = some ([], i) := by
 rw [dirsP, loopP, dirStep, if_neg (by rw [h]; decide)]
theorem nest_head (k c : Nat) (h1 : 97 ≤ c) (h2 : c ≤ 104) : ∃ h r, nestK k c = h :: r ∧ Stop h ∧ h ≠ (4, [125]) := by
 cases k with
 | zero => exact ⟨_, _, rfl, Or.inr (Or.inr ⟨c, rfl, h1, h2⟩), by simp⟩
 | succ k => exact ⟨_, _, rfl, Or.inr (Or.inl rfl), by simp⟩
theorem nest_read {L : List Tok} {c : Nat} (h1 : 97 ≤ c) (h2 : c ≤ 104) : ∀ (k f i : Nat) (x : TKey) (r : List TKey), k ≤ f → Look L i (nestK k c ++ x :: r) → Stop x → selP L f (setP L f) i = some (nestS k c, i + (3 * k + 1)) ∧ Look L (i + (3 * k + 1)) (x :: r)
 | 0, f, i, x, r, hf, hl, hx => by
  have he := eat_at hl.head
  have hn := Stop.no hl.tail hx
  have key : eqN [c] [46, 46, 46] = false := by
   rcases letter_cases h1 h2 with rfl | rfl | rfl | rfl | rfl | rfl | rfl | rfl <;> decide
  refine ⟨?_, hl.tail⟩
  have hd : eatB L i [46, 46, 46] = false := by rw [(he _).1, key]; rfl
  have hnm : nameP L i = some ([c], i + 1) := by rw [(he []).2.2.2.2]; rfl
  rw [selP, if_neg (by rw [hd]; decide), fieldP, hnm]
  show bindP (aliasP L (i + 1) [c]) _ = _
  rw [aliasP, if_neg (by rw [hn.1]; decide)]
  show bindP (argsP L f (i + 1)) _ = _
  rw [args_no hn.2.1]
  show bindP (dirsP L f (i + 1)) _ = _
  rw [dirs_no hn.2.2.1]
  show (if signB L (i + 1) [123] = true then _ else _) = _
  rw [hn.2.2.2]
  rfl
 | k + 1, f, i, x, r, hf, hl, hx => by
  have hl : Look L i ((4, [46, 46, 46]) :: (4, [123]) :: (nestK k c ++ (4, [125]) :: x :: r)) := by
   unfold Look at hl ⊢
   rw [hl]
   simp [nestK]
  have he := eat_at hl.head
  have he1 := eat_at hl.tail.head
  obtain ⟨f', rfl⟩ : ∃ f', f = f' + 1 := ⟨f - 1, by omega⟩
  obtain ⟨r1, r2⟩ := nest_read h1 h2 k f' (i + 1 + 1) (4, [125]) (x :: r) (by omega) hl.tail.tail (Or.inl rfl)
  have he3 := eat_at r2.head
  refine ⟨?_, by have := r2.tail; rwa [show i + 1 + 1 + (3 * k + 1) + 1 = i + (3 * (k + 1) + 1) by omega] at this⟩
  have hd : eatB L i [46, 46, 46] = true := (he _).1
  have ho : eatB L (i + 1) [111, 110] = false := (he1 _).1
  have hk : kindB' L (i + 1) 1 = false := (he1 []).2.2.2.1 1
  have hat : eatB L (i + 1) [64] = false := (he1 _).1
  have hb : mustP L [123] (i + 1) = some (i + 1 + 1) := by rw [mustP, (he1 _).1]; rfl
  have hs : eatB L (i + 1 + 1 + (3 * k + 1)) [125] = true := (he3 _).1
  rw [selP, if_pos hd, if_neg (by rw [ho]; decide), if_neg (by rw [hk]; decide), inlP, dirs_no hat]
  show bindP (setP L (f' + 1) (i + 1)) _ = _
  rw [setP_succ, hb]
  show bindP (loopP (setStep L (selP L f' (setP L f'))) 2002 (i + 1 + 1) []) _ = _
  have hstep : setStep L (selP L f' (setP L f')) (i + 1 + 1) [] = some (true, i + 1 + 1 + (3 * k + 1) + 1, [nestS k c]) := by
   rw [setStep, r1]
   show (if eatB L (i + 1 + 1 + (3 * k + 1)) [125] = true then _ else _) = _
   rw [if_pos hs]
   rfl
  rw [loopP, hstep]
  show some (nestS (k + 1) c, _) = _
  rw [show i + 1 + 1 + (3 * k + 1) + 1 = i + (3 * (k + 1) + 1) by omega]
def itemS (x : Item) : Sel := nestS x.k x.c
theorem items_read {L : List Tok} (r : List TKey) : ∀ (l : List Item) (x : Item) (fu i : Nat) (acc : List Sel), l.length < fu → Look L i (itemsK (x :: l) ++ (4, [125]) :: r) → ∃ j, loopP (setStep L (selP L 23 (setP L 23))) fu i acc = some (acc ++ (x :: l).map itemS, j) ∧ Look L j r
 | [], x, fu, i, acc, hf, hl => by
  obtain ⟨fu, rfl⟩ : ∃ g, fu = g + 1 := ⟨fu - 1, by simp at hf; omega⟩
  have hl : Look L i (nestK x.k x.c ++ (4, [125]) :: r) := by simpa [itemsK] using hl
  obtain ⟨r1, r2⟩ := nest_read x.h1 x.h2 x.k 23 i _ r (by have := x.hk; omega) hl (Or.inl rfl)
  have he := eat_at r2.head
  have hs : eatB L (i + (3 * x.k + 1)) [125] = true := (he _).1
  refine ⟨i + (3 * x.k + 1) + 1, ?_, r2.tail⟩
  have hstep : setStep L (selP L 23 (setP L 23)) i acc = some (true, i + (3 * x.k + 1) + 1, acc ++ [nestS x.k x.c]) := by
   rw [setStep, r1]
   show (if eatB L (i + (3 * x.k + 1)) [125] = true then _ else _) = _
   rw [if_pos hs]
  rw [loopP, hstep]
  rfl
 | y :: l, x, fu, i, acc, hf, hl => by
  obtain ⟨fu, rfl⟩ : ∃ g, fu = g + 1 := ⟨fu - 1, by simp at hf; omega⟩
  obtain ⟨h, t, e, hst, hne⟩ := nest_head y.k y.c y.h1 y.h2
  have hl1 : Look L i (nestK x.k x.c ++ h :: (t ++ itemsK l ++ (4, [125]) :: r)) := by
   unfold Look at hl ⊢
   rw [hl]
   simp [itemsK, e]
  obtain ⟨r1, r2⟩ := nest_read x.h1 x.h2 x.k 23 i _ _ (by have := x.hk; omega) hl1 hst
  have he := eat_at r2.head
  have hs : eatB L (i + (3 * x.k + 1)) [125] = false := by
   obtain ⟨hk, ht⟩ := h
   rw [(he _).1]
   rcases hst with h0 | h0 | ⟨c, h0, c1, c2⟩
   · exact absurd h0 hne
   · cases h0; rfl
   · cases h0
     have : eqN [c] [125] = false := by
      rcases letter_cases c1 c2 with rfl | rfl | rfl | rfl | rfl | rfl | rfl | rfl <;> decide
     rw [this]; rfl
  have hl2 : Look L (i + (3 * x.k + 1)) (itemsK (y :: l) ++ (4, [125]) :: r) := by
   unfold Look at r2 ⊢
   rw [r2]
   simp [itemsK, e]
  obtain ⟨j, r3, r4⟩ := items_read r l y fu (i + (3 * x.k + 1)) (acc ++ [itemS x]) (by simp at hf; omega) hl2
  refine ⟨j, ?_, r4⟩
  have hstep : setStep L (selP L 23 (setP L 23)) i acc = some (false, i + (3 * x.k + 1), acc ++ [nestS x.k x.c]) := by
   rw [setStep, r1]
   show (if eatB L (i + (3 * x.k + 1)) [125] = true then _ else _) = _
   rw [if_neg (by rw [hs]; decide)]
  rw [loopP, hstep]
  show loopP (setStep L (selP L 23 (setP L 23))) fu (i + (3 * x.k + 1)) (acc ++ [itemS x]) = _
  rw [r3]
  simp
theorem law_read {x : Item} {l : List Item} (hl : l.length < 20) : docS (lawN (x :: l)) = some ⟨[⟨false, [], [], (x :: l).map itemS⟩], []⟩ := by
 obtain ⟨L, e1, e2⟩ := tok_law (x :: l) (by simp; omega)
 rw [docS, e1]
 show docP L = _
 have h0 : Look L 0 ((4, [123]) :: (itemsK (x :: l) ++ (4, [125]) :: [(0, [])])) := by
  unfold Look
  rw [List.drop_zero, e2]
 have he := eat_at h0.head
 obtain ⟨j, r1, r2⟩ := items_read [(0, [])] l x 2002 1 [] (by omega) h0.tail
 have he2 := eat_at r2.head
 have hb : mustP L [123] 0 = some 1 := by rw [mustP, (he _).1]; rfl
 have hset : setP L 24 0 = some ((x :: l).map itemS, j) := by
  rw [setP_succ, hb]
  show loopP (setStep L (selP L 23 (setP L 23))) 2002 1 [] = _
  rw [r1]; rfl
 have hop : opP L 0 = some (⟨false, [], [], (x :: l).map itemS⟩, j) := by
  rw [opP, if_pos (show signB L 0 [123] = true from (he _).2.1), hset]; rfl
 have s1 : docStep L 0 (true, ⟨[], []⟩) = some (false, j, (false, ⟨[⟨false, [], [], (x :: l).map itemS⟩], []⟩)) := by
  rw [docStep, if_neg (by simp), if_neg (show ¬ wordB L 0 [102, 114, 97, 103, 109, 101, 110, 116] = true by rw [(he _).2.2.1]; decide), hop]; rfl
 have s2 : docStep L j (false, ⟨[⟨false, [], [], (x :: l).map itemS⟩], []⟩) = some (true, j, (false, ⟨[⟨false, [], [], (x :: l).map itemS⟩], []⟩)) := by
  rw [docStep, if_pos (by rw [(he2 []).2.2.2.1 0]; rfl)]
 rw [docP, loopP, s1]
 show bindP (loopP (docStep L) 2001 j _) _ = _
 rw [loopP, s2]
 rfl
end Go.Cb.CodeA
