/-
  THE ABSTRACT MACHINE, part 25: regions whose order is drawn.
-/
import Derived.Test.YtkfbiiedabbgfaaDoorXAm24
set_option maxRecDepth 4000
set_option linter.unusedSimpArgs false
namespace Go.Cb
open Classical

section
variable {c : Cx} {σ' : Sig} {call : CallT} {ops : Array Oper} {Q : Exit → Act → World → Prop}

theorem pairs_spec (all : List AOper) : ∀ (ps : List AOper) (k : Nat) (es : List (Nat × List Atom × List Atom)), ps = all.drop k → (∀ (i : Nat) (q : AOper), i < k → all[i]? = some q → (i, q.reads, q.writes) ∈ es) → pairsOK ops es k ps = true →
    ∀ (j : Nat) (p : AOper), k ≤ j → all[j]? = some p → (∀ i ∈ befores ops j, i < j) ∧ ∀ (i : Nat) (q : AOper), i < j → all[i]? = some q → apartA q p = true ∨ i ∈ closure ops 4 (befores ops j)
  | [], k, es, hps, _, _, j, p, hkj, hj => by
    have : all.length ≤ k := by
      have := congrArg List.length hps
      simp at this; omega
    rw [List.getElem?_eq_none (by omega)] at hj; cases hj
  | p0 :: ps, k, es, hps, hes, h, j, p, hkj, hj => by
    have hk : k < all.length := by
      have := congrArg List.length hps
      simp at this; omega
    rw [List.drop_eq_getElem_cons hk] at hps
    simp only [List.cons.injEq] at hps
    obtain ⟨e0, hps⟩ := hps
    simp only [pairsOK, Bool.and_eq_true] at h
    obtain ⟨⟨h1, h2⟩, h3⟩ := h
    rcases Nat.lt_or_ge k j with hlt | hge
    · refine pairs_spec all ps (k + 1) _ hps (fun i q hi hq => ?_) h3 j p hlt hj
      rcases Nat.lt_or_ge i k with h4 | h4
      · exact List.mem_cons_of_mem _ (hes i q h4 hq)
      · obtain rfl : i = k := by omega
        rw [List.getElem?_eq_getElem hk] at hq
        simp only [Option.some.injEq] at hq
        rw [e0, hq]
        simp
    · obtain rfl : j = k := by omega
      rw [List.getElem?_eq_getElem hk] at hj
      simp only [Option.some.injEq] at hj
      rw [← hj, ← e0]
      refine ⟨fun i hi => ?_, fun i q hi hq => ?_⟩
      · have := List.all_eq_true.1 h1 i hi
        simpa using this
      · have := List.all_eq_true.1 h2 _ (hes i q hi hq)
        simp only [Bool.or_eq_true] at this
        rcases this with h5 | h5
        · left; simpa [apartA] using h5
        · right
          rw [List.any_eq_true] at h5
          obtain ⟨y, hy, e⟩ := h5
          have : i = y := by simpa using e
          rw [this]; exact hy

def rem_ (n : Nat) (listed : Array Bool) : List Nat := (List.range n).filter fun i => !listed.getD i true

theorem mem_rem {n : Nat} {listed : Array Bool} {i : Nat} : i ∈ rem_ n listed ↔ i < n ∧ listed.getD i true = false := by
  simp [rem_]
theorem rem_sorted (n : Nat) (listed : Array Bool) : (rem_ n listed).Pairwise (· < ·) := List.Pairwise.filter _ List.pairwise_lt_range

theorem getD_both {l : Array Bool} {i : Nat} (h : i < l.size) (d e : Bool) : l.getD i d = l.getD i e := by
  simp [Array.getD_eq_getD_getElem?, h]

theorem rem_set {n : Nat} {listed : Array Bool} (hl : listed.size = n) {i : Nat} {l1 l2 : List Nat} (h : rem_ n listed = l1 ++ i :: l2) : rem_ n (listed.setIfInBounds i true) = l1 ++ l2 := by
  have hi : i ∈ rem_ n listed := by rw [h]; simp
  have hin := (mem_rem.1 hi).1
  have e : rem_ n (listed.setIfInBounds i true) = (rem_ n listed).filter (fun x => x != i) := by
    unfold rem_
    rw [List.filter_filter]
    apply List.filter_congr
    intro x hx
    have hxn : x < n := by simpa using hx
    by_cases ex : x = i
    · subst ex
      simp [Array.getD_eq_getD_getElem?, hl, hxn]
    · have : (listed.setIfInBounds i true).getD x true = listed.getD x true := by
        simp [Array.getD_eq_getD_getElem?, Array.getElem?_setIfInBounds_ne (Ne.symm ex)]
      rw [this]
      simp [ex]
  rw [e, h]
  have hp := rem_sorted n listed
  rw [h] at hp
  have hp := List.pairwise_append.1 hp
  have h1 : ∀ x ∈ l1, x ≠ i := fun x hx => Nat.ne_of_lt (hp.2.2 x hx i (by simp))
  have h2 : ∀ x ∈ l2, x ≠ i := fun x hx => Nat.ne_of_gt ((List.pairwise_cons.1 hp.2.1).1 x hx)
  rw [List.filter_append, List.filter_cons_of_neg (by simp), List.filter_eq_self.2 (fun x hx => by simpa using h1 x hx), List.filter_eq_self.2 (fun x hx => by simpa using h2 x hx)]

theorem closure_listed {listed : Array Bool} (hc : ∀ j, listed.getD j false = true → ∀ i ∈ befores ops j, listed.getD i false = true) :
    ∀ (n : Nat) (l : List Nat), (∀ x ∈ l, listed.getD x false = true) → ∀ x ∈ closure ops n l, listed.getD x false = true
  | 0, l, h, x, hx => h x hx
  | n + 1, l, h, x, hx => by
    simp only [closure, List.mem_append] at hx
    rcases hx with hx | hx
    · exact h x hx
    · refine closure_listed hc n _ (fun y hy => ?_) x hx
      obtain ⟨z, hz, hy⟩ := List.mem_flatMap.1 hy
      exact hc z (h z hz) y hy

theorem ready_iff {listed : Array Bool} {i : Nat} : i ∈ Region.ready .any ops listed ↔ i < ops.size ∧ listed.getD i true = false ∧ ∀ b ∈ befores ops i, listed.getD b false = true := by
  unfold Region.ready
  rw [List.mem_filter, List.mem_range]
  constructor
  · rintro ⟨h1, h2⟩
    simp only [Bool.and_eq_true, Bool.not_eq_true'] at h2
    refine ⟨h1, h2.1, fun b hb => ?_⟩
    have h3 := h2.2
    unfold befores at hb
    rw [Array.getElem?_eq_getElem h1] at h3 hb
    simp only [Option.map_some, Option.getD_some] at h3
    simp only at hb
    obtain ⟨e, he, hb⟩ := List.mem_filterMap.1 hb
    have := Array.all_eq_true_iff_forall_mem.1 h3 e (by simpa using he)
    split at hb
    · rename_i hbind
      simp only [Option.some.injEq] at hb
      subst hb
      simpa [hbind] using this
    · cases hb
  · rintro ⟨h1, h2, h3⟩
    refine ⟨h1, ?_⟩
    simp only [Bool.and_eq_true, Bool.not_eq_true']
    refine ⟨h2, ?_⟩
    unfold befores at h3
    rw [Array.getElem?_eq_getElem h1] at h3 ⊢
    simp only [Option.map_some, Option.getD_some]
    refine Array.all_eq_true_iff_forall_mem.2 fun e he => ?_
    cases hbind : Region.binds .any e with
    | false => simp
    | true =>
      have := h3 e.on (List.mem_filterMap.2 ⟨e, by simpa using he, by simp [hbind]⟩)
      simp [this]

/-- in whatever order is drawn -/
theorem ops_any (fx : Fx c) (hc : CallOK c.P c.gt call) {ps : List AOper} (hok : opsOK c ops ops.toList ps = true) (hpairs : pairsOK ops [] 0 ps = true) :
    ∀ (n : Nat) (listed : Array Bool) (g : Gh) (w : World) (pr : Nat → Option Pl) (bx : Nat → Nat) (σ : Sig) (a : Act), listed.size = ps.length → (rem_ ps.length listed).length = n →
      (∀ j, listed.getD j false = true → ∀ i ∈ befores ops j, listed.getD i false = true) →
      S c g w pr bx σ a → runOps call ((rem_ ps.length listed).filterMap (ps[·]?)) σ = some σ' → Post c g w a σ' (Q .normal) → wpAny c.P .any ops Q n listed a w := by
  obtain ⟨hl, hget⟩ := opsOK_get hok
  have hsz : ops.size = ps.length := by simpa using hl
  have hsp := fun (j : Nat) (p : AOper) hj => pairs_spec (ops := ops) ps ps 0 [] rfl (fun i q hi => by omega) hpairs j p (Nat.zero_le _) hj
  have hempty : ∀ (listed : Array Bool), listed.size = ps.length → Region.ready .any ops listed = [] → rem_ ps.length listed = [] := by
    intro listed hls hr
    cases hrem : rem_ ps.length listed with
    | nil => rfl
    | cons i l =>
      exfalso
      have hi : i ∈ rem_ ps.length listed := by rw [hrem]; simp
      obtain ⟨h1, h2⟩ := mem_rem.1 hi
      have : i ∈ Region.ready .any ops listed := by
        refine ready_iff.2 ⟨by omega, h2, fun b hb => ?_⟩
        have hbi := (hsp i _ (List.getElem?_eq_getElem h1)).1 b hb
        have hnb : b ∉ rem_ ps.length listed := fun hm => by
          have hs := rem_sorted ps.length listed
          rw [hrem] at hs hm
          rcases List.mem_cons.1 hm with rfl | hm
          · omega
          · have := (List.pairwise_cons.1 hs).1 b hm; omega
        have hbn : b < ps.length := by omega
        cases hq : listed.getD b true with
        | false => exact absurd (mem_rem.2 ⟨hbn, hq⟩) hnb
        | true => rw [getD_both (by omega) false true]; exact hq
      rw [hr] at this
      cases this
  intro n
  induction n with
  | zero =>
    intro listed g w pr bx σ a hls hn _ h hr hnext
    have hrem : rem_ ps.length listed = [] := List.eq_nil_of_length_eq_zero hn
    rw [hrem] at hr
    simp only [List.filterMap_nil, runOps, Option.some.injEq] at hr
    subst hr
    refine ⟨?_, hnext a w g pr bx rfl h (Tr.refl _ _ _)⟩
    apply List.eq_nil_iff_forall_not_mem.2
    intro i hi
    obtain ⟨h1, h2, _⟩ := ready_iff.1 hi
    have := (mem_rem (n := ps.length)).2 ⟨show i < ps.length by omega, h2⟩
    rw [hrem] at this
    cases this
  | succ n ih =>
    intro listed g w pr bx σ a hls hn hcl h hr hnext
    refine ⟨fun he => ?_, fun i hi => ?_⟩
    · have := hempty listed hls he
      rw [this] at hn
      cases hn
    · obtain ⟨h1, h2, h3⟩ := ready_iff.1 hi
      have hip : i < ps.length := by omega
      have hirem : i ∈ rem_ ps.length listed := mem_rem.2 ⟨hip, h2⟩
      obtain ⟨l1, l2, hsplit⟩ := List.append_of_mem hirem
      obtain ⟨o, ho, hop, hg⟩ := hget i _ (List.getElem?_eq_getElem hip)
      have hs := rem_sorted ps.length listed
      rw [hsplit] at hs
      have hs := List.pairwise_append.1 hs
      rw [hsplit, List.filterMap_append, List.filterMap_cons_some (List.getElem?_eq_getElem hip)] at hr
      obtain ⟨σ1, hstep, hrest⟩ := bubble (fun r hr => by
        obtain ⟨k, hk, hrk⟩ := List.mem_filterMap.1 hr
        have hki : k < i := hs.2.2 k hk i (by simp)
        refine ((hsp i _ (List.getElem?_eq_getElem hip)).2 k r hki hrk).resolve_right fun hcl' => ?_
        have hlist := closure_listed hcl 4 _ h3 k hcl'
        have hkrem : k ∈ rem_ ps.length listed := by rw [hsplit]; simp [hk]
        have := (mem_rem.1 hkrem).2
        rw [getD_both (by omega) true false, hlist] at this
        cases this) hr
      rw [← List.filterMap_append, ← rem_set hls hsplit] at hrest
      refine step_ok fx hc h (by simpa using ho) hop hg hstep fun a1 w1 g1 pr1 bx1 hd1 hS1 ht1 => ?_
      refine ih (listed.setIfInBounds i true) g1 w1 pr1 bx1 σ1 a1 (by simpa using hls) ?_ (fun j hj b hb => ?_) hS1 hrest (hnext.trans hd1 ht1)
      · rw [rem_set hls hsplit]
        rw [hsplit] at hn
        simp at hn ⊢
        omega
      · have up : ∀ x, listed.getD x false = true → (listed.setIfInBounds i true).getD x false = true := fun x hx => by
          by_cases e : i = x
          · subst e; simp [Array.getD_eq_getD_getElem?, hls, hip]
          · simpa [Array.getD_eq_getD_getElem?, Array.getElem?_setIfInBounds_ne e] using hx
        by_cases e : i = j
        · subst e
          exact up b (h3 b hb)
        · refine up b (hcl j ?_ b hb)
          simpa [Array.getD_eq_getD_getElem?, Array.getElem?_setIfInBounds_ne e] using hj

end
end Go.Cb
