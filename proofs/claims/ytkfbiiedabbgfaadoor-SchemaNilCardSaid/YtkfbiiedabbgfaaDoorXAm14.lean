/-
  THE ABSTRACT MACHINE, part 14: append.
-/
import Derived.Test.YtkfbiiedabbgfaaDoorXAm13
set_option maxRecDepth 4000
namespace Go.Cb
open Classical

section
variable {c : Cx} {g : Gh} {w : World} {pr : Nat → Option Pl} {bx : Nat → Nat} {σ : Sig} {a : Act} {o : Oper} {call : CallT} {b b' r : AV} {st st' : St} {fr as : List AV}

theorem rangeAt_append {us vs : List Value} {bb f : Nat} (h : w.rangeAt bb f us) (h' : w.rangeAt bb (f + us.length) vs) : w.rangeAt bb f (us ++ vs) := by
  intro j v hv
  by_cases hj : j < us.length
  · rw [List.getElem?_append_left hj] at hv; exact h j v hv
  · rw [List.getElem?_append_right (by omega)] at hv
    have := h' _ v hv
    rw [show f + us.length + (j - us.length) = f + j by omega] at this
    exact this

theorem RelRows.vals {bb sz : Nat} : ∀ {xs : List (List AV)} {f : Nat}, RelRows g w bb f sz xs →
    ∃ us, us.length = xs.length * sz ∧ RelL g w xs.flatten us ∧ w.rangeAt bb f us ∧ (∀ u ∈ us, u.oneCell' = true) ∧ ∀ j, j < us.length → g.cl bb (f + j)
  | [], f, _ => ⟨[], by simp, by simp [RelL], fun j v h => by simp at h, by simp, by simp⟩
  | x :: xs, f, h => by
    simp only [RelRows] at h
    obtain ⟨h1, h2, h3⟩ := h
    obtain ⟨us, u1, u2, u3, u4⟩ := h2.vals
    obtain ⟨vs, v0, v1, v2, v3, v4⟩ := RelRows.vals h3
    have hl : us.length = sz := by rw [← u1.length]; exact h1
    refine ⟨us ++ vs, by rw [List.length_append, hl, v0, List.length_cons, Nat.succ_mul]; omega, by rw [List.flatten_cons]; exact u1.append v1, rangeAt_append u2 (by rw [hl]; exact v2), fun u hu => ?_, fun j hj => ?_⟩
    · rcases List.mem_append.1 hu with hu | hu
      · exact u3 u hu
      · exact v3 u hu
    · rw [List.length_append] at hj
      by_cases hlt : j < us.length
      · exact u4 j hlt
      · have := v4 (j - us.length) (by omega)
        rw [show f + sz + (j - us.length) = f + j by omega] at this
        exact this

theorem RelCells.mk {bb : Nat} : ∀ {cs : List AV} {us : List Value} {f : Nat}, RelL g w cs us → w.rangeAt bb f us → (∀ u ∈ us, u.oneCell' = true) → (∀ j, j < us.length → g.cl bb (f + j)) → RelCells g w bb f cs
  | [], _, _, _, _, _, _ => by simp [RelCells]
  | x :: cs, us, f, h, hr, h1, hc => by
    simp only [RelL] at h
    obtain ⟨v, us, rfl, h2, h3⟩ := h
    simp only [RelCells]
    refine ⟨⟨v, by simpa using hr 0 v rfl, h1 v (by simp), by simpa using hc 0 (by simp), h2⟩, RelCells.mk h3 (fun j u hu => ?_) (fun u hu => h1 u (by simp [hu])) (fun j hj => ?_)⟩
    · have := hr (j + 1) u (by simpa using hu)
      rw [show f + (j + 1) = f + 1 + j by omega] at this
      exact this
    · have := hc (j + 1) (by simp; omega)
      rw [show f + (j + 1) = f + 1 + j by omega] at this
      exact this

theorem RelRows.mk {bb sz : Nat} : ∀ {xs : List (List AV)} {us : List Value} {f : Nat}, (∀ x ∈ xs, x.length = sz) → RelL g w xs.flatten us → w.rangeAt bb f us → (∀ u ∈ us, u.oneCell' = true) → (∀ j, j < us.length → g.cl bb (f + j)) → RelRows g w bb f sz xs
  | [], _, _, _, _, _, _, _ => by simp [RelRows]
  | x :: xs, us, f, hx, h, hr, h1, hc => by
    have hxl := hx x (by simp)
    rw [List.flatten_cons] at h
    have ha : RelL g w x (us.take sz) := by
      have := h.take sz
      rwa [List.take_append_of_le_length (by omega), List.take_of_length_le (by omega)] at this
    have hb : RelL g w xs.flatten (us.drop sz) := by
      have := h.drop sz
      rwa [List.drop_append_of_le_length (by omega), List.drop_of_length_le (by omega), List.nil_append] at this
    simp only [RelRows]
    refine ⟨hxl, RelCells.mk ha (fun j u hu => ?_) (fun u hu => h1 u (List.mem_of_mem_take hu)) (fun j hj => hc j (by rw [List.length_take] at hj; omega)), RelRows.mk (fun y hy => hx y (by simp [hy])) hb (fun j u hu => ?_) (fun u hu => h1 u (List.mem_of_mem_drop hu)) (fun j hj => ?_)⟩
    · rw [List.getElem?_take] at hu
      split at hu
      · exact hr j u hu
      · cases hu
    · rw [List.getElem?_drop] at hu
      have := hr _ u hu
      rw [show f + (sz + j) = f + sz + j by omega] at this
      exact this
    · rw [List.length_drop] at hj
      have := hc (sz + j) (by omega)
      rw [show f + (sz + j) = f + sz + j by omega] at this
      exact this

/-- more cells of a block are claimed -/
def Gh.claim (g : Gh) (bb lo hi : Nat) : Gh := { g with cl := fun b' f => g.cl b' f ∨ (b' = bb ∧ lo ≤ f ∧ f < hi) }

theorem run_append_room2 {P : Program} (t ty e : TypeId) (i : TypeInfo) (T : TypeId) (ht : P.underlying t = some (.slice e)) (hi : P.info? e = some i)
    (gb sLen sCap : Nat) (cur : Array Value) (hg : w.heap[gb]? = some (.cells cur T (0, 0)))
    (a1 : Addr) (m c1 : Nat) (news : List Value) (hl : news.length = m * i.size) (hnews : ∀ j u, news[j]? = some u → w.cell? (a1.add j) = some u) (h1 : ∀ u ∈ news, u.oneCell' = true)
    (hroom : sLen + m ≤ sCap) (hfit : sLen * i.size + news.length ≤ cur.size) :
    (Builtin.append_ #[t, t] ty #[.slice (some ⟨gb, 0, none⟩) sLen sCap, .slice (some a1) m c1]).run P w =
      .ok (.slice (some ⟨gb, 0, none⟩) (sLen + m) sCap) (w.setRow gb (cur.toList.take (sLen * i.size) ++ news ++ cur.toList.drop (sLen * i.size + news.length)).toArray) := by
  have hf := run_firstCells_some (P := P) w i.size m a1 m c1 news hl hnews
  have hst := run_storeCells_at P gb (sLen * i.size) T news 0 cur w hg (by simpa using hfit) h1
  simp only [Nat.add_zero] at hst
  simp [Builtin.append_, run_underlying ht, sizeOf, typeInfo, hi, Builtin.lenOf, hroom, hf, Addr.add_lit, hst]

theorem run_append_none {P : Program} (t ty e : TypeId) (i : TypeInfo) (ht : P.underlying t = some (.slice e)) (hi : P.info? e = some i) (a0 a1 : Option Addr) (n cap c1 : Nat) (hle : n ≤ cap) :
    (Builtin.append_ #[t, t] ty #[.slice a0 n cap, .slice a1 0 c1]).run P w = .ok (.slice a0 n cap) w := by
  have hf : (Builtin.firstCells i.size 0 (.slice a1 0 c1)).run P w = .ok #[] w := by
    cases a1 with
    | none => rfl
    | some x => simp [Builtin.firstCells, loadCells, loadCellsFrom]
  cases a0 <;> simp [Builtin.append_, run_underlying ht, sizeOf, typeInfo, hi, Builtin.lenOf, hle, hf, storeCells]

theorem run_append_op {t : TypeId} {x y : Operand} {at_ : Array TypeId} (ho : o.op = .call { callee := .builtin .append, args := #[x, y], argTypes := at_ }) (hat : at_ = #[t, t]) {v u v' : Value} {w' : World}
    (hx : a.eval x = v) (hy : a.eval y = u) (h : (Builtin.append_ #[t, t] o.type #[v, u]).run c.P w = .ok v' w') : (execOp a.eval o).run c.P w = .ok (.value v') w' := by
  subst hat
  unfold execOp
  simp only [ho, resolve, invoke, builtin, Sem.run_bind, Sem.run_pure, Result.andThen_ok, List.map_toArray, List.map_cons, List.map_nil, hx, hy, h]

/-- an effect, and its result put into its place: whatever stood there is gone -/
theorem eff_put (fx : Fx c) (h : S c g w pr bx σ a) {od : Option Tmp} {d : Dst} (hd : dstOK c od d = true) (hsome : od.isSome = true) {g2 : Gh} {w2 : World} {pr2 : Nat → Option Pl} (he : Ext g w g2 w2) (hst : SRel g2 w2 st')
    (hm : ∀ b p, pr b = some p → p ≠ d.pl → pr2 b = some p ∧ Same g w g2 w2 b) (hprv : ∀ b p, pr2 b = some p → g2.sr b = none ∧ b < w2.heap.size ∧ c.A b) (hsz : w.heap.size ≤ w2.heap.size) (hstA : ∀ b p, g2.sr b = some p → c.A b)
    {v : Value} (hr : ArgOK g2 w2 bx σ.fr (fun b => pr2 b = some d.pl) r v) : S c g2 w2 pr2 bx { d.put r σ with st := st' } (a.put od v) := by
  unfold dstOK at hd
  split at hd
  · simp at hsome
  · rename_i s s'
    simp only [Bool.and_eq_true, beq_iff_eq, decide_eq_true_eq] at hd
    obtain ⟨⟨rfl, hn⟩, hl⟩ := hd
    have h1 := h.fr.put_t (contains_not hn) hl (a := .undef) (v := v) ValOK.undef
    refine ⟨?_, hst, h.gl.ext he, fun b hb => h.fresh b (Nat.le_trans hsz hb), hstA⟩
    refine h1.change (· ≠ .tmp s) he (fun b p hb hp => hm b p hb hp) hprv (fun j t ht => .inl ⟨⟨by simp, by simp, by simp⟩, rfl⟩) (fun t ht => ?_) rfl (fun j cs hj => ⟨cs, hj⟩) h.fr.bxs
    by_cases e : t = s
    · subst e
      right
      rw [getD_set_same (by rw [h.fr.size]; exact hl)]
      simp only [Dst.put, updT, Nat.beq_refl, if_true]
      exact hr.tmp (σ := σ) fun _ x => x
    · left
      exact ⟨by simpa using e, by simp [Dst.put, updT, e]⟩
  · rename_i s i
    simp only [Bool.and_eq_true, beq_iff_eq] at hd
    obtain ⟨hs, hb⟩ := hd
    have hb := contains_not hb
    have hi : i < σ.fr.length := by rw [h.fr.len]; exact (List.getElem?_eq_some_iff.1 hs).1
    have h1 := h.fr.put_v fx.nd fx.lt hs hb (a := .undef) (v := v) ValOK.undef (by simp)
    refine ⟨?_, hst, h.gl.ext he, fun b hb => h.fresh b (Nat.le_trans hsz hb), hstA⟩
    refine h1.change (· ≠ .var i) he (fun b p hb hp => hm b p hb hp) hprv (fun j t ht => ?_) (fun t ht => .inl ⟨by simp, rfl⟩) (by simp [Dst.put]) (fun j cs hj => ?_) (fun j cs hj => ?_)
    · by_cases e : j = i
      · subst e
        obtain rfl : t = s := Option.some.inj (ht.symm.trans hs)
        right
        rw [getD_set_same (by rw [h.fr.size]; exact fx.lt t (List.mem_of_getElem? ht))]
        simp only [Dst.put]
        rw [getDL_set_same hi]
        exact hr.var (σ := σ) fun _ x => x
      · left
        exact ⟨⟨by simp [e], by simp, by simp⟩, by simp only [Dst.put]; rw [getDL_set_other e, getDL_set_other e]⟩
    · by_cases e : j = i
      · subst e; rw [getDL_set_same hi] at hj; cases hj
      · rw [getDL_set_other e] at hj
        exact ⟨cs, by simp only [Dst.put]; rw [getDL_set_other e]; exact hj⟩
    · by_cases e : j = i
      · subst e
        simp only [Dst.put] at hj
        rw [getDL_set_same hi] at hj
        cases r <;> simp [AV.strip] at hj
      · simp only [Dst.put] at hj
        rw [getDL_set_other e] at hj
        exact h.fr.bxs j cs hj
  · cases hd

theorem rows_len {sz : Nat} {xs : List (List AV)} {bb f sz' : Nat} (h : rowsOk sz xs = true) (hr : RelRows g w bb f sz' xs) : ∀ r ∈ xs, r.length = sz := by
  cases xs with
  | nil => simp
  | cons x xs =>
    have h1 := hr.all
    simp only [rowsOk, beq_iff_eq] at h
    have h2 := h1 x (by simp)
    intro r hr'
    rw [h1 r hr']; omega

/-- the cells of a list, whatever it lies in -/
theorem list_vals {own : Bool} {xs : List (List AV)} {v : Value} {sz : Nat} (h : Rel g w (.list own xs) v) (hr : rowsOk sz xs = true) :
    ∃ a0 cap us, v = .slice a0 xs.length cap ∧ xs.length ≤ cap ∧ (a0 = none → cap = 0) ∧ us.length = xs.length * sz ∧ RelL g w xs.flatten us ∧ (∀ u ∈ us, u.oneCell' = true) ∧ (∀ r ∈ xs, r.length = sz) ∧
      (∀ a1, a0 = some a1 → ∀ (j : Nat) u, us[j]? = some u → w.cell? (a1.add j) = some u) ∧ (xs ≠ [] → ∃ bb f, a0 = some (ad bb f) ∧ w.rangeAt bb f us ∧ ∀ j, j < us.length → g.cl bb (f + j)) := by
  simp only [Rel] at h
  obtain ⟨a0, n, cap, rfl, rfl, hle, hn, hx⟩ := h
  cases xs with
  | nil => exact ⟨a0, cap, [], rfl, hle, hn, by simp, by simp [RelL], by simp, by simp, fun _ _ j u hu => by simp at hu, fun h => absurd rfl h⟩
  | cons x xs =>
    obtain ⟨bb, f, sz', rfl, hrows⟩ := hx (by simp)
    have hlen := rows_len hr hrows
    obtain rfl : sz' = sz := by have h1 := hrows.all x (by simp); have h2 := hlen x (by simp); omega
    obtain ⟨us, u1, u2, u3, u4, u5⟩ := hrows.vals
    refine ⟨_, cap, us, rfl, hle, hn, u1, u2, u4, hlen, fun a1 e j u hu => ?_, fun _ => ⟨bb, f, rfl, u3, u5⟩⟩
    simp only [Option.some.injEq] at e
    subst e
    rw [Addr.add_ad]
    exact u3 j u hu

theorem app_ok (fx : Fx c) (h : S c g w pr bx σ a) {t e sz bytes : Nat} {i : TypeInfo} {z : Value} {x y : Operand} {p0 p1 : Opd} {d : Dst} {at_ : Array TypeId}
    (ho : o.op = .call { callee := .builtin .append, args := #[x, y], argTypes := at_ }) (hat : at_ = #[t, t]) (hu : c.P.underlying t = some (.slice e)) (hi : c.P.info? e = some i) (hz : i.zero = some z) (hsz : i.size = sz) (hby : i.bytes = bytes)
    (hzs : z.cells.size = sz) (hb1 : 0 < bytes) (hp0 : opdOK c x p0 = true) (hp1 : opdN c y p1 = true) (hd : dstOK c o.dst d = true) (hsome : o.dst.isSome = true) {own : Bool} {xs ys : List (List AV)}
    (e0 : p0.read σ = .list true xs) (e1 : p1.read σ = .list own ys) (hr0 : rowsOk sz xs = true) (hr1 : rowsOk sz ys = true) (hb : (xs.length + ys.length) * bytes ≤ 2 ^ 47)
    {next : Act → World → Prop} {Q : Exit → Act → World → Prop} (hnext : Post c g w a (d.put (.list true (xs ++ ys)) (p0.spend σ)) next) : o.wp c.P a w next Q := by
  subst hsz; subst hby
  have h47 : (2 : Nat) ^ 47 = 140737488355328 := by decide
  rw [h47] at hb
  obtain ⟨pr1, hS, hA, _⟩ := arg_spend h hp0 d.pl
  have hY := read_ok h hp1
  rw [e0] at hA
  rw [e1] at hY
  have hA : ValOK g w (fun b => pr1 b = some d.pl) (.list true xs) (a.eval x) := hA
  have hY : ValOK g w No (.list own ys) (a.eval y) := hY
  obtain ⟨a0, cap, us, ev, hle, hnil, ul, ur, u1, ux, uc, ub⟩ := list_vals hA.rel hr0
  obtain ⟨a1, cap1, vs, eu, _, hnil1, vl, vr, v1, vx, vc, vb⟩ := list_vals hY.rel hr1
  have hrows : ∀ r ∈ xs ++ ys, r.length = i.size := fun r hr => by
    rcases List.mem_append.1 hr with hr | hr
    · exact ux r hr
    · exact vx r hr
  have hsmall : xs.length + ys.length ≤ 140737488355328 := Nat.le_trans (Nat.le_mul_of_pos_right _ hb1) hb
  unfold Oper.wp
  by_cases hys : ys = []
  · subst hys
    have hrun := run_append_op (c := c) (w := w) ho hat ev eu (run_append_none (P := c.P) t o.type e i hu hi a0 a1 xs.length cap cap1 hle)
    rw [hrun, List.append_nil] at *
    rw [← ev]
    exact hnext _ _ g pr1 bx (defers_put _ _ _) (put_ok fx hS hd hA fun _ x => x) (Tr.refl _ _ _)
  · have hm : 0 < ys.length := List.length_pos_iff.2 hys
    obtain ⟨bb1, f1, rfl, _⟩ := vb hys
    have vc' := vc _ rfl
    have hst1 : (p0.spend σ).st = σ.st := by cases p0 <;> rfl
    by_cases hroom : xs.length + ys.length ≤ cap
    · -- there is room
      rcases hA.own xs rfl with ⟨a', n', h'⟩ | ⟨gb, n', cap', sz', arr, T, h', hmine, hxne, hxr, hh, hasz, hcm, hcl⟩
      · rw [ev] at h'
        simp only [Value.slice.injEq] at h'
        omega
      · rw [ev] at h'
        simp only [Value.slice.injEq] at h'
        obtain ⟨rfl, rfl, rfl⟩ := h'
        obtain rfl : sz' = i.size := by
          cases xs with
          | nil => exact absurd rfl hxne
          | cons x0 xs => have h1 := hxr x0 (by simp); have h2 := ux x0 (by simp); omega
        have hfit : xs.length * i.size + vs.length ≤ arr.size := by rw [vl, hasz, ← Nat.add_mul]; exact Nat.mul_le_mul_right _ hroom
        have hrun := run_append_op (c := c) (w := w) ho hat ev eu (run_append_room2 (P := c.P) (w := w) t o.type e i T hu hi gb xs.length cap arr hh (ad bb1 f1) ys.length cap1 vs vl vc' v1 hroom hfit)
        have hN : (xs.length + ys.length) * i.size = xs.length * i.size + vs.length := by rw [Nat.add_mul, vl]
        generalize hNN : xs.length * i.size = N at *
        have hal : arr.toList.length = arr.size := by simp
        generalize hnew : arr.toList.take N ++ vs ++ arr.toList.drop (N + vs.length) = new at *
        have hnl : new.length = arr.size := by
          rw [← hnew]; simp only [List.length_append, List.length_take, List.length_drop, hal]; omega
        have htk : (arr.toList.take N).length = N := by rw [List.length_take, hal]; omega
        have hgb := hS.fr.prv gb _ hmine
        let g2 := g.claim gb N (N + vs.length)
        have hcell : ∀ b f, g.cl b f → (w.setRow gb new.toArray).cell? (ad b f) = w.cell? (ad b f) := fun b f hf => by
          by_cases eb : b = gb
          · subst eb
            have hlt : f < N := Nat.lt_of_not_le fun hge => hcl f hge hf
            rw [cell_of_row _ b f new.toArray T (0, 0) (setRow_heap w b arr _ T _ hh), cell_of_row w b f arr T (0, 0) hh, List.getElem?_toArray, ← hnew, List.append_assoc,
              List.getElem?_append_left (by omega), List.getElem?_take, if_pos hlt, Array.getElem?_toList]
          · exact cell?_setRow_other _ eb
        have he : Ext g w g2 (w.setRow gb new.toArray) := ⟨Nat.le_refl _, fun _ _ => rfl, fun b f hf => .inl hf, hcell⟩
        have hsame : ∀ b, b ≠ gb → Same g w g2 (w.setRow gb new.toArray) b := fun b hb => ⟨setRow_other w _ b _ hb, fun f hf => by
          rcases hf with hf | ⟨e, _⟩
          · exact hf
          · exact absurd e hb⟩
        have hsrb : ∀ b q, g.sr b = some q → b ≠ gb := fun b q hq e => by rw [e, hgb.1] at hq; cases hq
        have hrange : (w.setRow gb new.toArray).rangeAt gb N vs := fun j u hu' => by
          have hj : j < vs.length := (List.getElem?_eq_some_iff.1 hu').1
          show (w.setRow gb new.toArray).cell? (ad gb (N + j)) = some u
          rw [cell_of_row _ gb _ new.toArray T (0, 0) (setRow_heap w gb arr _ T _ hh), List.getElem?_toArray, ← hnew, List.append_assoc,
            List.getElem?_append_right (by omega), htk, List.getElem?_append_left (by omega)]
          rw [show N + j - N = j by omega]
          exact hu'
        obtain ⟨bb, f, eab, hra, hclx⟩ := ub hxne
        have eab' : gb = bb ∧ 0 = f := by simpa [ad] using eab
        obtain ⟨rfl, rfl⟩ := eab'
        have hrel : Rel g2 (w.setRow gb new.toArray) (.list true (xs ++ ys)) (.slice (some (ad gb 0)) (xs.length + ys.length) cap) := by
          simp only [Rel]
          refine ⟨_, _, _, rfl, by rw [List.length_append], hroom, fun h => (by cases h), fun _ => ⟨gb, 0, i.size, rfl, ?_⟩⟩
          refine (RelRows.ext he _ _ _ _ (RelRows.mk ux ur hra u1 hclx)).append ?_
          rw [hNN, Nat.zero_add]
          exact RelRows.mk vx (vr.ext he _ _) hrange v1 (fun j hj => .inr ⟨rfl, by omega, by omega⟩)
        have hown : Own g2 (w.setRow gb new.toArray) (fun b => pr1 b = some d.pl) (xs ++ ys) (.slice (some (ad gb 0)) (xs.length + ys.length) cap) :=
          .inr ⟨gb, _, cap, i.size, new.toArray, T, rfl, hmine, by simp [hxne], hrows, setRow_heap w gb arr _ T _ hh, by simp [hnl, hasz], hcm, fun f hf hc => by
            rcases hc with hc | ⟨_, _, hc⟩
            · exact hcl f (by omega) hc
            · omega⟩
        rw [hrun]
        have hstr : SRel g2 (w.setRow gb new.toArray) σ.st := by
          rw [← hst1]
          exact hS.st.evolve he rfl (by simp) (fun b q hq => ⟨hq, hsame b (hsrb b q hq)⟩) (fun _ _ x => x) (fun b f hf => by
            rcases hf with hf | ⟨e, _⟩
            · exact .inl hf
            · right; rw [e]; simpa using hgb.2.1)
        refine hnext _ _ g2 pr1 bx (defers_put _ _ _) ?_ ⟨he, by simp, Env.setRow _ _ _, fun b _ hs' hA'' => ⟨hsame b (fun e => hA'' (e ▸ hgb.2.2)), hs'⟩⟩
        have := eff_put fx hS hd hsome he hstr (pr2 := pr1) (fun b p hb hp => ⟨hb, hsame b (fun e => by rw [e, hmine] at hb; exact hp (Option.some.inj hb).symm)⟩)
          (fun b p hb => ⟨(hS.fr.prv b p hb).1, by simpa using (hS.fr.prv b p hb).2.1, (hS.fr.prv b p hb).2.2⟩) (by simp) hS.stA (r := .list true (xs ++ ys)) (v := .slice (some (ad gb 0)) (xs.length + ys.length) cap)
          ⟨hrel, fun zs ez => (by cases ez; exact hown), fun _ ez => (by cases ez)⟩
        have est : ∀ (q : Sig), q.st = σ.st → ({ d.put (.list true (xs ++ ys)) q with st := σ.st } : Sig) = d.put (.list true (xs ++ ys)) q := fun q hq => by
          cases d <;> simp [Dst.put, ← hq]
        rw [est _ hst1] at this
        exact this
    · -- a new row
      obtain ⟨C, cap', hrun, hC, hCs, hcap', hcm⟩ : ∃ (C : Array Value) (cap' : Nat), (Builtin.append_ #[t, t] o.type #[.slice a0 xs.length cap, .slice (some (ad bb1 f1)) ys.length cap1]).run c.P w =
          .ok (.slice (some (ad w.heap.size 0)) (xs.length + ys.length) cap') (w.drew.alloc (.cells C e)) ∧ C.toList.take ((xs.length + ys.length) * i.size) = us ++ vs ∧ C.size = cap' * i.size ∧ xs.length + ys.length ≤ cap' ∧ cap' ≤ maxLen := by
        have hml : xs.length + ys.length ≤ maxLen := by unfold maxLen; omega
        have hge := grownCap_ge w (xs.length + ys.length) cap e
        have hlen : (us ++ vs).length = (xs.length + ys.length) * i.size := by rw [List.length_append, ul, vl, Nat.add_mul]
        have hzl : ∀ k, (Builtin.zeroCells z.cells k).size = k * i.size := fun k => by rw [size_zeroCells, hzs]
        cases a0 with
        | none =>
          have hc0 := hnil rfl
          have hx0 : xs = [] := List.eq_nil_of_length_eq_zero (by omega)
          subst hx0
          subst hc0
          have hu0 : us = [] := List.eq_nil_of_length_eq_zero (by simpa using ul)
          subst hu0
          simp only [List.length_nil, Nat.zero_add] at hge hb hsmall hml ⊢
          refine ⟨_, _, run_append_nil (P := c.P) w t o.type e i z hu hi hz (ad bb1 f1) ys.length cap1 vs vl vc' hm (by omega) (by omega), ?_, ?_, hge, grownCap_le_maxLen w ys.length 0 e hml⟩
          · rw [Array.toList_append, List.toList_toArray, List.nil_append, ← vl, List.take_left]
          · rw [Array.size_append, hzl, List.size_toArray, vl, ← Nat.add_mul]
            congr 1; omega
        | some b0 =>
          refine ⟨_, _, run_append_grow (P := c.P) w t o.type e i z hu hi hz b0 xs.length cap us ul (uc b0 rfl) (ad bb1 f1) ys.length cap1 vs vl vc' (by omega) (by omega) (growslice_fits (by omega) hb), ?_, ?_, hge, grownCap_le_maxLen w _ cap e hml⟩
          · simp only [Array.toList_append, List.append_assoc]
            rw [← List.append_assoc, ← hlen]
            exact List.take_left
          · simp only [Array.size_append, List.size_toArray, hzl, ul, vl, ← Nat.add_mul]
            congr 1; omega
      have hrun := run_append_op (c := c) (w := w) ho hat ev eu hrun
      have hN : (xs.length + ys.length) * i.size = us.length + vs.length := by rw [Nat.add_mul, ul, vl]
      generalize hw2 : w.drew.alloc (.cells C e) = w2 at *
      have henv : Env w w2 := by
        rw [← hw2]
        exact (Env.drawn (w := w) (w' := w.drew) rfl rfl rfl).trans (Env.alloc w.drew _ (by intro c t z e; cases e; rfl))
      have hsz2 : w2.heap.size = w.heap.size + 1 := by rw [← hw2]; simp
      have hnew : w2.heap[w.heap.size]? = some (.cells C e (0, 0)) := by rw [← hw2]; exact heap_alloc_new w.drew _
      have hold : ∀ b, b < w.heap.size → w2.heap[b]? = w.heap[b]? := fun b hb => by rw [← hw2]; exact heap_alloc_old w.drew _ hb
      let g2 := g.claim w.heap.size 0 (us.length + vs.length)
      have he : Ext g w g2 w2 := ⟨Nat.le_refl _, fun _ _ => rfl, fun b f hf => .inl hf, fun b f hf => World.cell?_of_block (hold b (hS.st.cli b f hf))⟩
      have hsame : ∀ b, b < w.heap.size → Same g w g2 w2 b := fun b hb => ⟨hold b hb, fun f hf => by
        rcases hf with hf | ⟨e', _⟩
        · exact hf
        · omega⟩
      have hsrn : g.sr w.heap.size = none := by
        cases hq : g.sr w.heap.size with
        | none => rfl
        | some p => exact absurd (hS.st.inn _ p hq) (Nat.lt_irrefl _)
      let pr2 : Nat → Option Pl := fun b => if b = w.heap.size then some d.pl else pr1 b
      have hrange : w2.rangeAt w.heap.size 0 (us ++ vs) := fun j u hj => by
        show w2.cell? (ad w.heap.size (0 + j)) = some u
        rw [Nat.zero_add, cell_of_row w2 _ j C e (0, 0) hnew, ← Array.getElem?_toList]
        rw [← hC, List.getElem?_take] at hj
        split at hj
        · exact hj
        · cases hj
      have hrel : Rel g2 w2 (.list true (xs ++ ys)) (.slice (some (ad w.heap.size 0)) (xs.length + ys.length) cap') := by
        simp only [Rel]
        refine ⟨_, _, _, rfl, by rw [List.length_append], hcap', fun h => (by cases h), fun _ => ⟨w.heap.size, 0, i.size, rfl, ?_⟩⟩
        refine RelRows.mk hrows ?_ hrange (fun u hu' => ?_) (fun j hj => .inr ⟨rfl, by omega, by rw [List.length_append] at hj; omega⟩)
        · rw [List.flatten_append]; exact (ur.ext he _ _).append (vr.ext he _ _)
        · rcases List.mem_append.1 hu' with hu' | hu'
          · exact u1 u hu'
          · exact v1 u hu'
      have hown : Own g2 w2 (fun b => pr2 b = some d.pl) (xs ++ ys) (.slice (some (ad w.heap.size 0)) (xs.length + ys.length) cap') :=
        .inr ⟨w.heap.size, _, cap', i.size, C, e, rfl, by simp [pr2], by simp [hys], hrows, hnew, hCs, hcm, fun f hf hc => by
          rcases hc with hc | ⟨_, _, hc⟩
          · exact absurd (hS.st.cli _ f hc) (Nat.lt_irrefl _)
          · omega⟩
      rw [hrun]
      have hstr : SRel g2 w2 σ.st := by
        rw [← hst1]
        exact hS.st.evolve he rfl (by omega) (fun b q hq => ⟨hq, hsame b (hS.st.inn b q hq)⟩) (fun _ _ x => x) (fun b f hf => by
          rcases hf with hf | ⟨e', _⟩
          · exact .inl hf
          · right; omega)
      refine hnext _ _ g2 pr2 bx (defers_put _ _ _) ?_ ⟨he, by omega, henv, fun b hb hs' _ => ⟨hsame b hb, hs'⟩⟩
      have := eff_put fx hS hd hsome he hstr (pr2 := pr2) (fun b p hb hp => by
          have hlt := (hS.fr.prv b p hb).2.1
          exact ⟨by simp only [pr2]; rw [if_neg (by omega)]; exact hb, hsame b hlt⟩)
        (fun b p hb => by
          simp only [pr2] at hb
          split at hb
          · rename_i e'; subst e'; exact ⟨hsrn, by omega, hS.fresh _ (Nat.le_refl _)⟩
          · obtain ⟨q1, q2, q3⟩ := hS.fr.prv b p hb; exact ⟨q1, by omega, q3⟩) (by omega) hS.stA (r := .list true (xs ++ ys)) (v := .slice (some (ad w.heap.size 0)) (xs.length + ys.length) cap')
        ⟨hrel, fun zs ez => (by cases ez; exact hown), fun _ ez => (by cases ez)⟩
      have est : ∀ (q : Sig), q.st = σ.st → ({ d.put (.list true (xs ++ ys)) q with st := σ.st } : Sig) = d.put (.list true (xs ++ ys)) q := fun q hq => by
        cases d <;> simp [Dst.put, ← hq]
      rw [est _ hst1] at this
      exact this
end
end Go.Cb
