/-
  THE ABSTRACT MACHINE, part 15: slices written out; maps written; calls.
-/
import Derived.Test.YtkfbiiedabbgfaaDoorXAm14
import Derived.Great.BuildSlice
set_option maxRecDepth 4000
namespace Go.Cb
open Classical

theorem flatten_len {sz : Nat} : ∀ {rs : List (List AV)}, (∀ r ∈ rs, r.length = sz) → rs.flatten.length = rs.length * sz
  | [], _ => by simp
  | r :: rs, h => by
    rw [List.flatten_cons, List.length_append, flatten_len (fun x hx => h x (by simp [hx])), h r (by simp), List.length_cons, Nat.succ_mul]; omega

theorem flatten_set {sz : Nat} {c : List AV} (hc : c.length = sz) : ∀ {rs : List (List AV)} {i : Nat}, (∀ r ∈ rs, r.length = sz) → i < rs.length → (rs.set i c).flatten = setSeg rs.flatten (i * sz) c
  | [], _, _, h => by simp at h
  | r :: rs, 0, hr, _ => by
    have h0 := hr r (by simp)
    simp only [List.set_cons_zero, List.flatten_cons, setSeg, Nat.zero_mul, List.take_zero, List.nil_append, Nat.zero_add]
    rw [List.drop_append_of_le_length (by omega), List.drop_of_length_le (by omega), List.nil_append]
  | r :: rs, i + 1, hr, h => by
    have h0 := hr r (by simp)
    have ih := flatten_set hc (rs := rs) (i := i) (fun x hx => hr x (by simp [hx])) (by simpa using h)
    simp only [List.set_cons_succ, List.flatten_cons, ih, setSeg]
    have e1 : (i + 1) * sz = r.length + i * sz := by rw [Nat.succ_mul]; omega
    have t1 : r.take (r.length + i * sz) = r := List.take_of_length_le (by omega)
    have t2 : r.drop (r.length + i * sz + c.length) = [] := List.drop_of_length_le (by omega)
    rw [e1, List.take_append, t1, show r.length + i * sz - r.length = i * sz by omega, List.drop_append, t2, show r.length + i * sz + c.length - r.length = i * sz + c.length by omega]
    simp [List.append_assoc]

theorem zeros_flat (z : Array Value) : ∀ len : Nat, ((Array.range (len * z.size)).map (z[· % z.size]!)).toList = (List.replicate len z.toList).flatten
  | 0 => by simp
  | len + 1 => by
    have ih := zeros_flat z len
    rw [Array.toList_map, Array.toList_range] at ih ⊢
    rw [Nat.succ_mul, List.range_add, List.map_append, ih, List.replicate_succ', List.flatten_append]
    congr 1
    rw [List.map_map]
    simp only [List.flatten_cons, List.flatten_nil, List.append_nil]
    apply List.ext_getElem
    · simp
    · intro i h1 h2
      simp only [List.length_map, List.length_range] at h1
      simp only [List.getElem_map, List.getElem_range, Function.comp]
      have e : (len * z.size + i) % z.size = i := by
        rw [Nat.add_comm, Nat.add_mul_mod_self_right, Nat.mod_eq_of_lt h1]
      rw [e, Array.getElem_toList]
      exact getElem!_pos z i h1

section
variable {c : Cx} {g : Gh} {w : World} {pr : Nat → Option Pl} {bx : Nat → Nat} {σ : Sig} {a : Act} {o : Oper} {call : CallT} {b b' r : AV} {st st' : St} {fr as : List AV}

theorem fillRows_rel {sz : Nat} : ∀ {is : List Nat} {ps : List AV} {rs rs' : List (List AV)} {arr : Array Value} {vs : List Value},
    fillRows sz is ps rs = some rs' → ArgsOK g w bx fr ps vs → (∀ x ∈ rs, x.length = sz) → RelL g w rs.flatten arr.toList → (∀ u ∈ arr.toList, u.oneCell' = true) →
    ∃ arr', Instr.fill (fun i => some (i * sz, sz)) arr (is.zip vs) = some arr' ∧ (∀ x ∈ rs', x.length = sz) ∧ RelL g w rs'.flatten arr'.toList ∧ (∀ u ∈ arr'.toList, u.oneCell' = true) ∧ rs'.length = rs.length
  | [], [], rs, rs', arr, vs, h, ha, hr, hl, h1 => by
    simp only [fillRows, Option.some.injEq] at h
    subst h
    exact ⟨arr, by simp [Instr.fill], hr, hl, h1, rfl⟩
  | i :: is, p :: ps, rs, rs', arr, vs, h, ha, hr, hl, h1 => by
    simp only [fillRows] at h
    split at h
    · rename_i hc
      obtain ⟨hplain, hlen, hi⟩ := hc
      cases ha with
      | cons h2 h3 =>
        rename_i v vs
        have hcell := (cells_ok h2 hplain).weak
        have hcl : (p.cells.map AV.weak1).length = sz := by simpa using hlen
        have hvl : v.cells.toList.length = v.cells.size := by simp
        have hsz : v.cells.size = sz := by have := hcell.rel.length; omega
        have hfl := flatten_len hr
        have hal : rs.flatten.length = arr.size := hl.length.trans (by simp)
        have hle : i * sz + sz ≤ arr.size := by
          rw [← hal, hfl, ← Nat.succ_mul]; exact Nat.mul_le_mul_right _ hi
        have hf := fill_one v (i * sz) arr (by omega)
        obtain ⟨r1, r2⟩ := row_set (off := i * sz) hl h1 hcell.rel hcell.one
        rw [hvl, ← hf] at r1 r2
        rw [← flatten_set hcl hr hi] at r1
        obtain ⟨arr', e1, e2, e3, e4, e5⟩ := fillRows_rel h h3 (fun x hx => by
          rcases List.mem_or_eq_of_mem_set hx with hx | hx
          · exact hr x hx
          · rw [hx]; exact hcl) r1 r2
        refine ⟨arr', ?_, e2, e3, e4, by rw [e5, List.length_set]⟩
        simp only [List.zip_cons_cons, Instr.fill]
        rw [if_neg (by simp; omega)]
        exact e1
    · cases h
  | [], _ :: _, _, _, _, _, h, _, _, _, _ => by simp [fillRows] at h
  | _ :: _, [], _, _, _, _, h, _, _, _, _ => by simp [fillRows] at h

theorem bslice_ok (fx : Fx c) (h : S c g w pr bx σ a) {t e len sz : Nat} {parts : Array (Nat × Operand)} {ie : TypeInfo} {z : Value} {zero rs : List (List AV)} {z1 : List AV} {is : List Nat} {d : Dst}
    (ho : o.op = .buildSlice t len parts) (hu : c.P.underlying t = some (.slice e)) (hie : c.P.info? e = some ie) (hz : ie.zero = some z) (hsz : ie.size = sz) (hzs : z.cells.size = sz) (hsmall : len * sz ≤ 2 ^ 24) (hpos : len * sz ≠ 0)
    (hz1 : constsOK z.cells.toList z1 = true) (hzero : zero = List.replicate len z1) (his : parts.toList.map (·.1) = is) (hr : ArgsOK g w bx σ.fr as (parts.toList.map fun p => a.eval p.2)) (hs : fillRows sz is as zero = some rs)
    (hd : dstOK c o.dst d = true) (hsome : o.dst.isSome = true) {next : Act → World → Prop} {Q : Exit → Act → World → Prop} (hnext : Post c g w a (d.put (.list true rs) σ) next) : o.wp c.P a w next Q := by
  subst hsz; subst his
  obtain ⟨q1, q2, _⟩ := constsOK_rel hz1 g w
  have hz1l : z1.length = ie.size := by rw [q1.length, Array.length_toList]; exact hzs
  have hrows0 : ∀ x ∈ zero, x.length = ie.size := fun x hx => by rw [hzero] at hx; rw [List.eq_of_mem_replicate hx]; exact hz1l
  have hrep : ∀ n, RelL g w (List.replicate n z1).flatten (List.replicate n z.cells.toList).flatten ∧ ∀ u ∈ (List.replicate n z.cells.toList).flatten, u.oneCell' = true := by
    intro n
    induction n with
    | zero => simp [RelL]
    | succ n ih =>
      rw [List.replicate_succ, List.replicate_succ, List.flatten_cons, List.flatten_cons]
      exact ⟨q1.append ih.1, fun u hu => (List.mem_append.1 hu).elim (q2 u) (ih.2 u)⟩
  have hz0 := zeros_flat z.cells len
  obtain ⟨arr, e1, e2, e3, e4, e5⟩ := fillRows_rel (arr := (Array.range (len * z.cells.size)).map (z.cells[· % z.cells.size]!)) hs hr hrows0 (by rw [hz0, hzero]; exact (hrep len).1) (by rw [hz0]; exact (hrep len).2)
  rw [hzs] at e1
  rw [← zip_parts] at e1
  have hrun := run_buildSlice (P := c.P) w t e len (parts.map fun (i, x) => (i, a.eval x)) arr ie z hu hie hz (by omega) hpos (by
    rw [hzs, show (parts.map fun (i, x) => (i, a.eval x)).toList = parts.toList.map fun p => (p.1, a.eval p.2) by simp]; exact e1)
  have hlen : rs.length = len := by rw [e5, hzero, List.length_replicate]
  have hal : arr.toList.length = len * ie.size := by rw [← e3.length, flatten_len e2, hlen]
  let g2 := g.claim w.heap.size 0 (len * ie.size)
  have hnew := heap_alloc_new w (_root_.Go.Obj.cells arr e)
  have he : Ext g w g2 (w.alloc (.cells arr e)) := ⟨Nat.le_refl _, fun _ _ => rfl, fun b f hf => .inl hf, fun b f hf => World.cell?_alloc_lt _ _ _ (h.st.cli b f hf)⟩
  have hsame : ∀ b, b < w.heap.size → Same g w g2 (w.alloc (.cells arr e)) b := fun b hb => ⟨heap_alloc_old w _ hb, fun f hf => by
    rcases hf with hf | ⟨e', _⟩
    · exact hf
    · omega⟩
  have hrel : Rel g2 (w.alloc (.cells arr e)) (.list true rs) (.slice (some (ad w.heap.size 0)) len len) := by
    simp only [Rel]
    refine ⟨_, _, _, rfl, hlen.symm, Nat.le_refl _, fun h => (by cases h), fun _ => ⟨w.heap.size, 0, ie.size, rfl, ?_⟩⟩
    refine RelRows.mk e2 (e3.ext he _ _) (fun j u hj => ?_) e4 (fun j hj => .inr ⟨rfl, by omega, by omega⟩)
    show (w.alloc (.cells arr e)).cell? (ad w.heap.size (0 + j)) = some u
    rw [Nat.zero_add, cell_of_row _ _ j arr e (0, 0) hnew, ← Array.getElem?_toList]
    exact hj
  unfold Oper.wp
  rw [show (execOp a.eval o).run c.P w = .ok (.value (.slice (some ⟨w.heap.size, 0, none⟩) len len)) (w.alloc (.cells arr e)) by
    simp only [execOp, ho, Sem.run_bind, hrun, Result.andThen_ok, Sem.run_pure]]
  have hstr : SRel g2 (w.alloc (.cells arr e)) σ.st := h.st.evolve he rfl (by simp) (fun b q hq => ⟨hq, hsame b (h.st.inn b q hq)⟩) (fun _ _ x => x) (fun b f hf => by
    rcases hf with hf | ⟨e', _⟩
    · exact .inl hf
    · right; simp; omega)
  refine hnext _ _ g2 pr bx (defers_put _ _ _) ?_ ⟨he, by simp, Env.alloc w _ (by intro c t z e; cases e; rfl), fun b hb hs' _ => ⟨hsame b hb, hs'⟩⟩
  have := eff_put fx h hd hsome he hstr (pr2 := pr) (fun b p hb _ => ⟨hb, hsame b (h.fr.prv b p hb).2.1⟩)
    (fun b p hb => ⟨(h.fr.prv b p hb).1, by have := (h.fr.prv b p hb).2.1; simp; omega, (h.fr.prv b p hb).2.2⟩) (by simp) h.stA (r := .list true rs) (v := .slice (some ⟨w.heap.size, 0, none⟩) len len)
    ⟨hrel, fun zs _ => .inl ⟨_, _, rfl⟩, fun _ ez => (by cases ez)⟩
  have est : ({ d.put (.list true rs) σ with st := σ.st } : Sig) = d.put (.list true rs) σ := by cases d <;> simp [Dst.put]
  rw [est] at this
  exact this

/-! maps written -/
theorem RelM.length {es : List (AV × AV)} {l : List MapEntry} (h : RelM g w es l) : es.length = l.length := by
  induction h with
  | nil => rfl
  | cons _ _ _ _ ih => simp [ih]
theorem RelM.push {es : List (AV × AV)} {l : List MapEntry} (h : RelM g w es l) {k v : AV} {e : MapEntry} (hk : Rel g w k e.key) (hv : Rel g w v e.val) (hn : v.weak = v) : RelM g w (es ++ [(k, v)]) (l ++ [e]) := by
  induction h with
  | nil => exact .cons hk hv hn .nil
  | cons a1 a2 a3 _ ih => exact .cons a1 a2 a3 ih
theorem RelM.set {es : List (AV × AV)} {l : List MapEntry} (h : RelM g w es l) : ∀ {i : Nat} {k v : AV} {e : MapEntry}, Rel g w k e.key → Rel g w v e.val → v.weak = v → RelM g w (es.set i (k, v)) (l.set i e) := by
  induction h with
  | nil => intro i k v e _ _ _; exact .nil
  | cons a1 a2 a3 a4 ih =>
    intro i k v e hk hv hn
    cases i with
    | zero => exact .cons hk hv hn a4
    | succ i => exact .cons a1 a2 a3 (ih hk hv hn)

theorem weak_weak (x : AV) : x.weak.weak = x.weak := by
  cases x <;> simp only [AV.weak]
  rw [List.map_map]
  congr 1
  apply List.map_congr_left
  intro y _
  cases y <;> rfl

theorem sameBits_now {d : TypeDesc} {u v : Value} (h : Instr.sameNow d u v = some true) (n : Nat) : Instr.sameBits n v u = true := by
  unfold Instr.sameNow at h
  split at h
  · split at h
    · rename_i e
      simp only [Option.some.injEq, beq_iff_eq] at h
      subst e; subst h
      simp [Instr.sameBits]
    · cases h
  · simp only [Option.some.injEq] at h
    rw [MapKept.bytes_beq] at h
    subst h
    simp only [Instr.sameBits]
    rw [MapKept.bytes_beq]
  · simp only [Option.some.injEq, beq_iff_eq] at h
    subst h
    simp [Instr.sameBits]
  · cases h

theorem mset_ok (h : S c g w pr bx σ a) {t kt et oo kc : Nat} {m k x : Operand} {kv xv : AV} {es es' : List (AV × AV)} (ho : o.op = .mapUpdate t m k x ∨ o.op = .insert t m k x) (hu : c.P.underlying t = some (.map kt et)) (hk : keyClass c.P kc kt = true)
    (hb : σ.st[oo]? = some (.map es)) (hm : a.eval m = .map (some (g.m oo))) (hkv : ArgOK g w bx σ.fr No kv (a.eval k)) (hxv : ArgOK g w bx σ.fr No xv (a.eval x)) (hp : xv.plain = true) (hd : o.dst = none)
    (hs : (match mfind kc kv es 0 with
        | some (some (i, _)) => some (es.set i (kv, xv.weak))
        | some none => (eqKey kc kv kv).bind fun _ => some (es ++ [(kv, xv.weak)])
        | none => none) = some es') {next : Act → World → Prop} {Q : Exit → Act → World → Prop} (hnext : Post c g w a { σ with st := σ.st.set oo (.map es') } next) : o.wp c.P a w next Q := by
  have hoo : oo < g.n := by rw [h.st.n]; exact (List.getElem?_eq_some_iff.1 hb).1
  obtain ⟨d, hdd⟩ : ∃ d, c.P.underlying kt = some d := by
    unfold keyClass at hk
    cases hd : c.P.underlying kt with
    | none => simp [hd] at hk
    | some d => exact ⟨d, rfl⟩
  obtain ⟨hrole, hnc, ents, clock, hh, hes⟩ := h.st.obj oo _ hb
  have hgo := MapKept.run_getObj_map (P := c.P) hh
  have hck := run_checkKey_any (P := c.P) (w := w) hk false (a.eval k)
  have hxr := (hxv.plain hp).rel.weak
  have hkey : (∃ z, eqKey kc kv kv = some z) ∨ es ≠ [] → ∃ y z, eqKey kc kv y = some z := by
    rintro (⟨z, hz⟩ | hne)
    · exact ⟨kv, z, hz⟩
    · cases es with
      | nil => exact absurd rfl hne
      | cons e es =>
        obtain ⟨k0, v0⟩ := e
        cases hq : eqKey kc kv k0 with
        | none => simp [mfind, hq] at hs
        | some z => exact ⟨k0, z, hq⟩
  have hkr : Rel g w kv (a.eval k) := by
    have : ∃ y z, eqKey kc kv y = some z := by
      apply hkey
      cases es with
      | nil =>
        left
        simp only [mfind] at hs
        cases hq : eqKey kc kv kv with
        | none => simp [hq] at hs
        | some z => exact ⟨z, rfl⟩
      | cons => right; simp
    obtain ⟨y, z, hz⟩ := this
    exact hkv.rel (fun i f e => by subst e; simp [eqKey] at hz) (fun cs e => by subst e; simp [eqKey] at hz)
  -- the new row of entries
  obtain ⟨ents', clock', hrun, hrel⟩ : ∃ (ents' : Array MapEntry) (clock' : Nat), (execOp a.eval o).run c.P w = .ok .skip { w with heap := w.heap.setIfInBounds (g.m oo) (.map ents' clock') } ∧ RelM g w es' ents'.toList := by
    have upd : ∀ W', (Instr.mapUpdate t (.map (some (g.m oo))) (a.eval k) (a.eval x)).run c.P w = .ok () W' → (execOp a.eval o).run c.P w = .ok .skip W' := fun W' hW => by
      rcases ho with ho | ho <;> simp only [execOp, ho, hm, Sem.run_bind, hW, Result.andThen_ok, Sem.run_pure]
    have hset := fun (ob : _root_.Go.Obj) => MapKept.run_setObj_map (P := c.P) ob hh
    cases hf : mfind kc kv es 0 with
    | none => simp [hf] at hs
    | some r0 =>
      have hmf := mfind_now hdd hk hkr hes hf
      cases r0 with
      | none =>
        simp only [hf] at hs
        obtain ⟨z, _, hs⟩ := Option.bind_eq_some_iff.1 hs
        simp only [Option.some.injEq] at hs
        subst hs
        have hfk := MapKept.run_findKey (P := c.P) (w := w) hdd hmf
        refine ⟨ents.push { key := a.eval k, val := a.eval x, born := clock }, clock + 1, upd _ ?_, ?_⟩
        · simp [Instr.mapUpdate, run_underlying hu, hgo, hck, hfk, hset]
        · rw [Array.toList_push]
          exact hes.push hkr hxr (weak_weak _)
      | some p =>
        obtain ⟨i, v⟩ := p
        simp only [hf, Option.some.injEq] at hs
        subst hs
        obtain ⟨e, he1, _, he2, _, _, he3⟩ := hmf
        simp only [Nat.sub_zero] at he1
        have hfk := MapKept.run_findKey (P := c.P) (w := w) hdd he2
        have hei : ents[i]? = some e := by simpa using he1
        have hkt : (Instr.keyThatStays e.key (a.eval k)).run c.P w = .ok (a.eval k) w := by
          simp [Instr.keyThatStays, sameBits_now he3]
        refine ⟨ents.modify i fun e => { e with key := a.eval k, val := a.eval x }, clock, upd _ ?_, ?_⟩
        · simp [Instr.mapUpdate, run_underlying hu, hgo, hck, hfk, hset, hei, hkt]
        · have hl : (ents.modify i fun e => { e with key := a.eval k, val := a.eval x }).toList = ents.toList.set i { e with key := a.eval k, val := a.eval x } := by
            apply List.ext_getElem?
            intro j
            rw [Array.getElem?_toList, Array.getElem?_modify, List.getElem?_set]
            by_cases ej : i = j
            · subst ej
              rw [if_pos rfl, if_pos rfl, hei]
              rw [if_pos (by simpa using (List.getElem?_eq_some_iff.1 he1).1)]
              rfl
            · rw [if_neg ej, if_neg ej, Array.getElem?_toList]
          rw [hl]
          exact hes.set hkr hxr (weak_weak _)
  have henv : Env w { w with heap := w.heap.setIfInBounds (g.m oo) (.map ents' clock') } := by
    refine ⟨rfl, rfl, fun a => ?_⟩
    unfold World.frozen?
    by_cases eb : a.block = g.m oo
    · rw [eb, (MapKept.heap_set hh).1, hh]
    · rw [(MapKept.heap_set hh).2 a.block eb]
  generalize hw2 : ({ w with heap := w.heap.setIfInBounds (g.m oo) (.map ents' clock') } : World) = w2 at *
  have hnew : w2.heap[g.m oo]? = some (.map ents' clock') := by rw [← hw2]; exact (MapKept.heap_set hh).1
  have hold : ∀ b, b ≠ g.m oo → w2.heap[b]? = w.heap[b]? := fun b hb => by rw [← hw2]; exact (MapKept.heap_set hh).2 b hb
  have hsz : w2.heap.size = w.heap.size := by rw [← hw2]; simp
  have he : Ext g w g w2 := ⟨Nat.le_refl _, fun _ _ => rfl, fun _ _ x => x, fun b f hf => World.cell?_of_block (hold b fun e => hnc f (e ▸ hf))⟩
  have hsame : ∀ b, b ≠ g.m oo → Same g w g w2 b := fun b hb => ⟨hold b hb, fun _ x => x⟩
  have hprb : ∀ b q, pr b = some q → b ≠ g.m oo := fun b q hq e => by
    have := (h.fr.prv _ _ hq).1
    rw [e, hrole] at this; cases this
  unfold Oper.wp
  rw [hrun]
  simp only [Oper.upon, hd, Act.put]
  refine hnext a _ g pr bx rfl ⟨?_, ⟨?_, fun o' ob ho' => ?_, fun b q hq => by rw [hsz]; exact h.st.inn b q hq, fun b f hf => by rw [hsz]; exact h.st.cli b f hf⟩, h.gl.ext he, fun b hb => h.fresh b (by omega), h.stA⟩
    ⟨he, by omega, henv, fun b _ hs' _ => ⟨hsame b (fun e => by rw [e, hrole] at hs'; cases hs'), hs'⟩⟩
  · exact h.fr.change (fun _ => True) he (fun b q hq _ => ⟨hq, hsame b (hprb b q hq)⟩) (fun b q hq => by rw [hsz]; exact h.fr.prv b q hq) (fun j t' ht => .inl ⟨⟨trivial, trivial, fun _ => trivial⟩, rfl⟩) (fun t' ht => .inl ⟨trivial, rfl⟩) rfl (fun j ds hj => ⟨ds, hj⟩) h.fr.bxs
  · rw [List.length_set]; exact h.st.n
  · by_cases e : o' = oo
    · subst e
      rw [List.getElem?_set_self (by rw [← h.st.n]; exact hoo)] at ho'
      simp only [Option.some.injEq] at ho'
      subst ho'
      exact ⟨hrole, hnc, ents', clock', hnew, hrel.ext he⟩
    · rw [List.getElem?_set_ne (Ne.symm e)] at ho'
      refine (h.st.obj o' ob ho').mono (by rw [h.st.n]; exact (List.getElem?_eq_some_iff.1 ho').1) he fun b k hb => ⟨hb, hsame b fun e2 => ?_⟩
      rw [e2, hrole] at hb
      simp only [Option.some.injEq, Prod.mk.injEq] at hb
      exact e hb.1.symm
end
end Go.Cb
