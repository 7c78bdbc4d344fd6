/-
  THE ABSTRACT MACHINE, part 10: structs and slices written out; look-ups; bytes to a text.
-/
import Derived.Test.YtkfbiiedabbgfaaDoorXAm9
import Derived.MapKept
set_option maxRecDepth 4000
namespace Go.Cb

theorem fold_seg (off : Nat) : ∀ (l : List Value) (k : Nat) (arr : Array Value), off + k + l.length ≤ arr.size →
    ((l.zipIdx k).foldl (fun cs (x : Value × Nat) => cs.setIfInBounds (off + x.2) x.1) arr).toList = arr.toList.take (off + k) ++ l ++ arr.toList.drop (off + k + l.length)
  | [], k, arr, _ => by simp
  | v :: l, k, arr, h => by
    simp only [List.length_cons] at h
    rw [List.zipIdx_cons, List.foldl_cons, fold_seg off l (k + 1) (arr.setIfInBounds (off + k) v) (by simp; omega)]
    have := list_seg_step arr.toList (off + k) v l (by simpa using by omega)
    rw [Array.toList_setIfInBounds, show off + (k + 1) = off + k + 1 by omega]
    simpa [List.length_cons, Nat.add_assoc] using this

theorem fill_one (v : Value) (off : Nat) (arr : Array Value) (h : off + v.cells.size ≤ arr.size) :
    (v.cells.zipIdx.foldl (fun cs x => match x with | (c, j) => cs.setIfInBounds (off + j) c) arr).toList = arr.toList.take off ++ v.cells.toList ++ arr.toList.drop (off + v.cells.size) := by
  have := fold_seg off v.cells.toList 0 arr (by simpa using h)
  rw [← Array.foldl_toList, Array.toList_zipIdx]
  simpa using this

section
variable {c : Cx} {g : Gh} {w : World} {pr : Nat → Option Pl} {bx : Nat → Nat} {a : Act} {o : Oper} {call : CallT} {b b' r : AV} {st st' : St} {fr as : List AV}

/-- a row of cells and what it stands for -/
structure RowOK (g : Gh) (w : World) (cs : List AV) (vs : List Value) : Prop where
  rel : RelL g w cs vs
  one : ∀ v ∈ vs, v.oneCell' = true
  own : ∀ (k : Nat) (x : AV) (v : Value), cs[k]? = some x → vs[k]? = some v → OwnN x v

theorem RowOK.append {cs ds : List AV} {vs us : List Value} (h : RowOK g w cs vs) (h' : RowOK g w ds us) : RowOK g w (cs ++ ds) (vs ++ us) := by
  refine ⟨h.rel.append h'.rel, fun v hv => ?_, fun k x v hx hv => ?_⟩
  · rcases List.mem_append.1 hv with hv | hv
    · exact h.one v hv
    · exact h'.one v hv
  · have hl := h.rel.length
    by_cases hk : k < cs.length
    · rw [List.getElem?_append_left hk] at hx
      rw [List.getElem?_append_left (by omega)] at hv
      exact h.own k x v hx hv
    · rw [List.getElem?_append_right (by omega)] at hx
      rw [List.getElem?_append_right (by omega), ← hl] at hv
      exact h'.own _ x v hx hv
theorem RowOK.take {cs : List AV} {vs : List Value} (h : RowOK g w cs vs) (n : Nat) : RowOK g w (cs.take n) (vs.take n) := by
  refine ⟨h.rel.take n, fun v hv => h.one v (List.mem_of_mem_take hv), fun k x v hx hv => ?_⟩
  rw [List.getElem?_take] at hx hv
  split at hx
  · rename_i hk
    rw [if_pos hk] at hv
    exact h.own k x v hx hv
  · cases hx
theorem RowOK.drop {cs : List AV} {vs : List Value} (h : RowOK g w cs vs) (n : Nat) : RowOK g w (cs.drop n) (vs.drop n) := by
  refine ⟨h.rel.drop n, fun v hv => h.one v (List.mem_of_mem_drop hv), fun k x v hx hv => ?_⟩
  rw [List.getElem?_drop] at hx hv
  exact h.own _ x v hx hv
theorem RowOK.weak {cs : List AV} {vs : List Value} (h : RowOK g w cs vs) : RowOK g w (cs.map AV.weak1) vs := by
  refine ⟨h.rel.weak1, h.one, fun k x v hx hv xs e => ?_⟩
  rw [List.getElem?_map] at hx
  cases hc : cs[k]? with
  | none => simp [hc] at hx
  | some d => simp [hc] at hx; subst hx; cases d <;> simp [AV.weak1] at e

/-- the cells of a plain value -/
theorem cells_ok {x : AV} {v : Value} (h : ArgOK g w bx fr No x v) (hp : x.plain = true) : RowOK g w x.cells v.cells.toList := by
  have hv := h.plain hp
  cases x with
  | agg cs =>
    have hr := hv.rel
    simp only [Rel] at hr
    obtain ⟨arr, rfl, h1, h2⟩ := hr
    exact ⟨h1, h2, fun k y u hy hu => hv.agg cs rfl arr rfl k y u hy (by simpa [Value.cells] using hu)⟩
  | undef => simp [AV.plain] at hp
  | loc => simp [AV.plain] at hp
  | box => simp [AV.plain] at hp
  | tuple => simp [AV.plain] at hp
  | list own xs =>
    have hr := hv.rel
    simp only [Rel] at hr
    obtain ⟨a0, n, cap, rfl, _⟩ := hr
    refine ⟨by simp only [AV.cells, Value.cells, RelL]; exact ⟨_, [], rfl, hv.rel, rfl⟩, by simp [Value.cells, Value.oneCell'], fun k y u hy hu ys e => ?_⟩
    obtain rfl : k = 0 := by cases k with | zero => rfl | succ k => simp [AV.cells] at hy
    simp [AV.cells] at hy
    simp [Value.cells] at hu
    subst hu
    rw [← hy] at e
    rcases hv.own ys e with ⟨a1, n1, h1⟩ | ⟨_, _, _, _, _, _, _, h1, _⟩
    · exact ⟨a1, n1, h1⟩
    · exact h1.elim
  | _ =>
    have hone : v.oneCell' = true := by
      have hr := hv.rel
      simp only [Rel] at hr
      first
        | (subst hr; rfl)
        | (obtain ⟨_, rfl⟩ := hr; rfl)
        | (obtain ⟨_, rfl, _⟩ := hr; rfl)
        | (obtain ⟨_, _, rfl, _⟩ := hr; rfl)
    have hc : v.cells = #[v] := by cases v <;> first | rfl | cases hone
    rw [hc]
    refine ⟨by simp only [AV.cells, RelL]; exact ⟨v, [], rfl, hv.rel, rfl⟩, by simpa using hone, fun k y u hy _ ys e => ?_⟩
    obtain rfl : k = 0 := by cases k with | zero => rfl | succ k => simp [AV.cells] at hy
    simp [AV.cells] at hy
    rw [← hy] at e
    cases e

theorem fill_rel : ∀ {offs : List (Nat × Nat)} {ps : List AV} {cs cs' : List AV} {arr : Array Value} {vs : List Value} {is : List Nat} {place : Nat → Option (Nat × Nat)},
    fillSegs offs ps cs = some cs' → ArgsOK g w bx fr ps vs → RowOK g w cs arr.toList → is.map place = offs.map some → is.length = vs.length →
    ∃ arr', Instr.fill place arr (is.zip vs) = some arr' ∧ RowOK g w cs' arr'.toList
  | [], [], cs, cs', arr, vs, is, place, h, ha, hr, hp, hl => by
    simp only [fillSegs, Option.some.injEq] at h
    subst h
    cases ha
    exact ⟨arr, by cases is <;> simp [Instr.fill], hr⟩
  | (off, n) :: offs, p :: ps, cs, cs', arr, vs, is, place, h, ha, hr, hp, hl => by
    simp only [fillSegs] at h
    split at h
    · rename_i hc
      obtain ⟨hplain, hlen, hle⟩ := hc
      cases ha with
      | cons h1 h2 =>
        rename_i v vs
        cases is with
        | nil => simp at hp
        | cons i is =>
          simp only [List.map_cons, List.cons.injEq] at hp
          have hcell := cells_ok h1 hplain
          have hsz : v.cells.size = n := by
            have h3 := hcell.rel.length
            have h4 : v.cells.toList.length = v.cells.size := Array.length_toList
            omega
          have hcs : cs.length = arr.size := hr.rel.length.trans Array.length_toList
          have hf := fill_one v off arr (by omega)
          have hrow : RowOK g w (setSeg cs off p.cells) (arr.toList.take off ++ v.cells.toList ++ arr.toList.drop (off + v.cells.size)) := by
            unfold setSeg
            rw [hsz, hlen]
            exact ((hr.take off).append hcell).append (hr.drop (off + n))
          rw [← hf] at hrow
          obtain ⟨arr', e1, e2⟩ := fill_rel h h2 hrow hp.2 (by simpa using hl)
          refine ⟨arr', ?_, e2⟩
          simp only [List.zip_cons_cons, Instr.fill, hp.1]
          rw [if_neg (by simp; omega)]
          exact e1
    · cases h
  | [], _ :: _, _, _, _, _, _, _, h, _, _, _, _ => by simp [fillSegs] at h
  | _ :: _, [], _, _, _, _, _, _, h, _, _, _, _ => by simp [fillSegs] at h

theorem RowOK.agg {cs : List AV} {arr : Array Value} (h : RowOK g w cs arr.toList) : ValOK g w No (.agg cs) (.agg arr) :=
  ⟨by simp only [Rel]; exact ⟨arr, rfl, h.rel, h.one⟩, fun xs e => (by cases e), fun ds e vs e2 k x u hx hu => by
    simp only [AV.agg.injEq] at e
    simp only [Value.agg.injEq] at e2
    subst e; subst e2
    exact h.own k x u hx (by simpa using hu)⟩

def placesOf (P : Program) (t : TypeId) : Option (List (Nat × Nat)) :=
  match P.underlying t with
  | some (.struct fields) => fields.toList.mapM (fun f => (P.info? f.type).map fun i => (f.offset, i.size))
  | _ => none

theorem zip_parts (a : Act) (parts : List (Nat × Operand)) : (parts.map fun p => (p.1, a.eval p.2)) = (parts.map (·.1)).zip (parts.map fun p => a.eval p.2) := by
  induction parts with
  | nil => rfl
  | cons p ps ih => simp [ih]

theorem sim_build {t : TypeId} {parts : Array (Nat × Operand)} {zero : List AV} {offs places : List (Nat × Nat)} {z : Value} (ho : o.op = .build t parts) (hpl : placesOf c.P t = some places)
    (hz : (c.P.info? t).bind (·.zero) = some z) (hzz : constsOK z.cells.toList zero = true) (hoffs : (parts.toList.map (·.1)).map (fun i => places[i]?) = offs.map some)
    (hr : ArgsOK g w bx fr as (parts.toList.map fun p => a.eval p.2)) (hs : semBuild zero offs call as b st = some (r, b', st')) : PureRes c g w bx fr a o r ∧ b' = b ∧ st' = st := by
  simp only [semBuild] at hs
  obtain ⟨cs, hcs, he⟩ := Option.map_eq_some_iff.1 hs
  simp only [Prod.mk.injEq] at he
  obtain ⟨rfl, rfl, rfl⟩ := he
  obtain ⟨z1, z2, z3⟩ := constsOK_rel hzz g w
  obtain ⟨arr, h1, h2⟩ := fill_rel (place := fun i => places.toArray[i]?) hcs hr ⟨z1, z2, z3⟩ (is := parts.toList.map (·.1)) (by simpa using hoffs) (by simp)
  refine ⟨⟨.agg arr, ?_, h2.agg⟩, rfl, rfl⟩
  have hb : c.P.built t (parts.map fun (i, x) => (i, a.eval x)).toList = some arr := by
    unfold placesOf at hpl
    split at hpl
    · rename_i fields hu
      obtain ⟨it, hit, hzero⟩ := Option.bind_eq_some_iff.1 hz
      unfold Program.built
      simp only [hit, hu, hzero, hpl]
      rw [show (parts.map fun (i, x) => (i, a.eval x)).toList = parts.toList.map fun p => (p.1, a.eval p.2) by simp, zip_parts]
      exact h1
    · cases hpl
  simp only [execOp, ho, Sem.run_bind, run_build w t _ _ hb, Result.andThen_ok, Sem.run_pure]

/-! look-ups -/
def keyClass (P : Program) (kc : Nat) (kt : TypeId) : Bool :=
  match P.underlying kt, kc with
  | some (.int _), 0 => true
  | some .string, 1 => true
  | some .bool, 2 => true
  | _, _ => false

theorem bytes_eq (s t : ByteArray) : (s == t) = true ↔ s.data.toList = t.data.toList := by
  rw [MapKept.bytes_beq]
  exact ⟨fun h => by rw [h], fun h => ByteArray.ext (Array.toList_inj.mp h)⟩
theorem eqKey_now {P : Program} {kc : Nat} {kt : TypeId} {d : TypeDesc} (hd : P.underlying kt = some d) (hk : keyClass P kc kt = true) {x y : AV} {u v : Value} (hx : Rel g w x u) (hy : Rel g w y v) {z : Bool} (h : eqKey kc x y = some z) :
    Instr.sameNow d u v = some z := by
  unfold keyClass at hk
  rw [hd] at hk
  unfold eqKey at h
  split at h
  · split at h
    · rename_i hc
      obtain ⟨rfl, rfl⟩ := hc
      simp only [Rel] at hx hy
      subst hx; subst hy
      cases d <;> simp at hk
      simp only [eqI_eq, Option.some.injEq] at h
      simp [Instr.sameNow, h]
    · cases h
  · split at h
    · rename_i hc
      subst hc
      simp only [Rel] at hx hy
      obtain ⟨s, rfl, rfl⟩ := hx
      obtain ⟨t, rfl, rfl⟩ := hy
      cases d <;> simp at hk
      rw [eqN_map, Option.some.injEq] at h
      simp only [Instr.sameNow, Option.some.injEq]
      rw [← h, Bool.eq_iff_iff, bytes_eq]; simp only [beq_iff_eq]
    · cases h
  · split at h
    · rename_i hc
      subst hc
      simp only [Rel] at hx hy
      subst hx; subst hy
      cases d <;> simp at hk
      simpa [Instr.sameNow] using h
    · cases h
  · cases h

theorem mfind_now {P : Program} {kc : Nat} {kt : TypeId} {d : TypeDesc} (hd : P.underlying kt = some d) (hk : keyClass P kc kt = true) {x : AV} {u : Value} (hx : Rel g w x u) :
    ∀ {es : List (AV × AV)} {l : List MapEntry} {i : Nat} {z : Option (Nat × AV)}, RelM g w es l → mfind kc x es i = some z →
      match z with
      | none => Instr.findNow d u l i = some none
      | some (j, v) => ∃ e, l[j - i]? = some e ∧ i ≤ j ∧ Instr.findNow d u l i = some (some (j, e.val)) ∧ Rel g w v e.val ∧ v.weak = v ∧ Instr.sameNow d u e.key = some true
  | [], _, i, z, h, hf => by
    cases h
    simp only [mfind, Option.some.injEq] at hf
    subst hf
    rfl
  | (k, v) :: es, _, i, z, h, hf => by
    cases h with
    | cons h1 h2 h3 h4 =>
      rename_i e l
      simp only [mfind] at hf
      split at hf
      · rename_i hq
        simp only [Option.some.injEq] at hf
        subst hf
        have := eqKey_now hd hk hx h1 hq
        exact ⟨e, by simp, Nat.le_refl _, by simp [Instr.findNow, this], h2, h3, this⟩
      · rename_i hq
        have hs := eqKey_now hd hk hx h1 hq
        have ih := mfind_now hd hk hx h4 hf
        cases z with
        | none => simp only [Instr.findNow, hs]; exact ih
        | some p =>
          obtain ⟨j, v'⟩ := p
          obtain ⟨e', i1, i2, i3, i4⟩ := ih
          refine ⟨e', ?_, by omega, by simp only [Instr.findNow, hs]; exact i3, i4⟩
          rw [show j - i = (j - (i + 1)) + 1 by omega]
          simpa using i1
      · cases hf

theorem run_checkKey_any {P : Program} {kc : Nat} {kt : TypeId} (hk : keyClass P kc kt = true) (e : Bool) (v : Value) : (Instr.checkKey e 10000 kt v).run P w = .ok () w := by
  unfold keyClass at hk
  split at hk <;> first | (rename_i hu; rw [show (10000 : Nat) = 9999 + 1 from rfl, Instr.checkKey, Sem.run_bind, run_underlying hu, Result.andThen_ok]; cases v <;> rfl) | cases hk

def isAggV : Value → Bool
  | .agg _ => true
  | _ => false
theorem zero_val {t : TypeId} {ag : Bool} {z : Value} {zero : List AV} {v : AV} (hag : isAggB c t = some ag) (hz : (c.P.info? t).bind (·.zero) = some z) (hzz : constsOK z.cells.toList zero = true) (hza : ag = isAggV z) (hv : takeVal ag zero.length zero = some v) :
    Rel g w v z ∧ v.weak = v := by
  obtain ⟨z1, z2, z3⟩ := constsOK_rel hzz g w
  cases ag with
  | true =>
    simp only [takeVal, if_true, Nat.le_refl, List.take_length, Option.some.injEq] at hv
    subst hv
    cases z <;> simp [isAggV] at hza
    refine ⟨by simp only [Rel]; exact ⟨_, rfl, z1.weak1, z2⟩, ?_⟩
    simp only [AV.weak, List.map_map]
    congr 1
    apply List.map_congr_left
    intro x _
    cases x <;> rfl
  | false =>
    simp only [takeVal, Bool.false_eq_true, if_false] at hv
    cases zero with
    | nil => simp at hv
    | cons y ys =>
      simp only [Option.some.injEq] at hv
      subst hv
      simp only [RelL] at z1
      obtain ⟨u, us, e, h1, _⟩ := z1
      have hu : u = z := by cases z <;> simp [Value.cells] at e <;> first | exact e.1.symm | simp [isAggV] at hza
      subst hu
      refine ⟨h1.weak1, ?_⟩
      cases y <;> first
        | rfl
        | (simp only [Rel] at h1
           obtain ⟨_, rfl, _⟩ := h1
           simp [isAggV] at hza)

/-- the value that a type's zero is -/
def zeroOK (P : Program) (t : TypeId) (zero : List AV) : Bool :=
  match (P.info? t).bind (·.zero) with
  | some z => constsOK z.cells.toList zero
  | none => false
def aggZero (P : Program) (t : TypeId) (ag : Bool) : Bool :=
  match (P.info? t).bind (·.zero) with
  | some z => ag == isAggV z
  | none => false

theorem ArgOK.of_rel {x : AV} {v : Value} (h : Rel g w x v) (hw : x.weak = x) : ArgOK g w bx fr No x v := by
  rw [← hw]
  refine ArgOK.of_val (ValOK.of_weak h) fun i f e => ?_
  rw [hw] at e
  subst e
  simp [Rel] at h

theorem sim_mget (h : SRel g w st) {t kt et : TypeId} {m k : Operand} {kc : Nat} {zero : List AV} {ag ok : Bool} (ho : o.op = .lookup t m k ok) (hu : c.P.underlying t = some (.map kt et)) (hk : keyClass c.P kc kt = true)
    (hag : isAggB c et = some ag) (hz : zeroOK c.P et zero = true) (hza : aggZero c.P et ag = true) (hr : ArgsOK g w bx fr as [a.eval m, a.eval k]) (hs : semMget kc zero ag ok call as b st = some (r, b', st')) :
    PureRes c g w bx fr a o r ∧ b' = b ∧ st' = st := by
  obtain ⟨p, q, rfl, h1, h2⟩ := hr.two
  obtain ⟨d, hd⟩ : ∃ d, c.P.underlying kt = some d := by
    unfold keyClass at hk
    cases hd : c.P.underlying kt with
    | none => simp [hd] at hk
    | some d => exact ⟨d, rfl⟩
  obtain ⟨z, hz1, hz2, hz3⟩ : ∃ z, (c.P.info? et).bind (·.zero) = some z ∧ constsOK z.cells.toList zero = true ∧ ag = isAggV z := by
    unfold zeroOK at hz
    unfold aggZero at hza
    cases hq : (c.P.info? et).bind (·.zero) with
    | none => simp [hq] at hz
    | some z => simp only [hq] at hz hza; exact ⟨z, rfl, hz, by simpa using hza⟩
  have hzero : (zeroValue et).run c.P w = .ok z w := by
    obtain ⟨i, hi, hiz⟩ := Option.bind_eq_some_iff.1 hz1
    simp [zeroValue, typeInfo, hi, hiz]
  have hck := fun (e : Bool) => run_checkKey_any (P := c.P) (w := w) hk e (a.eval k)
  have e1 := h1.rel
  -- what is left when the entries are known
  have fin : ∀ (es : List (AV × AV)) (l : List MapEntry), RelM g w es l → (Rel g w q (a.eval k) ∨ es = []) →
      (∀ (fv : Option (Nat × Value)), Instr.findNow d (a.eval k) l 0 = some fv →
        (execOp a.eval o).run c.P w = .ok (.value (if ok then .tuple #[(match fv with | some (_, x) => x | none => z), .bool fv.isSome] else (match fv with | some (_, x) => x | none => z))) w) →
      (match mfind kc q es 0 with
        | some r0 => match (match r0 with | some (_, v) => some v | none => takeVal ag zero.length zero) with
          | some v => some (if ok then AV.tuple [v, .bool r0.isSome] else v, b, st)
          | none => none
        | none => none) = some (r, b', st') → PureRes c g w bx fr a o r ∧ b' = b ∧ st' = st := by
    intro es l hes hq run hfin
    cases hf : mfind kc q es 0 with
    | none => simp [hf] at hfin
    | some r0 =>
      simp only [hf] at hfin
      obtain ⟨fv, f1, f2⟩ : ∃ fv, Instr.findNow d (a.eval k) l 0 = some fv ∧ (fv.isSome = r0.isSome ∧ ∀ v, (match r0 with | some (_, v) => some v | none => takeVal ag zero.length zero) = some v →
          Rel g w v (match fv with | some (_, x) => x | none => z) ∧ v.weak = v) := by
        have nil : r0 = none → Instr.findNow d (a.eval k) l 0 = some none → ∃ fv, Instr.findNow d (a.eval k) l 0 = some fv ∧ (fv.isSome = r0.isSome ∧ ∀ v, (match r0 with | some (_, v) => some v | none => takeVal ag zero.length zero) = some v →
          Rel g w v (match fv with | some (_, x) => x | none => z) ∧ v.weak = v) := by
          intro e0 hn
          subst e0
          exact ⟨none, hn, rfl, fun v hv => zero_val hag hz1 hz2 hz3 hv⟩
        rcases hq with hq | hq
        · have := mfind_now hd hk hq hes hf
          cases r0 with
          | none => exact nil rfl this
          | some p =>
            obtain ⟨j, v⟩ := p
            obtain ⟨e, _, _, e1, e2, e3, _⟩ := this
            exact ⟨some (j, e.val), e1, rfl, fun v' hv => by simp only [Option.some.injEq] at hv; subst hv; exact ⟨e2, e3⟩⟩
        · subst hq
          cases hes
          simp only [mfind, Option.some.injEq] at hf
          exact nil hf.symm rfl
      have hrun := run fv f1
      split at hfin
      · rename_i v hv
        simp only [Option.some.injEq, Prod.mk.injEq] at hfin
        obtain ⟨rfl, rfl, rfl⟩ := hfin
        obtain ⟨k1, k2⟩ := f2.2 v hv
        refine ⟨⟨_, hrun, ?_⟩, rfl, rfl⟩
        cases ok with
        | false => exact ArgOK.of_rel k1 k2
        | true =>
          refine ValOK.mk' ?_ (by simp) (by simp)
          simp only [Rel, if_true]
          refine ⟨_, rfl, ?_⟩
          simp only [RelL]
          exact ⟨_, _, rfl, k1, _, _, rfl, by rw [f2.1]; simp [Rel], rfl⟩
      · cases hfin
  unfold semMget at hs
  dsimp only at hs
  split at hs
  · rename_i kk heq
    simp only [List.cons.injEq, and_true] at heq
    obtain ⟨rfl, rfl⟩ := heq
    have em : a.eval m = .map none := by simpa [Rel] using h1.rel (by simp) (by simp)
    refine fin [] [] .nil (.inr rfl) (fun fv hfv => ?_) hs
    have hfk := MapKept.run_findKey (P := c.P) (w := w) hd hfv
    have hck' := hck true
    cases fv with
    | none => simp [execOp, ho, em, Instr.lookup, run_underlying hu, hck', hfk, hzero]
    | some p => simp [Instr.findNow] at hfv
  · rename_i oo kk heq
    simp only [List.cons.injEq, and_true] at heq
    obtain ⟨rfl, rfl⟩ := heq
    have em := h1.rel (by simp) (by simp)
    simp only [Rel] at em
    split at hs
    · rename_i es hob
      obtain ⟨_, _, ents, clock, hb, hes⟩ := h.obj _ _ hob
      have hgo := MapKept.run_getObj_map (P := c.P) hb
      have hq : Rel g w q (a.eval k) ∨ es = [] := by
        cases es with
        | nil => exact .inr rfl
        | cons e es =>
          refine .inl (h2.rel (fun i f hq => ?_) (fun cs hq => ?_)) <;>
          · subst hq
            obtain ⟨k0, v0⟩ := e
            simp [mfind, eqKey] at hs
      refine fin es ents.toList hes hq (fun fv hfv => ?_) hs
      have hfk := MapKept.run_findKey (P := c.P) (w := w) hd hfv
      have hck' := hck ents.isEmpty
      cases fv with
      | none => simp [execOp, ho, em.2, Instr.lookup, run_underlying hu, hgo, hck', hfk, hzero]
      | some p => obtain ⟨j, x⟩ := p; simp [execOp, ho, em.2, Instr.lookup, run_underlying hu, hgo, hck', hfk]
    · cases hs
  · cases hs
end
end Go.Cb
