/-
  THE ABSTRACT MACHINE, part 7: more operations that only reckon: loads, structs, lists, texts.
-/
import Derived.Test.YtkfbiiedabbgfaaDoorXAm6
set_option maxRecDepth 4000
namespace Go.Cb

section
variable {c : Cx} {g : Gh} {w : World} {pr : Nat → Option Pl} {bx : Nat → Nat} {a : Act} {o : Oper} {call : CallT} {b b' r : AV} {st st' : St} {fr as : List AV}

theorem cell_val {x : AV} {v : Value} (h : Rel g w x v) (h1 : v.oneCell' = true) : ArgOK g w bx fr No x.weak1 v := by
  cases x
  case agg cs =>
    simp only [Rel] at h
    obtain ⟨y, rfl, _⟩ := h
    simp [Value.oneCell'] at h1
  case loc => simp [Rel] at h
  case box => simp [Rel] at h
  all_goals exact ValOK.mk' (Rel.weak1 h) (by simp [AV.weak1]) (by simp [AV.weak1])

theorem agg_val {cs : List AV} {us : List Value} (h : RelL g w cs us) (h1 : ∀ u ∈ us, u.oneCell' = true) : ArgOK g w bx fr No (.agg (cs.map AV.weak1)) (.agg us.toArray) := by
  refine ⟨by simp only [Rel]; exact ⟨us.toArray, rfl, by simpa using h.weak1, by simpa using h1⟩, fun xs e => (by cases e), fun ds e vs _ k d u hd _ xs e2 => ?_⟩
  simp only [AV.agg.injEq] at e
  subst e
  rw [List.getElem?_map] at hd
  cases h1 : cs[k]? with
  | none => simp [h1] at hd
  | some d' =>
    simp [h1] at hd
    subst hd
    cases d' <;> simp [AV.weak1] at e2

theorem RelCells.vals : ∀ {cs : List AV} {bb f : Nat}, RelCells g w bb f cs → ∃ us, RelL g w cs us ∧ w.rangeAt bb f us ∧ (∀ u ∈ us, u.oneCell' = true) ∧ ∀ j, j < us.length → g.cl bb (f + j)
  | [], _, _, _ => ⟨[], by simp [RelL], fun j v h => by simp at h, by simp, by simp⟩
  | x :: cs, bb, f, h => by
    simp only [RelCells] at h
    obtain ⟨⟨v, hv, h1, hc, hr⟩, h2⟩ := h
    obtain ⟨us, r1, r2, r3, r4⟩ := RelCells.vals h2
    refine ⟨v :: us, by simp only [RelL]; exact ⟨v, us, rfl, hr, r1⟩, fun j u hu => ?_, ?_, fun j hj => ?_⟩
    · cases j with
      | zero => simp at hu; subst hu; exact hv
      | succ j => rw [show f + (j + 1) = f + 1 + j by omega]; exact r2 j u (by simpa using hu)
    · intro u hu
      rcases List.mem_cons.1 hu with rfl | hu
      · exact h1
      · exact r3 u hu
    · cases j with
      | zero => exact hc
      | succ j => rw [show f + (j + 1) = f + 1 + j by omega]; exact r4 j (by simpa using hj)

theorem rangeAt_arr {bb : Nat} {arr : Array Value} {T : TypeId} {z : Nat × Nat} (h : w.heap[bb]? = some (.cells arr T z)) (off : Nat) : w.rangeAt bb off (arr.toList.drop off) := by
  intro j v hv
  rw [cell_of_row w bb (off + j) arr T z h]
  simpa using hv

/-- a load, wherever from -/
theorem run_load_any {t : TypeId} {x : Operand} {bb f n : Nat} {ag : Bool} {cs : List AV} {us : List Value} (ho : o.op = .load t x) (hag : isAggB c t = some ag) (hn : sizeB c t = some n)
    (hx : a.eval x = .pointer (some (ad bb f))) (hl : RelL g w cs us) (hc : w.rangeAt bb f us) (h1 : ∀ u ∈ us, u.oneCell' = true) (ht : takeVal ag n cs = some r) : PureRes c g w bx fr a o r := by
  cases ag with
  | true =>
    simp only [takeVal, if_true] at ht
    split at ht
    · rename_i hle
      simp only [Option.some.injEq] at ht
      subst ht
      have hlen : n ≤ us.length := by rw [← hl.length]; exact hle
      obtain ⟨d, hu, hd⟩ : ∃ d, c.P.underlying t = some d ∧ d.isRow = true := by
        unfold isAggB at hag
        split at hag <;> first | exact ⟨_, ‹_›, rfl⟩ | simp at hag
      refine ⟨.agg (us.take n).toArray, ?_, agg_val (hl.take n) fun u hu => h1 u (List.mem_of_mem_take hu)⟩
      have hr := run_loadAt_mid (P := c.P) w bb f t (us.take n) d (fun j v hv => hc j v (by
        rw [List.getElem?_take] at hv; split at hv
        · exact hv
        · cases hv)) hu hd (by rw [show (c.P.info? t).map (·.size) = some n from hn, List.length_take, Nat.min_eq_left hlen])
      simp only [execOp, ho, hx, Sem.run_bind, hr, Result.andThen_ok, Sem.run_pure]
    · cases ht
  | false =>
    simp only [takeVal, Bool.false_eq_true, if_false] at ht
    cases cs with
    | nil => simp at ht
    | cons y ys =>
      simp only [Option.some.injEq] at ht
      subst ht
      simp only [RelL] at hl
      obtain ⟨v, us', rfl, hr, _⟩ := hl
      refine ⟨v, ?_, cell_val hr (h1 v (by simp))⟩
      have hv : w.cell? (ad bb f) = some v := by simpa using hc 0 v rfl
      simp [execOp, ho, hx, Instr.loadAt, Instr.sureAddr, loadVar, run_isAgg c rfl hag, hv]

theorem sim_ldRo {t : TypeId} {x : Operand} {ag : Bool} {n : Nat} (ho : o.op = .load t x) (hag : isAggB c t = some ag) (hn : sizeB c t = some n) (hr : ArgsOK g w bx fr as [a.eval x])
    (hs : semLdRo ag n call as b st = some (r, b', st')) : PureRes c g w bx fr a o r ∧ b' = b ∧ st' = st := by
  obtain ⟨p, rfl, h1⟩ := hr.one
  unfold semLdRo at hs
  split at hs
  · rename_i cs heq
    simp only [List.cons.injEq, and_true] at heq; subst heq
    obtain ⟨v, hv, he⟩ := Option.map_eq_some_iff.1 hs
    simp only [Prod.mk.injEq] at he
    obtain ⟨rfl, rfl, rfl⟩ := he
    have e := h1.rel (by simp) (by simp)
    simp only [Rel] at e
    obtain ⟨bb, f, e, hc⟩ := e
    obtain ⟨us, r1, r2, r3, _⟩ := hc.vals
    exact ⟨run_load_any ho hag hn e r1 r2 r3 hv, rfl, rfl⟩
  · cases hs

theorem sim_ldLc {τ : Nat → AV} (h : FR c.A g w pr bx c.slots c.bxs c.nt fr τ a.tmps) {i : Nat} {t : TypeId} {x : Operand} {ag : Bool} {n : Nat} {s : Nat} (hi : c.slots[i]? = some s) (ho : o.op = .load t x) (hag : isAggB c t = some ag) (hn : sizeB c t = some n) (hr : ArgsOK g w bx fr as [a.eval x])
    (hs : semLdLc i ag n call as (fr.getD i .undef) st = some (r, b', st')) : PureRes c g w bx fr a o r ∧ b' = fr.getD i .undef ∧ st' = st := by
  obtain ⟨p, rfl, h1⟩ := hr.one
  unfold semLdLc at hs
  split at hs
  · rename_i j off cs heq hb
    simp only [List.cons.injEq, and_true] at heq; subst heq
    split at hs
    · rename_i hij
      subst hij
      obtain ⟨v, hv, he⟩ := Option.map_eq_some_iff.1 hs
      simp only [Prod.mk.injEq] at he
      obtain ⟨rfl, rfl, rfl⟩ := he
      have hvar := h.var i s hi
      rw [hb] at hvar
      obtain ⟨_, _, _, arr, T, hh, hl, h1c, _⟩ := hvar
      exact ⟨run_load_any ho hag hn h1.2 (hl.drop off) (rangeAt_arr hh off) (fun u hu => h1c u (List.mem_of_mem_drop hu)) hv, rfl, rfl⟩
    · cases hs
  · cases hs

theorem sim_ldSt (h : SRel g w st) {t : TypeId} {x : Operand} {ag : Bool} {n : Nat} (ho : o.op = .load t x) (hag : isAggB c t = some ag) (hn : sizeB c t = some n) (hr : ArgsOK g w bx fr as [a.eval x])
    (hs : semLdSt ag n call as b st = some (r, b', st')) : PureRes c g w bx fr a o r ∧ b' = b ∧ st' = st := by
  obtain ⟨p, rfl, h1⟩ := hr.one
  unfold semLdSt at hs
  split at hs
  · rename_i oo off heq
    simp only [List.cons.injEq, and_true] at heq; subst heq
    split at hs
    · rename_i cs hob
      obtain ⟨v, hv, he⟩ := Option.map_eq_some_iff.1 hs
      simp only [Prod.mk.injEq] at he
      obtain ⟨rfl, rfl, rfl⟩ := he
      have e := h1.rel (by simp) (by simp)
      simp only [Rel] at e
      obtain ⟨_, _, arr, T, hh, hl, h1c, _⟩ := h.obj _ _ hob
      exact ⟨run_load_any ho hag hn e.2 (hl.drop off) (rangeAt_arr hh off) (fun u hu => h1c u (List.mem_of_mem_drop hu)) hv, rfl, rfl⟩
    · cases hs
  · cases hs

theorem run_part {t : TypeId} {ag : Bool} {n off : Nat} {cs : List AV} {arr : Array Value} (hag : isAggB c t = some ag) (hn : sizeB c t = some n)
    (hl : RelL g w cs arr.toList) (h1 : ∀ u ∈ arr.toList, u.oneCell' = true) (_hle : off + n ≤ cs.length) (ht : takeVal ag n (cs.drop off) = some r) :
    ∃ v, (part t arr off).run c.P w = .ok v w ∧ ArgOK g w bx fr No r v := by
  cases ag with
  | true =>
    simp only [takeVal, if_true] at ht
    split at ht
    · rename_i hle2
      simp only [Option.some.injEq] at ht
      subst ht
      refine ⟨.agg (arr.extract off (off + n)), ?_, ?_⟩
      · simp [part, run_isAgg c rfl hag, run_sizeOf (w := w) hn]
      · have e : arr.extract off (off + n) = ((arr.toList.drop off).take n).toArray := by
          apply Array.ext'
          simp [Array.toList_extract]
        rw [e]
        exact agg_val ((hl.drop off).take n) fun u hu => h1 u (List.mem_of_mem_drop (List.mem_of_mem_take hu))
    · cases ht
  | false =>
    simp only [takeVal, Bool.false_eq_true, if_false] at ht
    have hd := hl.drop off
    cases hc : cs.drop off with
    | nil => simp [hc] at ht
    | cons y ys =>
      rw [hc] at ht hd
      simp only [Option.some.injEq] at ht
      subst ht
      simp only [RelL] at hd
      obtain ⟨v, us, hu, hr, _⟩ := hd
      have hv : arr[off]? = some v := by
        have : (arr.toList.drop off)[0]? = some v := by rw [hu]; rfl
        simpa using this
      refine ⟨v, by simp [part, run_isAgg c rfl hag, hv], cell_val hr (h1 v ?_)⟩
      rw [Array.mem_toList_iff]
      exact Array.mem_of_getElem? hv

theorem sim_fld {s : TypeId} {x : Operand} {f : Nat} {fl : Field} {n off : Nat} {ag : Bool} (ho : o.op = .field s x f) (hf : fieldOf c s f = some fl) (hag : isAggB c fl.type = some ag) (hn : sizeB c fl.type = some n) (hoff : fl.offset = off)
    (hr : ArgsOK g w bx fr as [a.eval x]) (hs : semFld off n ag call as b st = some (r, b', st')) : PureRes c g w bx fr a o r ∧ b' = b ∧ st' = st := by
  obtain ⟨p, rfl, h1⟩ := hr.one
  subst hoff
  unfold semFld at hs
  split at hs
  · rename_i cs heq
    simp only [List.cons.injEq, and_true] at heq; subst heq
    split at hs
    · rename_i hle
      obtain ⟨v, hv, he⟩ := Option.map_eq_some_iff.1 hs
      simp only [Prod.mk.injEq] at he
      obtain ⟨rfl, rfl, rfl⟩ := he
      have e := h1.rel (by simp) (by simp)
      simp only [Rel] at e
      obtain ⟨arr, e, hl, h1c⟩ := e
      obtain ⟨u, hu, hk⟩ := run_part (c := c) (bx := bx) (fr := fr) hag hn hl h1c hle hv
      unfold fieldOf at hf
      split at hf
      · rename_i fs hun
        exact ⟨⟨u, by simp [execOp, ho, e, Instr.field, run_underlying hun, hf, asAgg, hu], hk⟩, rfl, rfl⟩
      · cases hf
    · cases hs
  · cases hs

theorem sim_lenS {t : TypeId} {x : Operand} {at_ : Array TypeId} (ho : o.op = .call { callee := .builtin .len, args := #[x], argTypes := at_ }) (ha : at_[0]? = some t) (hu : c.P.underlying t = some .string)
    (hr : ArgsOK g w bx fr as [a.eval x]) (hs : semLenS call as b st = some (r, b', st')) : PureRes c g w bx fr a o r ∧ b' = b ∧ st' = st := by
  obtain ⟨p, rfl, h1⟩ := hr.one
  unfold semLenS at hs
  split at hs
  · rename_i s heq
    simp only [List.cons.injEq, and_true] at heq; subst heq
    simp only [Option.some.injEq, Prod.mk.injEq] at hs
    obtain ⟨rfl, rfl, rfl⟩ := hs
    have e := h1.rel (by simp) (by simp)
    simp only [Rel] at e
    obtain ⟨bs, e, rfl⟩ := e
    refine ⟨⟨.int .i64 bs.size, ?_, ValOK.mk' (by simp only [Rel, List.length_map]; rfl) (by simp) (by simp)⟩, rfl, rfl⟩
    simp [execOp, ho, resolve, invoke, builtin, Builtin.len_, ha, run_underlying hu, e, goInt]
  · cases hs

theorem sim_lenL {t e : TypeId} {x : Operand} {at_ : Array TypeId} (ho : o.op = .call { callee := .builtin .len, args := #[x], argTypes := at_ }) (ha : at_[0]? = some t) (hu : c.P.underlying t = some (.slice e))
    (hr : ArgsOK g w bx fr as [a.eval x]) (hs : semLenL call as b st = some (r, b', st')) : PureRes c g w bx fr a o r ∧ b' = b ∧ st' = st := by
  obtain ⟨p, rfl, h1⟩ := hr.one
  unfold semLenL at hs
  split at hs
  · rename_i own xs heq
    simp only [List.cons.injEq, and_true] at heq; subst heq
    simp only [Option.some.injEq, Prod.mk.injEq] at hs
    obtain ⟨rfl, rfl, rfl⟩ := hs
    have e := h1.rel (by simp) (by simp)
    simp only [Rel] at e
    obtain ⟨ad', n, cap, e, rfl, _⟩ := e
    refine ⟨⟨.int .i64 xs.length, ?_, ValOK.mk' (by simp [Rel]) (by simp) (by simp)⟩, rfl, rfl⟩
    simp [execOp, ho, resolve, invoke, builtin, Builtin.len_, ha, run_underlying hu, e, goInt]
  · cases hs

theorem sim_iad {t e : TypeId} {x i : Operand} {sz : Nat} (ho : o.op = .indexAddr t x i) (hu : c.P.underlying t = some (.slice e)) (hn : sizeB c e = some sz)
    (hr : ArgsOK g w bx fr as [a.eval x, a.eval i]) (hs : semIad sz call as b st = some (r, b', st')) : PureRes c g w bx fr a o r ∧ b' = b ∧ st' = st := by
  obtain ⟨p, q, rfl, h1, h2⟩ := hr.two
  unfold semIad at hs
  split at hs
  · rename_i own xs k ix heq
    simp only [List.cons.injEq, and_true] at heq
    obtain ⟨rfl, rfl⟩ := heq
    have e2 : a.eval i = .int k ix := by simpa [Rel] using h2.rel (by simp) (by simp)
    have e1 := h1.rel (by simp) (by simp)
    simp only [Rel] at e1
    obtain ⟨a0, n, cap, e1, rfl, _, _, hx⟩ := e1
    split at hs
    · rename_i hge
      split at hs
      · rename_i row hrow
        split at hs
        · rename_i hlen
          simp only [Option.some.injEq, Prod.mk.injEq] at hs
          obtain ⟨rfl, rfl, rfl⟩ := hs
          obtain ⟨hlt, _⟩ := List.getElem?_eq_some_iff.1 hrow
          obtain ⟨bb, f, sz', rfl, hrows⟩ := hx (by intro h0; subst h0; simp at hlt)
          obtain ⟨hl', hc⟩ := hrows.get hrow
          obtain rfl : sz' = sz := by omega
          have hlt' : ix < (xs.length : Int) := by omega
          refine ⟨⟨.pointer (some (ad bb (f + ix.toNat * sz'))), ?_, ValOK.mk' (by simp only [Rel]; exact ⟨bb, _, rfl, hc⟩) (by simp) (by simp)⟩, rfl, rfl⟩
          simp [execOp, ho, e1, e2, Instr.indexAt, asIntOf, run_underlying hu, run_sizeOf (w := w) hn, hge, hlt', Addr.add_ad]
        · cases hs
      · cases hs
    · cases hs
  · cases hs

theorem sim_iadA {t e : TypeId} {x i : Operand} {len sz : Nat} (ho : o.op = .indexAddr t x i) (hu : c.P.underlying t = some (.array len e)) (hn : sizeB c e = some sz)
    (hr : ArgsOK g w bx fr as [a.eval x, a.eval i]) (hs : semIadA len sz call as b st = some (r, b', st')) : PureRes c g w bx fr a o r ∧ b' = b ∧ st' = st := by
  obtain ⟨p, q, rfl, h1, h2⟩ := hr.two
  have run : ∀ (bb f : Nat) (k : IntKind) (ix : Int), a.eval x = .pointer (some (ad bb f)) → a.eval i = .int k ix → 0 ≤ ix ∧ ix < (len : Int) →
      (execOp a.eval o).run c.P w = .ok (.value (.pointer (some (ad bb (f + ix.toNat * sz))))) w := by
    intro bb f k ix e1 e2 hb
    simp [execOp, ho, e1, e2, Instr.indexAt, asIntOf, run_underlying hu, Instr.sureAddr, run_sizeOf (w := w) hn, hb.1, hb.2, Addr.add_ad]
  unfold semIadA at hs
  split at hs
  · rename_i cs k ix heq
    simp only [List.cons.injEq, and_true] at heq
    obtain ⟨rfl, rfl⟩ := heq
    have e2 : a.eval i = .int k ix := by simpa [Rel] using h2.rel (by simp) (by simp)
    have e1 := h1.rel (by simp) (by simp)
    simp only [Rel] at e1
    obtain ⟨bb, f, e1, hc⟩ := e1
    split at hs
    · rename_i hb
      simp only [Option.some.injEq, Prod.mk.injEq] at hs
      obtain ⟨rfl, rfl, rfl⟩ := hs
      exact ⟨⟨_, run bb f k ix e1 e2 hb, ValOK.mk' (by simp only [Rel]; exact ⟨bb, _, rfl, hc.drop _⟩) (by simp) (by simp)⟩, rfl, rfl⟩
    · cases hs
  · rename_i oo f k ix heq
    simp only [List.cons.injEq, and_true] at heq
    obtain ⟨rfl, rfl⟩ := heq
    have e2 : a.eval i = .int k ix := by simpa [Rel] using h2.rel (by simp) (by simp)
    have e1 := h1.rel (by simp) (by simp)
    simp only [Rel] at e1
    split at hs
    · rename_i hb
      simp only [Option.some.injEq, Prod.mk.injEq] at hs
      obtain ⟨rfl, rfl, rfl⟩ := hs
      exact ⟨⟨_, run _ f k ix e1.2 e2 hb, ValOK.mk' (by simp [Rel, e1.1]) (by simp) (by simp)⟩, rfl, rfl⟩
    · cases hs
  · rename_i oo f k ix heq
    simp only [List.cons.injEq, and_true] at heq
    obtain ⟨rfl, rfl⟩ := heq
    have e2 : a.eval i = .int k ix := by simpa [Rel] using h2.rel (by simp) (by simp)
    split at hs
    · rename_i hb
      simp only [Option.some.injEq, Prod.mk.injEq] at hs
      obtain ⟨rfl, rfl, rfl⟩ := hs
      exact ⟨⟨_, run _ f k ix h1.2 e2 hb, ⟨h1.1, rfl⟩⟩, rfl, rfl⟩
    · cases hs
  · cases hs

theorem sim_idxS {t : TypeId} {x i : Operand} (ho : o.op = .index t x i) (hu : c.P.underlying t = some .string)
    (hr : ArgsOK g w bx fr as [a.eval x, a.eval i]) (hs : semIdxS call as b st = some (r, b', st')) : PureRes c g w bx fr a o r ∧ b' = b ∧ st' = st := by
  obtain ⟨p, q, rfl, h1, h2⟩ := hr.two
  unfold semIdxS at hs
  split at hs
  · rename_i s k ix heq
    simp only [List.cons.injEq, and_true] at heq
    obtain ⟨rfl, rfl⟩ := heq
    have e2 : a.eval i = .int k ix := by simpa [Rel] using h2.rel (by simp) (by simp)
    have e1 := h1.rel (by simp) (by simp)
    simp only [Rel] at e1
    obtain ⟨bs, e1, rfl⟩ := e1
    split at hs
    · rename_i hge
      split at hs
      · rename_i n hn
        simp only [Option.some.injEq, Prod.mk.injEq] at hs
        obtain ⟨rfl, rfl, rfl⟩ := hs
        rw [List.getElem?_map] at hn
        obtain ⟨y, hy, rfl⟩ := Option.map_eq_some_iff.1 hn
        have hy' : bs[ix.toNat]? = some y := by
          obtain ⟨hlt, hy⟩ := List.getElem?_eq_some_iff.1 hy
          have hlt' : ix.toNat < bs.size := by rw [Array.length_toList] at hlt; exact hlt
          rw [getElem?_pos bs ix.toNat hlt']
          rw [← hy]; rfl
        refine ⟨⟨.int .u8 y.toNat, ?_, ValOK.mk' (by simp [Rel]) (by simp) (by simp)⟩, rfl, rfl⟩
        simp [execOp, ho, e1, e2, Instr.index, asIntOf, run_underlying hu, hge, hy']
      · cases hs
    · cases hs
  · cases hs

theorem sim_conv {t u : TypeId} {x : Operand} {k : IntKind} {k0 : IntKind} (ho : o.op = .convert t u x) (h0 : c.P.underlying t = some (.int k0)) (hu : c.P.underlying u = some (.int k))
    (hr : ArgsOK g w bx fr as [a.eval x]) (hs : semConv k call as b st = some (r, b', st')) : PureRes c g w bx fr a o r ∧ b' = b ∧ st' = st := by
  obtain ⟨p, rfl, h1⟩ := hr.one
  unfold semConv at hs
  split at hs
  · rename_i k1 n heq
    simp only [List.cons.injEq, and_true] at heq; subst heq
    simp only [Option.some.injEq, Prod.mk.injEq] at hs
    obtain ⟨rfl, rfl, rfl⟩ := hs
    have e : a.eval x = .int k1 n := by simpa [Rel] using h1.rel (by simp) (by simp)
    have hc : (convert t u (.int k1 n)).run c.P w = .ok (.int k (k.wrap n)) w := by
      unfold convert
      rw [Sem.run_bind, run_underlying h0, Result.andThen_ok, Sem.run_bind, run_underlying hu, Result.andThen_ok]
      rfl
    refine ⟨⟨.int k (k.wrap n), ?_, ValOK.mk' ?_ (by simp) (by simp)⟩, rfl, rfl⟩
    · simp only [execOp, ho, e, Sem.run_bind, hc, Result.andThen_ok, Sem.run_pure]
    · rw [wrapA_eq]; simp only [Rel]
  · cases hs
end
end Go.Cb
