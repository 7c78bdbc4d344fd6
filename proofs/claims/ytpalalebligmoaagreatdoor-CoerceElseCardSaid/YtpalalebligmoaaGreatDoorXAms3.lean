import Derived.Test.YtpalalebligmoaaGreatDoorXAms2
import Derived.Test.YtpalalebligmoaaGreatDoorXAms1
/-
  THE ABSTRACT MACHINE, part 27: functions, and calls at every depth.
-/
set_option maxRecDepth 4000
set_option linter.unusedSimpArgs false
namespace Go.Cb
open Classical

def nodupB : List Nat → Bool
  | [] => true
  | x :: xs => !xs.any (Nat.beq x) && nodupB xs

def resOK (c : Cx) : List ResultVar → List ResK → Bool
  | [], [] => true
  | .tmp t :: rs, .v i :: ks => c.slots[i]? == some t && !c.bxs.contains i && resOK c rs ks
  | .tmp t :: rs, .vs i :: ks => c.slots[i]? == some t && !c.bxs.contains i && resOK c rs ks
  | .cell a t :: rs, .bx i agg n :: ks => c.slots[i]? == some a && isAggB c t == some agg && sizeB c t == some n && resOK c rs ks
  | _, _ => false

def fnOK (P : Program) (gt : List (Nat × List AV)) (slots bxs : List Nat) (fn : Func) (f : AFn) (A : Nat → Prop) : Bool :=
  f.ext.isNone && nodupB slots && slots.all (fun s => Nat.blt s fn.ntmps) && slots.take f.np == List.range f.np && Nat.ble f.np slots.length && Nat.beq f.nv slots.length &&
    (match fn.body with | some x => codeOK ⟨P, slots, bxs, fn.ntmps, gt, A⟩ x f.code | none => false) && resOK ⟨P, slots, bxs, fn.ntmps, gt, A⟩ fn.results.toList f.results

/-- a call that is told by itself -/
def ExtOK (P : Program) (gt : List (Nat × List AV)) (f : Nat) (e : List AV → St → Option (AV × St)) : Prop :=
  ∀ (args : List AV) (st : St) (res : AV) (st' : St), e args st = some (res, st') → (∀ x ∈ args, x.weak = x) →
    ∀ (g : Gh) (w : World) (vs : List Value), SRel g w st → Globs gt g w → RelL g w args vs → Calls P f vs.toArray w (CallPost g w st' res)

structure ProgOK (P : Program) (gt : List (Nat × List AV)) (tbl : Nat → Option AFn) : Prop where
  mixed : P.follows .mixedOrders = true
  fn : ∀ f af, tbl f = some af → enterB P f = true ∧ ((∃ slots bxs fn, P.funcs[f]? = some fn ∧ ∀ A, fnOK P gt slots bxs fn af A = true) ∨ (∃ e, af.ext = some e ∧ ExtOK P gt f e))

theorem nodupB_spec : ∀ {xs : List Nat}, nodupB xs = true → xs.Nodup
  | [], _ => List.nodup_nil
  | x :: xs, h => by
    simp only [nodupB, Bool.and_eq_true, Bool.not_eq_true', List.any_eq_false, Nat.beq_eq] at h
    exact List.nodup_cons.2 ⟨fun hm => h.1 x hm rfl, nodupB_spec h.2⟩

section
variable {c : Cx} {g : Gh} {w : World} {pr : Nat → Option Pl} {bx : Nat → Nat} {σ : Sig} {a : Act}

theorem load_var {t : TypeId} {n bb f : Nat} {ag : Bool} {cs : List AV} {us : List Value} {r : AV} (hag : isAggB c t = some ag) (hn : sizeB c t = some n) (hl : RelL g w cs us) (hc : w.rangeAt bb f us) (h1 : ∀ u ∈ us, u.oneCell' = true) (ht : takeVal ag n cs = some r) :
    ∃ v, (loadVar t (ad bb f)).run c.P w = .ok v w ∧ ValOK g w No r v := by
  obtain ⟨v, hrun, hr⟩ := run_load_any (c := c) (g := g) (bx := fun _ => 0) (fr := []) (a := { tmps := #[.pointer (some (ad bb f))], defers := [] }) (o := { (default : Oper) with op := .load t (.tmp 0) }) (x := .tmp 0) rfl hag hn (by simp [Act.eval]) hl hc h1 ht
  refine ⟨v, ?_, ?_⟩
  · simp only [execOp, Instr.loadAt, Instr.sureAddr, Act.eval, Sem.run_bind, Sem.run_pure] at hrun
    have e : (Array.getD #[Value.pointer (some (ad bb f))] 0 undef) = .pointer (some (ad bb f)) := rfl
    rw [e] at hrun
    simp only [Sem.run_pure, Result.andThen_ok] at hrun
    cases hq : (loadVar t (ad bb f)).run c.P w with
    | ok u w' =>
      rw [hq] at hrun
      simp only [Result.andThen_ok, Result.ok.injEq, Next.value.injEq] at hrun
      obtain ⟨rfl, rfl⟩ := hrun
      rfl
    | halt x w' => rw [hq] at hrun; cases hrun
  · cases r <;> first | exact hr | skip
    · exfalso
      unfold takeVal at ht
      split at ht
      · split at ht <;> simp at ht
      · split at ht
        · rename_i y ys
          simp only [Option.some.injEq] at ht
          simp only [RelL] at hl
          obtain ⟨v', r', _, hr', _⟩ := hl
          cases y <;> simp only [AV.weak1, reduceCtorEq] at ht
          simp [Rel] at hr'
        · cases ht
    · exfalso
      unfold takeVal at ht
      split at ht
      · split at ht <;> simp at ht
      · split at ht
        · rename_i y ys
          simp only [Option.some.injEq] at ht
          simp only [RelL] at hl
          obtain ⟨v', r', _, hr', _⟩ := hl
          cases y <;> simp only [AV.weak1, reduceCtorEq] at ht
          simp [Rel] at hr'
        · cases ht

theorem VarOK.val {i : Nat} {x : AV} {v : Value} (h : VarOK g w pr bx i x v) (hb : ∀ cs, x ≠ .box cs) : ValOK g w (fun b => pr b = some (.var i)) x v := by
  cases x <;> first | exact h | exact absurd rfl (hb _) | exact h.elim

/-- the results of a function -/
theorem res_ok (h : S c g w pr bx σ a) : ∀ {rs : List ResultVar} {ks : List ResK} {vs : List AV}, resOK c rs ks = true → getAll ks σ.fr = some vs →
    ∃ us : List Value, (rs.mapM fun (r : ResultVar) => (match r with | .tmp t => pure (a.tmps.getD t undef) | .cell x t => do loadVar t (← asAddr (a.tmps.getD x undef)) : Sem Value)).run c.P w = .ok us w ∧
      us.length = vs.length ∧ ∀ (k : Nat) (x : AV) (u : Value), vs[k]? = some x → us[k]? = some u → ValOK g w (fun b => ∃ p, pr b = some p) x u
  | [], [], vs, _, hg => by
    simp only [getAll, Option.some.injEq] at hg
    subst hg
    exact ⟨[], rfl, rfl, fun k x u hx => by simp at hx⟩
  | r :: rs, k :: ks, vs, hok, hg => by
    simp only [getAll] at hg
    split at hg
    case h_2 => cases hg
    rename_i x xs hx hxs
    simp only [Option.some.injEq] at hg
    subst hg
    have one : ∃ u, ((match r with | .tmp t => pure (a.tmps.getD t undef) | .cell x t => do loadVar t (← asAddr (a.tmps.getD x undef)) : Sem Value)).run c.P w = .ok u w ∧ ValOK g w (fun b => ∃ p, pr b = some p) x u ∧ resOK c rs ks = true := by
      have nobox : ∀ i, i ∉ c.bxs → ∀ cs, σ.fr.getD i .undef ≠ .box cs := fun i hi cs hc => hi (h.fr.bxs i cs hc)
      unfold resOK at hok
      split at hok <;> first | (rename_i e1 e2; cases e1; cases e2; done) | skip
      · rename_i e1 e2; cases e1
      · rename_i t rs' i ks' e1 e2
        cases e1; cases e2
        simp only [Bool.and_eq_true, beq_iff_eq] at hok
        simp only [ResK.get, Option.some.injEq] at hx
        subst hx
        have hv := h.fr.var i t hok.1.1
        have hnbx := nobox i (by simpa using hok.1.2)
        refine ⟨_, rfl, ?_, hok.2⟩
        cases hq : σ.fr.getD i .undef <;> rw [hq] at hv <;> first
          | exact ValOK.of_weak (ValOK.rel hv)
          | exact hv.elim
          | exact absurd hq (hnbx _)
      · rename_i t rs' i ks' e1 e2
        cases e1; cases e2
        simp only [Bool.and_eq_true, beq_iff_eq] at hok
        simp only [ResK.get, Option.some.injEq] at hx
        subst hx
        have hv := (h.fr.var i t hok.1.1).val (nobox i (by simpa using hok.1.2))
        exact ⟨_, rfl, hv.mono (Ext.refl _ _) fun b hb => ⟨⟨_, hb⟩, rfl, fun _ x => x⟩, hok.2⟩
      · rename_i y t rs' i ag n ks' e1 e2
        cases e1; cases e2
        simp only [Bool.and_eq_true, beq_iff_eq] at hok
        obtain ⟨⟨⟨h1, h2⟩, h3⟩, h4⟩ := hok
        simp only [ResK.get] at hx
        split at hx
        · rename_i cs hcs
          have hvar := h.fr.var i y h1
          rw [hcs] at hvar
          obtain ⟨hptr, _, _, arr, T, hh, hl, h1c, _⟩ := hvar
          obtain ⟨u, hu, hval⟩ := load_var (c := c) h2 h3 hl (by simpa using rangeAt_arr hh 0) h1c hx
          refine ⟨u, ?_, hval.mono (Ext.refl _ _) fun b hb => hb.elim, h4⟩
          simp only [hptr, asAddr, Sem.run_bind, Sem.run_pure, Result.andThen_ok]
          exact hu
        · cases hx
      · cases hok
    obtain ⟨u, hu, hval, hrest⟩ := one
    obtain ⟨us, hus, hlen, hall⟩ := res_ok h hrest hxs
    refine ⟨u :: us, ?_, by simp [hlen], fun j y v hy hv => ?_⟩
    · rw [List.mapM_cons]
      simp only [Sem.run_bind, hu, hus, Result.andThen_ok, Sem.run_pure]
    · cases j with
      | zero => simp at hy hv; subst hy; subst hv; exact hval
      | succ j => exact hall j y v (by simpa using hy) (by simpa using hv)
  | [], _ :: _, _, hok, _ => by simp [resOK] at hok
  | r :: _, [], _, hok, _ => by cases r <;> simp [resOK] at hok

def pack : List Value → Value
  | [v] => v
  | us => .tuple us.toArray

theorem results_run {P : Program} {fn : Func} {tmps : Array Value} {us : List Value} {w : World}
    (h : (fn.results.toList.mapM fun (r : ResultVar) => (match r with | .tmp t => pure (tmps.getD t undef) | .cell x t => do loadVar t (← asAddr (tmps.getD x undef)) : Sem Value)).run P w = .ok us w) :
    (results fn tmps).run P w = .ok (pack us) w := by
  unfold results
  rw [Array.mapM_eq_mapM_toList]
  simp only [map_eq_pure_bind, bind_assoc, pure_bind, Sem.run_bind]
  erw [h]
  simp only [Result.andThen_ok, Sem.run_pure]
  match us with
  | [] => rfl
  | [v] => rfl
  | u :: v :: us => simp [pack]

/-- calls at every depth -/
theorem callF_ok {P : Program} {gt : List (Nat × List AV)} {tbl : Nat → Option AFn} (hP : ProgOK P gt tbl) : ∀ n, CallOK P gt (callF tbl n) := by
  intro n
  induction n with
  | zero => intro f args st res st' h; simp [callF] at h
  | succ n ih =>
    intro f args st res st' h hweak
    simp only [callF] at h
    cases htbl : tbl f with
    | none => simp [htbl] at h
    | some af =>
      simp only [htbl] at h
      obtain ⟨hen, hfn⟩ := hP.fn f af htbl
      refine ⟨hen, fun g w vs hst hgl hrel => ?_⟩
      rcases hfn with ⟨slots, bxs, fn, hf, hok⟩ | ⟨e, he, hext⟩
      case inr =>
        simp only [he] at h
        exact hext args st res st' h hweak g w vs hst hgl hrel
      let A : Nat → Prop := fun b => w.heap.size ≤ b ∨ g.sr b ≠ none
      have hok := hok A
      simp only [fnOK, Bool.and_eq_true, Option.isNone_iff_eq_none, beq_iff_eq, Nat.beq_eq] at hok
      obtain ⟨⟨⟨⟨⟨⟨⟨o1, o2⟩, o3⟩, o4⟩, o5⟩, o6⟩, o7⟩, o8⟩ := hok
      have o5 := Nat.le_of_ble_eq_true o5
      rw [o1] at h
      simp only at h
      split at o7
      case h_2 => cases o7
      rename_i body hbody
      unfold AFn.run at h
      split at h
      case isFalse => cases h
      rename_i hlen
      split at h
      · cases h
      · rename_i ex fr' st1 hnex hexec
        let c : Cx := ⟨P, slots, bxs, fn.ntmps, gt, A⟩
        have hlt : ∀ s ∈ slots, s < fn.ntmps := fun s hs => by
          have := List.all_eq_true.1 o3 s hs
          simpa using this
        have fx : Fx c := ⟨nodupB_spec o2, hlt⟩
        have hvl : vs.length = af.np := by rw [← hrel.length]; exact hlen
        have hnp : af.np ≤ fn.ntmps := by
          rcases Nat.eq_zero_or_pos af.np with h0 | h0
          · omega
          · have hm : af.np - 1 ∈ slots := by
              have : af.np - 1 ∈ slots.take af.np := by rw [o4]; simp; omega
              exact List.mem_of_mem_take this
            have := hlt _ hm
            omega
        have hslot : ∀ i s, slots[i]? = some s → i < af.np → s = i := fun i s hs hi => by
          have h1 : (slots.take af.np)[i]? = some s := by rw [List.getElem?_take, if_pos hi]; exact hs
          rw [o4] at h1
          simp [hi] at h1
          exact h1.symm
        let tm : Array Value := vs.toArray ++ Array.replicate (fn.ntmps - vs.toArray.size) undef
        have hS : S c g w (fun _ => none) (fun _ => 0) ⟨args ++ List.replicate (af.nv - af.np) .undef, fun _ => .undef, st⟩ { tmps := tm, defers := [] } := by
          refine ⟨⟨by simp [tm, c]; omega, by simp [c, hlen, o6]; omega, fun i s hs => ?_, fun s _ => ValOK.undef, fun b p hb => (by cases hb), fun i cs hi => ?_⟩, hst, hgl, fun b hb => .inl hb, fun b p hb => .inr (by rw [hb]; simp)⟩
          · rcases Nat.lt_or_ge i af.np with hi | hi
            · have hs' := hslot i s hs hi
              subst hs'
              have ha : s < args.length := by omega
              have hv : s < vs.length := by omega
              obtain ⟨v, hv1, hv2⟩ := hrel.get (List.getElem?_eq_getElem ha)
              have e1 : (args ++ List.replicate (af.nv - af.np) AV.undef).getD s .undef = args[s] := by
                rw [List.getD_eq_getElem?_getD, List.getElem?_append_left ha, List.getElem?_eq_getElem ha]; rfl
              have e2 : tm.getD s undef = v := by
                simp only [tm, Array.getD_eq_getD_getElem?]
                rw [Array.getElem?_append_left (by simpa using hv)]
                simp [hv1]
              rw [e1, e2]
              have hw := hweak args[s] (List.getElem_mem ha)
              have hval : ValOK g w (fun b => (fun _ => none : Nat → Option Pl) b = some (.var s)) args[s].weak v := ValOK.of_weak hv2
              rw [hw] at hval
              revert hval
              cases args[s] <;> intro hval <;> first | exact hval | exact hval.rel.elim
            · have e1 : (args ++ List.replicate (af.nv - af.np) AV.undef).getD i .undef = .undef := by
                rw [List.getD_eq_getElem?_getD, List.getElem?_append_right (by omega)]
                cases hq : (List.replicate (af.nv - af.np) AV.undef)[i - args.length]? with
                | none => rfl
                | some x => rw [List.eq_of_mem_replicate (List.mem_of_getElem? hq)]; rfl
              rw [e1]
              exact VarOK.undef
          · exfalso
            rcases Nat.lt_or_ge i args.length with hi' | hi'
            · obtain ⟨v, hv1, hv2⟩ := hrel.get (List.getElem?_eq_getElem hi')
              rw [List.getD_eq_getElem?_getD, List.getElem?_append_left hi', List.getElem?_eq_getElem hi'] at hi
              simp only [Option.getD_some] at hi
              rw [hi] at hv2
              exact hv2
            · rw [List.getD_eq_getElem?_getD, List.getElem?_append_right hi'] at hi
              cases hq : (List.replicate (af.nv - af.np) AV.undef)[i - args.length]? with
              | none => rw [hq] at hi; cases hi
              | some x => rw [hq, List.eq_of_mem_replicate (List.mem_of_getElem? hq)] at hi; cases hi
        refine calls_of_wp hf hbody ?_
        refine code_ok (c := c) _ _ o7 fx hP.mixed ih hS hexec fun a' w' g' pr' bx' τ' hd hS' ht => ?_
        have hbp : bodyPost P fn (CallPost g w st' res) .ret a' w' := by
          refine ⟨hd, ?_⟩
          have hgo : ∀ vs', getAll af.results fr' = some vs' → some ((match vs' with | [v] => v | vs' => AV.tuple vs'), st1) = some (res, st') → ∃ v, (results fn a'.tmps).run P w' = .ok v w' ∧ CallPost g w st' res (.returned v) w' := by
            intro vs' hg hres
            simp only [Option.some.injEq, Prod.mk.injEq] at hres
            obtain ⟨rfl, rfl⟩ := hres
            obtain ⟨us, hus, hul, hall⟩ := res_ok (c := c) hS' o8 hg
            refine ⟨_, results_run hus, _, g', rfl, hS'.st, ⟨ht.ext, ht.size, ht.env, fun b hb hs _ => ht.keep b hb hs fun hA => ?_⟩, ?_⟩
            · rcases hA with hA | hA
              · omega
              · exact hA hs
            · match vs', us, hul, hall with
              | [], [], _, _ => exact ValOK.mk' (by simp only [Rel]; exact ⟨#[], rfl, by simp [RelL]⟩) (by simp) (by simp)
              | [x], [u], _, hall =>
                refine (hall 0 x u rfl rfl).mono (Ext.refl _ _) fun b hb => ⟨?_, rfl, fun _ x => x⟩
                obtain ⟨p, hp⟩ := hb
                obtain ⟨q1, q2, q3⟩ := hS'.fr.prv b p hp
                exact ⟨q1, q2, q3⟩
              | x :: y :: xs, u :: v :: us, hul, hall =>
                refine ValOK.mk' ?_ (by simp) (by simp)
                simp only [Rel]
                exact ⟨_, rfl, RelL.of_get (by simpa using hul.symm) fun i x u hx hu => (hall i x u hx hu).rel⟩
          split at h
          · rename_i v hg
            exact hgo [v] hg h
          · rename_i vs' hne hg
            refine hgo vs' hg ?_
            rw [← h]
            match vs', hne with
            | [], _ => rfl
            | [v], hne => exact absurd rfl (hne v)
            | _ :: _ :: _, _ => rfl
          · cases h
        cases ex with
        | normal => exact hbp
        | ret => exact hbp
        | exit id => exact (hnex id rfl).elim
      · cases h
end
end Go.Cb
/-
  THE ABSTRACT MACHINE, part 29: slices.Clone.
-/
set_option maxRecDepth 4000
set_option linter.unusedSimpArgs false
namespace Go.Cb
open Classical

section
variable {c : Cx} {g : Gh} {w : World} {pr : Nat → Option Pl} {bx : Nat → Nat} {σ : Sig} {a : Act} {o : Oper}

theorem slE_ok (fx : Fx c) (h : S c g w pr bx σ a) {t e : TypeId} {i : TypeInfo} {d : Dst} (ho : o.op = .buildSlice t 0 #[]) (hu : c.P.underlying t = some (.slice e)) (hi : c.P.info? e = some i) (hd : dstOK c o.dst d = true)
    {next : Act → World → Prop} {Q : Exit → Act → World → Prop} (hnext : Post c g w a (d.put (.list true []) σ) next) : o.wp c.P a w next Q := by
  have hrun : (execOp a.eval o).run c.P w = .ok (.value (.slice (some (ad w.heap.size 0)) 0 0)) (w.alloc (.cells #[] e)) := by
    have e0 : (Array.map (fun _ : Nat => (default : Value)) (Array.range 0)) = #[] := by apply Array.ext'; simp
    simp [execOp, ho, Instr.buildSlice, run_underlying hu, sizeOf, typeInfo, hi, Instr.fill, newRow, e0]
  unfold Oper.wp
  rw [hrun]
  refine hnext _ _ g pr bx (defers_put _ _ _) (put_ok fx (h.alloc _ _) hd (mine := No) (r := .list true []) ?_ fun _ x => x.elim) (Tr.alloc _ h.st.cli _)
  refine (show ValOK g _ No (.list true []) _ from ⟨?_, fun _ _ => .inl ⟨_, _, rfl⟩, fun _ e => (by cases e)⟩)
  simp only [Rel]
  exact ⟨_, 0, 0, rfl, rfl, Nat.le_refl _, fun _ => rfl, fun h => absurd rfl h⟩

/-- is a slice nil? -/
theorem nil_ok (fx : Fx c) (h : S c g w pr bx σ a) {t t' e : TypeId} {x : Operand} {d : Dst} {ad0 : Option Addr} {n cap : Nat} (ho : o.op = .binOp .eql t x (.const (.slice none 0 0)) t') (hu : c.P.underlying t = some (.slice e))
    (hx : a.eval x = .slice ad0 n cap) (hd : dstOK c o.dst d = true) {next : Act → World → Prop} {Q : Exit → Act → World → Prop} (hnext : Post c g w a (d.put (.bool ad0.isNone) σ) next) : o.wp c.P a w next Q := by
  have hrun : (execOp a.eval o).run c.P w = .ok (.value (.bool ad0.isNone)) w := by
    have hg : ∀ v : Value, (eqGuard .eql t x (.const (.slice none 0 0)) (.slice ad0 n cap) (.slice none 0 0)).run c.P w = .ok () w := fun _ => rfl
    have hy : a.eval (.const (.slice none 0 0)) = .slice none 0 0 := rfl
    have heq : (Op.equal t (.slice ad0 n cap) (.slice none 0 0)).run c.P w = .ok ad0.isNone w := by
      rw [equal_eq, Op.equalIn, Sem.run_bind, run_underlying hu, Result.andThen_ok]
      cases ad0 <;> rfl
    simp only [execOp, ho, hx, hy, hg (.bool true), binOp, Sem.run_bind, heq, Result.andThen_ok, Sem.run_pure]
  exact pure_op fx h hd (r := .bool ad0.isNone) hrun (show ValOK g w No (.bool ad0.isNone) (.bool ad0.isNone) from ValOK.mk' (by simp [Rel]) (by simp) (by simp)) hnext

/-- its types -/
def cloneB (P : Program) (t sz bytes : Nat) : Bool := match P.underlying t with
  | some (.slice e) => match P.info? e with
    | some ie => ie.size == sz && ie.bytes == bytes && decide (0 < bytes) && (match ie.zero with | some z => z.cells.size == sz | none => false)
    | none => false
  | _ => false

/-- how slices.Clone is written -/
structure CloneShape (P : Program) (fn : Func) (t sz bytes : Nat) where
  i0 : Nat
  i1 : Nat
  i2 : Nat
  i3 : Nat
  o0 : Oper
  o1 : Oper
  o2 : Oper
  o3 : Oper
  o4 : Oper
  o5 : Oper
  o6 : Oper
  o7 : Oper
  ty : TypeId
  body : fn.body = some (.seq (.region i0 #[o0] false) (.seq (.seq (.region i1 #[o1, o2] false) (.cond (.tmp 4) (.seq (.region i2 #[o3] false) .ret) .skip)) (.seq (.region i3 #[o4, o5, o6, o7] false) .ret)))
  nt : fn.ntmps = 8
  res : fn.results = #[.tmp 2]
  d0 : o0.dst = some 2 ∧ o0.op = .assign (.const (.slice none 0 0)) ∧ o0.guard = none
  d1 : o1.dst = some 3 ∧ o1.op = .move (.tmp 0) ∧ o1.guard = none
  d2 : o2.dst = some 4 ∧ o2.op = .binOp .eql t (.tmp 3) (.const (.slice none 0 0)) ty ∧ o2.guard = none
  d3 : o3.dst = some 2 ∧ o3.op = .assign (.const (.slice none 0 0)) ∧ o3.guard = none
  d4 : o4.dst = some 5 ∧ o4.op = .buildSlice t 0 #[] ∧ o4.guard = none
  d5 : o5.dst = some 6 ∧ o5.op = .move (.tmp 0) ∧ o5.guard = none
  d6 : o6.dst = some 7 ∧ o6.op = .call { callee := .builtin .append, args := #[.tmp 5, .tmp 6], argTypes := #[t, t] } ∧ o6.guard = none
  d7 : o7.dst = some 2 ∧ o7.op = .assign (.tmp 7) ∧ o7.guard = none
  tb : cloneB P t sz bytes = true

theorem cloneB_spec {P : Program} {t sz bytes : Nat} (h : cloneB P t sz bytes = true) : ∃ e ie z, P.underlying t = some (.slice e) ∧ P.info? e = some ie ∧ ie.zero = some z ∧ ie.size = sz ∧ ie.bytes = bytes ∧ z.cells.size = sz ∧ 0 < bytes := by
  unfold cloneB at h
  split at h
  case h_2 => cases h
  rename_i e hu
  split at h
  case h_2 => cases h
  rename_i ie hi
  simp only [Bool.and_eq_true, beq_iff_eq, decide_eq_true_eq] at h
  obtain ⟨⟨⟨h1, h2⟩, h3⟩, h4⟩ := h
  split at h4
  case h_2 => cases h4
  rename_i z hz
  exact ⟨e, ie, z, hu, hi, hz, h1, h2, by simpa using h4, h3⟩

theorem clone_ok {P : Program} {gt : List (Nat × List AV)} {f t sz bytes : Nat} {fn : Func} (hf : P.funcs[f]? = some fn) (C : CloneShape P fn t sz bytes) : ExtOK P gt f (cloneX sz bytes) := by
  intro args st res st' h hweak g w vs hst _ hrel
  obtain ⟨e, ie, z, tu, ti, tz, tsz, tby, tzs, tb1⟩ := cloneB_spec C.tb
  unfold cloneX at h
  split at h
  case h_2 => cases h
  rename_i own xs
  split at h
  case isFalse => cases h
  rename_i hcond
  simp only [Bool.and_eq_true, decide_eq_true_eq] at hcond
  obtain ⟨hrows, hbytes⟩ := hcond
  simp only [Option.some.injEq, Prod.mk.injEq] at h
  obtain ⟨rfl, rfl⟩ := h
  simp only [RelL] at hrel
  obtain ⟨v, _, rfl, hv, rfl⟩ := hrel
  have hvs := hv
  simp only [Rel] at hvs
  obtain ⟨ad0, n, cap, rfl, rfl, hcap, hnil, hne⟩ := hvs
  let A : Nat → Prop := fun b => w.heap.size ≤ b ∨ g.sr b ≠ none
  let c : Cx := ⟨P, [0, 2], [], 8, [], A⟩
  have fx : Fx c := ⟨show ([0, 2] : List Nat).Nodup by decide, show ∀ s ∈ ([0, 2] : List Nat), s < 8 by decide⟩
  have hown : own = false := by
    have := hweak (.list own xs) (by simp)
    simpa [AV.weak] using this.symm
  subst hown
  refine calls_of_wp hf C.body ?_
  have hS : S c g w (fun _ => none) (fun _ => 0) ⟨[.list false xs, .undef], fun _ => .undef, st⟩ { tmps := #[Value.slice ad0 xs.length cap] ++ Array.replicate (fn.ntmps - 1) undef, defers := [] } := by
    refine ⟨⟨by simp [c, C.nt], rfl, fun i s hs => ?_, fun s _ => ValOK.undef, fun b p hb => (by cases hb), fun i cs hi => ?_⟩, hst, fun e he => (by cases he), fun b hb => .inl hb, fun b p hb => .inr (by rw [hb]; simp)⟩
    · match i, hs with
      | 0, hs =>
        simp only [c, List.getElem?_cons_zero, Option.some.injEq] at hs
        subst hs
        have hval : ValOK g w (fun b => (fun _ => none : Nat → Option Pl) b = some (.var 0)) (AV.list false xs).weak (.slice ad0 xs.length cap) := ValOK.of_weak hv
        have e0 : (#[Value.slice ad0 xs.length cap] ++ Array.replicate (fn.ntmps - 1) undef).getD 0 undef = .slice ad0 xs.length cap := by rw [C.nt]; rfl
        show VarOK g w (fun _ => none) (fun _ => 0) 0 (.list false xs) ((#[Value.slice ad0 xs.length cap] ++ Array.replicate (fn.ntmps - 1) undef).getD 0 undef)
        rw [e0]
        exact hval
      | 1, hs => exact VarOK.undef
      | i + 2, hs => simp [c] at hs
    · match i, hi with
      | 0, hi => simp at hi
      | 1, hi => simp at hi
      | i + 2, hi => simp at hi
  -- the end
  have fin : ∀ (x : AV) (a' : Act) (w' : World) (g' : Gh) (pr' : Nat → Option Pl) (bx' : Nat → Nat) (τ' : Nat → AV), a'.defers = [] → S c g' w' pr' bx' ⟨[x, .list true xs], τ', st⟩ a' → Tr c.A g w g' w' →
      bodyPost P fn (CallPost g w st (.list true xs)) .ret a' w' := by
    intro x a' w' g' pr' bx' τ' hd hS' ht
    refine ⟨hd, ?_⟩
    obtain ⟨us, hus, hul, hall⟩ := res_ok (c := c) hS' (rs := fn.results.toList) (ks := [.vs 1]) (vs := [.list true xs]) (by rw [C.res]; rfl) rfl
    refine ⟨_, results_run hus, _, g', rfl, hS'.st, ⟨ht.ext, ht.size, ht.env, fun b hb hs _ => ht.keep b hb hs fun hA => ?_⟩, ?_⟩
    · rcases hA with hA | hA
      · omega
      · exact hA hs
    · match us, hul, hall with
      | [u], _, hall =>
        refine (hall 0 (.list true xs) u rfl rfl).mono (Ext.refl _ _) fun b hb => ⟨?_, rfl, fun _ x => x⟩
        obtain ⟨p, hp⟩ := hb
        obtain ⟨q1, q2, q3⟩ := hS'.fr.prv b p hp
        exact ⟨q1, q2, q3⟩
  refine wp_seq (wp_region ?_)
  show wpOps P #[C.o0] _ [0] _ _
  rw [wpOps_cons]
  refine opAt rfl C.d0.2.2 (mv_ok (c := c) fx hS (.inr C.d0.2.1) (p := .c (.list true [])) (d := .v 1) rfl (by rw [C.d0.1]; rfl) fun a1 w1 g1 pr1 bx1 hd1 hS1 ht1 => ?_)
  show (Code.seq _ _).wp P _ a1 w1
  refine wp_seq (wp_seq (wp_region ?_))
  show wpOps P #[C.o1, C.o2] _ [0, 1] _ _
  rw [wpOps_cons]
  refine opAt rfl C.d1.2.2 (mv_ok (c := c) fx hS1 (.inl C.d1.2.1) (p := .v 0) (d := .t 3) rfl (by rw [C.d1.1]; rfl) fun a2 w2 g2 pr2 bx2 hd2 hS2 ht2 => ?_)
  rw [wpOps_cons]
  have hA2 := read_ok hS2 (x := .tmp 3) (p := .t 3) rfl
  have hr2 : Rel g2 w2 (.list false xs) (a2.eval (.tmp 3)) := ValOK.rel hA2
  have hr2' := hr2
  simp only [Rel] at hr2'
  obtain ⟨ad2, n2, cap2, hev2, hn2, hcap2, hnil2, hne2⟩ := hr2'
  refine opAt rfl C.d2.2.2 (nil_ok (c := c) fx hS2 C.d2.2.1 tu hev2 (d := .t 4) (by rw [C.d2.1]; rfl) fun a3 w3 g3 pr3 bx3 hd3 hS3 ht3 => ?_)
  show (Code.cond _ _ _).wp P _ a3 w3
  have ht03 := (ht1.trans ht2).trans ht3
  have hd03 : a3.defers = [] := hd3.trans (hd2.trans hd1)
  have hb := cond_ok hS3 (x := .tmp 4) (y := .t 4) rfl (b := ad2.isNone) rfl
  refine wp_cond hb ?_
  cases ad2 with
  | none =>
    have hx0 : xs = [] := by
      have := hnil2 rfl
      exact List.eq_nil_of_length_eq_zero (by omega)
    refine wp_seq (wp_region ?_)
    show wpOps P #[C.o3] _ [0] _ _
    rw [wpOps_cons]
    refine opAt rfl C.d3.2.2 (mv_ok (c := c) fx hS3 (.inr C.d3.2.1) (p := .c (.list true [])) (d := .v 1) rfl (by rw [C.d3.1]; rfl) fun a4 w4 g4 pr4 bx4 hd4 hS4 ht4 => ?_)
    show Code.ret.wp P _ a4 w4
    refine wp_ret ?_
    show bodyPost P fn _ .ret a4 w4
    subst hx0
    exact fin _ a4 w4 g4 pr4 bx4 _ (hd4.trans hd03) hS4 (ht03.trans ht4)
  | some ad3 =>
    refine wp_skip ?_
    show (Code.seq _ _).wp P _ a3 w3
    refine wp_seq (wp_region ?_)
    show wpOps P #[C.o4, C.o5, C.o6, C.o7] _ [0, 1, 2, 3] _ _
    rw [wpOps_cons]
    refine opAt rfl C.d4.2.2 (slE_ok (c := c) fx hS3 C.d4.2.1 tu ti (d := .t 5) (by rw [C.d4.1]; rfl) fun a4 w4 g4 pr4 bx4 hd4 hS4 ht4 => ?_)
    rw [wpOps_cons]
    refine opAt rfl C.d5.2.2 (mv_ok (c := c) fx hS4 (.inl C.d5.2.1) (p := .v 0) (d := .t 6) rfl (by rw [C.d5.1]; rfl) fun a5 w5 g5 pr5 bx5 hd5 hS5 ht5 => ?_)
    rw [wpOps_cons]
    refine opAt rfl C.d6.2.2 (app_ok (c := c) fx hS5 C.d6.2.1 rfl tu ti tz tsz tby tzs tb1 (p0 := .ts 5) (p1 := .t 6) (d := .t 7) rfl rfl (by rw [C.d6.1]; rfl) (by rw [C.d6.1]; rfl) (xs := []) (ys := xs) (own := false) rfl rfl rfl hrows (by simpa using hbytes) fun a6 w6 g6 pr6 bx6 hd6 hS6 ht6 => ?_)
    rw [wpOps_cons]
    refine opAt rfl C.d7.2.2 (mv_ok (c := c) fx hS6 (.inr C.d7.2.1) (p := .ts 7) (d := .v 1) rfl (by rw [C.d7.1]; rfl) fun a7 w7 g7 pr7 bx7 hd7 hS7 ht7 => ?_)
    show Code.ret.wp P _ a7 w7
    refine wp_ret ?_
    show bodyPost P fn _ .ret a7 w7
    exact fin _ a7 w7 g7 pr7 bx7 _ (hd7.trans (hd6.trans (hd5.trans (hd4.trans hd03)))) hS7 ((((ht03.trans ht4).trans ht5).trans ht6).trans ht7)
end
end Go.Cb
/-
  THE ABSTRACT MACHINE, part 30: from an abstract answer to the model's call.
-/
set_option maxRecDepth 4000
namespace Go.Cb
open Classical

/-- before the call: nothing is of the store, and all that is there stays -/
def gh0 (W : World) : Gh := { n := 0, m := fun _ => 0, cl := fun b _ => b < W.heap.size, sr := fun _ => none, cp := fun _ => 0 }

theorem srel0 (W : World) : SRel (gh0 W) W [] := ⟨rfl, fun o ob h => by simp at h, fun b p h => (by cases h), fun b f h => h⟩

/-- what a call leaves of the old world -/
structure Kept (W W' : World) : Prop where
  kept : W.keptBut W' (fun _ => False)
  fz : ∀ a : Addr, a.block < W.heap.size → W'.frozen? a = W.frozen? a
  size : W.heap.size ≤ W'.heap.size
  old : ∀ b, b < W.heap.size → W'.heap[b]? = W.heap[b]?

theorem answer {P : Program} {gt : List (Nat × List AV)} {tbl : Nat → Option AFn} (hP : ProgOK P gt tbl) {n f : Nat} {args : List AV} {b : Bool} {st' : St} (h : callF tbl n f args [] = some (.bool b, st')) (hw : ∀ x ∈ args, x.weak = x)
    {W : World} {vs : List Value} (hg : Globs gt (gh0 W) W) (hr : RelL (gh0 W) W args vs) : Calls P f vs.toArray W (fun e W' => e = .returned (.bool b) ∧ Kept W W') := by
  refine ((callF_ok hP n f args [] _ _ h hw).2 (gh0 W) W vs (srel0 W) hg hr).mono fun e W' he => ?_
  obtain ⟨v, g', rfl, _, ht, hv⟩ := he
  have hv := hv.rel
  simp only [Rel] at hv
  subst hv
  have hold : ∀ b, b < W.heap.size → W'.heap[b]? = W.heap[b]? := fun b hb => (ht.keep b hb rfl fun x => x).1.1
  refine ⟨rfl, ⟨ht.env.os, ht.env.out, fun i hi => ?_⟩, ht.env.fz, ht.size, hold⟩
  rw [hold i hi]
  cases hq : W.heap[i]? with
  | none => simp
  | some o => cases o <;> simp
end Go.Cb
/-
  THE ABSTRACT MACHINE, part 28: running told as a chain, for reckoning with unknowns.
-/
set_option maxRecDepth 4000
set_option linter.unusedSimpArgs false
namespace Go.Cb
open Classical

/-- an equation that is no mere unfolding to the simplifier -/
theorem spine {α : Sort _} {a b : α} (h : a = b) : a = b := by
  cases h
  rfl

/-- bind, of which only the head is reckoned -/
def obind {α β : Type} (x : Option α) (f : α → Option β) : Option β := match x with
  | some a => f a
  | none => none
theorem obind_some {α β : Type} (a : α) (f : α → Option β) : obind (some a) f = f a := spine rfl
theorem obind_congr {α β : Type} {x x' : Option α} {f : α → Option β} (h : x = x') : obind x f = obind x' f := by rw [h]

/-- the value of an operation that only reckons -/
def p1 (x : Option (AV × AV × St)) : Option AV := match x with
  | some (r, _, _) => some r
  | none => none
theorem p1_some (r b : AV) (st : St) : p1 (some (r, b, st)) = some r := spine rfl
/-- the value and the store -/
def p2 (x : Option (AV × AV × St)) : Option (AV × St) := match x with
  | some (r, _, st) => some (r, st)
  | none => none
theorem p2_some (r b : AV) (st : St) : p2 (some (r, b, st)) = some (r, st) := spine rfl

/-- a guarded value -/
def gv (x : AV) (want : Bool) (e : Option AV) : Option AV := match x with
  | .bool b => if b == want then e else some (.tuple [])
  | .tuple [] => some (.tuple [])
  | _ => none
def gv2 (x : AV) (want : Bool) (st : St) (e : Option (AV × St)) : Option (AV × St) := match x with
  | .bool b => if b == want then e else some (.tuple [], st)
  | .tuple [] => some (.tuple [], st)
  | _ => none
theorem gv_none (want : Bool) (e : Option AV) : gv (.tuple []) want e = some (.tuple []) := spine rfl

theorem gv_tt (e : Option AV) : gv (.bool true) true e = e := spine rfl
theorem gv_tf (e : Option AV) : gv (.bool true) false e = some (.tuple []) := spine rfl
theorem gv_ff (e : Option AV) : gv (.bool false) false e = e := spine rfl
theorem gv_ft (e : Option AV) : gv (.bool false) true e = some (.tuple []) := spine rfl
theorem gv2_tt (st : St) (e : Option (AV × St)) : gv2 (.bool true) true st e = e := spine rfl
theorem gv2_tf (st : St) (e : Option (AV × St)) : gv2 (.bool true) false st e = some (.tuple [], st) := spine rfl
theorem gv2_ff (st : St) (e : Option (AV × St)) : gv2 (.bool false) false st e = e := spine rfl
theorem gv2_ft (st : St) (e : Option (AV × St)) : gv2 (.bool false) true st e = some (.tuple [], st) := spine rfl
theorem gv2_none (want : Bool) (st : St) (e : Option (AV × St)) : gv2 (.tuple []) want st e = some (.tuple [], st) := spine rfl
theorem gv2_congr {x : AV} {want : Bool} {st : St} {e : Option (AV × St)} {x' : AV} (h : x = x') : gv2 x want st e = gv2 x' want st e := by rw [h]

def anySteals (xs : List Opd) : Bool := xs.any Opd.steals

theorem spend_noSteal : ∀ {xs : List Opd} {σ : Sig}, anySteals xs = false → spendAll xs σ = σ
  | [], _, _ => rfl
  | x :: xs, σ, h => by
    simp only [anySteals, List.any_cons, Bool.or_eq_false_iff] at h
    have e : x.spend σ = σ := by cases x <;> simp_all [Opd.spend, Opd.steals]
    rw [spendAll, e]
    exact spend_noSteal (xs := xs) h.2

def goK (call : CallT) {α : Type} (o : AOper) (σ : Sig) (k : Sig → Option α) : Option α :=
  match o.kind.setSt || o.kind.alters || anySteals o.args with
  | false => obind (p1 (sem o.kind call (o.args.map (·.read σ)) (boxOf' o.box σ) σ.st)) fun r => k (o.dst.put r σ)
  | true => match o.kind.alters || anySteals o.args with
    | false => obind (p2 (sem o.kind call (o.args.map (·.read σ)) (boxOf' o.box σ) σ.st)) fun r => k (o.dst.put r.1 { σ with st := r.2 })
    | true => obind (sem o.kind call (o.args.map (·.read σ)) (boxOf' o.box σ) σ.st) fun r =>
      let σ := spendAll o.args σ
      match o.box with
      | some i => k (o.dst.put r.1 { σ with fr := σ.fr.set i r.2.1, st := r.2.2 })
      | none => k (o.dst.put r.1 { σ with st := r.2.2 })
where boxOf' (b : Option Nat) (σ : Sig) : AV := match b with | some i => σ.fr.getD i .undef | none => .undef

def stepK (call : CallT) {α : Type} (o : AOper) (σ : Sig) (k : Sig → Option α) : Option α :=
  match o.guard with
  | none => goK call o σ k
  | some (x, want) => match o.kind.setSt || o.kind.alters || anySteals o.args with
    | false => obind (gv (x.read σ) want (p1 (sem o.kind call (o.args.map (·.read σ)) (goK.boxOf' o.box σ) σ.st))) fun r => k (o.dst.put r σ)
    | true => match o.kind.alters || anySteals o.args with
      | false => obind (gv2 (x.read σ) want σ.st (p2 (sem o.kind call (o.args.map (·.read σ)) (goK.boxOf' o.box σ) σ.st))) fun r => k (o.dst.put r.1 { σ with st := r.2 })
      | true => match x.read σ with
        | .bool b => if b == want then goK call o σ k else k (o.dst.put (.tuple []) σ)
        | .tuple [] => k (o.dst.put (.tuple []) σ)
        | _ => none

def runK (call : CallT) {α : Type} : List AOper → Sig → (Sig → Option α) → Option α
  | [], σ, k => k σ
  | o :: os, σ, k => stepK call o σ fun σ => runK call os σ k

theorem set_getD' (fr : List AV) (i : Nat) : fr.set i (fr.getD i .undef) = fr := by
  apply List.ext_getElem?
  intro j
  rw [List.getElem?_set]
  by_cases e : i = j
  · subst e
    rw [if_pos rfl]
    split
    · rename_i h; simp [h]
    · rename_i h; rw [List.getElem?_eq_none (by omega)]
  · rw [if_neg e]

theorem goK_eq {call : CallT} {α : Type} {o : AOper} {σ : Sig} {k : Sig → Option α} : goK call o σ k = obind (goOp call o σ) k := by
  have hb : goK.boxOf' o.box σ = (match o.box with | some i => σ.fr.getD i .undef | none => .undef) := rfl
  unfold goK
  rw [goOp_eq, hb]
  split
  · rename_i hp
    simp only [Bool.or_eq_false_iff] at hp
    obtain ⟨⟨h1, h2⟩, h3⟩ := hp
    cases hs : sem o.kind call (o.args.map (·.read σ)) (match o.box with | some i => σ.fr.getD i .undef | none => .undef) σ.st with
    | none => rfl
    | some x =>
      obtain ⟨r, b', st'⟩ := x
      have e1 := sem_st h1 hs
      have e2 := sem_bx h2 hs
      subst e1
      simp only [p1, obind_some, spend_noSteal h3]
      cases hbx : o.box with
      | none => rfl
      | some i =>
        simp only [hbx] at e2
        rw [e2]
        simp only [set_getD', obind_some]
  · rename_i hp
    split
    · rename_i hq
      simp only [Bool.or_eq_false_iff] at hq
      obtain ⟨h2, h3⟩ := hq
      cases hs : sem o.kind call (o.args.map (·.read σ)) (match o.box with | some i => σ.fr.getD i .undef | none => .undef) σ.st with
      | none => rfl
      | some x =>
        obtain ⟨r, b', st'⟩ := x
        have e2 := sem_bx h2 hs
        simp only [p2, obind_some, spend_noSteal h3]
        cases hbx : o.box with
        | none => rfl
        | some i =>
          simp only [hbx] at e2
          rw [e2]
          simp only [set_getD', obind_some]
    · cases hs : sem o.kind call (o.args.map (·.read σ)) (match o.box with | some i => σ.fr.getD i .undef | none => .undef) σ.st with
      | none => rfl
      | some x =>
        obtain ⟨r, b', st'⟩ := x
        simp only [obind_some]
        cases hbx : o.box with
        | none => rfl
        | some i => rfl

theorem gv_bind {α : Type} {x : AV} {want : Bool} {e : Option AV} {f : AV → Option α} : obind (gv x want e) f =
    (match x with | .bool b => if b == want then obind e f else f (.tuple []) | .tuple [] => f (.tuple []) | _ => none) := by
  unfold gv
  split
  · split <;> rfl
  · rfl
  · rfl

theorem gv2_bind {α : Type} {x : AV} {want : Bool} {st : St} {e : Option (AV × St)} {f : AV × St → Option α} : obind (gv2 x want st e) f =
    (match x with | .bool b => if b == want then obind e f else f (.tuple [], st) | .tuple [] => f (.tuple [], st) | _ => none) := by
  unfold gv2
  split
  · split <;> rfl
  · rfl
  · rfl

theorem stepK_eq {call : CallT} {α : Type} {o : AOper} {σ : Sig} {k : Sig → Option α} : stepK call o σ k = obind (stepOp call o σ) k := by
  unfold stepK stepOp
  cases hg : o.guard with
  | none => exact goK_eq
  | some xw =>
    obtain ⟨x, want⟩ := xw
    simp only
    split
    · rename_i hp
      have hgo : obind (p1 (sem o.kind call (o.args.map (·.read σ)) (goK.boxOf' o.box σ) σ.st)) (fun r => k (o.dst.put r σ)) = obind (goOp call o σ) k := by
        have := goK_eq (call := call) (o := o) (σ := σ) (k := k)
        unfold goK at this
        rw [hp] at this
        exact this
      rw [gv_bind]
      cases hx : x.read σ <;> try rfl
      · dsimp only
        split
        · exact hgo
        · rfl
      · rename_i vs
        cases vs <;> rfl
    · rename_i hp
      split
      · rename_i hq
        have hgo : obind (p2 (sem o.kind call (o.args.map (·.read σ)) (goK.boxOf' o.box σ) σ.st)) (fun r => k (o.dst.put r.1 { σ with st := r.2 })) = obind (goOp call o σ) k := by
          have := goK_eq (call := call) (o := o) (σ := σ) (k := k)
          unfold goK at this
          rw [hp, hq] at this
          exact this
        rw [gv2_bind]
        cases hx : x.read σ <;> try rfl
        · dsimp only
          split
          · exact hgo
          · rfl
        · rename_i vs
          cases vs <;> rfl
      · cases hx : x.read σ <;> try rfl
        · dsimp only
          split
          · exact goK_eq
          · rfl
        · rename_i vs
          cases vs <;> rfl

theorem runK_eq {call : CallT} {α : Type} {k : Sig → Option α} : ∀ {ops : List AOper} {σ : Sig}, runK call ops σ k = obind (runOps call ops σ) k
  | [], σ => rfl
  | o :: os, σ => by
    simp only [runK, runOps, stepK_eq]
    cases hs : stepOp call o σ with
    | none => rfl
    | some σ1 => exact runK_eq

def br (c : AV) (a b : Option Out) : Option Out := match c with
  | .bool true => a
  | .bool false => b
  | _ => none
theorem exec_reg (call : CallT) (n : Nat) (kill : List Nat) (ps : List AOper) (fr : List AV) (st : St) :
    exec call n (.reg kill ps) fr st = runK call ps ⟨killAll kill fr, fun _ => .undef, st⟩ fun σ => some (.normal, σ.fr, σ.st) := by
  rw [runK_eq]
  simp only [exec, fL_eq]
  cases runOps call ps ⟨killAll kill fr, fun _ => .undef, st⟩ <;> rfl
theorem exec_test (call : CallT) (n : Nat) (kill : List Nat) (ps : List AOper) (c : Opd) (a b : ACode) (fr : List AV) (st : St) :
    exec call n (.test kill ps c a b) fr st = runK call ps ⟨killAll kill fr, fun _ => .undef, st⟩ fun σ => br (c.read σ) (exec call n a σ.fr σ.st) (exec call n b σ.fr σ.st) := by
  rw [runK_eq]
  simp only [exec, fL_eq]
  cases runOps call ps ⟨killAll kill fr, fun _ => .undef, st⟩ with
  | none => rfl
  | some σ =>
    simp only [obind_some]
    generalize c.read σ = y
    cases y <;> rfl

/-- the address of a private box -/
def locOf (i : Nat) (x : AV) : AV := match x with
  | .box _ => .loc i 0
  | _ => .undef

/-- what comes behind code that ends -/
def seqK (x : Option Out) (f : List AV → St → Option Out) : Option Out := match x with
  | some (.normal, fr, st) => f fr st
  | r => r
theorem seqK_normal (fr : List AV) (st : St) (f : List AV → St → Option Out) : seqK (some (.normal, fr, st)) f = f fr st := spine rfl
theorem seqK_exit (id : Nat) (fr : List AV) (st : St) (f : List AV → St → Option Out) : seqK (some (.exit id, fr, st)) f = some (.exit id, fr, st) := spine rfl
theorem seqK_ret (fr : List AV) (st : St) (f : List AV → St → Option Out) : seqK (some (.ret, fr, st)) f = some (.ret, fr, st) := spine rfl
theorem seqK_congr {x x' : Option Out} {f : List AV → St → Option Out} (h : x = x') : seqK x f = seqK x' f := by rw [h]
theorem exec_seqK (call : CallT) (n : Nat) (a b : ACode) (fr : List AV) (st : St) : exec call n (.seq a b) fr st = seqK (exec call n a fr st) (exec call n b) := by
  simp only [exec, seqK]
  split <;> rename_i h <;> simp only [h]

/-- the results, out of how the body ended -/
def finK (rs : List ResK) (x : Option Out) : Option (AV × St) := match x with
  | some (.exit _, _, _) => none
  | some (_, fr, st) => match getAll rs fr with
    | some [v] => some (v, st)
    | some vs => some (.tuple vs, st)
    | none => none
  | none => none
theorem run_finK (fn : AFn) (call : CallT) (n : Nat) (args : List AV) (st : St) (h : args.length = fn.np) :
    fn.run call n args st = finK fn.results (exec call n fn.code (args ++ List.replicate (fn.nv - fn.np) .undef) st) := by
  unfold AFn.run finK
  rw [if_pos h]
  cases exec call n fn.code (args ++ List.replicate (fn.nv - fn.np) .undef) st with
  | none => rfl
  | some x =>
    obtain ⟨e, fr, st'⟩ := x
    cases e <;> dsimp only <;> cases getAll fn.results fr with
    | none => rfl
    | some vs =>
      match vs with
      | [] => rfl
      | [v] => rfl
      | _ :: _ :: _ => rfl
theorem exec_ret (call : CallT) (n : Nat) (fr : List AV) (st : St) : exec call n .ret fr st = some (.ret, fr, st) := by simp only [exec]
theorem exec_exit (call : CallT) (n id : Nat) (fr : List AV) (st : St) : exec call n (.exit id) fr st = some (.exit id, fr, st) := by simp only [exec]
theorem exec_skip (call : CallT) (n : Nat) (fr : List AV) (st : St) : exec call n .skip fr st = some (.normal, fr, st) := by simp only [exec]
end Go.Cb
/-
  THE ABSTRACT MACHINE, part 31: more fuel does no harm.
-/
set_option maxRecDepth 4000
set_option linter.unusedSimpArgs false
namespace Go.Cb
open Classical

/-- one way of calling answers all that another answers -/
def CallLe (c c' : CallT) : Prop := ∀ f as st r, c f as st = some r → c' f as st = some r

theorem sem_le {c c' : CallT} (h : CallLe c c') {k : Kind} {as : List AV} {b : AV} {st : St} {r : AV × AV × St} (hs : sem k c as b st = some r) : sem k c' as b st = some r := by
  cases k
  case call f =>
    simp only [sem, semCall] at hs ⊢
    split at hs
    · rename_i hp
      rw [if_pos hp]
      obtain ⟨x, hx, rfl⟩ := Option.map_eq_some_iff.1 hs
      rw [h _ _ _ _ hx]
      rfl
    · cases hs
  case callA f m =>
    simp only [sem, semCallA] at hs ⊢
    cases hc : semCall f c (as.take m) b st with
    | none => rw [hc] at hs; cases hs
    | some x =>
      rw [hc] at hs
      have : semCall f c' (as.take m) b st = some x := by
        unfold semCall at hc ⊢
        split at hc
        · rename_i hp
          rw [if_pos hp]
          obtain ⟨y, hy, rfl⟩ := Option.map_eq_some_iff.1 hc
          rw [h _ _ _ _ hy]
          rfl
        · cases hc
      rw [this]
      exact hs
  case callV =>
    simp only [sem] at hs ⊢
    unfold semCallV at hs ⊢
    split at hs
    · split at hs
      · rename_i hp
        simp only [if_pos hp]
        obtain ⟨x, hx, rfl⟩ := Option.map_eq_some_iff.1 hs
        rw [h _ _ _ _ hx]
        rfl
      · cases hs
    · cases hs
  all_goals exact hs

theorem goOp_le {c c' : CallT} (h : CallLe c c') {o : AOper} {σ σ' : Sig} (hs : goOp c o σ = some σ') : goOp c' o σ = some σ' := by
  obtain ⟨r, b', st', h1, rfl⟩ := goOp_some hs
  exact goOp_mk (sem_le h h1)
theorem stepOp_le {c c' : CallT} (h : CallLe c c') {o : AOper} {σ σ' : Sig} (hs : stepOp c o σ = some σ') : stepOp c' o σ = some σ' := by
  unfold stepOp at hs ⊢
  split at hs
  · exact goOp_le h hs
  · split at hs
    · split at hs
      · rename_i hc; rw [if_pos hc]; exact goOp_le h hs
      · rename_i hc; rw [if_neg hc]; exact hs
    · exact hs
    · cases hs
theorem runOps_le {c c' : CallT} (h : CallLe c c') : ∀ {os : List AOper} {σ σ' : Sig}, runOps c os σ = some σ' → runOps c' os σ = some σ'
  | [], _, _, hs => hs
  | o :: os, σ, σ', hs => by
    simp only [runOps] at hs ⊢
    cases hq : stepOp c o σ with
    | none => simp [hq] at hs
    | some σ1 =>
      simp only [hq] at hs
      simp only [stepOp_le h hq]
      exact runOps_le h hs
theorem iter_le {body body' : List AV → St → Option Out} (h : ∀ fr st r, body fr st = some r → body' fr st = some r) : ∀ {n m : Nat} {fr : List AV} {st : St} {r : Out}, n ≤ m → iter body n fr st = some r → iter body' m fr st = some r
  | 0, _, _, _, _, _, hs => by simp [iter] at hs
  | n + 1, 0, _, _, _, hle, _ => by omega
  | n + 1, m + 1, fr, st, r, hle, hs => by
    simp only [iter] at hs ⊢
    cases hq : body fr st with
    | none => simp [hq] at hs
    | some o =>
      rw [hq] at hs
      rw [h _ _ _ hq]
      obtain ⟨e, fr1, st1⟩ := o
      cases e with
      | normal => exact iter_le h (by omega) hs
      | exit id => exact hs
      | ret => exact hs
theorem exec_le {c c' : CallT} (h : CallLe c c') {n m : Nat} (hle : n ≤ m) : ∀ {x : ACode} {fr : List AV} {st : St} {r : Out}, exec c n x fr st = some r → exec c' m x fr st = some r
  | .skip, _, _, _, hs => hs
  | .exit _, _, _, _, hs => hs
  | .ret, _, _, _, hs => hs
  | .reg kill ops, fr, st, r, hs => by
    simp only [exec] at hs ⊢
    cases hq : runOps c ops ⟨killAll kill fr, fun _ => .undef, st⟩ with
    | none => simp [hq] at hs
    | some σ => rw [hq] at hs; rw [runOps_le h hq]; exact hs
  | .test kill ops x a b, fr, st, r, hs => by
    rw [exec_test] at hs ⊢
    rw [runK_eq] at hs ⊢
    cases hq : runOps c ops ⟨killAll kill fr, fun _ => .undef, st⟩ with
    | none => rw [hq] at hs; cases hs
    | some σ =>
      rw [hq] at hs
      rw [runOps_le h hq]
      rw [obind_some] at hs ⊢
      unfold br at hs ⊢
      split at hs
      · exact exec_le h hle hs
      · exact exec_le h hle hs
      · cases hs
  | .either kill a b, fr, st, r, hs => by
    simp only [exec] at hs ⊢
    obtain ⟨oa, ob, ea, eb, ka, kb⟩ := agree_some hs
    rw [exec_le h hle ea, exec_le h hle eb, agree_same (ka.trans kb.symm), ka]
  | .seq a b, fr, st, r, hs => by
    rw [exec_seqK] at hs ⊢
    cases hq : exec c n a fr st with
    | none => rw [hq] at hs; cases hs
    | some o =>
      rw [hq] at hs
      rw [exec_le h hle hq]
      obtain ⟨e, fr1, st1⟩ := o
      cases e with
      | normal => exact exec_le h hle hs
      | exit id => exact hs
      | ret => exact hs
  | .blk id a, fr, st, r, hs => by
    simp only [exec] at hs ⊢
    cases hq : exec c n a fr st with
    | none => rw [hq] at hs; cases hs
    | some o => rw [hq] at hs; rw [exec_le h hle hq]; exact hs
  | .loop a, fr, st, r, hs => by
    simp only [exec] at hs ⊢
    exact iter_le (fun _ _ _ hb => exec_le h hle hb) hle hs
theorem run_le {c c' : CallT} (h : CallLe c c') {n m : Nat} (hle : n ≤ m) {fn : AFn} {args : List AV} {st : St} {r : AV × St} (hs : fn.run c n args st = some r) : fn.run c' m args st = some r := by
  have hl : args.length = fn.np := by
    unfold AFn.run at hs
    split at hs
    · assumption
    · cases hs
  rw [run_finK _ _ _ _ _ hl] at hs ⊢
  cases hq : exec c n fn.code (args ++ List.replicate (fn.nv - fn.np) .undef) st with
  | none => rw [hq] at hs; cases hs
  | some o => rw [hq] at hs; rw [exec_le h hle hq]; exact hs
theorem callF_le {tbl : Nat → Option AFn} : ∀ {n m : Nat}, n ≤ m → CallLe (callF tbl n) (callF tbl m)
  | 0, _, _, _, _, _, _, hs => by simp [callF] at hs
  | n + 1, 0, hle, _, _, _, _, _ => by omega
  | n + 1, m + 1, hle, f, as, st, r, hs => by
    simp only [callF] at hs ⊢
    cases htb : tbl f with
    | none => simp [htb] at hs
    | some fn =>
      simp only [htb] at hs ⊢
      cases he : fn.ext with
      | some e => simp only [he] at hs ⊢; exact hs
      | none =>
        simp only [he] at hs ⊢
        exact run_le (callF_le (by omega)) (by omega) hs

/-- a call that comes to an answer, with enough fuel -/
def Ev (tbl : Nat → Option AFn) (f : Nat) (as : List AV) (st : St) (r : AV) (st' : St) : Prop := ∃ n, callF tbl n f as st = some (r, st')
theorem Ev.ge {tbl : Nat → Option AFn} {f : Nat} {as : List AV} {st : St} {r : AV} {st' : St} (h : Ev tbl f as st r st') : ∃ n0, ∀ n, n0 ≤ n → callF tbl n f as st = some (r, st') :=
  let ⟨n, hn⟩ := h; ⟨n, fun m hm => callF_le hm _ _ _ _ hn⟩
end Go.Cb
/-
  THE ABSTRACT MACHINE, part 32: rules for what code comes to, with enough fuel.
-/
set_option maxRecDepth 4000
set_option linter.unusedVariables false
namespace Go.Cb
open Classical

section
variable {tbl : Nat → Option AFn}

/-- code comes to that, with enough fuel -/
def XC (tbl : Nat → Option AFn) (x : ACode) (fr : List AV) (st : St) (out : Out) : Prop := ∃ n, exec (callF tbl n) n x fr st = some out
theorem XC.ge {x : ACode} {fr : List AV} {st : St} {out : Out} (h : XC tbl x fr st out) : ∃ n0, ∀ n, n0 ≤ n → exec (callF tbl n) n x fr st = some out :=
  let ⟨n, hn⟩ := h; ⟨n, fun m hm => exec_le (callF_le hm) hm hn⟩

/-- k rounds of a loop, with enough fuel -/
def LX (tbl : Nat → Option AFn) (x : ACode) (fr : List AV) (st : St) (out : Out) : Prop := ∃ n k, iter (exec (callF tbl n) n x) k fr st = some out

theorem LX.done {x : ACode} {fr : List AV} {st : St} {e : Ex} {fr' : List AV} {st' : St} (h : XC tbl x fr st (e, fr', st')) (he : e ≠ .normal) : LX tbl x fr st (e, fr', st') := by
  obtain ⟨n, hn⟩ := h
  refine ⟨n, 1, ?_⟩
  simp only [iter, hn]
  cases e with
  | normal => exact absurd rfl he
  | exit id => rfl
  | ret => rfl
theorem LX.step {x : ACode} {fr fr1 : List AV} {st st1 : St} {out : Out} (h : XC tbl x fr st (.normal, fr1, st1)) (h' : LX tbl x fr1 st1 out) : LX tbl x fr st out := by
  obtain ⟨n, hn⟩ := h
  obtain ⟨m, k, hm⟩ := h'
  refine ⟨max n m, k + 1, ?_⟩
  have h1 := exec_le (callF_le (tbl := tbl) (Nat.le_max_left n m)) (Nat.le_max_left n m) hn
  simp only [iter, h1]
  exact iter_le (fun _ _ _ hb => exec_le (callF_le (Nat.le_max_right n m)) (Nat.le_max_right n m) hb) (Nat.le_refl k) hm
theorem XC.loop {x : ACode} {fr : List AV} {st : St} {out : Out} (h : LX tbl x fr st out) : XC tbl (.loop x) fr st out := by
  obtain ⟨n, k, h⟩ := h
  refine ⟨max n k, ?_⟩
  simp only [exec]
  exact iter_le (fun _ _ _ hb => exec_le (callF_le (Nat.le_max_left n k)) (Nat.le_max_left n k) hb) (Nat.le_max_right n k) h
theorem XC.seq {a b : ACode} {fr fr1 : List AV} {st st1 : St} {out : Out} (h : XC tbl a fr st (.normal, fr1, st1)) (h' : XC tbl b fr1 st1 out) : XC tbl (.seq a b) fr st out := by
  obtain ⟨n, hn⟩ := h
  obtain ⟨m, hm⟩ := h'
  refine ⟨max n m, ?_⟩
  rw [exec_seqK, exec_le (callF_le (Nat.le_max_left n m)) (Nat.le_max_left n m) hn, seqK_normal]
  exact exec_le (callF_le (Nat.le_max_right n m)) (Nat.le_max_right n m) hm
theorem XC.blk {id : Nat} {a : ACode} {fr fr1 : List AV} {st st1 : St} {e : Ex} (h : XC tbl a fr st (e, fr1, st1)) : XC tbl (.blk id a) fr st (if e = .exit id then .normal else e, fr1, st1) := by
  obtain ⟨n, hn⟩ := h
  refine ⟨n, ?_⟩
  simp only [exec, hn]
  cases e with
  | normal => rfl
  | exit id' =>
    by_cases hid : id' = id
    · subst hid; simp
    · simp [hid]
  | ret => rfl
theorem XC.skip {fr : List AV} {st : St} : XC tbl .skip fr st (.normal, fr, st) := ⟨0, rfl⟩
theorem XC.exit {id : Nat} {fr : List AV} {st : St} : XC tbl (.exit id) fr st (.exit id, fr, st) := ⟨0, rfl⟩
theorem XC.ret {fr : List AV} {st : St} : XC tbl .ret fr st (.ret, fr, st) := ⟨0, rfl⟩

theorem XC.of {x : ACode} {fr : List AV} {st : St} {out : Out} (h : ∃ n0, ∀ n, n0 ≤ n → exec (callF tbl n) n x fr st = some out) : XC tbl x fr st out :=
  let ⟨n, hn⟩ := h; ⟨n, hn n (Nat.le_refl n)⟩
/-- a test that goes on as one of its branches -/
theorem XC.goes {x a : ACode} {fr fr1 : List AV} {st st1 : St} {out : Out} (h : ∃ n0, ∀ n, n0 ≤ n → exec (callF tbl n) n x fr st = exec (callF tbl n) n a fr1 st1) (h' : XC tbl a fr1 st1 out) : XC tbl x fr st out := by
  obtain ⟨n, hn⟩ := h
  obtain ⟨m, hm⟩ := h'.ge
  exact ⟨max n m, by rw [hn _ (Nat.le_max_left n m)]; exact hm _ (Nat.le_max_right n m)⟩

/-- a function's answer, out of its body's -/
theorem Ev.of_body {f : Nat} {fn : AFn} {as : List AV} {st : St} {e : Ex} {fr' : List AV} {st' : St} {r : AV × St} (htb : tbl f = some fn) (he : fn.ext = none) (hl : as.length = fn.np)
    (h : XC tbl fn.code (as ++ List.replicate (fn.nv - fn.np) .undef) st (e, fr', st')) (hr : finK fn.results (some (e, fr', st')) = some r) : Ev tbl f as st r.1 r.2 := by
  obtain ⟨n, hn⟩ := h
  refine ⟨n + 1, ?_⟩
  simp only [callF, htb, he]
  rw [run_finK _ _ _ _ _ hl, hn, hr]
theorem Ev.of_ext {f : Nat} {fn : AFn} {as : List AV} {st : St} {e : List AV → St → Option (AV × St)} {r : AV × St} (htb : tbl f = some fn) (he : fn.ext = some e) (h : e as st = some r) : Ev tbl f as st r.1 r.2 :=
  ⟨1, by simp only [callF, htb, he]; exact h⟩
end
end Go.Cb
/-
  THE ABSTRACT MACHINE, part 33: with enough fuel it comes to something of that sort.
-/
set_option maxRecDepth 4000
set_option linter.unusedVariables false
namespace Go.Cb
open Classical

/-- with enough fuel it comes to something of that sort -/
def WC {α : Type} (c : Nat → Option α) (Q : α → Prop) : Prop := ∃ n0 a, (∀ n, n0 ≤ n → c n = some a) ∧ Q a
/-- a call comes to something of that sort -/
def EvQ (tbl : Nat → Option AFn) (f : Nat) (as : List AV) (st : St) (Q : AV → St → Prop) : Prop := ∃ r st', Ev tbl f as st r st' ∧ Q r st'

theorem WC.ret {α : Type} {a : α} {Q : α → Prop} (h : Q a) : WC (fun _ => some a) Q := ⟨0, a, fun _ _ => rfl, h⟩
theorem WC.mono {α : Type} {c : Nat → Option α} {P Q : α → Prop} (h : WC c P) (hq : ∀ a, P a → Q a) : WC c Q :=
  let ⟨n, a, ha, hp⟩ := h; ⟨n, a, ha, hq a hp⟩
theorem WC.obind {α β : Type} {c : Nat → Option α} {k : Nat → α → Option β} {P : α → Prop} {Q : β → Prop} (h : WC c P) (hk : ∀ a, P a → WC (fun n => k n a) Q) : WC (fun n => Go.Cb.obind (c n) (k n)) Q := by
  obtain ⟨n, a, ha, hp⟩ := h
  obtain ⟨m, b, hb, hq⟩ := hk a hp
  refine ⟨max n m, b, fun j hj => ?_, hq⟩
  show Go.Cb.obind (c j) (k j) = some b
  rw [ha j (by omega), obind_some]
  exact hb j (Nat.le_trans (Nat.le_max_right n m) hj)
theorem EvQ.mono {tbl : Nat → Option AFn} {f : Nat} {as : List AV} {st : St} {P Q : AV → St → Prop} (h : EvQ tbl f as st P) (hq : ∀ r st', P r st' → Q r st') : EvQ tbl f as st Q :=
  let ⟨r, st', he, hp⟩ := h; ⟨r, st', he, hq r st' hp⟩

section
variable {tbl : Nat → Option AFn}
theorem WC.call {β : Type} {f : Nat} {as as' : List AV} {bx : AV} {st : St} {k : Nat → AV × St → Option β} {P : AV → St → Prop} {Q : β → Prop}
    (h : EvQ tbl f as' st P) (hp : allPlain as = true) (hw : as.map AV.weak = as') (hk : ∀ r st', P r st' → WC (fun n => k n (r, st')) Q) : WC (fun n => Go.Cb.obind (p2 (semCall f (callF tbl n) as bx st)) (k n)) Q := by
  obtain ⟨r, st', he, hq⟩ := h
  obtain ⟨n0, h0⟩ := he.ge
  refine WC.obind (P := fun x => x = (r, st')) ⟨n0, (r, st'), fun n hn => ?_, rfl⟩ (fun a ha => ha ▸ hk r st' hq)
  simp only [semCall, hp, if_true, hw, h0 n hn, Option.map_some, p2_some]
theorem WC.callV {β : Type} {f : Nat} {first caps as as' : List AV} {bx : AV} {st : St} {k : Nat → AV × St → Option β} {P : AV → St → Prop} {Q : β → Prop}
    (h : EvQ tbl f as' st P) (hp : allPlain as = true) (hw : (first ++ as ++ caps).map AV.weak = as') (hk : ∀ r st', P r st' → WC (fun n => k n (r, st')) Q) : WC (fun n => Go.Cb.obind (p2 (semCallV (callF tbl n) (.func f first caps :: as) bx st)) (k n)) Q := by
  obtain ⟨r, st', he, hq⟩ := h
  obtain ⟨n0, h0⟩ := he.ge
  refine WC.obind (P := fun x => x = (r, st')) ⟨n0, (r, st'), fun n hn => ?_, rfl⟩ (fun a ha => ha ▸ hk r st' hq)
  simp only [semCallV, hp, if_true, hw, h0 n hn, Option.map_some, p2_some]

/-- what a block makes of how its code ended -/
def blkOut (id : Nat) (o : Out) : Out := match o with
  | (.exit id', fr, st) => if id' = id then (.normal, fr, st) else (.exit id', fr, st)
  | o => o
def blkK (id : Nat) (x : Option Out) : Option Out := match x with
  | some o => some (blkOut id o)
  | none => none
theorem blkK_some (id : Nat) (o : Out) : blkK id (some o) = some (blkOut id o) := spine rfl
theorem blkOut_normal (id : Nat) (fr : List AV) (st : St) : blkOut id (.normal, fr, st) = (.normal, fr, st) := spine rfl
theorem blkOut_ret (id : Nat) (fr : List AV) (st : St) : blkOut id (.ret, fr, st) = (.ret, fr, st) := spine rfl
theorem blkOut_exit (id id' : Nat) (fr : List AV) (st : St) : blkOut id (.exit id', fr, st) = if id' = id then (.normal, fr, st) else (.exit id', fr, st) := spine rfl
theorem blkK_congr {id : Nat} {x x' : Option Out} (h : x = x') : blkK id x = blkK id x' := by rw [h]
theorem exec_blkK (call : CallT) (n id : Nat) (a : ACode) (fr : List AV) (st : St) : exec call n (.blk id a) fr st = blkK id (exec call n a fr st) := by
  simp only [exec, blkK]
  cases exec call n a fr st with
  | none => rfl
  | some o =>
    obtain ⟨e, fr', st'⟩ := o
    cases e with
    | normal => rfl
    | ret => rfl
    | exit id' => by_cases h : id' = id <;> simp [blkOut, h]
theorem WC.seqK {c : Nat → Option Out} {g : Nat → List AV → St → Option Out} {P Q : Out → Prop} (h : WC c P) (hk : ∀ o, P o → WC (fun n => Go.Cb.seqK (some o) (g n)) Q) : WC (fun n => Go.Cb.seqK (c n) (g n)) Q := by
  obtain ⟨n, a, ha, hp⟩ := h
  obtain ⟨m, b, hb, hq⟩ := hk a hp
  exact ⟨max n m, b, fun j hj => by dsimp only; rw [ha j (by omega)]; exact hb j (by omega), hq⟩
theorem WC.blkK {id : Nat} {c : Nat → Option Out} {Q : Out → Prop} (h : WC c (fun o => Q (blkOut id o))) : WC (fun n => Go.Cb.blkK id (c n)) Q := by
  obtain ⟨n, a, ha, hp⟩ := h
  exact ⟨n, _, fun j hj => by dsimp only; rw [ha j hj, blkK_some], hp⟩
theorem WC.finK {rs : List ResK} {c : Nat → Option Out} {P : Out → Prop} {Q : AV × St → Prop} (h : WC c P) (hk : ∀ o, P o → WC (fun n => Go.Cb.finK rs (some o)) Q) : WC (fun n => Go.Cb.finK rs (c n)) Q := by
  obtain ⟨n, a, ha, hp⟩ := h
  obtain ⟨m, b, hb, hq⟩ := hk a hp
  exact ⟨max n m, b, fun j hj => by dsimp only; rw [ha j (by omega)]; exact hb j (by omega), hq⟩

theorem WC.of_xc {x : ACode} {fr : List AV} {st : St} {out : Out} {Q : Out → Prop} (h : XC tbl x fr st out) (hq : Q out) : WC (fun n => exec (callF tbl n) n x fr st) Q := by
  obtain ⟨n, hn⟩ := h.ge
  exact ⟨n, out, hn, hq⟩
theorem WC.xc {x : ACode} {fr : List AV} {st : St} {Q : Out → Prop} (h : WC (fun n => exec (callF tbl n) n x fr st) Q) : ∃ out, XC tbl x fr st out ∧ Q out := by
  obtain ⟨n, a, ha, hq⟩ := h
  exact ⟨a, ⟨n, ha n (Nat.le_refl n)⟩, hq⟩

/-- a loop, by what holds ahead of each round, and a number that falls -/
theorem WC.loop {x : ACode} {Q : Out → Prop} (I : Nat → List AV → St → Prop) {m : Nat} {fr : List AV} {st : St} (h0 : I m fr st)
    (hI : ∀ m fr st, I m fr st → WC (fun n => exec (callF tbl n) n x fr st) (fun o => (∃ m' fr' st', o = (.normal, fr', st') ∧ m' < m ∧ I m' fr' st') ∨ (o.1 ≠ .normal ∧ Q o))) :
    WC (fun n => exec (callF tbl n) n (.loop x) fr st) Q := by
  have key : ∀ m fr st, I m fr st → ∃ out, LX tbl x fr st out ∧ Q out := by
    intro m
    induction m using Nat.strongRecOn with
    | ind m ih =>
      intro fr st h
      obtain ⟨out, hx, hc⟩ := (hI m fr st h).xc
      rcases hc with ⟨m', fr', st', rfl, hlt, hi⟩ | ⟨hne, hq⟩
      · obtain ⟨out, hl, hq⟩ := ih m' hlt fr' st' hi
        exact ⟨out, LX.step hx hl, hq⟩
      · obtain ⟨e, fr', st'⟩ := out
        exact ⟨_, LX.done hx hne, hq⟩
  obtain ⟨out, hl, hq⟩ := key m fr st h0
  exact WC.of_xc (XC.loop hl) hq

/-- a function's answer -/
theorem EvQ.of_body {f : Nat} {fn : AFn} {as : List AV} {st : St} {Q : AV → St → Prop} (htb : tbl f = some fn) (he : fn.ext = none) (hl : as.length = fn.np)
    (h : WC (fun n => Go.Cb.finK fn.results (exec (callF tbl n) n fn.code (as ++ List.replicate (fn.nv - fn.np) .undef) st)) (fun r => Q r.1 r.2)) : EvQ tbl f as st Q := by
  obtain ⟨n, a, ha, hq⟩ := h
  refine ⟨a.1, a.2, ⟨n + 1, ?_⟩, hq⟩
  simp only [callF, htb, he]
  rw [run_finK _ _ _ _ _ hl]
  exact ha n (Nat.le_refl n)
theorem EvQ.of_ext {f : Nat} {fn : AFn} {as : List AV} {st : St} {e : List AV → St → Option (AV × St)} {r : AV × St} {Q : AV → St → Prop} (htb : tbl f = some fn) (he : fn.ext = some e) (h : e as st = some r) (hq : Q r.1 r.2) : EvQ tbl f as st Q :=
  ⟨_, _, Ev.of_ext htb he h, hq⟩
end
end Go.Cb
/-
  THE ABSTRACT MACHINE, part 34: rules for loops within blocks, and for a body's end.
-/
set_option maxRecDepth 4000
set_option linter.unusedVariables false
namespace Go.Cb
open Classical
section
variable {tbl : Nat → Option AFn}

theorem WC.next {I : Nat → List AV → St → Prop} {m m' : Nat} {fr' : List AV} {st' : St} {R : Out → Prop} (hm : m' < m) (hi : I m' fr' st') :
    WC (fun _ => some (Ex.normal, fr', st')) (fun o => (∃ m' fr' st', o = (.normal, fr', st') ∧ m' < m ∧ I m' fr' st') ∨ (o.1 ≠ .normal ∧ R o)) := WC.ret (Or.inl ⟨m', fr', st', rfl, hm, hi⟩)
theorem WC.leave {I : Nat → List AV → St → Prop} {m id : Nat} {fr' : List AV} {st' : St} {R : Out → Prop} (h : R (.exit id, fr', st')) :
    WC (fun _ => some (Ex.exit id, fr', st')) (fun o => (∃ m' fr' st', o = (.normal, fr', st') ∧ m' < m ∧ I m' fr' st') ∨ (o.1 ≠ .normal ∧ R o)) := WC.ret (Or.inr ⟨fun h => by simp at h, h⟩)
theorem WC.leaveR {I : Nat → List AV → St → Prop} {m : Nat} {fr' : List AV} {st' : St} {R : Out → Prop} (h : R (.ret, fr', st')) :
    WC (fun _ => some (Ex.ret, fr', st')) (fun o => (∃ m' fr' st', o = (.normal, fr', st') ∧ m' < m ∧ I m' fr' st') ∨ (o.1 ≠ .normal ∧ R o)) := WC.ret (Or.inr ⟨fun h => by simp at h, h⟩)

/-- a function's answer, told at its body's end -/
theorem EvQ.body {f : Nat} {fn : AFn} {as : List AV} {st : St} {Q : AV → St → Prop} (htb : tbl f = some fn) (he : fn.ext = none) (hl : as.length = fn.np)
    (h : WC (fun n => exec (callF tbl n) n fn.code (as ++ List.replicate (fn.nv - fn.np) .undef) st) (fun o => ∃ r st', Go.Cb.finK fn.results (some o) = some (r, st') ∧ Q r st')) : EvQ tbl f as st Q :=
  EvQ.of_body htb he hl (WC.finK h fun o ⟨r, st', hr, hq⟩ => ⟨0, (r, st'), fun _ _ => hr, hq⟩)
end
end Go.Cb
/-
  THE ABSTRACT MACHINE, part 35: small laws on numbers and rows, for walks with unknowns.
-/
set_option maxRecDepth 4000
set_option linter.unusedVariables false
namespace Go.Cb
open Classical

theorem wrap64 {n : Int} (h1 : -9223372036854775808 ≤ n) (h2 : n < 9223372036854775808) : wrapA .i64 n = n := by
  rw [wrapA_eq]
  simp only [IntKind.wrap, IntKind.signed, IntKind.bits, Bool.true_and]
  split
  · rename_i h; have h := of_decide_eq_true h; omega
  · rename_i h; have h : ¬ (n % 2 ^ 64 ≥ 2 ^ (64 - 1)) := fun x => h (decide_eq_true x); omega
theorem inc64 {i : Nat} (h : i + 1 < 2 ^ 63) : wrapA .i64 (addI (i : Int) 1) = ((i + 1 : Nat) : Int) := by
  rw [addI_eq, wrap64 (by omega) (by omega)]
  omega
theorem ltN (i j : Nat) : ltI (i : Int) (j : Int) = decide (i < j) := by
  rw [ltI_eq]
  by_cases h : i < j
  · simp [h]
  · simp [h]
theorem eqNN (i j : Nat) : eqI (i : Int) (j : Int) = decide (i = j) := by
  rw [eqI_eq]
  by_cases h : i = j
  · simp [h]
  · simp [h]; omega
theorem bool_tf (b : Bool) : b = true ∨ b = false := by cases b <;> simp
theorem rowsOk_all {sz : Nat} {xs : List (List AV)} (h : ∀ r ∈ xs, r.length = sz) : rowsOk sz xs = true := by
  cases xs with
  | nil => rfl
  | cons r rs => simp [rowsOk, h r (by simp)]
end Go.Cb
/-
  THE ABSTRACT MACHINE, part 36: guarded values, reckoned without splitting; copies, form by form; tests as rules.
-/
set_option maxRecDepth 4000
set_option linter.unusedVariables false
namespace Go.Cb
open Classical

/-- a value that is there where its guard is so -/
def gV (x : AV) (want : Bool) (v : AV) : AV := match x with
  | .bool b => if b == want then v else .tuple []
  | _ => .tuple []
theorem gV_tt (v : AV) : gV (.bool true) true v = v := spine rfl
theorem gV_ff (v : AV) : gV (.bool false) false v = v := spine rfl
theorem gV_tf (v : AV) : gV (.bool true) false v = .tuple [] := spine rfl
theorem gV_ft (v : AV) : gV (.bool false) true v = .tuple [] := spine rfl
theorem gV_none (want : Bool) (v : AV) : gV (.tuple []) want v = .tuple [] := spine rfl
theorem gv_some (c want : Bool) (v : AV) : gv (.bool c) want (some v) = some (gV (.bool c) want v) := by
  cases c <;> cases want <;> rfl
theorem gv_some2 (x : AV) (w b want : Bool) (v : AV) : gv (gV x w (.bool b)) want (some v) = some (gV (gV x w (.bool b)) want v) := by
  unfold gV
  cases x with
  | bool c => cases c <;> cases w <;> cases b <;> cases want <;> rfl
  | _ => rfl
theorem gv_congr2 {x x' : AV} {want : Bool} {e e' : Option AV} (h1 : x = x') (h2 : x' = .bool want → e = e') : gv x want e = gv x' want e' := by
  subst h1
  unfold gv
  split
  · rename_i b
    by_cases hb : b = want
    · rw [h2 (by rw [hb])]
    · simp [hb]
  · rfl
  · rfl
theorem weak_gV (x : AV) (w : Bool) (v : AV) : (gV x w v).weak = gV x w v.weak := by
  unfold gV
  cases x with
  | bool c => dsimp only; split <;> rfl
  | _ => rfl
theorem strip_gV (x : AV) (w : Bool) (v : AV) : (gV x w v).strip = gV x w v.strip := by
  unfold gV
  cases x with
  | bool c => dsimp only; split <;> rfl
  | _ => rfl
theorem stripB_gV (x : AV) (w : Bool) (v : AV) : (gV x w v).stripB = gV x w v.stripB := by
  unfold gV
  cases x with
  | bool c => dsimp only; split <;> rfl
  | _ => rfl
theorem pick_t (call : CallT) (a b bx : AV) (st : St) : p1 (semPick call [.bool true, a, b] bx st) = if a.plain then some a else none := by
  unfold semPick; dsimp only; by_cases h : a.plain = true <;> simp [h, p1]
theorem pick_f (call : CallT) (a b bx : AV) (st : St) : p1 (semPick call [.bool false, a, b] bx st) = if b.plain then some b else none := by
  unfold semPick; dsimp only; by_cases h : b.plain = true <;> simp [h, p1]
theorem pick_or (call : CallT) (c d : Bool) (bx : AV) (st : St) : p1 (semPick call [.bool c, .bool true, gV (.bool c) false (.bool d)] bx st) = some (.bool (c || d)) := by
  cases c <;> rfl
theorem pick_and (call : CallT) (c d : Bool) (bx : AV) (st : St) : p1 (semPick call [.bool c, gV (.bool c) true (.bool d), .bool false] bx st) = some (.bool (c && d)) := by
  cases c <;> rfl

theorem weak_bool (b : Bool) : (AV.bool b).weak = .bool b := spine rfl
theorem weak_int (k : IntKind) (n : Int) : (AV.int k n).weak = .int k n := spine rfl
theorem weak_str (s : List Nat) : (AV.str s).weak = .str s := spine rfl
theorem weak_list (o : Bool) (xs : List (List AV)) : (AV.list o xs).weak = .list false xs := spine rfl
theorem weak_ptr (o f : Nat) : (AV.ptr o f).weak = .ptr o f := spine rfl
theorem weak_nilp : AV.nilp.weak = .nilp := spine rfl
theorem weak_ro (cs : List AV) : (AV.ro cs).weak = .ro cs := spine rfl
theorem weak_loc (i f : Nat) : (AV.loc i f).weak = .loc i f := spine rfl
theorem weak_map (o : Nat) : (AV.map o).weak = .map o := spine rfl
theorem weak_nilm : AV.nilm.weak = .nilm := spine rfl
theorem weak_func (f : Nat) (a b : List AV) : (AV.func f a b).weak = .func f a b := spine rfl
theorem weak_nilf : AV.nilf.weak = .nilf := spine rfl
theorem weak_agg (cs : List AV) : (AV.agg cs).weak = .agg (cs.map AV.weak1) := spine rfl
theorem weak_sl (o f n s : Nat) : (AV.sl o f n s).weak = .sl o f n s := spine rfl
theorem weak_iface (t : Nat) (v : AV) : (AV.iface t v).weak = .iface t v := spine rfl
theorem weak_nili : AV.nili.weak = .nili := spine rfl
theorem weak_tuple (vs : List AV) : (AV.tuple vs).weak = .tuple vs := spine rfl
theorem weak_undef : AV.undef.weak = .undef := spine rfl
theorem weak_box (cs : List AV) : (AV.box cs).weak = .box cs := spine rfl
theorem weak1_bool (b : Bool) : (AV.bool b).weak1 = .bool b := spine rfl
theorem weak1_int (k : IntKind) (n : Int) : (AV.int k n).weak1 = .int k n := spine rfl
theorem weak1_str (s : List Nat) : (AV.str s).weak1 = .str s := spine rfl
theorem weak1_list (o : Bool) (xs : List (List AV)) : (AV.list o xs).weak1 = .list false xs := spine rfl
theorem weak1_sl (o f n s : Nat) : (AV.sl o f n s).weak1 = .sl o f n s := spine rfl
theorem weak1_func (f : Nat) (a b : List AV) : (AV.func f a b).weak1 = .func f a b := spine rfl
theorem weak1_ptr (o f : Nat) : (AV.ptr o f).weak1 = .ptr o f := spine rfl
theorem weak1_nilp : AV.nilp.weak1 = .nilp := spine rfl
theorem weak1_map (o : Nat) : (AV.map o).weak1 = .map o := spine rfl
theorem weak1_nilm : AV.nilm.weak1 = .nilm := spine rfl
theorem strip_bool (b : Bool) : (AV.bool b).strip = .bool b := spine rfl
theorem strip_int (k : IntKind) (n : Int) : (AV.int k n).strip = .int k n := spine rfl
theorem strip_str (s : List Nat) : (AV.str s).strip = .str s := spine rfl
theorem strip_list (o : Bool) (xs : List (List AV)) : (AV.list o xs).strip = .list o xs := spine rfl
theorem strip_ptr (o f : Nat) : (AV.ptr o f).strip = .ptr o f := spine rfl
theorem strip_nilp : AV.nilp.strip = .nilp := spine rfl
theorem strip_ro (cs : List AV) : (AV.ro cs).strip = .ro cs := spine rfl
theorem strip_loc (i f : Nat) : (AV.loc i f).strip = .undef := spine rfl
theorem strip_map (o : Nat) : (AV.map o).strip = .map o := spine rfl
theorem strip_nilm : AV.nilm.strip = .nilm := spine rfl
theorem strip_func (f : Nat) (a b : List AV) : (AV.func f a b).strip = .func f a b := spine rfl
theorem strip_nilf : AV.nilf.strip = .nilf := spine rfl
theorem strip_agg (cs : List AV) : (AV.agg cs).strip = .agg cs := spine rfl
theorem strip_sl (o f n s : Nat) : (AV.sl o f n s).strip = .sl o f n s := spine rfl
theorem strip_tuple (vs : List AV) : (AV.tuple vs).strip = .tuple vs := spine rfl
theorem strip_undef : AV.undef.strip = .undef := spine rfl
theorem stripB_bool (b : Bool) : (AV.bool b).stripB = .bool b := spine rfl
theorem stripB_int (k : IntKind) (n : Int) : (AV.int k n).stripB = .int k n := spine rfl
theorem stripB_str (s : List Nat) : (AV.str s).stripB = .str s := spine rfl
theorem stripB_list (o : Bool) (xs : List (List AV)) : (AV.list o xs).stripB = .list o xs := spine rfl
theorem stripB_ptr (o f : Nat) : (AV.ptr o f).stripB = .ptr o f := spine rfl
theorem stripB_nilp : AV.nilp.stripB = .nilp := spine rfl
theorem stripB_ro (cs : List AV) : (AV.ro cs).stripB = .ro cs := spine rfl
theorem stripB_loc (i f : Nat) : (AV.loc i f).stripB = .loc i f := spine rfl
theorem stripB_map (o : Nat) : (AV.map o).stripB = .map o := spine rfl
theorem stripB_nilm : AV.nilm.stripB = .nilm := spine rfl
theorem stripB_func (f : Nat) (a b : List AV) : (AV.func f a b).stripB = .func f a b := spine rfl
theorem stripB_nilf : AV.nilf.stripB = .nilf := spine rfl
theorem stripB_agg (cs : List AV) : (AV.agg cs).stripB = .agg cs := spine rfl
theorem weak_fresh (xs : List (List AV)) : (AV.fresh xs).weak = .fresh xs := spine rfl
theorem strip_fresh (xs : List (List AV)) : (AV.fresh xs).strip = .fresh xs := spine rfl
theorem stripB_fresh (xs : List (List AV)) : (AV.fresh xs).stripB = .fresh xs := spine rfl
theorem stripB_sl (o f n s : Nat) : (AV.sl o f n s).stripB = .sl o f n s := spine rfl
theorem stripB_tuple (vs : List AV) : (AV.tuple vs).stripB = .tuple vs := spine rfl
theorem stripB_undef : AV.undef.stripB = .undef := spine rfl

/-! what comes behind, as constants that wait: nothing of it is reckoned ahead of its time -/
def seqC {α : Type} (K : α → Option Out) (g : List AV → St → Option Out) (a : α) : Option Out := Go.Cb.seqK (K a) g
def blkC {α : Type} (id : Nat) (K : α → Option Out) (a : α) : Option Out := Go.Cb.blkK id (K a)
theorem seqC_x {α : Type} (K : α → Option Out) (g : List AV → St → Option Out) (a : α) : seqC K g a = Go.Cb.seqK (K a) g := spine rfl
theorem blkC_x {α : Type} (id : Nat) (K : α → Option Out) (a : α) : blkC id K a = Go.Cb.blkK id (K a) := spine rfl
theorem seqK_obindC {α : Type} (x : Option α) (f : α → Option Out) (g : List AV → St → Option Out) : Go.Cb.seqK (Go.Cb.obind x f) g = Go.Cb.obind x (seqC f g) := by cases x <;> rfl
theorem blkK_obindC {α : Type} (id : Nat) (x : Option α) (f : α → Option Out) : Go.Cb.blkK id (Go.Cb.obind x f) = Go.Cb.obind x (blkC id f) := by cases x <;> rfl

def exeT (call : CallT) (n : Nat) (a : ACode) (fr : List AV) (st : St) (_ : Unit) : Option Out := exec call n a fr st
def seqT (A : Unit → Option Out) (g : List AV → St → Option Out) (u : Unit) : Option Out := Go.Cb.seqK (A u) g
def blkT (id : Nat) (A : Unit → Option Out) (u : Unit) : Option Out := Go.Cb.blkK id (A u)
theorem exeT_x (call : CallT) (n : Nat) (a : ACode) (fr : List AV) (st : St) (u : Unit) : exeT call n a fr st u = exec call n a fr st := spine rfl
theorem seqT_x (A : Unit → Option Out) (g : List AV → St → Option Out) (u : Unit) : seqT A g u = Go.Cb.seqK (A u) g := spine rfl
theorem blkT_x (id : Nat) (A : Unit → Option Out) (u : Unit) : blkT id A u = Go.Cb.blkK id (A u) := spine rfl
def brT (c : AV) (A B : Unit → Option Out) : Option Out := match c with
  | .bool true => A ()
  | .bool false => B ()
  | _ => none
theorem brT_true (A B : Unit → Option Out) : brT (.bool true) A B = A () := spine rfl
theorem brT_false (A B : Unit → Option Out) : brT (.bool false) A B = B () := spine rfl
theorem brT_congr {c c' : AV} {A B : Unit → Option Out} (h : c = c') : brT c A B = brT c' A B := by rw [h]
theorem seqK_brT (c : AV) (A B : Unit → Option Out) (g : List AV → St → Option Out) : Go.Cb.seqK (brT c A B) g = brT c (seqT A g) (seqT B g) := by
  cases c <;> try rfl
  rename_i b; cases b <;> rfl
theorem blkK_brT (id : Nat) (c : AV) (A B : Unit → Option Out) : Go.Cb.blkK id (brT c A B) = brT c (blkT id A) (blkT id B) := by
  cases c <;> try rfl
  rename_i b; cases b <;> rfl
theorem br_brT (call : CallT) (n : Nat) (c : AV) (a b : ACode) (fr : List AV) (st : St) : Go.Cb.br c (exec call n a fr st) (exec call n b fr st) = brT c (exeT call n a fr st) (exeT call n b fr st) := by
  cases c <;> try rfl
theorem exec_testT (call : CallT) (n : Nat) (kill : List Nat) (ps : List AOper) (c : Opd) (a b : ACode) (fr : List AV) (st : St) :
    exec call n (.test kill ps c a b) fr st = runK call ps ⟨killAll kill fr, fun _ => .undef, st⟩ fun σ => brT (c.read σ) (exeT call n a σ.fr σ.st) (exeT call n b σ.fr σ.st) := by
  rw [exec_test]
  simp only [br_brT]
def loopO (call : CallT) (n : Nat) (x : ACode) (fr : List AV) (st : St) : Option Out := exec call n (.loop x) fr st
theorem exec_loopO (call : CallT) (n : Nat) (x : ACode) (fr : List AV) (st : St) : exec call n (.loop x) fr st = Go.Cb.obind (loopO call n x fr st) some := by
  unfold loopO; cases exec call n (.loop x) fr st <;> rfl

theorem WC.br {c : Bool} {A B : Nat → Unit → Option Out} {Q : Out → Prop} (ht : c = true → WC (fun n => A n ()) Q) (hf : c = false → WC (fun n => B n ()) Q) : WC (fun n => brT (.bool c) (A n) (B n)) Q := by
  cases c with
  | true => exact ht rfl
  | false => exact hf rfl
/-- a loop, by what holds ahead of each round, and a number that falls; R: what holds behind it -/
theorem WC.loopR {tbl : Nat → Option AFn} {β : Type} {x : ACode} {K : Nat → Out → Option β} {Q : β → Prop} (I : Nat → List AV → St → Prop) {m : Nat} {fr : List AV} {st : St} (h0 : I m fr st)
    (hI : ∀ m fr st, I m fr st → WC (fun n => exec (callF tbl n) n x fr st) (fun o => (∃ m' fr' st', o = (.normal, fr', st') ∧ m' < m ∧ I m' fr' st') ∨ (o.1 ≠ .normal ∧ WC (fun n => K n o) Q))) :
    WC (fun n => Go.Cb.obind (loopO (callF tbl n) n x fr st) (K n)) Q := WC.obind (WC.loop I h0 hI) fun _ ho => ho
theorem WC.g2 {β : Type} {c want : Bool} {st : St} {E : Nat → Option (AV × St)} {k : Nat → AV × St → Option β} {Q : β → Prop} (ht : c = want → WC (fun n => Go.Cb.obind (E n) (k n)) Q) (hf : c = !want → WC (fun n => k n (.tuple [], st)) Q) :
    WC (fun n => Go.Cb.obind (gv2 (.bool c) want st (E n)) (k n)) Q := by
  by_cases h : c = want
  · subst h
    have e : ∀ n, gv2 (.bool c) c st (E n) = E n := fun n => by cases c <;> rfl
    simp only [e]
    exact ht rfl
  · have h' : c = !want := by cases c <;> cases want <;> simp_all
    have e : ∀ n, gv2 (.bool c) want st (E n) = some (.tuple [], st) := fun n => by subst h'; cases want <;> rfl
    simp only [e, obind_some]
    exact hf h'
end Go.Cb
/-
  THE ABSTRACT MACHINE, part 37: what operations come to, form by form; all of it under one name.
-/
set_option maxRecDepth 4000
set_option linter.unusedVariables false
set_option linter.unusedSimpArgs false
namespace Go.Cb
/-- a temporary, read -/
def W (a : AV) : AV := AV.weak (AV.stripB a)
def brE (c : AV) (call : CallT) (n : Nat) (a b : ACode) (fr : List AV) (st : St) : Option Out := brT c (exeT call n a fr st) (exeT call n b fr st)
/-- a move -/
def m1 {β : Type} (a : AV) (f : AV → Option β) : Option β := obind (p1 (some (a, AV.undef, ([] : St)))) f
/-- a guarded move -/
def gm {β : Type} (x : AV) (w : Bool) (a : AV) (f : AV → Option β) : Option β := obind (gv x w (some a)) f
theorem m1_congr {β : Type} {a a' : AV} {f : AV → Option β} (h : a = a') : m1 a f = m1 a' f := by rw [h]
theorem gm_congr {β : Type} {x x' a a' : AV} {w : Bool} {f : AV → Option β} (h1 : x = x') (h2 : x' = .bool w → a = a') : gm x w a f = gm x' w a' f := by
  unfold gm
  rw [gv_congr2 (e := some a) (e' := some a') h1 (fun h => by rw [h2 h])]
end Go.Cb
namespace Go.Cb.R
open Go.Cb
theorem mv_e (call : CallT) (bx : AV) (st : St) (a : AV) : semMv call [a] bx st = some (a, bx, st) := spine rfl
theorem nilchk_ptr (call : CallT) (bx : AV) (st : St) (o f : Nat) : semNilchk call [.ptr o f] bx st = some (.ptr o f, bx, st) := spine rfl
theorem nilchk_loc (call : CallT) (bx : AV) (st : St) (o f : Nat) : semNilchk call [.loc o f] bx st = some (.loc o f, bx, st) := spine rfl
theorem nilchk_ro (call : CallT) (bx : AV) (st : St) (cs : List AV) : semNilchk call [.ro cs] bx st = some (.ro cs, bx, st) := spine rfl
theorem nilchk_func (call : CallT) (bx : AV) (st : St) (f : Nat) (a b : List AV) : semNilchk call [.func f a b] bx st = some (.func f a b, bx, st) := spine rfl
theorem alloc_e (call : CallT) (st : St) (zero : List AV) : semAlloc zero call [] .undef st = some (.undef, .box zero, st) := spine rfl
theorem boxV_e (call : CallT) (st : St) (a : AV) : semBoxV call [a] .undef st = if a.plain then some (.undef, .box a.cellsW, st) else none := spine rfl
theorem allocO_e (call : CallT) (bx : AV) (st : St) (zero : List AV) : semAllocO zero call [] bx st = some (.ptr st.length 0, bx, st ++ [.cells zero]) := spine rfl
theorem boxO_e (call : CallT) (bx : AV) (st : St) (a : AV) : semBoxO call [a] bx st = if a.plain then some (.ptr st.length 0, bx, st ++ [.cells a.cellsW]) else none := spine rfl
theorem build_e (call : CallT) (bx : AV) (st : St) (zero : List AV) (offs : List (Nat × Nat)) (as : List AV) : semBuild zero offs call as bx st = (fillSegs offs as zero).map fun cs => (.agg cs, bx, st) := spine rfl
theorem bslice_e (call : CallT) (bx : AV) (st : St) (sz : Nat) (zero : List (List AV)) (at_ : List Nat) (as : List AV) : semBslice sz zero at_ call as bx st = (fillRows sz at_ as zero).map fun rs => (.list true rs, bx, st) := spine rfl
theorem ldLc_e (call : CallT) (st : St) (i off n : Nat) (agg : Bool) (cs : List AV) : semLdLc i agg n call [.loc i off] (.box cs) st = (takeVal agg n (cs.drop off)).map (fun v => (v, .box cs, st)) := by unfold semLdLc; simp only [if_true]
theorem ldSt_e (call : CallT) (bx : AV) (st : St) (o off n : Nat) (agg : Bool) : semLdSt agg n call [.ptr o off] bx st = match st[o]? with | some (.cells cs) => (takeVal agg n (cs.drop off)).map (fun v => (v, bx, st)) | _ => none := spine rfl
theorem ldRo_e (call : CallT) (bx : AV) (st : St) (n : Nat) (agg : Bool) (cs : List AV) : semLdRo agg n call [.ro cs] bx st = (takeVal agg n cs).map (fun v => (v, bx, st)) := spine rfl
theorem ldAn_ro (call : CallT) (bx : AV) (st : St) (n : Nat) (agg : Bool) (cs : List AV) : semLdAn agg n call [.ro cs] bx st = (takeVal agg n cs).map (fun v => (v, bx, st)) := spine rfl
theorem ldAn_ptr (call : CallT) (bx : AV) (st : St) (o off n : Nat) (agg : Bool) : semLdAn agg n call [.ptr o off] bx st = match st[o]? with | some (.cells cs) => (takeVal agg n (cs.drop off)).map (fun v => (v, bx, st)) | _ => none := spine rfl
theorem ldLcS_e (call : CallT) (st : St) (i off : Nat) (cs : List AV) : semLdLcS i call [.loc i off] (.box cs) st = match cs[off]? with | some c => some (c, .box (cs.set off c.weak1), st) | none => none := by unfold semLdLcS; simp only [if_true]; rfl
theorem ldStS_e (call : CallT) (bx : AV) (st : St) (o off : Nat) : semLdStS call [.ptr o off] bx st = match st[o]? with | some (.cells cs) => (match cs[off]? with | some c => some (c, bx, st.set o (.cells (cs.set off c.weak1))) | none => none) | _ => none := spine rfl
theorem stLc_e (call : CallT) (st : St) (i n off : Nat) (x : AV) (cs : List AV) : semStLc i n call [.loc i off, x] (.box cs) st = if x.plain = true ∧ x.cells.length = n ∧ off + n ≤ cs.length then some (.tuple [], .box (setSeg cs off x.cells), st) else none := by unfold semStLc; simp only [true_and]
theorem stSt_e (call : CallT) (bx : AV) (st : St) (o off n : Nat) (x : AV) : semStSt n call [.ptr o off, x] bx st = match st[o]? with | some (.cells cs) => (if x.plain = true ∧ x.cells.length = n ∧ off + n ≤ cs.length then some (.tuple [], bx, st.set o (.cells (setSeg cs off x.cells))) else none) | _ => none := by unfold semStSt; simp only [fL_eq]; rfl
theorem fad_ptr (call : CallT) (bx : AV) (st : St) (off o f : Nat) : semFad off call [.ptr o f] bx st = some (.ptr o (f + off), bx, st) := spine rfl
theorem fad_loc (call : CallT) (bx : AV) (st : St) (off o f : Nat) : semFad off call [.loc o f] bx st = some (.loc o (f + off), bx, st) := spine rfl
theorem fad_ro (call : CallT) (bx : AV) (st : St) (off : Nat) (cs : List AV) : semFad off call [.ro cs] bx st = some (.ro (cs.drop off), bx, st) := spine rfl
theorem fld_e (call : CallT) (bx : AV) (st : St) (off n : Nat) (agg : Bool) (cs : List AV) : semFld off n agg call [.agg cs] bx st = if off + n ≤ cs.length then (takeVal agg n (cs.drop off)).map (fun v => (v, bx, st)) else none := spine rfl
theorem iad_e (call : CallT) (bx : AV) (st : St) (sz : Nat) (w : Bool) (xs : List (List AV)) (k : IntKind) (i : Int) : semIad sz call [.list w xs, .int k i] bx st = if 0 ≤ i then (match xs[i.toNat]? with | some r => if r.length = sz then some (.ro r, bx, st) else none | none => none) else none := spine rfl
theorem iad_sl (call : CallT) (bx : AV) (st : St) (sz o f n s : Nat) (k : IntKind) (i : Int) : semIad sz call [.sl o f n s, .int k i] bx st = if 0 ≤ i ∧ i < (n : Int) ∧ s = sz then some (.ptr o (f + i.toNat * sz), bx, st) else none := spine rfl
theorem lenL_sl (call : CallT) (bx : AV) (st : St) (o f n s : Nat) : semLenL call [.sl o f n s] bx st = some (.int .i64 n, bx, st) := spine rfl
theorem bsliceM_e (call : CallT) (bx : AV) (st : St) (sz : Nat) (zero : List (List AV)) (at_ : List Nat) (as : List AV) : semBsliceM sz zero at_ call as bx st = (fillRowsM sz at_ as zero).map fun rs => (.fresh rs, bx, st) := spine rfl
theorem bsliceO_e (call : CallT) (bx : AV) (st : St) (sz : Nat) (zero : List (List AV)) (at_ : List Nat) (as : List AV) : semBsliceO sz zero at_ call as bx st = (fillRowsM sz at_ as zero).map fun rs => (.sl st.length 0 zero.length sz, bx, st ++ [.cells rs.flatten]) := spine rfl
theorem fillRowsM_n (sz : Nat) (rs : List (List AV)) : fillRowsM sz [] [] rs = some rs := spine rfl
theorem fillRowsM_c (sz i : Nat) (is : List Nat) (p : AV) (ps : List AV) (rs : List (List AV)) : fillRowsM sz (i :: is) (p :: ps) rs = if p.plain = true ∧ p.cells.length = sz ∧ i < rs.length then fillRowsM sz is ps (rs.set i (p.cells.map AV.cellW1)) else none := spine rfl
theorem appM_nil (call : CallT) (bx : AV) (st : St) (sz bytes : Nat) (ys : List (List AV)) (gs : List AV) : semAppM sz bytes call (.list true [] :: .fresh ys :: gs) bx st = if ys.isEmpty = false ∧ rowsOk sz ys = true ∧ ys.length * bytes ≤ 2 ^ 47 ∧ aside none st.length gs = true then some (.sl st.length 0 ys.length sz, bx, st ++ [.cells ys.flatten]) else none := spine rfl
theorem appM_sl (call : CallT) (bx : AV) (st : St) (sz bytes o n s : Nat) (ys : List (List AV)) (gs : List AV) : semAppM sz bytes call (.sl o 0 n s :: .fresh ys :: gs) bx st = match st[o]? with | some (.cells xs) => (if s = sz ∧ ys.isEmpty = false ∧ rowsOk sz ys = true ∧ xs.length = n * sz ∧ (n + ys.length) * bytes ≤ 2 ^ 47 ∧ aside (some o) st.length gs = true then some (.sl st.length 0 (n + ys.length) sz, bx, st.set o .dead ++ [.cells (xs ++ ys.flatten)]) else none) | _ => none := spine rfl
theorem aside_n (o : Option Nat) (n : Nat) : aside o n [] = true := spine rfl
theorem aside_p (o : Option Nat) (n p f : Nat) (gs : List AV) : aside o n (.ptr p f :: gs) = (Nat.blt p n && (match o with | some o => !Nat.beq p o | none => true) && aside o n gs) := spine rfl
theorem flat_n {α : Type} : ([] : List (List α)).flatten = [] := spine rfl
theorem flat_c {α : Type} (a : List α) (l : List (List α)) : (a :: l).flatten = a ++ l.flatten := spine rfl
theorem b2s_e (call : CallT) (bx : AV) (st : St) (w : Bool) (xs : List (List AV)) : semB2s call [.list w xs] bx st = (bytesOf xs).map fun s => (.str s, bx, st) := spine rfl
theorem bytesOf_n : bytesOf [] = some [] := spine rfl
theorem bytesOf_c (n : Int) (rs : List (List AV)) : bytesOf ([.int .u8 n] :: rs) = if 0 ≤ n ∧ n < 256 then (bytesOf rs).map (n.toNat :: ·) else none := spine rfl
theorem iadA_ro (call : CallT) (bx : AV) (st : St) (len sz : Nat) (cs : List AV) (k : IntKind) (i : Int) : semIadA len sz call [.ro cs, .int k i] bx st = if 0 ≤ i ∧ i < (len : Int) then some (.ro (cs.drop (i.toNat * sz)), bx, st) else none := spine rfl
theorem iadA_ptr (call : CallT) (bx : AV) (st : St) (len sz o f : Nat) (k : IntKind) (i : Int) : semIadA len sz call [.ptr o f, .int k i] bx st = if 0 ≤ i ∧ i < (len : Int) then some (.ptr o (f + i.toNat * sz), bx, st) else none := spine rfl
theorem iadA_loc (call : CallT) (bx : AV) (st : St) (len sz o f : Nat) (k : IntKind) (i : Int) : semIadA len sz call [.loc o f, .int k i] bx st = if 0 ≤ i ∧ i < (len : Int) then some (.loc o (f + i.toNat * sz), bx, st) else none := spine rfl
theorem idxS_e (call : CallT) (bx : AV) (st : St) (s : List Nat) (k : IntKind) (i : Int) : semIdxS call [.str s, .int k i] bx st = if 0 ≤ i then (match s[i.toNat]? with | some b => some (.int .u8 b, bx, st) | none => none) else none := spine rfl
theorem slS_e (call : CallT) (bx : AV) (st : St) (lo hi : Bool) (s : List Nat) (r : List AV) : semSlS lo hi call (.str s :: r) bx st = (bounds lo hi r s.length).map fun p => (.str ((s.take p.2).drop p.1), bx, st) := spine rfl
theorem slL_e (call : CallT) (bx : AV) (st : St) (sz : Nat) (lo hi : Bool) (w : Bool) (xs : List (List AV)) (r : List AV) : semSlL sz lo hi call (.list w xs :: r) bx st = if rowsOk sz xs then (bounds lo hi r xs.length).map fun p => (.list false ((xs.take p.2).drop p.1), bx, st) else none := spine rfl
theorem slZ_e (call : CallT) (bx : AV) (st : St) (w : Bool) (xs : List (List AV)) : semSlZ call [.list w xs] bx st = some (.list true [], bx, st) := spine rfl
theorem slA_e (call : CallT) (bx : AV) (st : St) (len sz : Nat) (lo hi : Bool) (cs r : List AV) : semSlA len sz lo hi call (.ro cs :: r) bx st = if cs.length = len * sz then (bounds lo hi r len).map fun p => (.list false (((chunks sz len cs).take p.2).drop p.1), bx, st) else none := spine rfl
theorem bin_e (call : CallT) (bx : AV) (st : St) (op : BinOp) (a b : AV) : semBin op call [a, b] bx st = (binA op a b).map (fun v => (v, bx, st)) := spine rfl
theorem binB_e (call : CallT) (bx : AV) (st : St) (op : BinOp) (a b : AV) : semBinB op call [a, b] bx st = (binBA op a b).map (fun v => (v, bx, st)) := spine rfl
theorem binP_e (call : CallT) (bx : AV) (st : St) (op : BinOp) (a b : AV) : semBinP op call [a, b] bx st = (binPA op a b).map (fun v => (v, bx, st)) := spine rfl
theorem bi_add (k : IntKind) (a b : Int) : binA .add (.int k a) (.int k b) = some (.int k (wrapA k (addI a b))) := by simp only [binA, if_true]
theorem bi_sub (k : IntKind) (a b : Int) : binA .sub (.int k a) (.int k b) = some (.int k (wrapA k (subI a b))) := by simp only [binA, if_true]
theorem bi_mul (k : IntKind) (a b : Int) : binA .mul (.int k a) (.int k b) = some (.int k (wrapA k (a * b))) := by simp only [binA, if_true]
theorem bi_quo (k : IntKind) (a b : Int) : binA .quo (.int k a) (.int k b) = if b = 0 then none else some (.int k (k.wrap (a.tdiv b))) := by simp only [binA, if_true]
theorem bi_rem (k : IntKind) (a b : Int) : binA .rem (.int k a) (.int k b) = if b = 0 then none else some (.int k (a.tmod b)) := by simp only [binA, if_true]
theorem bi_eql (k : IntKind) (a b : Int) : binA .eql (.int k a) (.int k b) = some (.bool (eqI a b)) := by simp only [binA, if_true]
theorem bi_neq (k : IntKind) (a b : Int) : binA .neq (.int k a) (.int k b) = some (.bool !(eqI a b)) := by simp only [binA, if_true]
theorem bi_lss (k : IntKind) (a b : Int) : binA .lss (.int k a) (.int k b) = some (.bool (ltI a b)) := by simp only [binA, if_true]
theorem bi_leq (k : IntKind) (a b : Int) : binA .leq (.int k a) (.int k b) = some (.bool !(ltI b a)) := by simp only [binA, if_true]
theorem bi_gtr (k : IntKind) (a b : Int) : binA .gtr (.int k a) (.int k b) = some (.bool (ltI b a)) := by simp only [binA, if_true]
theorem bi_geq (k : IntKind) (a b : Int) : binA .geq (.int k a) (.int k b) = some (.bool !(ltI a b)) := by simp only [binA, if_true]
theorem bs_add (a b : List Nat) : binA .add (.str a) (.str b) = if a.length + b.length ≤ 2 ^ 62 then some (.str (a ++ b)) else none := spine rfl
theorem bs_eql (a b : List Nat) : binA .eql (.str a) (.str b) = some (.bool (eqN a b)) := spine rfl
theorem bs_neq (a b : List Nat) : binA .neq (.str a) (.str b) = some (.bool !(eqN a b)) := spine rfl
theorem bs_lss (a b : List Nat) : binA .lss (.str a) (.str b) = some (.bool (lessN a b)) := spine rfl
theorem bb_eql (a b : Bool) : binBA .eql (.bool a) (.bool b) = some (.bool (a == b)) := spine rfl
theorem bb_neq (a b : Bool) : binBA .neq (.bool a) (.bool b) = some (.bool !(a == b)) := spine rfl
theorem bp_eql1 (o f : Nat) : binPA .eql (.ptr o f) .nilp = some (.bool false) := spine rfl
theorem bp_eql2 (o f : Nat) : binPA .eql .nilp (.ptr o f) = some (.bool false) := spine rfl
theorem bp_eql3 : binPA .eql .nilp .nilp = some (.bool true) := spine rfl
theorem bp_neq1 (o f : Nat) : binPA .neq (.ptr o f) .nilp = some (.bool true) := spine rfl
theorem bp_neq2 (o f : Nat) : binPA .neq .nilp (.ptr o f) = some (.bool true) := spine rfl
theorem bp_neq3 : binPA .neq .nilp .nilp = some (.bool false) := spine rfl
theorem un_not (call : CallT) (bx : AV) (st : St) (b : Bool) : semUn .not call [.bool b] bx st = some (.bool !b, bx, st) := spine rfl
theorem un_neg (call : CallT) (bx : AV) (st : St) (k : IntKind) (n : Int) : semUn .neg call [.int k n] bx st = some (.int k (wrapA k (0 - n)), bx, st) := spine rfl
theorem conv_e (call : CallT) (bx : AV) (st : St) (k k' : IntKind) (n : Int) : semConv k call [.int k' n] bx st = some (.int k (wrapA k n), bx, st) := spine rfl
theorem mkF_e (call : CallT) (bx : AV) (st : St) (f n : Nat) (as : List AV) : semMkF f n call as bx st = if allPlain as then some (.func f ((as.map AV.weak).take n) ((as.map AV.weak).drop n), bx, st) else none := spine rfl
theorem mkM_e (call : CallT) (bx : AV) (st : St) : semMkM call [] bx st = some (.map st.length, bx, st ++ [.map []]) := spine rfl
theorem ext_e (call : CallT) (bx : AV) (st : St) (i : Nat) (vs : List AV) : semExt i call [.tuple vs] bx st = match vs[i]? with | some v => some (v.weak, bx, st) | none => none := spine rfl
theorem lenS_e (call : CallT) (bx : AV) (st : St) (s : List Nat) : semLenS call [.str s] bx st = some (.int .i64 s.length, bx, st) := spine rfl
theorem lenL_e (call : CallT) (bx : AV) (st : St) (w : Bool) (xs : List (List AV)) : semLenL call [.list w xs] bx st = some (.int .i64 xs.length, bx, st) := spine rfl
theorem app_e (call : CallT) (bx : AV) (st : St) (sz bytes : Nat) (w : Bool) (xs ys : List (List AV)) : semApp sz bytes call [.list true xs, .list w ys] bx st = if rowsOk sz xs && rowsOk sz ys && decide ((xs.length + ys.length) * bytes ≤ 2 ^ 47) then some (.list true (xs ++ ys), bx, st) else none := spine rfl
theorem takeVal_t (n : Nat) (cs : List AV) : takeVal true n cs = if n ≤ cs.length then some (.agg ((cs.take n).map AV.weak1)) else none := spine rfl
theorem takeVal_f (n : Nat) (c : AV) (cs : List AV) : takeVal false n (c :: cs) = some c.weak1 := spine rfl
theorem fillSegs_n (cs : List AV) : fillSegs [] [] cs = some cs := spine rfl
theorem fillSegs_c (off n : Nat) (offs : List (Nat × Nat)) (p : AV) (ps cs : List AV) : fillSegs ((off, n) :: offs) (p :: ps) cs = if p.plain = true ∧ p.cells.length = n ∧ off + n ≤ cs.length then fillSegs offs ps (setSeg cs off p.cells) else none := spine rfl
theorem fillRows_n (sz : Nat) (rs : List (List AV)) : fillRows sz [] [] rs = some rs := spine rfl
theorem fillRows_c (sz i : Nat) (is : List Nat) (p : AV) (ps : List AV) (rs : List (List AV)) : fillRows sz (i :: is) (p :: ps) rs = if p.plain = true ∧ p.cells.length = sz ∧ i < rs.length then fillRows sz is ps (rs.set i (p.cells.map AV.weak1)) else none := spine rfl
theorem setSeg_e (cs : List AV) (off : Nat) (new : List AV) : setSeg cs off new = cs.take off ++ new ++ cs.drop (off + new.length) := spine rfl
theorem bounds_ff (n : Nat) : bounds false false [] n = some (0, n) := spine rfl
theorem bounds_tf (l : AV) (n : Nat) : bounds true false [l] n = (bound l n).map fun l => (l, n) := spine rfl
theorem bounds_ft (h : AV) (n : Nat) : bounds false true [h] n = (bound h n).map fun h => (0, h) := spine rfl
theorem bounds_tt (l h : AV) (n : Nat) : bounds true true [l, h] n = match bound h n with | some h => (bound l h).map (fun l => (l, h)) | none => none := spine rfl
theorem bound_e (k : IntKind) (i : Int) (top : Nat) : bound (.int k i) top = if 0 ≤ i ∧ i ≤ (top : Int) then some i.toNat else none := spine rfl
theorem rowsOk_n (sz : Nat) : rowsOk sz [] = true := spine rfl
theorem rowsOk_c (sz : Nat) (r : List AV) (rs : List (List AV)) : rowsOk sz (r :: rs) = (r.length == sz) := spine rfl
theorem locOf_e (i : Nat) (cs : List AV) : locOf i (.box cs) = .loc i 0 := spine rfl
theorem plain_bool (b : Bool) : AV.plain (.bool b) = true := spine rfl
theorem cells_bool (b : Bool) : AV.cells (.bool b) = [.bool b] := spine rfl
theorem cellW1_bool (b : Bool) : AV.cellW1 (.bool b) = .bool b := spine rfl
theorem cellsW_bool (b : Bool) : AV.cellsW (.bool b) = [.bool b] := spine rfl
theorem plain_int (k : IntKind) (n : Int) : AV.plain (.int k n) = true := spine rfl
theorem cells_int (k : IntKind) (n : Int) : AV.cells (.int k n) = [.int k n] := spine rfl
theorem cellW1_int (k : IntKind) (n : Int) : AV.cellW1 (.int k n) = .int k n := spine rfl
theorem cellsW_int (k : IntKind) (n : Int) : AV.cellsW (.int k n) = [.int k n] := spine rfl
theorem plain_str (s : List Nat) : AV.plain (.str s) = true := spine rfl
theorem cells_str (s : List Nat) : AV.cells (.str s) = [.str s] := spine rfl
theorem cellW1_str (s : List Nat) : AV.cellW1 (.str s) = .str s := spine rfl
theorem cellsW_str (s : List Nat) : AV.cellsW (.str s) = [.str s] := spine rfl
theorem plain_list (w : Bool) (xs : List (List AV)) : AV.plain (.list w xs) = true := spine rfl
theorem cells_list (w : Bool) (xs : List (List AV)) : AV.cells (.list w xs) = [.list w xs] := spine rfl
theorem plain_ptr (o f : Nat) : AV.plain (.ptr o f) = true := spine rfl
theorem cells_ptr (o f : Nat) : AV.cells (.ptr o f) = [.ptr o f] := spine rfl
theorem cellW1_ptr (o f : Nat) : AV.cellW1 (.ptr o f) = .ptr o f := spine rfl
theorem cellsW_ptr (o f : Nat) : AV.cellsW (.ptr o f) = [.ptr o f] := spine rfl
theorem plain_nilp  : AV.plain (.nilp) = true := spine rfl
theorem cells_nilp  : AV.cells (.nilp) = [.nilp] := spine rfl
theorem cellW1_nilp  : AV.cellW1 (.nilp) = .nilp := spine rfl
theorem cellsW_nilp  : AV.cellsW (.nilp) = [.nilp] := spine rfl
theorem plain_ro (cs : List AV) : AV.plain (.ro cs) = true := spine rfl
theorem cells_ro (cs : List AV) : AV.cells (.ro cs) = [.ro cs] := spine rfl
theorem cellW1_ro (cs : List AV) : AV.cellW1 (.ro cs) = .ro cs := spine rfl
theorem cellsW_ro (cs : List AV) : AV.cellsW (.ro cs) = [.ro cs] := spine rfl
theorem plain_map (o : Nat) : AV.plain (.map o) = true := spine rfl
theorem cells_map (o : Nat) : AV.cells (.map o) = [.map o] := spine rfl
theorem cellW1_map (o : Nat) : AV.cellW1 (.map o) = .map o := spine rfl
theorem cellsW_map (o : Nat) : AV.cellsW (.map o) = [.map o] := spine rfl
theorem plain_nilm  : AV.plain (.nilm) = true := spine rfl
theorem cells_nilm  : AV.cells (.nilm) = [.nilm] := spine rfl
theorem cellW1_nilm  : AV.cellW1 (.nilm) = .nilm := spine rfl
theorem cellsW_nilm  : AV.cellsW (.nilm) = [.nilm] := spine rfl
theorem plain_func (f : Nat) (a b : List AV) : AV.plain (.func f a b) = true := spine rfl
theorem cells_func (f : Nat) (a b : List AV) : AV.cells (.func f a b) = [.func f a b] := spine rfl
theorem cellW1_func (f : Nat) (a b : List AV) : AV.cellW1 (.func f a b) = .func f a b := spine rfl
theorem cellsW_func (f : Nat) (a b : List AV) : AV.cellsW (.func f a b) = [.func f a b] := spine rfl
theorem plain_nilf  : AV.plain (.nilf) = true := spine rfl
theorem cells_nilf  : AV.cells (.nilf) = [.nilf] := spine rfl
theorem cellW1_nilf  : AV.cellW1 (.nilf) = .nilf := spine rfl
theorem cellsW_nilf  : AV.cellsW (.nilf) = [.nilf] := spine rfl
theorem plain_sl (o f n s : Nat) : AV.plain (.sl o f n s) = true := spine rfl
theorem cells_sl (o f n s : Nat) : AV.cells (.sl o f n s) = [.sl o f n s] := spine rfl
theorem cellW1_sl (o f n s : Nat) : AV.cellW1 (.sl o f n s) = .sl o f n s := spine rfl
theorem cellsW_sl (o f n s : Nat) : AV.cellsW (.sl o f n s) = [.sl o f n s] := spine rfl
theorem plain_iface (t : Nat) (v : AV) : AV.plain (.iface t v) = true := spine rfl
theorem cells_iface (t : Nat) (v : AV) : AV.cells (.iface t v) = [.iface t v] := spine rfl
theorem cellW1_iface (t : Nat) (v : AV) : AV.cellW1 (.iface t v) = .iface t v := spine rfl
theorem cellsW_iface (t : Nat) (v : AV) : AV.cellsW (.iface t v) = [.iface t v] := spine rfl
theorem plain_nili  : AV.plain (.nili) = true := spine rfl
theorem cells_nili  : AV.cells (.nili) = [.nili] := spine rfl
theorem cellW1_nili  : AV.cellW1 (.nili) = .nili := spine rfl
theorem cellsW_nili  : AV.cellsW (.nili) = [.nili] := spine rfl
theorem cellW1_list (w : Bool) (xs : List (List AV)) : AV.cellW1 (.list w xs) = .list (w && xs.isEmpty) xs := spine rfl
theorem plain_agg (cs : List AV) : AV.plain (.agg cs) = true := spine rfl
theorem cells_agg (cs : List AV) : AV.cells (.agg cs) = cs := spine rfl
theorem cellsW_agg (cs : List AV) : AV.cellsW (.agg cs) = cs := spine rfl
theorem cellsW_list (w : Bool) (xs : List (List AV)) : AV.cellsW (.list w xs) = [.list (w && xs.isEmpty) xs] := spine rfl
theorem allPlain_n : allPlain [] = true := spine rfl
theorem allPlain_c (a : AV) (as : List AV) : allPlain (a :: as) = (a.plain && allPlain as) := spine rfl
theorem map_n {α β : Type} (f : α → β) : List.map f [] = [] := spine rfl
theorem map_c {α β : Type} (f : α → β) (a : α) (l : List α) : List.map f (a :: l) = f a :: l.map f := spine rfl
theorem drop_0 {α : Type} (l : List α) : List.drop 0 l = l := spine rfl
theorem drop_s {α : Type} (n : Nat) (a : α) (l : List α) : List.drop (n + 1) (a :: l) = l.drop n := spine rfl
theorem drop_n {α : Type} (n : Nat) : List.drop n ([] : List α) = [] := by cases n <;> rfl
theorem take_0 {α : Type} (l : List α) : List.take 0 l = [] := spine rfl
theorem take_s {α : Type} (n : Nat) (a : α) (l : List α) : List.take (n + 1) (a :: l) = a :: l.take n := spine rfl
theorem take_n {α : Type} (n : Nat) : List.take n ([] : List α) = [] := by cases n <;> rfl
theorem len_n {α : Type} : ([] : List α).length = 0 := spine rfl
theorem len_c {α : Type} (a : α) (l : List α) : (a :: l).length = l.length + 1 := spine rfl
theorem app_c {α : Type} (a : α) (l m : List α) : (a :: l) ++ m = a :: (l ++ m) := spine rfl
theorem app_n {α : Type} (l : List α) : [] ++ l = l := spine rfl
theorem app_nil {α : Type} (l : List α) : l ++ [] = l := List.append_nil l
theorem get_0 {α : Type} (a : α) (l : List α) : (a :: l)[0]? = some a := spine rfl
theorem get_s {α : Type} (n : Nat) (a : α) (l : List α) : (a :: l)[n + 1]? = l[n]? := spine rfl
theorem set_0 {α : Type} (a b : α) (l : List α) : (a :: l).set 0 b = b :: l := spine rfl
theorem set_s {α : Type} (n : Nat) (a b : α) (l : List α) : (a :: l).set (n + 1) b = a :: l.set n b := spine rfl
theorem rep_0 {α : Type} (a : α) : List.replicate 0 a = [] := spine rfl
theorem rep_s {α : Type} (n : Nat) (a : α) : List.replicate (n + 1) a = a :: List.replicate n a := spine rfl
theorem omap_s {α β : Type} (f : α → β) (a : α) : Option.map f (some a) = some (f a) := spine rfl
theorem omap_n {α β : Type} (f : α → β) : Option.map f none = none := spine rfl
theorem isE_n {α : Type} : ([] : List α).isEmpty = true := spine rfl
theorem isE_c {α : Type} (a : α) (l : List α) : (a :: l).isEmpty = false := spine rfl
theorem ite_t {α : Type} (a b : α) : (if True then a else b) = a := if_pos trivial
theorem ite_f {α : Type} (a b : α) : (if False then a else b) = b := if_neg (fun h => h)
theorem itb_t {α : Type} (a b : α) : (if true = true then a else b) = a := if_pos rfl
theorem itb_f {α : Type} (a b : α) : (if false = true then a else b) = b := if_neg (fun h => by cases h)
theorem t_eq_f : (true = false) = False := by simp
theorem f_eq_t : (false = true) = False := by simp
theorem not_t : (!true) = false := spine rfl
theorem not_f : (!false) = true := spine rfl
theorem t_and (b : Bool) : (true && b) = b := spine rfl
theorem and_t (b : Bool) : (b && true) = b := by cases b <;> rfl
theorem f_and (b : Bool) : (false && b) = false := spine rfl
theorem and_f (b : Bool) : (b && false) = false := by cases b <;> rfl
theorem t_or (b : Bool) : (true || b) = true := spine rfl
theorem or_t (b : Bool) : (b || true) = true := by cases b <;> rfl
theorem f_or (b : Bool) : (false || b) = b := spine rfl
theorem or_f (b : Bool) : (b || false) = b := by cases b <;> rfl
theorem and_T (p : Prop) : (p ∧ True) = p := by simp
theorem T_and (p : Prop) : (True ∧ p) = p := by simp
theorem dec_T : decide True = true := spine rfl
theorem dec_F : decide False = false := spine rfl
theorem eqs {α : Type} (a : α) : (a = a) = True := by simp
theorem nn (n : Nat) : (0 ≤ (n : Int)) = True := by simp
theorem tn (n : Nat) : (n : Int).toNat = n := Int.toNat_natCast n
theorem lecast (m n : Nat) : ((m : Int) ≤ (n : Int)) = (m ≤ n) := by simp
theorem lerefl (n : Nat) : (n ≤ n) = True := by simp
theorem ltNx (i j : Nat) : ltI (i : Int) (j : Int) = decide (i < j) := ltN i j
theorem eqNx (i j : Nat) : eqI (i : Int) (j : Int) = decide (i = j) := eqNN i j
theorem brE_e (c : AV) (call : CallT) (n : Nat) (a b : ACode) (fr : List AV) (st : St) : brE c call n a b fr st = brT c (exeT call n a fr st) (exeT call n b fr st) := spine rfl
theorem lt01 : (0 < (1 : Nat)) = True := by simp
theorem lt03 : (0 < (3 : Nat)) = True := by simp
theorem lt13 : (1 < (3 : Nat)) = True := by simp
theorem lt23 : (2 < (3 : Nat)) = True := by simp
theorem il0 : (0 ≤ (0 : Int)) = True := by simp
theorem it0 : (0 : Int).toNat = 0 := spine rfl
theorem il1 : (0 ≤ (1 : Int)) = True := by simp
theorem it1 : (1 : Int).toNat = 1 := spine rfl
theorem il2 : (0 ≤ (2 : Int)) = True := by simp
theorem it2 : (2 : Int).toNat = 2 := spine rfl
theorem m41 : 4 * 1 = (4 : Nat) := spine rfl
theorem W_e (a : AV) : W a = AV.weak (AV.stripB a) := spine rfl
theorem m1_e {β : Type} (a : AV) (f : AV → Option β) : m1 a f = f a := spine rfl
theorem gm_some {β : Type} (c w : Bool) (a : AV) (f : AV → Option β) : gm (.bool c) w a f = f (gV (.bool c) w a) := by unfold gm; rw [gv_some, obind_some]
theorem gm_some2 {β : Type} (x : AV) (w b want : Bool) (a : AV) (f : AV → Option β) : gm (gV x w (.bool b)) want a f = f (gV (gV x w (.bool b)) want a) := by unfold gm; rw [gv_some2, obind_some]
theorem gm_none {β : Type} (w : Bool) (a : AV) (f : AV → Option β) : gm (.tuple []) w a f = f (.tuple []) := by unfold gm; rw [gv_none, obind_some]
theorem z_add (n : Nat) : 0 + n = n := Nat.zero_add n
theorem add_z (n : Nat) : n + 0 = n := spine rfl
theorem beqN (n : Nat) : (n == n) = true := by simp
end Go.Cb.R
namespace Go.Cb
open Go.Cb.R
theorem SS : type_of% (And.intro (And.intro (And.intro (And.intro (And.intro (And.intro (And.intro (And.intro (@exec_seqK) (@exec_blkK)) (And.intro (@exec_ret) (And.intro (@exec_exit) (@exec_skip)))) (And.intro (And.intro (@seqK_normal) (@seqK_exit)) (And.intro (@seqK_ret) (And.intro (@blkK_some) (@blkOut_normal))))) (And.intro (And.intro (And.intro (@blkOut_ret) (@blkOut_exit)) (And.intro (@seqC_x) (And.intro (@blkC_x) (@seqK_obindC)))) (And.intro (And.intro (@blkK_obindC) (And.intro (@exeT_x) (@seqT_x))) (And.intro (@blkT_x) (And.intro (@brT_true) (@brT_false)))))) (And.intro (And.intro (And.intro (And.intro (@seqK_brT) (@blkK_brT)) (And.intro (@exec_loopO) (And.intro (@p1_some) (@p2_some)))) (And.intro (And.intro (@obind_some) (And.intro (@gv_tt) (@gv_tf))) (And.intro (@gv_ff) (And.intro (@gv_ft) (@gv_none))))) (And.intro (And.intro (And.intro (@gv2_tt) (@gv2_tf)) (And.intro (@gv2_ff) (And.intro (@gv2_ft) (@gv2_none)))) (And.intro (And.intro (@gV_tt) (And.intro (@gV_ff) (@gV_tf))) (And.intro (@gV_ft) (And.intro (@gV_none) (@gv_some))))))) (And.intro (And.intro (And.intro (And.intro (And.intro (@gv_some2) (@weak_gV)) (And.intro (@strip_gV) (And.intro (@stripB_gV) (@pick_t)))) (And.intro (And.intro (@pick_f) (@pick_or)) (And.intro (@pick_and) (And.intro (@weak_bool) (@weak_int))))) (And.intro (And.intro (And.intro (@weak_str) (@weak_list)) (And.intro (@weak_ptr) (And.intro (@weak_nilp) (@weak_ro)))) (And.intro (And.intro (@weak_loc) (And.intro (@weak_map) (@weak_nilm))) (And.intro (@weak_func) (And.intro (@weak_nilf) (@weak_agg)))))) (And.intro (And.intro (And.intro (And.intro (@weak_sl) (@weak_iface)) (And.intro (@weak_nili) (And.intro (@weak_tuple) (@weak_undef)))) (And.intro (And.intro (@weak_box) (And.intro (@weak1_bool) (@weak1_int))) (And.intro (@weak1_str) (And.intro (@weak1_list) (@weak1_sl))))) (And.intro (And.intro (And.intro (@weak1_func) (@weak1_ptr)) (And.intro (@weak1_nilp) (And.intro (@weak1_map) (@weak1_nilm)))) (And.intro (And.intro (@strip_bool) (And.intro (@strip_int) (@strip_str))) (And.intro (@strip_list) (And.intro (@strip_ptr) (@strip_nilp)))))))) (And.intro (And.intro (And.intro (And.intro (And.intro (And.intro (@strip_ro) (@strip_loc)) (And.intro (@strip_map) (And.intro (@strip_nilm) (@strip_func)))) (And.intro (And.intro (@strip_nilf) (@strip_agg)) (And.intro (@strip_sl) (And.intro (@strip_tuple) (@strip_undef))))) (And.intro (And.intro (And.intro (@stripB_bool) (@stripB_int)) (And.intro (@stripB_str) (And.intro (@stripB_list) (@stripB_ptr)))) (And.intro (And.intro (@stripB_nilp) (And.intro (@stripB_ro) (@stripB_loc))) (And.intro (@stripB_map) (And.intro (@stripB_nilm) (@stripB_func)))))) (And.intro (And.intro (And.intro (And.intro (@stripB_nilf) (@stripB_agg)) (And.intro (@weak_fresh) (And.intro (@strip_fresh) (@stripB_fresh)))) (And.intro (And.intro (@stripB_sl) (And.intro (@stripB_tuple) (@stripB_undef))) (And.intro (@mv_e) (And.intro (@nilchk_ptr) (@nilchk_loc))))) (And.intro (And.intro (And.intro (@nilchk_ro) (@nilchk_func)) (And.intro (@alloc_e) (And.intro (@boxV_e) (@allocO_e)))) (And.intro (And.intro (@boxO_e) (And.intro (@build_e) (@bslice_e))) (And.intro (@ldLc_e) (And.intro (@ldSt_e) (@ldRo_e))))))) (And.intro (And.intro (And.intro (And.intro (And.intro (@ldAn_ro) (@ldAn_ptr)) (And.intro (@ldLcS_e) (And.intro (@ldStS_e) (@stLc_e)))) (And.intro (And.intro (@stSt_e) (@fad_ptr)) (And.intro (@fad_loc) (And.intro (@fad_ro) (@fld_e))))) (And.intro (And.intro (And.intro (@iad_e) (@iad_sl)) (And.intro (@lenL_sl) (And.intro (@bsliceM_e) (@bsliceO_e)))) (And.intro (And.intro (@fillRowsM_n) (And.intro (@fillRowsM_c) (@appM_nil))) (And.intro (@appM_sl) (And.intro (@aside_n) (@aside_p)))))) (And.intro (And.intro (And.intro (And.intro (@flat_n) (@flat_c)) (And.intro (@b2s_e) (And.intro (@bytesOf_n) (@bytesOf_c)))) (And.intro (And.intro (@iadA_ro) (And.intro (@iadA_ptr) (@iadA_loc))) (And.intro (@idxS_e) (And.intro (@slS_e) (@slL_e))))) (And.intro (And.intro (And.intro (@slZ_e) (@slA_e)) (And.intro (@bin_e) (And.intro (@binB_e) (@binP_e)))) (And.intro (And.intro (@bi_add) (And.intro (@bi_sub) (@bi_mul))) (And.intro (@bi_quo) (And.intro (@bi_rem) (@bi_eql))))))))) (And.intro (And.intro (And.intro (And.intro (And.intro (And.intro (And.intro (@bi_neq) (@bi_lss)) (And.intro (@bi_leq) (And.intro (@bi_gtr) (@bi_geq)))) (And.intro (And.intro (@bs_add) (@bs_eql)) (And.intro (@bs_neq) (And.intro (@bs_lss) (@bb_eql))))) (And.intro (And.intro (And.intro (@bb_neq) (@bp_eql1)) (And.intro (@bp_eql2) (And.intro (@bp_eql3) (@bp_neq1)))) (And.intro (And.intro (@bp_neq2) (And.intro (@bp_neq3) (@un_not))) (And.intro (@un_neg) (And.intro (@conv_e) (@mkF_e)))))) (And.intro (And.intro (And.intro (And.intro (@mkM_e) (@ext_e)) (And.intro (@lenS_e) (And.intro (@lenL_e) (@app_e)))) (And.intro (And.intro (@takeVal_t) (And.intro (@takeVal_f) (@fillSegs_n))) (And.intro (@fillSegs_c) (And.intro (@fillRows_n) (@fillRows_c))))) (And.intro (And.intro (And.intro (@setSeg_e) (@bounds_ff)) (And.intro (@bounds_tf) (And.intro (@bounds_ft) (@bounds_tt)))) (And.intro (And.intro (@bound_e) (And.intro (@rowsOk_n) (@rowsOk_c))) (And.intro (@locOf_e) (And.intro (@plain_bool) (@cells_bool))))))) (And.intro (And.intro (And.intro (And.intro (And.intro (@cellW1_bool) (@cellsW_bool)) (And.intro (@plain_int) (And.intro (@cells_int) (@cellW1_int)))) (And.intro (And.intro (@cellsW_int) (@plain_str)) (And.intro (@cells_str) (And.intro (@cellW1_str) (@cellsW_str))))) (And.intro (And.intro (And.intro (@plain_list) (@cells_list)) (And.intro (@plain_ptr) (And.intro (@cells_ptr) (@cellW1_ptr)))) (And.intro (And.intro (@cellsW_ptr) (And.intro (@plain_nilp) (@cells_nilp))) (And.intro (@cellW1_nilp) (And.intro (@cellsW_nilp) (@plain_ro)))))) (And.intro (And.intro (And.intro (And.intro (@cells_ro) (@cellW1_ro)) (And.intro (@cellsW_ro) (And.intro (@plain_map) (@cells_map)))) (And.intro (And.intro (@cellW1_map) (And.intro (@cellsW_map) (@plain_nilm))) (And.intro (@cells_nilm) (And.intro (@cellW1_nilm) (@cellsW_nilm))))) (And.intro (And.intro (And.intro (@plain_func) (@cells_func)) (And.intro (@cellW1_func) (And.intro (@cellsW_func) (@plain_nilf)))) (And.intro (And.intro (@cells_nilf) (And.intro (@cellW1_nilf) (@cellsW_nilf))) (And.intro (@plain_sl) (And.intro (@cells_sl) (@cellW1_sl)))))))) (And.intro (And.intro (And.intro (And.intro (And.intro (And.intro (@cellsW_sl) (@plain_iface)) (And.intro (@cells_iface) (And.intro (@cellW1_iface) (@cellsW_iface)))) (And.intro (And.intro (@plain_nili) (@cells_nili)) (And.intro (@cellW1_nili) (And.intro (@cellsW_nili) (@cellW1_list))))) (And.intro (And.intro (And.intro (@plain_agg) (@cells_agg)) (And.intro (@cellsW_agg) (And.intro (@cellsW_list) (@allPlain_n)))) (And.intro (And.intro (@allPlain_c) (And.intro (@map_n) (@map_c))) (And.intro (@drop_0) (And.intro (@drop_s) (@drop_n)))))) (And.intro (And.intro (And.intro (And.intro (@take_0) (@take_s)) (And.intro (@take_n) (And.intro (@len_n) (@len_c)))) (And.intro (And.intro (@app_c) (And.intro (@app_n) (@app_nil))) (And.intro (@get_0) (And.intro (@get_s) (@set_0))))) (And.intro (And.intro (And.intro (@set_s) (@rep_0)) (And.intro (@rep_s) (And.intro (@omap_s) (@omap_n)))) (And.intro (And.intro (@isE_n) (And.intro (@isE_c) (@ite_t))) (And.intro (@ite_f) (And.intro (@itb_t) (@itb_f))))))) (And.intro (And.intro (And.intro (And.intro (And.intro (@t_eq_f) (@f_eq_t)) (And.intro (@not_t) (And.intro (@not_f) (@t_and)))) (And.intro (And.intro (@and_t) (@f_and)) (And.intro (@and_f) (And.intro (@t_or) (@or_t))))) (And.intro (And.intro (And.intro (@f_or) (@or_f)) (And.intro (@and_T) (And.intro (@T_and) (@dec_T)))) (And.intro (And.intro (@dec_F) (And.intro (@eqs) (@nn))) (And.intro (@tn) (And.intro (@lecast) (@lerefl)))))) (And.intro (And.intro (And.intro (And.intro (@ltNx) (@eqNx)) (And.intro (@brE_e) (And.intro (@lt01) (@lt03)))) (And.intro (And.intro (@lt13) (And.intro (@lt23) (@il0))) (And.intro (@it0) (And.intro (@il1) (@it1))))) (And.intro (And.intro (And.intro (@il2) (@it2)) (And.intro (@m41) (And.intro (@W_e) (@m1_e)))) (And.intro (And.intro (@gm_some) (And.intro (@gm_some2) (@gm_none))) (And.intro (@z_add) (And.intro (@add_z) (@beqN)))))))))) := And.intro (And.intro (And.intro (And.intro (And.intro (And.intro (And.intro (And.intro (@exec_seqK) (@exec_blkK)) (And.intro (@exec_ret) (And.intro (@exec_exit) (@exec_skip)))) (And.intro (And.intro (@seqK_normal) (@seqK_exit)) (And.intro (@seqK_ret) (And.intro (@blkK_some) (@blkOut_normal))))) (And.intro (And.intro (And.intro (@blkOut_ret) (@blkOut_exit)) (And.intro (@seqC_x) (And.intro (@blkC_x) (@seqK_obindC)))) (And.intro (And.intro (@blkK_obindC) (And.intro (@exeT_x) (@seqT_x))) (And.intro (@blkT_x) (And.intro (@brT_true) (@brT_false)))))) (And.intro (And.intro (And.intro (And.intro (@seqK_brT) (@blkK_brT)) (And.intro (@exec_loopO) (And.intro (@p1_some) (@p2_some)))) (And.intro (And.intro (@obind_some) (And.intro (@gv_tt) (@gv_tf))) (And.intro (@gv_ff) (And.intro (@gv_ft) (@gv_none))))) (And.intro (And.intro (And.intro (@gv2_tt) (@gv2_tf)) (And.intro (@gv2_ff) (And.intro (@gv2_ft) (@gv2_none)))) (And.intro (And.intro (@gV_tt) (And.intro (@gV_ff) (@gV_tf))) (And.intro (@gV_ft) (And.intro (@gV_none) (@gv_some))))))) (And.intro (And.intro (And.intro (And.intro (And.intro (@gv_some2) (@weak_gV)) (And.intro (@strip_gV) (And.intro (@stripB_gV) (@pick_t)))) (And.intro (And.intro (@pick_f) (@pick_or)) (And.intro (@pick_and) (And.intro (@weak_bool) (@weak_int))))) (And.intro (And.intro (And.intro (@weak_str) (@weak_list)) (And.intro (@weak_ptr) (And.intro (@weak_nilp) (@weak_ro)))) (And.intro (And.intro (@weak_loc) (And.intro (@weak_map) (@weak_nilm))) (And.intro (@weak_func) (And.intro (@weak_nilf) (@weak_agg)))))) (And.intro (And.intro (And.intro (And.intro (@weak_sl) (@weak_iface)) (And.intro (@weak_nili) (And.intro (@weak_tuple) (@weak_undef)))) (And.intro (And.intro (@weak_box) (And.intro (@weak1_bool) (@weak1_int))) (And.intro (@weak1_str) (And.intro (@weak1_list) (@weak1_sl))))) (And.intro (And.intro (And.intro (@weak1_func) (@weak1_ptr)) (And.intro (@weak1_nilp) (And.intro (@weak1_map) (@weak1_nilm)))) (And.intro (And.intro (@strip_bool) (And.intro (@strip_int) (@strip_str))) (And.intro (@strip_list) (And.intro (@strip_ptr) (@strip_nilp)))))))) (And.intro (And.intro (And.intro (And.intro (And.intro (And.intro (@strip_ro) (@strip_loc)) (And.intro (@strip_map) (And.intro (@strip_nilm) (@strip_func)))) (And.intro (And.intro (@strip_nilf) (@strip_agg)) (And.intro (@strip_sl) (And.intro (@strip_tuple) (@strip_undef))))) (And.intro (And.intro (And.intro (@stripB_bool) (@stripB_int)) (And.intro (@stripB_str) (And.intro (@stripB_list) (@stripB_ptr)))) (And.intro (And.intro (@stripB_nilp) (And.intro (@stripB_ro) (@stripB_loc))) (And.intro (@stripB_map) (And.intro (@stripB_nilm) (@stripB_func)))))) (And.intro (And.intro (And.intro (And.intro (@stripB_nilf) (@stripB_agg)) (And.intro (@weak_fresh) (And.intro (@strip_fresh) (@stripB_fresh)))) (And.intro (And.intro (@stripB_sl) (And.intro (@stripB_tuple) (@stripB_undef))) (And.intro (@mv_e) (And.intro (@nilchk_ptr) (@nilchk_loc))))) (And.intro (And.intro (And.intro (@nilchk_ro) (@nilchk_func)) (And.intro (@alloc_e) (And.intro (@boxV_e) (@allocO_e)))) (And.intro (And.intro (@boxO_e) (And.intro (@build_e) (@bslice_e))) (And.intro (@ldLc_e) (And.intro (@ldSt_e) (@ldRo_e))))))) (And.intro (And.intro (And.intro (And.intro (And.intro (@ldAn_ro) (@ldAn_ptr)) (And.intro (@ldLcS_e) (And.intro (@ldStS_e) (@stLc_e)))) (And.intro (And.intro (@stSt_e) (@fad_ptr)) (And.intro (@fad_loc) (And.intro (@fad_ro) (@fld_e))))) (And.intro (And.intro (And.intro (@iad_e) (@iad_sl)) (And.intro (@lenL_sl) (And.intro (@bsliceM_e) (@bsliceO_e)))) (And.intro (And.intro (@fillRowsM_n) (And.intro (@fillRowsM_c) (@appM_nil))) (And.intro (@appM_sl) (And.intro (@aside_n) (@aside_p)))))) (And.intro (And.intro (And.intro (And.intro (@flat_n) (@flat_c)) (And.intro (@b2s_e) (And.intro (@bytesOf_n) (@bytesOf_c)))) (And.intro (And.intro (@iadA_ro) (And.intro (@iadA_ptr) (@iadA_loc))) (And.intro (@idxS_e) (And.intro (@slS_e) (@slL_e))))) (And.intro (And.intro (And.intro (@slZ_e) (@slA_e)) (And.intro (@bin_e) (And.intro (@binB_e) (@binP_e)))) (And.intro (And.intro (@bi_add) (And.intro (@bi_sub) (@bi_mul))) (And.intro (@bi_quo) (And.intro (@bi_rem) (@bi_eql))))))))) (And.intro (And.intro (And.intro (And.intro (And.intro (And.intro (And.intro (@bi_neq) (@bi_lss)) (And.intro (@bi_leq) (And.intro (@bi_gtr) (@bi_geq)))) (And.intro (And.intro (@bs_add) (@bs_eql)) (And.intro (@bs_neq) (And.intro (@bs_lss) (@bb_eql))))) (And.intro (And.intro (And.intro (@bb_neq) (@bp_eql1)) (And.intro (@bp_eql2) (And.intro (@bp_eql3) (@bp_neq1)))) (And.intro (And.intro (@bp_neq2) (And.intro (@bp_neq3) (@un_not))) (And.intro (@un_neg) (And.intro (@conv_e) (@mkF_e)))))) (And.intro (And.intro (And.intro (And.intro (@mkM_e) (@ext_e)) (And.intro (@lenS_e) (And.intro (@lenL_e) (@app_e)))) (And.intro (And.intro (@takeVal_t) (And.intro (@takeVal_f) (@fillSegs_n))) (And.intro (@fillSegs_c) (And.intro (@fillRows_n) (@fillRows_c))))) (And.intro (And.intro (And.intro (@setSeg_e) (@bounds_ff)) (And.intro (@bounds_tf) (And.intro (@bounds_ft) (@bounds_tt)))) (And.intro (And.intro (@bound_e) (And.intro (@rowsOk_n) (@rowsOk_c))) (And.intro (@locOf_e) (And.intro (@plain_bool) (@cells_bool))))))) (And.intro (And.intro (And.intro (And.intro (And.intro (@cellW1_bool) (@cellsW_bool)) (And.intro (@plain_int) (And.intro (@cells_int) (@cellW1_int)))) (And.intro (And.intro (@cellsW_int) (@plain_str)) (And.intro (@cells_str) (And.intro (@cellW1_str) (@cellsW_str))))) (And.intro (And.intro (And.intro (@plain_list) (@cells_list)) (And.intro (@plain_ptr) (And.intro (@cells_ptr) (@cellW1_ptr)))) (And.intro (And.intro (@cellsW_ptr) (And.intro (@plain_nilp) (@cells_nilp))) (And.intro (@cellW1_nilp) (And.intro (@cellsW_nilp) (@plain_ro)))))) (And.intro (And.intro (And.intro (And.intro (@cells_ro) (@cellW1_ro)) (And.intro (@cellsW_ro) (And.intro (@plain_map) (@cells_map)))) (And.intro (And.intro (@cellW1_map) (And.intro (@cellsW_map) (@plain_nilm))) (And.intro (@cells_nilm) (And.intro (@cellW1_nilm) (@cellsW_nilm))))) (And.intro (And.intro (And.intro (@plain_func) (@cells_func)) (And.intro (@cellW1_func) (And.intro (@cellsW_func) (@plain_nilf)))) (And.intro (And.intro (@cells_nilf) (And.intro (@cellW1_nilf) (@cellsW_nilf))) (And.intro (@plain_sl) (And.intro (@cells_sl) (@cellW1_sl)))))))) (And.intro (And.intro (And.intro (And.intro (And.intro (And.intro (@cellsW_sl) (@plain_iface)) (And.intro (@cells_iface) (And.intro (@cellW1_iface) (@cellsW_iface)))) (And.intro (And.intro (@plain_nili) (@cells_nili)) (And.intro (@cellW1_nili) (And.intro (@cellsW_nili) (@cellW1_list))))) (And.intro (And.intro (And.intro (@plain_agg) (@cells_agg)) (And.intro (@cellsW_agg) (And.intro (@cellsW_list) (@allPlain_n)))) (And.intro (And.intro (@allPlain_c) (And.intro (@map_n) (@map_c))) (And.intro (@drop_0) (And.intro (@drop_s) (@drop_n)))))) (And.intro (And.intro (And.intro (And.intro (@take_0) (@take_s)) (And.intro (@take_n) (And.intro (@len_n) (@len_c)))) (And.intro (And.intro (@app_c) (And.intro (@app_n) (@app_nil))) (And.intro (@get_0) (And.intro (@get_s) (@set_0))))) (And.intro (And.intro (And.intro (@set_s) (@rep_0)) (And.intro (@rep_s) (And.intro (@omap_s) (@omap_n)))) (And.intro (And.intro (@isE_n) (And.intro (@isE_c) (@ite_t))) (And.intro (@ite_f) (And.intro (@itb_t) (@itb_f))))))) (And.intro (And.intro (And.intro (And.intro (And.intro (@t_eq_f) (@f_eq_t)) (And.intro (@not_t) (And.intro (@not_f) (@t_and)))) (And.intro (And.intro (@and_t) (@f_and)) (And.intro (@and_f) (And.intro (@t_or) (@or_t))))) (And.intro (And.intro (And.intro (@f_or) (@or_f)) (And.intro (@and_T) (And.intro (@T_and) (@dec_T)))) (And.intro (And.intro (@dec_F) (And.intro (@eqs) (@nn))) (And.intro (@tn) (And.intro (@lecast) (@lerefl)))))) (And.intro (And.intro (And.intro (And.intro (@ltNx) (@eqNx)) (And.intro (@brE_e) (And.intro (@lt01) (@lt03)))) (And.intro (And.intro (@lt13) (And.intro (@lt23) (@il0))) (And.intro (@it0) (And.intro (@il1) (@it1))))) (And.intro (And.intro (And.intro (@il2) (@it2)) (And.intro (@m41) (And.intro (@W_e) (@m1_e)))) (And.intro (And.intro (@gm_some) (And.intro (@gm_some2) (@gm_none))) (And.intro (@z_add) (And.intro (@add_z) (@beqN)))))))))
end Go.Cb
