/-
  THE ABSTRACT MACHINE, part 27: functions, and calls at every depth.
-/
import Derived.Test.YtkfbiiedabbgfaaDoorXAm26
set_option maxRecDepth 4000
set_option linter.unusedSimpArgs false
namespace Go.Cb
open Classical

def nodupB : List Nat → Bool
  | [] => true
  | x :: xs => !xs.any (Nat.beq x) && nodupB xs

def resOK (c : Cx) : List ResultVar → List ResK → Bool
  | [], [] => true
  | .tmp t :: rs, .v i :: ks => c.slots[i]? == some t && !c.bxs.contains i && resOK c rs ks
  | .tmp t :: rs, .vs i :: ks => c.slots[i]? == some t && !c.bxs.contains i && resOK c rs ks
  | .cell a t :: rs, .bx i agg n :: ks => c.slots[i]? == some a && isAggB c t == some agg && sizeB c t == some n && resOK c rs ks
  | _, _ => false

def fnOK (P : Program) (gt : List (Nat × List AV)) (slots bxs : List Nat) (fn : Func) (f : AFn) (A : Nat → Prop) : Bool :=
  f.ext.isNone && nodupB slots && slots.all (fun s => Nat.blt s fn.ntmps) && slots.take f.np == List.range f.np && Nat.ble f.np slots.length && Nat.beq f.nv slots.length &&
    (match fn.body with | some x => codeOK ⟨P, slots, bxs, fn.ntmps, gt, A⟩ x f.code | none => false) && resOK ⟨P, slots, bxs, fn.ntmps, gt, A⟩ fn.results.toList f.results

/-- a call that is told by itself -/
def ExtOK (P : Program) (f : Nat) (e : List AV → St → Option (AV × St)) : Prop :=
  ∀ (args : List AV) (st : St) (res : AV) (st' : St), e args st = some (res, st') → (∀ x ∈ args, x.weak = x) →
    ∀ (g : Gh) (w : World) (vs : List Value), SRel g w st → RelL g w args vs → Calls P f vs.toArray w (CallPost g w st' res)

structure ProgOK (P : Program) (gt : List (Nat × List AV)) (tbl : Nat → Option AFn) : Prop where
  mixed : P.follows .mixedOrders = true
  fn : ∀ f af, tbl f = some af → enterB P f = true ∧ ((∃ slots bxs fn, P.funcs[f]? = some fn ∧ ∀ A, fnOK P gt slots bxs fn af A = true) ∨ (∃ e, af.ext = some e ∧ ExtOK P f e))

theorem nodupB_spec : ∀ {xs : List Nat}, nodupB xs = true → xs.Nodup
  | [], _ => List.nodup_nil
  | x :: xs, h => by
    simp only [nodupB, Bool.and_eq_true, Bool.not_eq_true', List.any_eq_false, Nat.beq_eq] at h
    exact List.nodup_cons.2 ⟨fun hm => h.1 x hm rfl, nodupB_spec h.2⟩

section
variable {c : Cx} {g : Gh} {w : World} {pr : Nat → Option Pl} {bx : Nat → Nat} {σ : Sig} {a : Act}

theorem load_var {t : TypeId} {n bb f : Nat} {ag : Bool} {cs : List AV} {us : List Value} {r : AV} (hag : isAggB c t = some ag) (hn : sizeB c t = some n) (hl : RelL g w cs us) (hc : w.rangeAt bb f us) (h1 : ∀ u ∈ us, u.oneCell' = true) (ht : takeVal ag n cs = some r) :
    ∃ v, (loadVar t (ad bb f)).run c.P w = .ok v w ∧ ValOK g w No r v := by
  obtain ⟨v, hrun, hr⟩ := run_load_any (c := c) (g := g) (bx := fun _ => 0) (fr := []) (a := { tmps := #[.pointer (some (ad bb f))], defers := [] }) (o := { (default : Oper) with op := .load t (.tmp 0) }) (x := .tmp 0) rfl hag hn (by simp [Act.eval]) hl hc h1 ht
  refine ⟨v, ?_, ?_⟩
  · simp only [execOp, Instr.loadAt, Instr.sureAddr, Act.eval, Sem.run_bind, Sem.run_pure] at hrun
    have e : (Array.getD #[Value.pointer (some (ad bb f))] 0 undef) = .pointer (some (ad bb f)) := rfl
    rw [e] at hrun
    simp only [Sem.run_pure, Result.andThen_ok] at hrun
    cases hq : (loadVar t (ad bb f)).run c.P w with
    | ok u w' =>
      rw [hq] at hrun
      simp only [Result.andThen_ok, Result.ok.injEq, Next.value.injEq] at hrun
      obtain ⟨rfl, rfl⟩ := hrun
      rfl
    | halt x w' => rw [hq] at hrun; cases hrun
  · cases r <;> first | exact hr | skip
    · exfalso
      unfold takeVal at ht
      split at ht
      · split at ht <;> simp at ht
      · split at ht
        · rename_i y ys
          simp only [Option.some.injEq] at ht
          simp only [RelL] at hl
          obtain ⟨v', r', _, hr', _⟩ := hl
          cases y <;> simp only [AV.weak1, reduceCtorEq] at ht
          simp [Rel] at hr'
        · cases ht
    · exfalso
      unfold takeVal at ht
      split at ht
      · split at ht <;> simp at ht
      · split at ht
        · rename_i y ys
          simp only [Option.some.injEq] at ht
          simp only [RelL] at hl
          obtain ⟨v', r', _, hr', _⟩ := hl
          cases y <;> simp only [AV.weak1, reduceCtorEq] at ht
          simp [Rel] at hr'
        · cases ht

theorem VarOK.val {i : Nat} {x : AV} {v : Value} (h : VarOK g w pr bx i x v) (hb : ∀ cs, x ≠ .box cs) : ValOK g w (fun b => pr b = some (.var i)) x v := by
  cases x <;> first | exact h | exact absurd rfl (hb _) | exact h.elim

/-- the results of a function -/
theorem res_ok (h : S c g w pr bx σ a) : ∀ {rs : List ResultVar} {ks : List ResK} {vs : List AV}, resOK c rs ks = true → getAll ks σ.fr = some vs →
    ∃ us : List Value, (rs.mapM fun (r : ResultVar) => (match r with | .tmp t => pure (a.tmps.getD t undef) | .cell x t => do loadVar t (← asAddr (a.tmps.getD x undef)) : Sem Value)).run c.P w = .ok us w ∧
      us.length = vs.length ∧ ∀ (k : Nat) (x : AV) (u : Value), vs[k]? = some x → us[k]? = some u → ValOK g w (fun b => ∃ p, pr b = some p) x u
  | [], [], vs, _, hg => by
    simp only [getAll, Option.some.injEq] at hg
    subst hg
    exact ⟨[], rfl, rfl, fun k x u hx => by simp at hx⟩
  | r :: rs, k :: ks, vs, hok, hg => by
    simp only [getAll] at hg
    split at hg
    case h_2 => cases hg
    rename_i x xs hx hxs
    simp only [Option.some.injEq] at hg
    subst hg
    have one : ∃ u, ((match r with | .tmp t => pure (a.tmps.getD t undef) | .cell x t => do loadVar t (← asAddr (a.tmps.getD x undef)) : Sem Value)).run c.P w = .ok u w ∧ ValOK g w (fun b => ∃ p, pr b = some p) x u ∧ resOK c rs ks = true := by
      have nobox : ∀ i, i ∉ c.bxs → ∀ cs, σ.fr.getD i .undef ≠ .box cs := fun i hi cs hc => hi (h.fr.bxs i cs hc)
      unfold resOK at hok
      split at hok <;> first | (rename_i e1 e2; cases e1; cases e2; done) | skip
      · rename_i e1 e2; cases e1
      · rename_i t rs' i ks' e1 e2
        cases e1; cases e2
        simp only [Bool.and_eq_true, beq_iff_eq] at hok
        simp only [ResK.get, Option.some.injEq] at hx
        subst hx
        have hv := h.fr.var i t hok.1.1
        have hnbx := nobox i (by simpa using hok.1.2)
        refine ⟨_, rfl, ?_, hok.2⟩
        cases hq : σ.fr.getD i .undef <;> rw [hq] at hv <;> first
          | exact ValOK.of_weak (ValOK.rel hv)
          | exact hv.elim
          | exact absurd hq (hnbx _)
      · rename_i t rs' i ks' e1 e2
        cases e1; cases e2
        simp only [Bool.and_eq_true, beq_iff_eq] at hok
        simp only [ResK.get, Option.some.injEq] at hx
        subst hx
        have hv := (h.fr.var i t hok.1.1).val (nobox i (by simpa using hok.1.2))
        exact ⟨_, rfl, hv.mono (Ext.refl _ _) fun b hb => ⟨⟨_, hb⟩, rfl, fun _ x => x⟩, hok.2⟩
      · rename_i y t rs' i ag n ks' e1 e2
        cases e1; cases e2
        simp only [Bool.and_eq_true, beq_iff_eq] at hok
        obtain ⟨⟨⟨h1, h2⟩, h3⟩, h4⟩ := hok
        simp only [ResK.get] at hx
        split at hx
        · rename_i cs hcs
          have hvar := h.fr.var i y h1
          rw [hcs] at hvar
          obtain ⟨hptr, _, _, arr, T, hh, hl, h1c, _⟩ := hvar
          obtain ⟨u, hu, hval⟩ := load_var (c := c) h2 h3 hl (by simpa using rangeAt_arr hh 0) h1c hx
          refine ⟨u, ?_, hval.mono (Ext.refl _ _) fun b hb => hb.elim, h4⟩
          simp only [hptr, asAddr, Sem.run_bind, Sem.run_pure, Result.andThen_ok]
          exact hu
        · cases hx
      · cases hok
    obtain ⟨u, hu, hval, hrest⟩ := one
    obtain ⟨us, hus, hlen, hall⟩ := res_ok h hrest hxs
    refine ⟨u :: us, ?_, by simp [hlen], fun j y v hy hv => ?_⟩
    · rw [List.mapM_cons]
      simp only [Sem.run_bind, hu, hus, Result.andThen_ok, Sem.run_pure]
    · cases j with
      | zero => simp at hy hv; subst hy; subst hv; exact hval
      | succ j => exact hall j y v (by simpa using hy) (by simpa using hv)
  | [], _ :: _, _, hok, _ => by simp [resOK] at hok
  | r :: _, [], _, hok, _ => by cases r <;> simp [resOK] at hok

def pack : List Value → Value
  | [v] => v
  | us => .tuple us.toArray

theorem results_run {P : Program} {fn : Func} {tmps : Array Value} {us : List Value} {w : World}
    (h : (fn.results.toList.mapM fun (r : ResultVar) => (match r with | .tmp t => pure (tmps.getD t undef) | .cell x t => do loadVar t (← asAddr (tmps.getD x undef)) : Sem Value)).run P w = .ok us w) :
    (results fn tmps).run P w = .ok (pack us) w := by
  unfold results
  rw [Array.mapM_eq_mapM_toList]
  simp only [map_eq_pure_bind, bind_assoc, pure_bind, Sem.run_bind]
  erw [h]
  simp only [Result.andThen_ok, Sem.run_pure]
  match us with
  | [] => rfl
  | [v] => rfl
  | u :: v :: us => simp [pack]

/-- calls at every depth -/
theorem callF_ok {P : Program} {gt : List (Nat × List AV)} {tbl : Nat → Option AFn} (hP : ProgOK P gt tbl) : ∀ n, CallOK P gt (callF tbl n) := by
  intro n
  induction n with
  | zero => intro f args st res st' h; simp [callF] at h
  | succ n ih =>
    intro f args st res st' h hweak
    simp only [callF] at h
    cases htbl : tbl f with
    | none => simp [htbl] at h
    | some af =>
      simp only [htbl] at h
      obtain ⟨hen, hfn⟩ := hP.fn f af htbl
      refine ⟨hen, fun g w vs hst hgl hrel => ?_⟩
      rcases hfn with ⟨slots, bxs, fn, hf, hok⟩ | ⟨e, he, hext⟩
      case inr =>
        simp only [he] at h
        exact hext args st res st' h hweak g w vs hst hrel
      let A : Nat → Prop := fun b => w.heap.size ≤ b ∨ g.sr b ≠ none
      have hok := hok A
      simp only [fnOK, Bool.and_eq_true, Option.isNone_iff_eq_none, beq_iff_eq, Nat.beq_eq] at hok
      obtain ⟨⟨⟨⟨⟨⟨⟨o1, o2⟩, o3⟩, o4⟩, o5⟩, o6⟩, o7⟩, o8⟩ := hok
      have o5 := Nat.le_of_ble_eq_true o5
      rw [o1] at h
      simp only at h
      split at o7
      case h_2 => cases o7
      rename_i body hbody
      unfold AFn.run at h
      split at h
      case isFalse => cases h
      rename_i hlen
      split at h
      · cases h
      · rename_i ex fr' st1 hnex hexec
        let c : Cx := ⟨P, slots, bxs, fn.ntmps, gt, A⟩
        have hlt : ∀ s ∈ slots, s < fn.ntmps := fun s hs => by
          have := List.all_eq_true.1 o3 s hs
          simpa using this
        have fx : Fx c := ⟨nodupB_spec o2, hlt⟩
        have hvl : vs.length = af.np := by rw [← hrel.length]; exact hlen
        have hnp : af.np ≤ fn.ntmps := by
          rcases Nat.eq_zero_or_pos af.np with h0 | h0
          · omega
          · have hm : af.np - 1 ∈ slots := by
              have : af.np - 1 ∈ slots.take af.np := by rw [o4]; simp; omega
              exact List.mem_of_mem_take this
            have := hlt _ hm
            omega
        have hslot : ∀ i s, slots[i]? = some s → i < af.np → s = i := fun i s hs hi => by
          have h1 : (slots.take af.np)[i]? = some s := by rw [List.getElem?_take, if_pos hi]; exact hs
          rw [o4] at h1
          simp [hi] at h1
          exact h1.symm
        let tm : Array Value := vs.toArray ++ Array.replicate (fn.ntmps - vs.toArray.size) undef
        have hS : S c g w (fun _ => none) (fun _ => 0) ⟨args ++ List.replicate (af.nv - af.np) .undef, fun _ => .undef, st⟩ { tmps := tm, defers := [] } := by
          refine ⟨⟨by simp [tm, c]; omega, by simp [c, hlen, o6]; omega, fun i s hs => ?_, fun s _ => ValOK.undef, fun b p hb => (by cases hb), fun i cs hi => ?_⟩, hst, hgl, fun b hb => .inl hb, fun b p hb => .inr (by rw [hb]; simp)⟩
          · rcases Nat.lt_or_ge i af.np with hi | hi
            · have hs' := hslot i s hs hi
              subst hs'
              have ha : s < args.length := by omega
              have hv : s < vs.length := by omega
              obtain ⟨v, hv1, hv2⟩ := hrel.get (List.getElem?_eq_getElem ha)
              have e1 : (args ++ List.replicate (af.nv - af.np) AV.undef).getD s .undef = args[s] := by
                rw [List.getD_eq_getElem?_getD, List.getElem?_append_left ha, List.getElem?_eq_getElem ha]; rfl
              have e2 : tm.getD s undef = v := by
                simp only [tm, Array.getD_eq_getD_getElem?]
                rw [Array.getElem?_append_left (by simpa using hv)]
                simp [hv1]
              rw [e1, e2]
              have hw := hweak args[s] (List.getElem_mem ha)
              have hval : ValOK g w (fun b => (fun _ => none : Nat → Option Pl) b = some (.var s)) args[s].weak v := ValOK.of_weak hv2
              rw [hw] at hval
              revert hval
              cases args[s] <;> intro hval <;> first | exact hval | exact hval.rel.elim
            · have e1 : (args ++ List.replicate (af.nv - af.np) AV.undef).getD i .undef = .undef := by
                rw [List.getD_eq_getElem?_getD, List.getElem?_append_right (by omega)]
                cases hq : (List.replicate (af.nv - af.np) AV.undef)[i - args.length]? with
                | none => rfl
                | some x => rw [List.eq_of_mem_replicate (List.mem_of_getElem? hq)]; rfl
              rw [e1]
              exact VarOK.undef
          · exfalso
            rcases Nat.lt_or_ge i args.length with hi' | hi'
            · obtain ⟨v, hv1, hv2⟩ := hrel.get (List.getElem?_eq_getElem hi')
              rw [List.getD_eq_getElem?_getD, List.getElem?_append_left hi', List.getElem?_eq_getElem hi'] at hi
              simp only [Option.getD_some] at hi
              rw [hi] at hv2
              exact hv2
            · rw [List.getD_eq_getElem?_getD, List.getElem?_append_right hi'] at hi
              cases hq : (List.replicate (af.nv - af.np) AV.undef)[i - args.length]? with
              | none => rw [hq] at hi; cases hi
              | some x => rw [hq, List.eq_of_mem_replicate (List.mem_of_getElem? hq)] at hi; cases hi
        refine calls_of_wp hf hbody ?_
        refine code_ok (c := c) _ _ o7 fx hP.mixed ih hS hexec fun a' w' g' pr' bx' τ' hd hS' ht => ?_
        have hbp : bodyPost P fn (CallPost g w st' res) .ret a' w' := by
          refine ⟨hd, ?_⟩
          have hgo : ∀ vs', getAll af.results fr' = some vs' → some ((match vs' with | [v] => v | vs' => AV.tuple vs'), st1) = some (res, st') → ∃ v, (results fn a'.tmps).run P w' = .ok v w' ∧ CallPost g w st' res (.returned v) w' := by
            intro vs' hg hres
            simp only [Option.some.injEq, Prod.mk.injEq] at hres
            obtain ⟨rfl, rfl⟩ := hres
            obtain ⟨us, hus, hul, hall⟩ := res_ok (c := c) hS' o8 hg
            refine ⟨_, results_run hus, _, g', rfl, hS'.st, ⟨ht.ext, ht.size, ht.env, fun b hb hs _ => ht.keep b hb hs fun hA => ?_⟩, ?_⟩
            · rcases hA with hA | hA
              · omega
              · exact hA hs
            · match vs', us, hul, hall with
              | [], [], _, _ => exact ValOK.mk' (by simp only [Rel]; exact ⟨#[], rfl, by simp [RelL]⟩) (by simp) (by simp)
              | [x], [u], _, hall =>
                refine (hall 0 x u rfl rfl).mono (Ext.refl _ _) fun b hb => ⟨?_, rfl, fun _ x => x⟩
                obtain ⟨p, hp⟩ := hb
                obtain ⟨q1, q2, q3⟩ := hS'.fr.prv b p hp
                exact ⟨q1, q2, q3⟩
              | x :: y :: xs, u :: v :: us, hul, hall =>
                refine ValOK.mk' ?_ (by simp) (by simp)
                simp only [Rel]
                exact ⟨_, rfl, RelL.of_get (by simpa using hul.symm) fun i x u hx hu => (hall i x u hx hu).rel⟩
          split at h
          · rename_i v hg
            exact hgo [v] hg h
          · rename_i vs' hne hg
            refine hgo vs' hg ?_
            rw [← h]
            match vs', hne with
            | [], _ => rfl
            | [v], hne => exact absurd rfl (hne v)
            | _ :: _ :: _, _ => rfl
          · cases h
        cases ex with
        | normal => exact hbp
        | ret => exact hbp
        | exit id => exact (hnex id rfl).elim
      · cases h
end
end Go.Cb
