/-
  THE ABSTRACT MACHINE, part 20: stores, map stores, appends, calls; every operation that passes the test is matched.
-/
import Derived.Test.YtkfbiiedabbgfaaDoorXAm19
set_option maxRecDepth 4000
namespace Go.Cb
open Classical

section
variable {c : Cx} {o : Oper} {p : AOper}

theorem constOK_inj {v : Value} {x y : AV} (h : constOK v x = true) (h' : constOK v y = true) : x = y := by
  unfold constOK at h
  split at h <;> (unfold constOK at h'; split at h' <;> simp_all)
theorem constsOK_inj : ∀ {vs : List Value} {xs ys : List AV}, constsOK vs xs = true → constsOK vs ys = true → xs = ys
  | [], [], [], _, _ => rfl
  | v :: vs, x :: xs, y :: ys, h, h' => by
    simp only [constsOK, Bool.and_eq_true] at h h'
    rw [constOK_inj h.1 h'.1, constsOK_inj h.2 h'.2]

theorem op_bslice {sz : Nat} {zero : List (List AV)} {at_ : List Nat} (hk : p.kind = .bslice sz zero at_) (h : ckBslice c o p sz zero at_ = true) : OpK c o p := by
  intro g w pr bx σ σ' a call next Q fx _ hS hgo hnext
  obtain ⟨r, b', st', hs, hσ⟩ := goOp_some hgo
  unfold ckBslice at h
  split at h
  case h_2 => cases h
  rename_i t len parts ho
  split at h
  case h_2 => cases h
  rename_i e hu
  split at h
  case h_2 => cases h
  rename_i ie z1 zs hie
  split at h
  case h_2 => cases h
  rename_i z hz
  simp only [Bool.and_eq_true, beq_iff_eq, decide_eq_true_eq] at h
  obtain ⟨⟨⟨⟨⟨⟨⟨⟨⟨h1, h2⟩, h3⟩, h4⟩, h5⟩, h6⟩, h7⟩, h8⟩, h9⟩, h10⟩ := h
  obtain ⟨p1, p2, p3⟩ := plainK_spec h9
  rw [hk] at hs
  simp only [sem, semBslice] at hs
  obtain ⟨rs, hrs, hs⟩ := Option.map_eq_some_iff.1 hs
  simp only [Prod.mk.injEq] at hs
  obtain ⟨rfl, rfl, rfl⟩ := hs
  rw [p1, spendAll_none p2] at hσ
  subst hσ
  have hargs := reads_ok hS p2
  rw [List.map_map] at hargs
  have hrep : z1 :: zs = List.replicate len z1 := by
    apply List.eq_replicate_iff.2
    refine ⟨h6, fun y hy => ?_⟩
    have hy' := List.all_eq_true.1 h7 y hy
    exact constsOK_inj hy' h5
  exact bslice_ok fx hS ho hu hie hz h1 h2 h3 (by simpa using h4) h5 hrep h8 hargs hrs p3 h10 hnext

theorem op_ldLcS {i : Nat} (hk : p.kind = .ldLcS i) (h : ckLdLcS c o p i = true) : OpK c o p := by
  intro g w pr bx σ σ' a call next Q fx _ hS hgo hnext
  obtain ⟨r, b', st', hs, hσ⟩ := goOp_some hgo
  unfold ckLdLcS at h; split at h
  · rename_i t x j ho hb
    simp only [Bool.and_eq_true, beq_iff_eq, decide_eq_true_eq] at h
    obtain ⟨⟨⟨⟨rfl, h0⟩, h1⟩, h3⟩, h4⟩ := h
    obtain ⟨q, hq, hA⟩ := (reads_ok hS h3).one
    rw [hk, hq] at hs
    simp only [boxOf, hb, sem] at hs
    unfold semLdLcS at hs
    split at hs <;> first | cases hs; done | skip
    rename_i j off cs heq hbx
    simp only [List.cons.injEq, and_true] at heq
    subst heq
    split at hs <;> first | cases hs; done | skip
    rename_i hij
    subst hij
    split at hs <;> first | cases hs; done | skip
    rename_i z hz
    simp only [Option.some.injEq, Prod.mk.injEq] at hs
    obtain ⟨rfl, rfl, rfl⟩ := hs
    rw [hb, spendAll_none h3] at hσ
    subst hσ
    exact ldLcS_ok fx hS (List.getElem?_eq_getElem h0) ho h1 hbx hz hA.2 h4 hnext
  · cases h
theorem op_ldStS (hk : p.kind = .ldStS) (h : ckLdStS c o p = true) : OpK c o p := by
  intro g w pr bx σ σ' a call next Q fx _ hS hgo hnext
  obtain ⟨r, b', st', hs, hσ⟩ := goOp_some hgo
  unfold ckLdStS at h; split at h
  · rename_i t x ho
    simp only [Bool.and_eq_true, beq_iff_eq] at h
    obtain ⟨h1, h⟩ := h
    obtain ⟨p1, p2, p3⟩ := plainK_spec h
    obtain ⟨q, hq, hA⟩ := (reads_ok hS p2).one
    rw [hk, hq] at hs
    simp only [sem] at hs
    unfold semLdStS at hs
    split at hs <;> first | cases hs; done | skip
    rename_i oo off heq
    simp only [List.cons.injEq, and_true] at heq
    subst heq
    split at hs <;> first | cases hs; done | skip
    rename_i cs hcs
    split at hs <;> first | cases hs; done | skip
    rename_i z hz
    simp only [Option.some.injEq, Prod.mk.injEq] at hs
    obtain ⟨rfl, rfl, rfl⟩ := hs
    rw [p1, spendAll_none p2] at hσ
    subst hσ
    have hr := ValOK.rel hA
    simp only [Rel] at hr
    exact ldStS_ok fx hS ho h1 hcs hz hr.2 p3 hnext
  · cases h
theorem op_stLc {i n : Nat} (hk : p.kind = .stLc i n) (h : ckStLc c o p i n = true) : OpK c o p := by
  intro g w pr bx σ σ' a call next Q fx _ hS hgo hnext
  obtain ⟨r, b', st', hs, hσ⟩ := goOp_some hgo
  unfold ckStLc at h; split at h
  · rename_i t x y j q0 q1 ho hd hpd hb ha
    simp only [Bool.and_eq_true, beq_iff_eq, decide_eq_true_eq] at h
    obtain ⟨⟨⟨⟨rfl, h0⟩, h1⟩, h2⟩, h3⟩ := h
    have hA := read_ok hS h2
    have hsp0 : q0.spend σ = σ := by
      simp only [opdN, Bool.and_eq_true] at h2
      have := h2.2
      cases q0 <;> simp_all [Opd.steals, Opd.spend]
    rw [hk, ha] at hs
    simp only [boxOf, hb, sem, List.map_cons, List.map_nil] at hs
    unfold semStLc at hs
    split at hs <;> first | cases hs; done | skip
    rename_i j off x' cs heq hbx
    simp only [List.cons.injEq, and_true] at heq
    obtain ⟨e0, e1⟩ := heq
    split at hs <;> first | cases hs; done | skip
    rename_i hcond
    obtain ⟨rfl, c1, c2, c3⟩ := hcond
    simp only [Option.some.injEq, Prod.mk.injEq] at hs
    obtain ⟨rfl, rfl, rfl⟩ := hs
    rw [hb, ha, hpd] at hσ
    simp only [spendAll, hsp0, Dst.put] at hσ
    have est : (q1.spend σ).st = σ.st := by cases q1 <;> rfl
    subst e1
    rw [← est] at hσ
    subst hσ
    rw [e0] at hA
    exact stLc_ok hS (List.getElem?_eq_getElem h0) ho h1 hbx hA.2 h3 c1 c2 c3 hd hnext
  · cases h
theorem op_stSt {n : Nat} (hk : p.kind = .stSt n) (h : ckStSt c o p n = true) : OpK c o p := by
  intro g w pr bx σ σ' a call next Q fx _ hS hgo hnext
  obtain ⟨r, b', st', hs, hσ⟩ := goOp_some hgo
  unfold ckStSt at h; split at h
  · rename_i t x y q0 q1 ho hd hpd hb ha
    simp only [Bool.and_eq_true, beq_iff_eq] at h
    obtain ⟨⟨h1, h2⟩, h3⟩ := h
    have hA := read_ok hS h2
    have hsp0 : q0.spend σ = σ := by
      simp only [opdN, Bool.and_eq_true] at h2
      have := h2.2
      cases q0 <;> simp_all [Opd.steals, Opd.spend]
    rw [hk, ha] at hs
    simp only [sem, List.map_cons, List.map_nil] at hs
    unfold semStSt at hs
    split at hs <;> first | cases hs; done | skip
    rename_i oo off x' heq
    simp only [List.cons.injEq, and_true] at heq
    obtain ⟨e0, e1⟩ := heq
    split at hs <;> first | cases hs; done | skip
    rename_i cs hcs
    split at hs <;> first | cases hs; done | skip
    rename_i hcond
    obtain ⟨c1, c2, c3⟩ := hcond
    simp only [fL_eq, Option.some.injEq, Prod.mk.injEq] at hs
    obtain ⟨rfl, rfl, rfl⟩ := hs
    rw [hb, ha, hpd] at hσ
    simp only [spendAll, hsp0, Dst.put] at hσ
    subst e1
    subst hσ
    rw [e0] at hA
    have hr := ValOK.rel hA
    simp only [Rel] at hr
    exact stSt_ok hS ho h1 hcs hr.2 h3 c1 c2 c3 hd hnext
  · cases h
theorem op_mset {kc : Nat} (hk : p.kind = .mset kc) (h : ckMset c o p kc = true) : OpK c o p := by
  intro g w pr bx σ σ' a call next Q fx _ hS hgo hnext
  obtain ⟨r, b', st', hs, hσ⟩ := goOp_some hgo
  unfold ckMset at h
  have key : ∀ (t : TypeId) (m k x : Operand), (o.op = .mapUpdate t m k x ∨ o.op = .insert t m k x) →
      ((match c.P.underlying t with | some (.map kt _) => keyClass c.P kc kt | _ => false) && o.dst.isNone && plainK c o p [m, k, x]) = true → o.wp c.P a w next Q := by
    intro t m k x ho h
    simp only [Bool.and_eq_true, Option.isNone_iff_eq_none] at h
    obtain ⟨⟨h1, h2⟩, h⟩ := h
    split at h1
    case h_2 => cases h1
    rename_i kt et hu
    obtain ⟨p1, p2, p3⟩ := plainK_spec h
    obtain ⟨q0, q1, q2, hq, hA0, hA1, hA2⟩ := (reads_ok hS p2).three
    rw [hk, hq] at hs
    simp only [sem] at hs
    unfold semMset at hs
    split at hs <;> first | cases hs; done | skip
    rename_i oo kv xv heq
    simp only [List.cons.injEq, and_true] at heq
    obtain ⟨rfl, rfl, rfl⟩ := heq
    split at hs <;> first | cases hs; done | skip
    rename_i hpl
    split at hs <;> first | cases hs; done | skip
    rename_i es hes
    have hr := ValOK.rel hA0
    simp only [Rel] at hr
    have hdn : p.dst = .none := by
      rw [h2] at p3
      cases hpd : p.dst <;> simp_all [dstOK]
    rw [p1, spendAll_none p2, hdn] at hσ
    simp only [Dst.put] at hσ
    subst hσ
    split at hs
    · rename_i i v hf
      simp only [Option.some.injEq, Prod.mk.injEq] at hs
      obtain ⟨rfl, rfl, rfl⟩ := hs
      exact mset_ok hS ho hu h1 hes hr.2 hA1 hA2 hpl h2 (by rw [hf]) hnext
    · rename_i hf
      obtain ⟨zz, hz, hs⟩ := Option.bind_eq_some_iff.1 hs
      simp only [Option.some.injEq, Prod.mk.injEq] at hs
      obtain ⟨rfl, rfl, rfl⟩ := hs
      exact mset_ok hS ho hu h1 hes hr.2 hA1 hA2 hpl h2 (by rw [hf]; simp [hz]) hnext
    · cases hs
  split at h
  · rename_i t m k x ho; exact key t m k x (.inl ho) h
  · rename_i t m k x ho; exact key t m k x (.inr ho) h
  · cases h
theorem op_app {sz bytes : Nat} (hk : p.kind = .app sz bytes) (h : ckApp c o p sz bytes = true) : OpK c o p := by
  intro g w pr bx σ σ' a call next Q fx _ hS hgo hnext
  obtain ⟨r, b', st', hs, hσ⟩ := goOp_some hgo
  unfold ckApp at h; split at h
  · rename_i x y t t' q0 q1 ho ha
    simp only [Bool.and_eq_true, beq_iff_eq, Option.isNone_iff_eq_none] at h
    obtain ⟨⟨⟨⟨⟨⟨rfl, h1⟩, h2⟩, h3⟩, h4⟩, h5⟩, h6⟩ := h
    split at h1 <;> first | cases h1; done | skip
    rename_i e hu
    split at h1 <;> first | cases h1; done | skip
    rename_i ie hie
    simp only [Bool.and_eq_true, beq_iff_eq, decide_eq_true_eq] at h1
    obtain ⟨⟨⟨z1, z2⟩, z3⟩, z4⟩ := h1
    split at z4 <;> first | cases z4; done | skip
    rename_i z hz
    simp only [beq_iff_eq] at z4
    have hsp1 : q1.spend (q0.spend σ) = q0.spend σ := by
      simp only [opdN, Bool.and_eq_true] at h4
      have := h4.2
      cases q1 <;> simp_all [Opd.steals, Opd.spend]
    rw [hk, ha] at hs
    simp only [sem, List.map_cons, List.map_nil] at hs
    unfold semApp at hs
    split at hs <;> first | cases hs; done | skip
    rename_i xs own ys heq
    simp only [List.cons.injEq, and_true] at heq
    obtain ⟨e0, e1⟩ := heq
    split at hs <;> first | cases hs; done | skip
    rename_i hcond
    simp only [Bool.and_eq_true, decide_eq_true_eq] at hcond
    obtain ⟨⟨c1, c2⟩, c3⟩ := hcond
    simp only [Option.some.injEq, Prod.mk.injEq] at hs
    obtain ⟨rfl, rfl, rfl⟩ := hs
    rw [h2, ha] at hσ
    simp only [spendAll, hsp1] at hσ
    have est : (q0.spend σ).st = σ.st := by cases q0 <;> rfl
    rw [← est] at hσ
    subst hσ
    exact app_ok fx hS ho rfl hu hie hz z1 z2 z4 z3 h3 h4 h5 h6 e0 e1 c1 c2 c3 hnext
  · cases h
theorem op_call {f : Nat} (hk : p.kind = .call f) (h : ckCall c o p f = true) : OpK c o p := by
  intro g w pr bx σ σ' a call next Q fx hc hS hgo hnext
  obtain ⟨r, b', st', hs, hσ⟩ := goOp_some hgo
  unfold ckCall at h; split at h
  · rename_i f' xs ats ho
    simp only [Bool.and_eq_true, beq_iff_eq] at h
    obtain ⟨rfl, h⟩ := h
    obtain ⟨p1, p2, p3⟩ := plainK_spec h
    have hA := reads_ok hS p2
    rw [hk] at hs
    simp only [sem, semCall] at hs
    split at hs <;> first | cases hs; done | skip
    rename_i hpl
    obtain ⟨⟨v, st2⟩, hcall, hs⟩ := Option.map_eq_some_iff.1 hs
    simp only [Prod.mk.injEq] at hs
    obtain ⟨rfl, rfl, rfl⟩ := hs
    rw [p1, spendAll_none p2] at hσ
    subst hσ
    obtain ⟨hen, hcl⟩ := hc _ _ _ _ _ hcall (fun x hx => by obtain ⟨y, _, rfl⟩ := List.mem_map.1 hx; exact weak_weak y)
    refine enter_ok fx hS (f := f') (vs := xs.map a.eval) ?_ ?_ p3 hnext
    · unfold execOp
      simp only [ho, resolve, Deferred.ofValue, Act.eval, Sem.run_bind, Sem.run_pure, Result.andThen_ok, invoke, Array.append_empty, Array.empty_append]
      exact run_enter hen _ _
    · have := hcl g w _ hS.st hS.gl (allPlain_rel hA hpl)
      have e : (xs.toList.map a.eval).toArray = xs.map a.eval := by apply Array.ext'; simp
      rw [e] at this
      exact this
  · cases h
theorem op_callV (hk : p.kind = .callV) (h : ckCallV c o p = true) : OpK c o p := by
  intro g w pr bx σ σ' a call next Q fx hc hS hgo hnext
  obtain ⟨r, b', st', hs, hσ⟩ := goOp_some hgo
  unfold ckCallV at h; split at h
  · rename_i s xs ats ho
    obtain ⟨p1, p2, p3⟩ := plainK_spec h
    obtain ⟨q, qs, hq, hA0, hA⟩ := (reads_ok hS p2).cons_inv
    rw [hk, hq] at hs
    simp only [sem] at hs
    unfold semCallV at hs
    split at hs <;> first | cases hs; done | skip
    rename_i f first caps as heq
    simp only [List.cons.injEq] at heq
    obtain ⟨rfl, rfl⟩ := heq
    split at hs <;> first | cases hs; done | skip
    rename_i hpl
    obtain ⟨⟨v, st2⟩, hcall, hs⟩ := Option.map_eq_some_iff.1 hs
    simp only [Prod.mk.injEq] at hs
    obtain ⟨rfl, rfl, rfl⟩ := hs
    rw [p1, spendAll_none p2] at hσ
    subst hσ
    obtain ⟨hen, hcl⟩ := hc _ _ _ _ _ hcall (fun x hx => by obtain ⟨y, _, rfl⟩ := List.mem_map.1 hx; exact weak_weak y)
    have hr := ValOK.rel hA0
    simp only [Rel] at hr
    obtain ⟨fa, ca, hev, hr1, hr2⟩ := hr
    refine enter_ok fx hS (f := f) (vs := fa ++ xs.map a.eval ++ ca) ?_ ?_ p3 hnext
    · unfold execOp
      simp only [ho, resolve, hev, Deferred.ofValue, Sem.run_bind, Sem.run_pure, Result.andThen_ok, invoke]
      exact run_enter hen _ _
    · have hw : ∀ {l : List AV} {us : List Value}, RelL g w l us → RelL g w (l.map AV.weak) us := fun {l} {us} hl => RelL.of_get (by rw [List.length_map]; exact hl.length) fun i y u hy hu => by
        rw [List.getElem?_map] at hy
        obtain ⟨z, hz, rfl⟩ := Option.map_eq_some_iff.1 hy
        obtain ⟨u', hu', hr⟩ := hl.get hz
        rw [hu] at hu'
        cases hu'
        exact hr.weak
      have := hcl g w (fa.toList ++ xs.toList.map a.eval ++ ca.toList) hS.st hS.gl (by
        rw [List.map_append, List.map_append]
        exact ((hw hr1).append (allPlain_rel hA hpl)).append (hw hr2))
      have e : (fa.toList ++ xs.toList.map a.eval ++ ca.toList).toArray = fa ++ xs.map a.eval ++ ca := by
        apply Array.ext'; simp
      rw [e] at this
      exact this
  · cases h

/-- what passes the test is matched -/
theorem op_ok (h : opOK c o p = true) : OpK c o p := by
  unfold opOK at h
  split at h
  case h_1 hk => exact op_mv hk h
  case h_2 hk => exact op_pick hk h
  case h_3 hk => exact op_nilchk hk h
  case h_4 hk => exact op_alloc hk h
  case h_5 hk => exact op_boxV hk h
  case h_6 hk => exact op_allocO hk h
  case h_7 hk => exact op_boxO hk h
  case h_8 hk => exact op_build hk h
  case h_9 hk => exact op_bslice hk h
  case h_10 hk => exact op_ldLc hk h
  case h_11 hk => exact op_ldSt hk h
  case h_12 hk => exact op_ldRo hk h
  case h_13 hk => exact op_ldLcS hk h
  case h_14 hk => exact op_ldStS hk h
  case h_15 hk => exact op_stLc hk h
  case h_16 hk => exact op_stSt hk h
  case h_17 hk => exact op_fad hk h
  case h_18 hk => exact op_fld hk h
  case h_19 hk => exact op_iad hk h
  case h_20 hk => exact op_iadA hk h
  case h_21 hk => exact op_idxS hk h
  case h_22 hk => exact op_slS hk h
  case h_23 hk => exact op_slL hk h
  case h_24 hk => exact op_slZ hk h
  case h_25 hk => exact op_slA hk h
  case h_26 hk => exact op_bin hk h
  case h_27 hk => exact op_binB hk h
  case h_28 hk => exact op_binP hk h
  case h_29 hk => exact op_un hk h
  case h_30 hk => exact op_conv hk h
  case h_31 hk => exact op_mkF hk h
  case h_32 hk => exact op_mkM hk h
  case h_33 hk => exact op_mget hk h
  case h_34 hk => exact op_mset hk h
  case h_35 hk => exact op_ext hk h
  case h_36 hk => exact op_call hk h
  case h_37 hk => exact op_callV hk h
  case h_38 hk => exact op_lenS hk h
  case h_39 hk => exact op_lenL hk h
  case h_40 hk => exact op_app hk h
  case h_41 => cases h
end
end Go.Cb
