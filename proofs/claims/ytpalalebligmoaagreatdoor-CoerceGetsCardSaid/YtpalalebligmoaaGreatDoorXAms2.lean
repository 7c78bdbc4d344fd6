import Derived.Test.YtpalalebligmoaaGreatDoorXAms1
import Derived.Orders
import Derived.Scope
import Derived.LoopN
/-
  THE ABSTRACT MACHINE, part 19: what passes the test is matched, on.
-/
set_option maxRecDepth 4000
namespace Go.Cb
open Classical

section
variable {c : Cx} {o : Oper} {p : AOper}

theorem op_un {op : UnOp} (hk : p.kind = .un op) (h : ckUn c o p op = true) : OpK c o p := by
  unfold ckUn at h; split at h
  · rename_i op' t x ho
    simp only [Bool.and_eq_true, decide_eq_true_eq] at h
    obtain ⟨rfl, h⟩ := h
    exact pureK_of h fun hS hr hs => by rw [hk] at hs; exact sim_un (call := nc) ho hr hs
  · cases h
theorem op_bin {op : BinOp} (hk : p.kind = .bin op) (h : ckBin c o p op = true) : OpK c o p := by
  unfold ckBin at h; split at h
  · rename_i op' t x y yt ho
    simp only [Bool.and_eq_true, decide_eq_true_eq] at h
    obtain ⟨rfl, h⟩ := h
    exact pureK_of h fun hS hr hs => by rw [hk] at hs; exact sim_bin (call := nc) ho hr hs
  · cases h
theorem op_binB {op : BinOp} (hk : p.kind = .binB op) (h : ckBinB c o p op = true) : OpK c o p := by
  unfold ckBinB at h; split at h
  · rename_i op' t x y yt ho
    simp only [Bool.and_eq_true, decide_eq_true_eq] at h
    obtain ⟨⟨rfl, hu0⟩, h⟩ := h
    split at hu0
    · rename_i hu; exact pureK_of h fun hS hr hs => by rw [hk] at hs; exact sim_binB (call := nc) ho hu hr hs
    · cases hu0
  · cases h
theorem op_binP {op : BinOp} (hk : p.kind = .binP op) (h : ckBinP c o p op = true) : OpK c o p := by
  unfold ckBinP at h; split at h
  · rename_i op' t x y yt ho
    simp only [Bool.and_eq_true, decide_eq_true_eq] at h
    obtain ⟨⟨rfl, hu0⟩, h⟩ := h
    split at hu0
    · rename_i e hu; exact pureK_of h fun hS hr hs => by rw [hk] at hs; exact sim_binP (call := nc) ho hu hr hs
    · cases hu0
  · cases h
theorem op_conv {k : IntKind} (hk : p.kind = .conv k) (h : ckConv c o p k = true) : OpK c o p := by
  unfold ckConv at h; split at h
  · rename_i t u x ho
    simp only [Bool.and_eq_true] at h
    obtain ⟨hu, h⟩ := h
    split at hu
    · rename_i h1 h2
      simp only [decide_eq_true_eq] at hu
      subst hu
      exact pureK_of h fun hS hr hs => by rw [hk] at hs; exact sim_conv (call := nc) ho h1 h2 hr hs
    · cases hu
  · cases h
theorem op_ext {i : Nat} (hk : p.kind = .ext i) (h : ckExt c o p i = true) : OpK c o p := by
  unfold ckExt at h; split at h
  · rename_i x j ho
    simp only [Bool.and_eq_true, beq_iff_eq] at h
    obtain ⟨rfl, h⟩ := h
    exact pureK_of h fun hS hr hs => by rw [hk] at hs; exact sim_ext (call := nc) ho hr hs
  · cases h
theorem op_ldSt {ag : Bool} {n : Nat} (hk : p.kind = .ldSt ag n) (h : ckLdSt c o p ag n = true) : OpK c o p := by
  unfold ckLdSt at h; split at h
  · rename_i t x ho
    simp only [Bool.and_eq_true, beq_iff_eq] at h
    obtain ⟨⟨h1, h2⟩, h⟩ := h
    exact pureK_of h fun hS hr hs => by rw [hk] at hs; exact sim_ldSt (call := nc) hS.st ho h1 h2 hr hs
  · cases h
theorem op_ldRo {ag : Bool} {n : Nat} (hk : p.kind = .ldRo ag n) (h : ckLdSt c o p ag n = true) : OpK c o p := by
  unfold ckLdSt at h; split at h
  · rename_i t x ho
    simp only [Bool.and_eq_true, beq_iff_eq] at h
    obtain ⟨⟨h1, h2⟩, h⟩ := h
    exact pureK_of h fun hS hr hs => by rw [hk] at hs; exact sim_ldRo (call := nc) ho h1 h2 hr hs
  · cases h
theorem op_ldLc {i : Nat} {ag : Bool} {n : Nat} (hk : p.kind = .ldLc i ag n) (h : ckLdLc c o p i ag n = true) : OpK c o p := by
  unfold ckLdLc at h; split at h
  · rename_i t x j ho hb
    simp only [Bool.and_eq_true, beq_iff_eq, decide_eq_true_eq] at h
    obtain ⟨⟨⟨⟨⟨rfl, h0⟩, h1⟩, h2⟩, h3⟩, h4⟩ := h
    refine PureK.op (fun hS hs => ?_) (fun σ => spendAll_none h3) h4
    rw [hk] at hs
    simp only [boxOf, hb] at hs ⊢
    exact sim_ldLc (call := nc) hS.fr (List.getElem?_eq_getElem h0) ho h1 h2 (reads_ok hS h3) hs
  · cases h
theorem op_fad {off : Nat} (hk : p.kind = .fad off) (h : ckFad c o p off = true) : OpK c o p := by
  unfold ckFad at h; split at h
  · rename_i s x f ho
    simp only [Bool.and_eq_true] at h
    obtain ⟨h1, h⟩ := h
    split at h1
    · rename_i fl hf
      simp only [Bool.and_eq_true, beq_iff_eq] at h1
      obtain ⟨h1, h2⟩ := h1
      split at h1
      · rename_i n hn
        exact pureK_of h fun hS hr hs => by rw [hk] at hs; exact sim_fad (call := nc) ho hf hn (by simpa using h1) h2 hr hs
      · cases h1
    · cases h1
  · cases h
theorem op_fld {off n : Nat} {ag : Bool} (hk : p.kind = .fld off n ag) (h : ckFld c o p off n ag = true) : OpK c o p := by
  unfold ckFld at h; split at h
  · rename_i s x f ho
    simp only [Bool.and_eq_true] at h
    obtain ⟨h1, h⟩ := h
    split at h1
    · rename_i fl hf
      simp only [Bool.and_eq_true, beq_iff_eq] at h1
      obtain ⟨⟨h1, h2⟩, h3⟩ := h1
      exact pureK_of h fun hS hr hs => by rw [hk] at hs; exact sim_fld (call := nc) ho hf h1 h2 h3 hr hs
    · cases h1
  · cases h
theorem op_iad {sz : Nat} (hk : p.kind = .iad sz) (h : ckIad c o p sz = true) : OpK c o p := by
  unfold ckIad at h; split at h
  · rename_i t x i ho
    simp only [Bool.and_eq_true] at h
    obtain ⟨h1, h⟩ := h
    split at h1
    · rename_i e hu
      simp only [beq_iff_eq] at h1
      exact pureK_of h fun hS hr hs => by rw [hk] at hs; exact sim_iad (call := nc) ho hu h1 hr hs
    · cases h1
  · cases h
theorem op_iadA {len sz : Nat} (hk : p.kind = .iadA len sz) (h : ckIadA c o p len sz = true) : OpK c o p := by
  unfold ckIadA at h; split at h
  · rename_i t x i ho
    simp only [Bool.and_eq_true] at h
    obtain ⟨h1, h⟩ := h
    split at h1
    · rename_i n e hu
      simp only [Bool.and_eq_true, beq_iff_eq] at h1
      obtain ⟨rfl, h1⟩ := h1
      exact pureK_of h fun hS hr hs => by rw [hk] at hs; exact sim_iadA (call := nc) ho hu h1 hr hs
    · cases h1
  · cases h
theorem op_idxS (hk : p.kind = .idxS) (h : ckIdxS c o p = true) : OpK c o p := by
  unfold ckIdxS at h; split at h
  · rename_i t x i ho
    simp only [Bool.and_eq_true] at h
    obtain ⟨h1, h⟩ := h
    split at h1
    · rename_i hu
      exact pureK_of h fun hS hr hs => by rw [hk] at hs; exact sim_idxS (call := nc) ho hu hr hs
    · cases h1
  · cases h
theorem opt_args {a : Act} {x : Operand} {l h : Option Operand} : (x :: (l.toList ++ h.toList)).map a.eval = a.eval x :: ((l.map a.eval).toList ++ (h.map a.eval).toList) := by
  cases l <;> cases h <;> rfl
theorem op_slS {lo hi : Bool} (hk : p.kind = .slS lo hi) (h : ckSlS c o p lo hi = true) : OpK c o p := by
  unfold ckSlS at h; split at h
  · rename_i t x l h' ho
    simp only [Bool.and_eq_true, beq_iff_eq] at h
    obtain ⟨⟨⟨h1, rfl⟩, rfl⟩, h⟩ := h
    split at h1
    · rename_i hu
      exact pureK_of h fun hS hr hs => by rw [hk] at hs; rw [opt_args] at hr; exact sim_slS (call := nc) ho hu hr hs
    · cases h1
  · cases h
theorem op_slL {sz : Nat} {lo hi : Bool} (hk : p.kind = .slL sz lo hi) (h : ckSlL c o p sz lo hi = true) : OpK c o p := by
  unfold ckSlL at h; split at h
  · rename_i t x l h' ho
    simp only [Bool.and_eq_true, beq_iff_eq] at h
    obtain ⟨⟨⟨h1, rfl⟩, rfl⟩, h⟩ := h
    split at h1
    · rename_i e hu
      simp only [beq_iff_eq] at h1
      exact pureK_of h fun hS hr hs => by rw [hk] at hs; rw [opt_args] at hr; exact sim_slL (call := nc) ho hu h1 hr hs
    · cases h1
  · cases h
theorem op_slZ (hk : p.kind = .slZ) (h : ckSlZ c o p = true) : OpK c o p := by
  unfold ckSlZ at h; split at h
  · rename_i t x k m k' n ho
    simp only [Bool.and_eq_true, decide_eq_true_eq] at h
    obtain ⟨⟨⟨rfl, rfl⟩, h1⟩, h⟩ := h
    split at h1
    · rename_i e hu
      exact pureK_of h fun hS hr hs => by rw [hk] at hs; exact sim_slZ (call := nc) ho hu h1 hr hs
    · cases h1
  · cases h
theorem op_slA {len sz : Nat} {lo hi : Bool} (hk : p.kind = .slA len sz lo hi) (h : ckSlA c o p len sz lo hi = true) : OpK c o p := by
  unfold ckSlA at h; split at h
  · rename_i t x l h' ho
    simp only [Bool.and_eq_true, beq_iff_eq] at h
    obtain ⟨⟨⟨h1, rfl⟩, rfl⟩, h⟩ := h
    split at h1
    · rename_i n e hu
      simp only [Bool.and_eq_true, beq_iff_eq] at h1
      obtain ⟨rfl, h1⟩ := h1
      exact pureK_of h fun hS hr hs => by rw [hk] at hs; rw [opt_args] at hr; exact sim_slA (call := nc) ho hu h1 hr hs
    · cases h1
  · cases h
theorem op_mkF {f n : Nat} (hk : p.kind = .mkF f n) (h : ckMkF c o p f n = true) : OpK c o p := by
  unfold ckMkF at h; split at h
  · rename_i f' first caps ho
    simp only [Bool.and_eq_true, beq_iff_eq] at h
    obtain ⟨⟨rfl, h1⟩, h⟩ := h
    exact pureK_of h fun hS hr hs => by rw [hk] at hs; exact sim_mkF (call := nc) ho h1 hr hs
  · cases h
theorem op_mget {kc : Nat} {zero : List AV} {ag ok : Bool} (hk : p.kind = .mget kc zero ag ok) (h : ckMget c o p kc zero ag ok = true) : OpK c o p := by
  unfold ckMget at h; split at h
  · rename_i t m k ok' ho
    simp only [Bool.and_eq_true, beq_iff_eq] at h
    obtain ⟨⟨rfl, h1⟩, h⟩ := h
    split at h1
    · rename_i kt et hu
      simp only [Bool.and_eq_true, beq_iff_eq] at h1
      obtain ⟨⟨⟨h1, h2⟩, h3⟩, h4⟩ := h1
      exact pureK_of h fun hS hr hs => by rw [hk] at hs; exact sim_mget (call := nc) hS.st ho hu h1 h2 h3 h4 hr hs
    · cases h1
  · cases h
theorem op_lenS (hk : p.kind = .lenS) (h : ckLenS c o p = true) : OpK c o p := by
  unfold ckLenS at h; split at h
  · rename_i x t ts ho
    simp only [Bool.and_eq_true] at h
    obtain ⟨h1, h⟩ := h
    split at h1
    · rename_i hu
      exact pureK_of h fun hS hr hs => by rw [hk] at hs; exact sim_lenS (call := nc) ho (by simp) hu hr hs
    · cases h1
  · cases h
theorem op_lenL (hk : p.kind = .lenL) (h : ckLenL c o p = true) : OpK c o p := by
  unfold ckLenL at h; split at h
  · rename_i x t ts ho
    simp only [Bool.and_eq_true] at h
    obtain ⟨h1, h⟩ := h
    split at h1
    · rename_i e hu
      exact pureK_of h fun hS hr hs => by rw [hk] at hs; exact sim_lenL (call := nc) ho (by simp) hu hr hs
    · cases h1
  · cases h
theorem offsOK_spec : ∀ {places : List (Nat × Nat)} {is : List Nat} {qs : List (Nat × Nat)}, offsOK places is qs = true → is.map (fun i => places[i]?) = qs.map some
  | _, [], [], _ => rfl
  | places, i :: is, q :: qs, h => by
    simp only [offsOK, Bool.and_eq_true, beq_iff_eq] at h
    simp only [List.map_cons, h.1, offsOK_spec h.2]
theorem op_build {zero : List AV} {offs : List (Nat × Nat)} (hk : p.kind = .build zero offs) (h : ckBuild c o p zero offs = true) : OpK c o p := by
  unfold ckBuild at h; split at h
  · rename_i t parts ho
    simp only [Bool.and_eq_true] at h
    obtain ⟨⟨h1, h2⟩, h⟩ := h
    split at h1
    · rename_i places hpl
      obtain ⟨z, hz, hzz⟩ := zeroOK_spec h2
      refine pureK_of h fun {g w pr bx σ a call r b' b st'} hS hr hs => ?_
      rw [hk] at hs
      rw [List.map_map] at hr
      exact sim_build (call := nc) ho hpl hz hzz (offsOK_spec h1) hr hs
    · cases h1
  · cases h
end
end Go.Cb
/-
  THE ABSTRACT MACHINE, part 20: stores, map stores, appends, calls; every operation that passes the test is matched.
-/
set_option maxRecDepth 4000
namespace Go.Cb
open Classical

section
variable {c : Cx} {o : Oper} {p : AOper}

theorem constOK_inj {v : Value} {x y : AV} (h : constOK v x = true) (h' : constOK v y = true) : x = y := by
  unfold constOK at h
  split at h <;> (unfold constOK at h'; split at h' <;> simp_all)
theorem constsOK_inj : ∀ {vs : List Value} {xs ys : List AV}, constsOK vs xs = true → constsOK vs ys = true → xs = ys
  | [], [], [], _, _ => rfl
  | v :: vs, x :: xs, y :: ys, h, h' => by
    simp only [constsOK, Bool.and_eq_true] at h h'
    rw [constOK_inj h.1 h'.1, constsOK_inj h.2 h'.2]

theorem op_bslice {sz : Nat} {zero : List (List AV)} {at_ : List Nat} (hk : p.kind = .bslice sz zero at_) (h : ckBslice c o p sz zero at_ = true) : OpK c o p := by
  intro g w pr bx σ σ' a call next Q fx _ hS hgo hnext
  obtain ⟨r, b', st', hs, hσ⟩ := goOp_some hgo
  unfold ckBslice at h
  split at h
  case h_2 => cases h
  rename_i t len parts ho
  split at h
  case h_2 => cases h
  rename_i e hu
  split at h
  case h_2 => cases h
  rename_i ie z1 zs hie
  split at h
  case h_2 => cases h
  rename_i z hz
  simp only [Bool.and_eq_true, beq_iff_eq, decide_eq_true_eq] at h
  obtain ⟨⟨⟨⟨⟨⟨⟨⟨⟨h1, h2⟩, h3⟩, h4⟩, h5⟩, h6⟩, h7⟩, h8⟩, h9⟩, h10⟩ := h
  obtain ⟨p1, p2, p3⟩ := plainK_spec h9
  rw [hk] at hs
  simp only [sem, semBslice] at hs
  obtain ⟨rs, hrs, hs⟩ := Option.map_eq_some_iff.1 hs
  simp only [Prod.mk.injEq] at hs
  obtain ⟨rfl, rfl, rfl⟩ := hs
  rw [p1, spendAll_none p2] at hσ
  subst hσ
  have hargs := reads_ok hS p2
  rw [List.map_map] at hargs
  have hrep : z1 :: zs = List.replicate len z1 := by
    apply List.eq_replicate_iff.2
    refine ⟨h6, fun y hy => ?_⟩
    have hy' := List.all_eq_true.1 h7 y hy
    exact constsOK_inj hy' h5
  exact bslice_ok fx hS ho hu hie hz h1 h2 h3 (by simpa using h4) h5 hrep h8 hargs hrs p3 h10 hnext

theorem op_ldLcS {i : Nat} (hk : p.kind = .ldLcS i) (h : ckLdLcS c o p i = true) : OpK c o p := by
  intro g w pr bx σ σ' a call next Q fx _ hS hgo hnext
  obtain ⟨r, b', st', hs, hσ⟩ := goOp_some hgo
  unfold ckLdLcS at h; split at h
  · rename_i t x j ho hb
    simp only [Bool.and_eq_true, beq_iff_eq, decide_eq_true_eq] at h
    obtain ⟨⟨⟨⟨rfl, h0⟩, h1⟩, h3⟩, h4⟩ := h
    obtain ⟨q, hq, hA⟩ := (reads_ok hS h3).one
    rw [hk, hq] at hs
    simp only [boxOf, hb, sem] at hs
    unfold semLdLcS at hs
    split at hs <;> first | cases hs; done | skip
    rename_i j off cs heq hbx
    simp only [List.cons.injEq, and_true] at heq
    subst heq
    split at hs <;> first | cases hs; done | skip
    rename_i hij
    subst hij
    split at hs <;> first | cases hs; done | skip
    rename_i z hz
    simp only [Option.some.injEq, Prod.mk.injEq] at hs
    obtain ⟨rfl, rfl, rfl⟩ := hs
    rw [hb, spendAll_none h3] at hσ
    subst hσ
    exact ldLcS_ok fx hS (List.getElem?_eq_getElem h0) ho h1 hbx hz hA.2 h4 hnext
  · cases h
theorem op_ldStS (hk : p.kind = .ldStS) (h : ckLdStS c o p = true) : OpK c o p := by
  intro g w pr bx σ σ' a call next Q fx _ hS hgo hnext
  obtain ⟨r, b', st', hs, hσ⟩ := goOp_some hgo
  unfold ckLdStS at h; split at h
  · rename_i t x ho
    simp only [Bool.and_eq_true, beq_iff_eq] at h
    obtain ⟨h1, h⟩ := h
    obtain ⟨p1, p2, p3⟩ := plainK_spec h
    obtain ⟨q, hq, hA⟩ := (reads_ok hS p2).one
    rw [hk, hq] at hs
    simp only [sem] at hs
    unfold semLdStS at hs
    split at hs <;> first | cases hs; done | skip
    rename_i oo off heq
    simp only [List.cons.injEq, and_true] at heq
    subst heq
    split at hs <;> first | cases hs; done | skip
    rename_i cs hcs
    split at hs <;> first | cases hs; done | skip
    rename_i z hz
    simp only [Option.some.injEq, Prod.mk.injEq] at hs
    obtain ⟨rfl, rfl, rfl⟩ := hs
    rw [p1, spendAll_none p2] at hσ
    subst hσ
    have hr := ValOK.rel hA
    simp only [Rel] at hr
    exact ldStS_ok fx hS ho h1 hcs hz hr.2 p3 hnext
  · cases h
theorem op_stLc {i n : Nat} (hk : p.kind = .stLc i n) (h : ckStLc c o p i n = true) : OpK c o p := by
  intro g w pr bx σ σ' a call next Q fx _ hS hgo hnext
  obtain ⟨r, b', st', hs, hσ⟩ := goOp_some hgo
  unfold ckStLc at h; split at h
  · rename_i t x y j q0 q1 ho hd hpd hb ha
    simp only [Bool.and_eq_true, beq_iff_eq, decide_eq_true_eq] at h
    obtain ⟨⟨⟨⟨rfl, h0⟩, h1⟩, h2⟩, h3⟩ := h
    have hA := read_ok hS h2
    have hsp0 : q0.spend σ = σ := by
      simp only [opdN, Bool.and_eq_true] at h2
      have := h2.2
      cases q0 <;> simp_all [Opd.steals, Opd.spend]
    rw [hk, ha] at hs
    simp only [boxOf, hb, sem, List.map_cons, List.map_nil] at hs
    unfold semStLc at hs
    split at hs <;> first | cases hs; done | skip
    rename_i j off x' cs heq hbx
    simp only [List.cons.injEq, and_true] at heq
    obtain ⟨e0, e1⟩ := heq
    split at hs <;> first | cases hs; done | skip
    rename_i hcond
    obtain ⟨rfl, c1, c2, c3⟩ := hcond
    simp only [Option.some.injEq, Prod.mk.injEq] at hs
    obtain ⟨rfl, rfl, rfl⟩ := hs
    rw [hb, ha, hpd] at hσ
    simp only [spendAll, hsp0, Dst.put] at hσ
    have est : (q1.spend σ).st = σ.st := by cases q1 <;> rfl
    subst e1
    rw [← est] at hσ
    subst hσ
    rw [e0] at hA
    exact stLc_ok hS (List.getElem?_eq_getElem h0) ho h1 hbx hA.2 h3 c1 c2 c3 hd hnext
  · cases h
theorem op_stSt {n : Nat} (hk : p.kind = .stSt n) (h : ckStSt c o p n = true) : OpK c o p := by
  intro g w pr bx σ σ' a call next Q fx _ hS hgo hnext
  obtain ⟨r, b', st', hs, hσ⟩ := goOp_some hgo
  unfold ckStSt at h; split at h
  · rename_i t x y q0 q1 ho hd hpd hb ha
    simp only [Bool.and_eq_true, beq_iff_eq] at h
    obtain ⟨⟨h1, h2⟩, h3⟩ := h
    have hA := read_ok hS h2
    have hsp0 : q0.spend σ = σ := by
      simp only [opdN, Bool.and_eq_true] at h2
      have := h2.2
      cases q0 <;> simp_all [Opd.steals, Opd.spend]
    rw [hk, ha] at hs
    simp only [sem, List.map_cons, List.map_nil] at hs
    unfold semStSt at hs
    split at hs <;> first | cases hs; done | skip
    rename_i oo off x' heq
    simp only [List.cons.injEq, and_true] at heq
    obtain ⟨e0, e1⟩ := heq
    split at hs <;> first | cases hs; done | skip
    rename_i cs hcs
    split at hs <;> first | cases hs; done | skip
    rename_i hcond
    obtain ⟨c1, c2, c3⟩ := hcond
    simp only [fL_eq, Option.some.injEq, Prod.mk.injEq] at hs
    obtain ⟨rfl, rfl, rfl⟩ := hs
    rw [hb, ha, hpd] at hσ
    simp only [spendAll, hsp0, Dst.put] at hσ
    subst e1
    subst hσ
    rw [e0] at hA
    have hr := ValOK.rel hA
    simp only [Rel] at hr
    exact stSt_ok hS ho h1 hcs hr.2 h3 c1 c2 c3 hd hnext
  · cases h
theorem op_mset {kc : Nat} (hk : p.kind = .mset kc) (h : ckMset c o p kc = true) : OpK c o p := by
  intro g w pr bx σ σ' a call next Q fx _ hS hgo hnext
  obtain ⟨r, b', st', hs, hσ⟩ := goOp_some hgo
  unfold ckMset at h
  have key : ∀ (t : TypeId) (m k x : Operand), (o.op = .mapUpdate t m k x ∨ o.op = .insert t m k x) →
      ((match c.P.underlying t with | some (.map kt _) => keyClass c.P kc kt | _ => false) && o.dst.isNone && plainK c o p [m, k, x]) = true → o.wp c.P a w next Q := by
    intro t m k x ho h
    simp only [Bool.and_eq_true, Option.isNone_iff_eq_none] at h
    obtain ⟨⟨h1, h2⟩, h⟩ := h
    split at h1
    case h_2 => cases h1
    rename_i kt et hu
    obtain ⟨p1, p2, p3⟩ := plainK_spec h
    obtain ⟨q0, q1, q2, hq, hA0, hA1, hA2⟩ := (reads_ok hS p2).three
    rw [hk, hq] at hs
    simp only [sem] at hs
    unfold semMset at hs
    split at hs <;> first | cases hs; done | skip
    rename_i oo kv xv heq
    simp only [List.cons.injEq, and_true] at heq
    obtain ⟨rfl, rfl, rfl⟩ := heq
    split at hs <;> first | cases hs; done | skip
    rename_i hpl
    split at hs <;> first | cases hs; done | skip
    rename_i es hes
    have hr := ValOK.rel hA0
    simp only [Rel] at hr
    have hdn : p.dst = .none := by
      rw [h2] at p3
      cases hpd : p.dst <;> simp_all [dstOK]
    rw [p1, spendAll_none p2, hdn] at hσ
    simp only [Dst.put] at hσ
    subst hσ
    split at hs
    · rename_i i v hf
      simp only [Option.some.injEq, Prod.mk.injEq] at hs
      obtain ⟨rfl, rfl, rfl⟩ := hs
      exact mset_ok hS ho hu h1 hes hr.2 hA1 hA2 hpl h2 (by rw [hf]) hnext
    · rename_i hf
      obtain ⟨zz, hz, hs⟩ := Option.bind_eq_some_iff.1 hs
      simp only [Option.some.injEq, Prod.mk.injEq] at hs
      obtain ⟨rfl, rfl, rfl⟩ := hs
      exact mset_ok hS ho hu h1 hes hr.2 hA1 hA2 hpl h2 (by rw [hf]; simp [hz]) hnext
    · cases hs
  split at h
  · rename_i t m k x ho; exact key t m k x (.inl ho) h
  · rename_i t m k x ho; exact key t m k x (.inr ho) h
  · cases h
theorem op_app {sz bytes : Nat} (hk : p.kind = .app sz bytes) (h : ckApp c o p sz bytes = true) : OpK c o p := by
  intro g w pr bx σ σ' a call next Q fx _ hS hgo hnext
  obtain ⟨r, b', st', hs, hσ⟩ := goOp_some hgo
  unfold ckApp at h; split at h
  · rename_i x y t t' q0 q1 ho ha
    simp only [Bool.and_eq_true, beq_iff_eq, Option.isNone_iff_eq_none] at h
    obtain ⟨⟨⟨⟨⟨⟨rfl, h1⟩, h2⟩, h3⟩, h4⟩, h5⟩, h6⟩ := h
    split at h1 <;> first | cases h1; done | skip
    rename_i e hu
    split at h1 <;> first | cases h1; done | skip
    rename_i ie hie
    simp only [Bool.and_eq_true, beq_iff_eq, decide_eq_true_eq] at h1
    obtain ⟨⟨⟨z1, z2⟩, z3⟩, z4⟩ := h1
    split at z4 <;> first | cases z4; done | skip
    rename_i z hz
    simp only [beq_iff_eq] at z4
    have hsp1 : q1.spend (q0.spend σ) = q0.spend σ := by
      simp only [opdN, Bool.and_eq_true] at h4
      have := h4.2
      cases q1 <;> simp_all [Opd.steals, Opd.spend]
    rw [hk, ha] at hs
    simp only [sem, List.map_cons, List.map_nil] at hs
    unfold semApp at hs
    split at hs <;> first | cases hs; done | skip
    rename_i xs own ys heq
    simp only [List.cons.injEq, and_true] at heq
    obtain ⟨e0, e1⟩ := heq
    split at hs <;> first | cases hs; done | skip
    rename_i hcond
    simp only [Bool.and_eq_true, decide_eq_true_eq] at hcond
    obtain ⟨⟨c1, c2⟩, c3⟩ := hcond
    simp only [Option.some.injEq, Prod.mk.injEq] at hs
    obtain ⟨rfl, rfl, rfl⟩ := hs
    rw [h2, ha] at hσ
    simp only [spendAll, hsp1] at hσ
    have est : (q0.spend σ).st = σ.st := by cases q0 <;> rfl
    rw [← est] at hσ
    subst hσ
    exact app_ok fx hS ho rfl hu hie hz z1 z2 z4 z3 h3 h4 h5 h6 e0 e1 c1 c2 c3 hnext
  · cases h
theorem op_call {f : Nat} (hk : p.kind = .call f) (h : ckCall c o p f = true) : OpK c o p := by
  intro g w pr bx σ σ' a call next Q fx hc hS hgo hnext
  obtain ⟨r, b', st', hs, hσ⟩ := goOp_some hgo
  unfold ckCall at h; split at h
  · rename_i f' xs ats ho
    simp only [Bool.and_eq_true, beq_iff_eq] at h
    obtain ⟨rfl, h⟩ := h
    obtain ⟨p1, p2, p3⟩ := plainK_spec h
    have hA := reads_ok hS p2
    rw [hk] at hs
    simp only [sem, semCall] at hs
    split at hs <;> first | cases hs; done | skip
    rename_i hpl
    obtain ⟨⟨v, st2⟩, hcall, hs⟩ := Option.map_eq_some_iff.1 hs
    simp only [Prod.mk.injEq] at hs
    obtain ⟨rfl, rfl, rfl⟩ := hs
    rw [p1, spendAll_none p2] at hσ
    subst hσ
    obtain ⟨hen, hcl⟩ := hc _ _ _ _ _ hcall (fun x hx => by obtain ⟨y, _, rfl⟩ := List.mem_map.1 hx; exact weak_weak y)
    refine enter_ok fx hS (f := f') (vs := xs.map a.eval) ?_ ?_ p3 hnext
    · unfold execOp
      simp only [ho, resolve, Deferred.ofValue, Act.eval, Sem.run_bind, Sem.run_pure, Result.andThen_ok, invoke, Array.append_empty, Array.empty_append]
      exact run_enter hen _ _
    · have := hcl g w _ hS.st hS.gl (allPlain_rel hA hpl)
      have e : (xs.toList.map a.eval).toArray = xs.map a.eval := by apply Array.ext'; simp
      rw [e] at this
      exact this
  · cases h
theorem op_callV (hk : p.kind = .callV) (h : ckCallV c o p = true) : OpK c o p := by
  intro g w pr bx σ σ' a call next Q fx hc hS hgo hnext
  obtain ⟨r, b', st', hs, hσ⟩ := goOp_some hgo
  unfold ckCallV at h; split at h
  · rename_i s xs ats ho
    obtain ⟨p1, p2, p3⟩ := plainK_spec h
    obtain ⟨q, qs, hq, hA0, hA⟩ := (reads_ok hS p2).cons_inv
    rw [hk, hq] at hs
    simp only [sem] at hs
    unfold semCallV at hs
    split at hs <;> first | cases hs; done | skip
    rename_i f first caps as heq
    simp only [List.cons.injEq] at heq
    obtain ⟨rfl, rfl⟩ := heq
    split at hs <;> first | cases hs; done | skip
    rename_i hpl
    obtain ⟨⟨v, st2⟩, hcall, hs⟩ := Option.map_eq_some_iff.1 hs
    simp only [Prod.mk.injEq] at hs
    obtain ⟨rfl, rfl, rfl⟩ := hs
    rw [p1, spendAll_none p2] at hσ
    subst hσ
    obtain ⟨hen, hcl⟩ := hc _ _ _ _ _ hcall (fun x hx => by obtain ⟨y, _, rfl⟩ := List.mem_map.1 hx; exact weak_weak y)
    have hr := ValOK.rel hA0
    simp only [Rel] at hr
    obtain ⟨fa, ca, hev, hr1, hr2⟩ := hr
    refine enter_ok fx hS (f := f) (vs := fa ++ xs.map a.eval ++ ca) ?_ ?_ p3 hnext
    · unfold execOp
      simp only [ho, resolve, hev, Deferred.ofValue, Sem.run_bind, Sem.run_pure, Result.andThen_ok, invoke]
      exact run_enter hen _ _
    · have hw : ∀ {l : List AV} {us : List Value}, RelL g w l us → RelL g w (l.map AV.weak) us := fun {l} {us} hl => RelL.of_get (by rw [List.length_map]; exact hl.length) fun i y u hy hu => by
        rw [List.getElem?_map] at hy
        obtain ⟨z, hz, rfl⟩ := Option.map_eq_some_iff.1 hy
        obtain ⟨u', hu', hr⟩ := hl.get hz
        rw [hu] at hu'
        cases hu'
        exact hr.weak
      have := hcl g w (fa.toList ++ xs.toList.map a.eval ++ ca.toList) hS.st hS.gl (by
        rw [List.map_append, List.map_append]
        exact ((hw hr1).append (allPlain_rel hA hpl)).append (hw hr2))
      have e : (fa.toList ++ xs.toList.map a.eval ++ ca.toList).toArray = fa ++ xs.map a.eval ++ ca := by
        apply Array.ext'; simp
      rw [e] at this
      exact this
  · cases h

/-- what passes the test is matched -/
theorem op_ok (h : opOK c o p = true) : OpK c o p := by
  unfold opOK at h
  split at h
  case h_1 hk => exact op_mv hk h
  case h_2 hk => exact op_pick hk h
  case h_3 hk => exact op_nilchk hk h
  case h_4 hk => exact op_alloc hk h
  case h_5 hk => exact op_boxV hk h
  case h_6 hk => exact op_allocO hk h
  case h_7 hk => exact op_boxO hk h
  case h_8 hk => exact op_build hk h
  case h_9 hk => exact op_bslice hk h
  case h_10 hk => exact op_ldLc hk h
  case h_11 hk => exact op_ldSt hk h
  case h_12 hk => exact op_ldRo hk h
  case h_13 hk => exact op_ldLcS hk h
  case h_14 hk => exact op_ldStS hk h
  case h_15 hk => exact op_stLc hk h
  case h_16 hk => exact op_stSt hk h
  case h_17 hk => exact op_fad hk h
  case h_18 hk => exact op_fld hk h
  case h_19 hk => exact op_iad hk h
  case h_20 hk => exact op_iadA hk h
  case h_21 hk => exact op_idxS hk h
  case h_22 hk => exact op_slS hk h
  case h_23 hk => exact op_slL hk h
  case h_24 hk => exact op_slZ hk h
  case h_25 hk => exact op_slA hk h
  case h_26 hk => exact op_bin hk h
  case h_27 hk => exact op_binB hk h
  case h_28 hk => exact op_binP hk h
  case h_29 hk => exact op_un hk h
  case h_30 hk => exact op_conv hk h
  case h_31 hk => exact op_mkF hk h
  case h_32 hk => exact op_mkM hk h
  case h_33 hk => exact op_mget hk h
  case h_34 hk => exact op_mset hk h
  case h_35 hk => exact op_ext hk h
  case h_36 hk => exact op_call hk h
  case h_37 hk => exact op_callV hk h
  case h_38 hk => exact op_lenS hk h
  case h_39 hk => exact op_lenL hk h
  case h_40 hk => exact op_app hk h
  case h_41 hk =>
    intro g w pr bx σ σ' a call next Q _ _ _ hg _
    obtain ⟨r, b', st', hs, _⟩ := goOp_some hg
    rw [hk] at hs
    cases hs
end
end Go.Cb
/-
  THE ABSTRACT MACHINE, part 21: what an operation reads and writes; the test of a region, of code.
-/
set_option maxRecDepth 4000
namespace Go.Cb
open Classical

/-- a place: a temporary, a variable, the store -/
inductive Atom where
  | t (s : Nat) | v (i : Nat) | st
  deriving DecidableEq

def Opd.atoms : Opd → List Atom
  | .t s | .ts s => [.t s]
  | .v i | .vs i | .l i => [.v i]
  | .c _ => []

def Opd.spent : Opd → List Atom
  | .ts s => [.t s]
  | .vs i => [.v i]
  | _ => []

def Kind.useSt : Kind → Bool
  | .allocO _ | .boxO | .ldSt .. | .ldStS | .stSt _ | .mkM | .mget .. | .mset _ | .call _ | .callV => true
  | _ => false
def Kind.setSt : Kind → Bool
  | .allocO _ | .boxO | .ldStS | .stSt _ | .mkM | .mset _ | .call _ | .callV => true
  | _ => false

def Dst.atoms : Dst → List Atom
  | .t s => [.t s]
  | .v i => [.v i]
  | _ => []

def AOper.reads (p : AOper) : List Atom :=
  p.args.flatMap Opd.atoms ++ (match p.box with | some i => [.v i] | none => []) ++ (match p.guard with | some (x, _) => x.atoms | none => []) ++ (if p.kind.useSt then [.st] else [])
def AOper.writes (p : AOper) : List Atom :=
  p.dst.atoms ++ p.args.flatMap Opd.spent ++ (match p.box with | some i => if p.kind.alters then [.v i] else [] | none => []) ++ (if p.kind.setSt then [.st] else [])

def Atom.beq : Atom → Atom → Bool
  | .t a, .t b => Nat.beq a b
  | .v a, .v b => Nat.beq a b
  | .st, .st => true
  | _, _ => false
def meets (x y : List Atom) : Bool := x.any fun a => y.any (Atom.beq a)

/-- may two operations change places? -/
def apartA (p q : AOper) : Bool := !meets p.writes q.reads && !meets p.writes q.writes && !meets q.writes p.reads

/-- j's forerunners -/
def befores (ops : Array Oper) (j : Nat) : List Nat := match ops[j]? with
  | some o => o.after.toList.filterMap fun e => if Region.binds .any e then some e.on else none
  | none => []
def closure (ops : Array Oper) : Nat → List Nat → List Nat
  | 0, l => l
  | n + 1, l => l ++ closure ops n (l.flatMap (befores ops))

end Go.Cb
/-
  THE ABSTRACT MACHINE, part 22: operations that have nothing to do with one another may change places.
-/
set_option maxRecDepth 4000
set_option linter.unusedSimpArgs false
set_option linter.unusedVariables false
namespace Go.Cb
open Classical

def Atom.same (x : Atom) (σ1 σ2 : Sig) : Prop := match x with
  | .t s => σ1.τ s = σ2.τ s
  | .v i => σ1.fr.getD i .undef = σ2.fr.getD i .undef
  | .st => σ1.st = σ2.st

theorem Atom.same_refl (x : Atom) (σ : Sig) : x.same σ σ := by cases x <;> rfl
theorem Atom.same_trans {x : Atom} {σ1 σ2 σ3 : Sig} (h : x.same σ1 σ2) (h' : x.same σ2 σ3) : x.same σ1 σ3 := by
  cases x <;> exact Eq.trans h h'
theorem Atom.same_symm {x : Atom} {σ1 σ2 : Sig} (h : x.same σ1 σ2) : x.same σ2 σ1 := by
  cases x <;> exact Eq.symm h

theorem Sig.ext_atoms {σ1 σ2 : Sig} (hl : σ1.fr.length = σ2.fr.length) (h : ∀ x : Atom, x.same σ1 σ2) : σ1 = σ2 := by
  obtain ⟨fr1, τ1, st1⟩ := σ1
  obtain ⟨fr2, τ2, st2⟩ := σ2
  have e1 : τ1 = τ2 := funext fun s => h (.t s)
  have e2 : st1 = st2 := h .st
  have e3 : fr1 = fr2 := by
    apply List.ext_getElem hl
    intro i h1 h2
    have := h (.v i)
    simp only [Atom.same] at this
    simpa [h1, h2] using this
  rw [e1, e2, e3]

theorem Atom.beq_iff (x y : Atom) : Atom.beq x y = true ↔ x = y := by
  cases x <;> cases y <;> simp [Atom.beq]
theorem meets_false {xs ys : List Atom} (h : meets xs ys = false) : ∀ x ∈ xs, x ∉ ys := by
  intro x hx hy
  have : meets xs ys = true := by
    unfold meets
    rw [List.any_eq_true]
    refine ⟨x, hx, ?_⟩
    rw [List.any_eq_true]
    exact ⟨x, hy, (Atom.beq_iff x x).2 rfl⟩
  rw [h] at this; cases this

theorem read_same {q : Opd} {σ1 σ2 : Sig} (h : ∀ x ∈ q.atoms, x.same σ1 σ2) : q.read σ1 = q.read σ2 := by
  cases q <;> simp only [Opd.atoms, List.mem_cons, List.not_mem_nil, or_false, forall_eq, false_imp_iff, implies_true, Atom.same] at h <;> simp only [Opd.read] <;> first | rw [h] | rfl

theorem getD_set (fr : List AV) (i j : Nat) (a : AV) : (fr.set i a).getD j .undef = if i = j ∧ i < fr.length then a else fr.getD j .undef := by
  rw [List.getD_eq_getElem?_getD, List.getElem?_set]
  by_cases e : i = j
  · subst e
    rw [if_pos rfl]
    by_cases hl : i < fr.length
    · rw [if_pos hl, if_pos ⟨rfl, hl⟩]; rfl
    · rw [if_neg hl, if_neg (fun h => hl h.2)]
      simp [hl]
  · rw [if_neg e, if_neg (fun h => e h.1), List.getD_eq_getElem?_getD]

theorem spend_len (q : Opd) (σ : Sig) : (q.spend σ).fr.length = σ.fr.length := by cases q <;> simp [Opd.spend]
theorem spendAll_len : ∀ (qs : List Opd) (σ : Sig), (spendAll qs σ).fr.length = σ.fr.length
  | [], _ => rfl
  | q :: qs, σ => by rw [spendAll, spendAll_len qs, spend_len]
theorem put_len (d : Dst) (r : AV) (σ : Sig) : (d.put r σ).fr.length = σ.fr.length := by cases d <;> simp [Dst.put]

theorem spend_same {q : Opd} {σ1 σ2 : Sig} (hl : σ1.fr.length = σ2.fr.length) {x : Atom} (h : x.same σ1 σ2) (hq : ∀ x ∈ q.spent, x.same σ1 σ2) : x.same (q.spend σ1) (q.spend σ2) := by
  cases q <;> simp only [Opd.spend] <;> try exact h
  · rename_i s
    have hs := hq (.t s) (by simp [Opd.spent])
    cases x <;> simp only [Atom.same] at * <;> try exact h
    simp only [updT]
    split
    · rw [hs]
    · exact h
  · rename_i i
    have hs := hq (.v i) (by simp [Opd.spent])
    cases x <;> simp only [Atom.same] at * <;> try exact h
    rw [getD_set, getD_set, hl, hs, h]
theorem spendAll_same : ∀ {qs : List Opd} {σ1 σ2 : Sig}, σ1.fr.length = σ2.fr.length → ∀ {x : Atom}, x.same σ1 σ2 → (∀ q ∈ qs, ∀ x ∈ q.spent, x.same σ1 σ2) → x.same (spendAll qs σ1) (spendAll qs σ2)
  | [], _, _, _, _, h, _ => h
  | q :: qs, σ1, σ2, hl, x, h, hq => by
    simp only [spendAll]
    have h1 : ∀ y ∈ q.spent, y.same σ1 σ2 := fun y hy => hq q (by simp) y hy
    exact spendAll_same (by rw [spend_len, spend_len, hl]) (spend_same hl h h1) fun q' hq' y hy => spend_same hl (hq q' (by simp [hq']) y hy) h1
theorem spend_other {q : Opd} {σ : Sig} {x : Atom} (h : x ∉ q.spent) : x.same (q.spend σ) σ := by
  cases q <;> simp only [Opd.spend] <;> try exact x.same_refl _
  · rename_i s
    simp only [Opd.spent, List.mem_cons, List.not_mem_nil, or_false] at h
    cases x <;> simp only [Atom.same]
    rename_i t
    simp only [updT]
    rw [if_neg]
    simp only [Nat.beq_eq]
    intro e; exact h (by rw [e])
  · rename_i i
    simp only [Opd.spent, List.mem_cons, List.not_mem_nil, or_false] at h
    cases x <;> simp only [Atom.same]
    rename_i j
    rw [getD_set, if_neg]
    intro e; exact h (by rw [e.1])
theorem spendAll_other : ∀ {qs : List Opd} {σ : Sig} {x : Atom}, x ∉ qs.flatMap Opd.spent → x.same (spendAll qs σ) σ
  | [], _, x, _ => x.same_refl _
  | q :: qs, σ, x, h => by
    simp only [List.flatMap_cons, List.mem_append, not_or] at h
    exact Atom.same_trans (x := x) (spendAll_other (qs := qs) (σ := q.spend σ) h.2) (spend_other h.1)

theorem put_same {d : Dst} {r : AV} {σ1 σ2 : Sig} (hl : σ1.fr.length = σ2.fr.length) {x : Atom} (h : x.same σ1 σ2 ∨ x ∈ d.atoms) : x.same (d.put r σ1) (d.put r σ2) := by
  cases d <;> simp only [Dst.put, Dst.atoms, List.mem_cons, List.not_mem_nil, or_false] at h ⊢ <;> try exact h
  · rename_i s
    cases x <;> simp only [Atom.same, reduceCtorEq, or_false, Atom.t.injEq] at h ⊢ <;> try exact h
    rename_i t
    simp only [updT]
    split
    · rfl
    · rename_i hne
      rcases h with h | h
      · exact h
      · exact absurd (by simp [h]) hne
  · rename_i i
    cases x <;> simp only [Atom.same, reduceCtorEq, or_false, Atom.v.injEq] at h ⊢ <;> try exact h
    rename_i j
    rw [getD_set, getD_set, hl]
    split
    · rfl
    · rename_i hne
      rcases h with h | rfl
      · exact h
      · have : ¬ j < σ2.fr.length := fun hlt => hne ⟨rfl, hlt⟩
        simp [show ¬ j < σ1.fr.length by omega, this]
theorem put_other {d : Dst} {r : AV} {σ : Sig} {x : Atom} (h : x ∉ d.atoms) : x.same (d.put r σ) σ := by
  cases d <;> simp only [Dst.put, Dst.atoms, List.mem_cons, List.not_mem_nil, or_false] at h ⊢ <;> try exact x.same_refl _
  · rename_i s
    cases x <;> simp only [Atom.same]
    rename_i t
    simp only [updT]
    rw [if_neg]
    simp only [Nat.beq_eq]
    intro e; exact h (by rw [e])
  · rename_i i
    cases x <;> simp only [Atom.same]
    rename_i j
    rw [getD_set, if_neg]
    intro e; exact h (by rw [e.1])
theorem setfr_same {i : Nat} {b : AV} {st1 st2 : St} {σ1 σ2 : Sig} (hl : σ1.fr.length = σ2.fr.length) {x : Atom} (h : x.same { σ1 with st := st1 } { σ2 with st := st2 } ∨ x = .v i) :
    x.same { σ1 with fr := σ1.fr.set i b, st := st1 } { σ2 with fr := σ2.fr.set i b, st := st2 } := by
  cases x <;> simp only [Atom.same, reduceCtorEq, or_false, Atom.v.injEq] at h ⊢ <;> try exact h
  rename_i j
  rw [getD_set, getD_set, hl]
  split
  · rfl
  · rename_i hne
    rcases h with h | rfl
    · exact h
    · have : ¬ j < σ2.fr.length := fun hlt => hne ⟨rfl, hlt⟩
      simp [show ¬ j < σ1.fr.length by omega, this]

/-! what an operation's meaning looks at -/
theorem sem_st {k : Kind} (hk : k.setSt = false) {call : CallT} {as : List AV} {b r b' : AV} {st st' : St} (h : sem k call as b st = some (r, b', st')) : st' = st := by
  cases k <;> simp only [Kind.setSt, Bool.true_eq_false] at hk <;> simp only [sem, semMv, semPick, semNilchk, semAlloc, semBoxV, semAllocO, semBoxO, semBuild, semBslice, semLdLc, semLdSt, semLdRo, semLdLcS, semLdStS, semStLc, semStSt, semFad, semFld, semIad, semIadA, semIdxS, semSlS, semSlL, semSlZ, semSlA, semBin, semBinB, semBinP, semUn, semConv, semMkF, semMkM, semMget, semMset, semExt, semCall, semCallV, semLenS, semLenL, semApp, semB2s] at h
  all_goals (repeat' split at h)
  all_goals first
    | (cases h; done)
    | (simp only [Option.some.injEq, Prod.mk.injEq] at h; exact h.2.2.symm)
    | (obtain ⟨z, hz, h⟩ := Option.map_eq_some_iff.1 h; simp only [Prod.mk.injEq] at h; exact h.2.2.symm)
    | (obtain ⟨⟨l, u⟩, hz, h⟩ := Option.map_eq_some_iff.1 h; simp only [Prod.mk.injEq] at h; exact h.2.2.symm)
theorem sem_bx {k : Kind} (hk : k.alters = false) {call : CallT} {as : List AV} {b r b' : AV} {st st' : St} (h : sem k call as b st = some (r, b', st')) : b' = b := by
  cases k <;> simp only [Kind.alters, Bool.true_eq_false] at hk <;> simp only [sem, semMv, semPick, semNilchk, semAlloc, semBoxV, semAllocO, semBoxO, semBuild, semBslice, semLdLc, semLdSt, semLdRo, semLdLcS, semLdStS, semStLc, semStSt, semFad, semFld, semIad, semIadA, semIdxS, semSlS, semSlL, semSlZ, semSlA, semBin, semBinB, semBinP, semUn, semConv, semMkF, semMkM, semMget, semMset, semExt, semCall, semCallV, semLenS, semLenL, semApp, semB2s] at h
  all_goals (repeat' split at h)
  all_goals first
    | (cases h; done)
    | (simp only [Option.some.injEq, Prod.mk.injEq] at h; exact h.2.1.symm)
    | (simp only [fL_eq, Option.some.injEq, Prod.mk.injEq] at h; exact h.2.1.symm)
    | (obtain ⟨z, hz, h⟩ := Option.map_eq_some_iff.1 h; simp only [Prod.mk.injEq] at h; exact h.2.1.symm)
    | (obtain ⟨⟨l, u⟩, hz, h⟩ := Option.map_eq_some_iff.1 h; simp only [Prod.mk.injEq] at h; exact h.2.1.symm)
    | (obtain ⟨z, hz, h⟩ := Option.bind_eq_some_iff.1 h; simp only [Option.some.injEq, Prod.mk.injEq] at h; exact h.2.1.symm)
theorem sem_use {k : Kind} (hk : k.useSt = false) {call : CallT} {as : List AV} {b r b' : AV} {st st' : St} (h : sem k call as b st = some (r, b', st')) (st2 : St) : sem k call as b st2 = some (r, b', st2) := by
  cases k <;> simp only [Kind.useSt, Bool.true_eq_false] at hk <;> simp only [sem, semMv, semPick, semNilchk, semAlloc, semBoxV, semAllocO, semBoxO, semBuild, semBslice, semLdLc, semLdSt, semLdRo, semLdLcS, semLdStS, semStLc, semStSt, semFad, semFld, semIad, semIadA, semIdxS, semSlS, semSlL, semSlZ, semSlA, semBin, semBinB, semBinP, semUn, semConv, semMkF, semMkM, semMget, semMset, semExt, semCall, semCallV, semLenS, semLenL, semApp, semB2s] at h ⊢
  all_goals (repeat' split at h)
  all_goals first
    | (cases h; done)
    | (simp only [Option.some.injEq, Prod.mk.injEq] at h; obtain ⟨rfl, rfl, rfl⟩ := h; simp_all; done)
    | (obtain ⟨z, hz, h⟩ := Option.map_eq_some_iff.1 h; simp only [Prod.mk.injEq] at h; obtain ⟨rfl, rfl, rfl⟩ := h; simp_all; done)
    | (obtain ⟨⟨l, u⟩, hz, h⟩ := Option.map_eq_some_iff.1 h; simp only [Prod.mk.injEq] at h; obtain ⟨rfl, rfl, rfl⟩ := h; simp_all; done)
    | skip
end Go.Cb
/-
  THE ABSTRACT MACHINE, part 23: two operations that are apart change places.
-/
set_option maxRecDepth 4000
set_option linter.unusedSimpArgs false
namespace Go.Cb
open Classical

section
variable {p q : AOper} {call : CallT} {σ σ' σ1 σ2 : Sig}

theorem goOp_mk {r b' : AV} {st' : St} (h : sem p.kind call (p.args.map (·.read σ)) (boxOf p σ) σ.st = some (r, b', st')) :
    goOp call p σ = some (p.dst.put r { spendAll p.args σ with fr := (match p.box with | some i => (spendAll p.args σ).fr.set i b' | none => (spendAll p.args σ).fr), st := st' }) := by
  rw [goOp_eq]
  cases hb : p.box with
  | none =>
    have e : boxOf p σ = .undef := by simp only [boxOf, hb]
    rw [e] at h
    simp only [hb, h]
  | some i =>
    have e : boxOf p σ = σ.fr.getD i .undef := by simp only [boxOf, hb]
    rw [e] at h
    simp only [hb, h]

theorem useSt_of_setSt {k : Kind} (h : k.setSt = true) : k.useSt = true := by cases k <;> first | rfl | cases h
theorem spent_atoms (x : Opd) : ∀ y ∈ x.spent, y ∈ x.atoms := by cases x <;> simp [Opd.spent, Opd.atoms]
theorem go_frame (h : goOp call p σ = some σ') : (∀ x, x ∉ p.writes → x.same σ' σ) ∧ σ'.fr.length = σ.fr.length := by
  obtain ⟨r, b', st', hs, rfl⟩ := goOp_some h
  refine ⟨fun x hx => ?_, ?_⟩
  · simp only [AOper.writes, List.mem_append, not_or] at hx
    obtain ⟨⟨⟨h1, h2⟩, h3⟩, h4⟩ := hx
    refine Atom.same_trans (put_other h1) ?_
    have hsp := spendAll_other (qs := p.args) (σ := σ) h2
    have hst : x = .st → st' = σ.st := fun e => by
      subst e
      cases hk : p.kind.setSt with
      | true => rw [hk] at h4; simp at h4
      | false => exact sem_st hk hs
    cases hb : p.box with
    | none =>
      cases x <;> simp only [Atom.same] at hsp ⊢
      · exact hsp
      · exact hsp
      · exact hst rfl
    | some i =>
      cases x with
      | t s => exact hsp
      | st => exact hst rfl
      | v j =>
        simp only [Atom.same] at hsp ⊢
        rw [getD_set]
        split
        · rename_i hc
          obtain ⟨rfl, _⟩ := hc
          cases hk : p.kind.alters with
          | true => rw [hb, hk] at h3; simp at h3
          | false =>
            rw [sem_bx hk hs]
            simp only [boxOf, hb]
        · exact hsp
  · rw [put_len]
    cases hb : p.box with
    | none => exact spendAll_len _ _
    | some i => simp [spendAll_len]

theorem go_local (hl : σ1.fr.length = σ2.fr.length) (hr : ∀ x ∈ p.reads, x.same σ1 σ2) {σ1' : Sig} (h : goOp call p σ1 = some σ1') :
    ∃ σ2', goOp call p σ2 = some σ2' ∧ ∀ x : Atom, (x.same σ1 σ2 ∨ x ∈ p.writes) → x.same σ1' σ2' := by
  obtain ⟨r, b', st', hs, rfl⟩ := goOp_some h
  have hargs : p.args.map (·.read σ1) = p.args.map (·.read σ2) := List.map_congr_left fun y hy => read_same fun x hx => hr x (by
    simp only [AOper.reads, List.mem_append, List.mem_flatMap]
    exact .inl (.inl (.inl ⟨y, hy, hx⟩)))
  have hbox : boxOf p σ1 = boxOf p σ2 := by
    unfold boxOf
    cases hb : p.box with
    | none => rfl
    | some i =>
      have := hr (.v i) (by simp [AOper.reads, hb])
      exact this
  have hspent : ∀ y ∈ p.args, ∀ x ∈ y.spent, x.same σ1 σ2 := fun y hy x hx => hr x (by
    simp only [AOper.reads, List.mem_append, List.mem_flatMap]
    exact .inl (.inl (.inl ⟨y, hy, spent_atoms y x hx⟩)))
  have hlen : (spendAll p.args σ1).fr.length = (spendAll p.args σ2).fr.length := by rw [spendAll_len, spendAll_len, hl]
  -- the meaning on the other side
  obtain ⟨st2, hs2, hst2⟩ : ∃ st2, sem p.kind call (p.args.map (·.read σ2)) (boxOf p σ2) σ2.st = some (r, b', st2) ∧ ∀ x : Atom, (x.same σ1 σ2 ∨ (x = .st ∧ p.kind.setSt = true)) → x.same { spendAll p.args σ1 with st := st' } { spendAll p.args σ2 with st := st2 } := by
    have other : ∀ (st2 : St) (x : Atom), x ≠ .st → x.same σ1 σ2 → x.same { spendAll p.args σ1 with st := st' } { spendAll p.args σ2 with st := st2 } := fun st2 x hx h => by
      have := spendAll_same hl h hspent
      cases x <;> first | exact this | exact absurd rfl hx
    cases hu : p.kind.useSt with
    | true =>
      have he : σ1.st = σ2.st := hr .st (by simp [AOper.reads, hu])
      rw [hargs, hbox, he] at hs
      refine ⟨st', hs, fun x hx => ?_⟩
      cases x with
      | st => rfl
      | t s => exact other _ _ (by simp) (hx.resolve_right (by simp))
      | v i => exact other _ _ (by simp) (hx.resolve_right (by simp))
    | false =>
      have hset : p.kind.setSt = false := by
        cases hk : p.kind.setSt with
        | false => rfl
        | true => rw [useSt_of_setSt hk] at hu; cases hu
      have e1 := sem_st hset hs
      rw [hargs, hbox] at hs
      refine ⟨σ2.st, sem_use hu hs σ2.st, fun x hx => ?_⟩
      rw [hset] at hx
      have hx := hx.resolve_right (by simp)
      cases x with
      | st => rw [e1]; exact hx
      | t s => exact other _ _ (by simp) hx
      | v i => exact other _ _ (by simp) hx
  refine ⟨_, goOp_mk hs2, fun x hx => put_same ?_ ?_⟩
  · cases hb : p.box with
    | none => exact hlen
    | some i => simp [hlen]
  · by_cases hd : x ∈ p.dst.atoms
    · exact .inr hd
    left
    -- either as before, or written
    have hx' : x.same σ1 σ2 ∨ (∃ i, p.box = some i ∧ x = .v i) ∨ (x = .st ∧ p.kind.setSt = true) := by
      rcases hx with hx | hx
      · exact .inl hx
      · simp only [AOper.writes, List.mem_append] at hx
        rcases hx with ((hx | hx) | hx) | hx
        · exact absurd hx hd
        · obtain ⟨y, hy, hx⟩ := List.mem_flatMap.1 hx
          exact .inl (hspent y hy x hx)
        · right; left
          cases hb : p.box with
          | none => rw [hb] at hx; simp at hx
          | some i =>
            rw [hb] at hx
            refine ⟨i, rfl, ?_⟩
            simp only at hx
            split at hx
            · simpa using hx
            · simp at hx
        · right; right
          split at hx
          · rename_i hk; exact ⟨by simpa using hx, hk⟩
          · simp at hx
    cases hb : p.box with
    | none =>
      rcases hx' with hx' | ⟨i, hi, _⟩ | hx'
      · exact hst2 x (.inl hx')
      · rw [hb] at hi; cases hi
      · exact hst2 x (.inr hx')
    | some i =>
      refine setfr_same hlen ?_
      rcases hx' with hx' | ⟨j, hj, e⟩ | hx'
      · exact .inl (hst2 x (.inl hx'))
      · rw [hb] at hj; cases hj; exact .inr e
      · exact .inl (hst2 x (.inr hx'))

/-! with guards -/
theorem guard_atoms {x : Opd} {want : Bool} (hg : p.guard = some (x, want)) : ∀ y ∈ x.atoms, y ∈ p.reads := fun y hy => by
  simp only [AOper.reads, hg, List.mem_append]
  exact .inl (.inr hy)
theorem dst_writes : ∀ y ∈ p.dst.atoms, y ∈ p.writes := fun y hy => by
  simp only [AOper.writes, List.mem_append]
  exact .inl (.inl (.inl hy))

theorem step_frame (h : stepOp call p σ = some σ') : (∀ x, x ∉ p.writes → x.same σ' σ) ∧ σ'.fr.length = σ.fr.length := by
  unfold stepOp at h
  have hskip : ∀ {σ'}, some (p.dst.put (.tuple []) σ) = some σ' → (∀ x, x ∉ p.writes → x.same σ' σ) ∧ σ'.fr.length = σ.fr.length := fun {σ'} h => by
    obtain rfl := Option.some.inj h
    exact ⟨fun x hx => put_other fun hd => hx (dst_writes x hd), put_len _ _ _⟩
  split at h
  · exact go_frame h
  · split at h
    · split at h
      · exact go_frame h
      · exact hskip h
    · exact hskip h
    · cases h

theorem step_local (hl : σ1.fr.length = σ2.fr.length) (hr : ∀ x ∈ p.reads, x.same σ1 σ2) {σ1' : Sig} (h : stepOp call p σ1 = some σ1') :
    ∃ σ2', stepOp call p σ2 = some σ2' ∧ ∀ x : Atom, (x.same σ1 σ2 ∨ x ∈ p.writes) → x.same σ1' σ2' := by
  have hgo : ∀ {σ1'}, goOp call p σ1 = some σ1' → ∃ σ2', goOp call p σ2 = some σ2' ∧ ∀ x : Atom, (x.same σ1 σ2 ∨ x ∈ p.writes) → x.same σ1' σ2' := fun h => go_local hl hr h
  have hskip : ∀ {σ1'}, some (p.dst.put (.tuple []) σ1) = some σ1' → ∃ σ2', some (p.dst.put (.tuple []) σ2) = some σ2' ∧ ∀ x : Atom, (x.same σ1 σ2 ∨ x ∈ p.writes) → x.same σ1' σ2' := fun {σ1'} h => by
    obtain rfl := Option.some.inj h
    refine ⟨_, rfl, fun x hx => ?_⟩
    by_cases hd : x ∈ p.dst.atoms
    · exact put_same hl (.inr hd)
    · refine put_same hl (.inl ?_)
      rcases hx with hx | hx
      · exact hx
      · simp only [AOper.writes, List.mem_append] at hx
        rcases hx with ((hx | hx) | hx) | hx
        · exact absurd hx hd
        · obtain ⟨y, hy, hx⟩ := List.mem_flatMap.1 hx
          exact hr x (by simp only [AOper.reads, List.mem_append, List.mem_flatMap]; exact .inl (.inl (.inl ⟨y, hy, spent_atoms y x hx⟩)))
        · cases hb : p.box with
          | none => rw [hb] at hx; simp at hx
          | some i =>
            rw [hb] at hx
            simp only at hx
            split at hx
            · have : x = .v i := by simpa using hx
              exact hr x (by simp [AOper.reads, hb, this])
            · simp at hx
        · split at hx
          · rename_i hk
            have : x = .st := by simpa using hx
            exact hr x (by simp [AOper.reads, useSt_of_setSt hk, this])
          · simp at hx
  unfold stepOp at h ⊢
  cases hg : p.guard with
  | none => simp only [hg] at h ⊢; exact hgo h
  | some xw =>
    obtain ⟨x, want⟩ := xw
    simp only [hg] at h ⊢
    rw [← read_same (q := x) (σ1 := σ1) fun y hy => hr y (guard_atoms hg y hy)]
    split at h
    · rename_i b hb
      split at h
      · rename_i hc
        rw [if_pos hc]
        exact hgo h
      · rename_i hc
        rw [if_neg hc]
        exact hskip h
    · exact hskip h
    · cases h

theorem swap_ok (hap : apartA p q = true) {σ1 σ2 : Sig} (h1 : stepOp call p σ = some σ1) (h2 : stepOp call q σ1 = some σ2) :
    ∃ σ1', stepOp call q σ = some σ1' ∧ stepOp call p σ1' = some σ2 := by
  simp only [apartA, Bool.and_eq_true, Bool.not_eq_true'] at hap
  obtain ⟨⟨a1, a2⟩, a3⟩ := hap
  have a1 := meets_false a1
  have a2 := meets_false a2
  have a3 := meets_false a3
  obtain ⟨f1, l1⟩ := step_frame h1
  obtain ⟨f2, l2⟩ := step_frame h2
  -- q first
  obtain ⟨σq, hq, sq⟩ := step_local (σ1 := σ1) (σ2 := σ) (p := q) l1 (fun x hx => f1 x fun hw => a1 x hw hx) h2
  obtain ⟨fq, lq⟩ := step_frame hq
  obtain ⟨σp, hp, sp⟩ := step_local (σ1 := σ) (σ2 := σq) (p := p) lq.symm (fun x hx => Atom.same_symm (fq x fun hw => a3 x hw hx)) h1
  obtain ⟨fp, lp⟩ := step_frame hp
  refine ⟨σq, hq, ?_⟩
  rw [hp]
  congr 1
  refine Sig.ext_atoms (by rw [lp, lq, l2, l1]) fun x => ?_
  by_cases hxp : x ∈ p.writes
  · -- p wrote it last, in both
    have e1 : x.same σ1 σp := sp x (.inr hxp)
    have e2 : x.same σ2 σ1 := f2 x (a2 x hxp)
    exact Atom.same_symm (Atom.same_trans e2 e1)
  · have e1 : x.same σp σq := fp x hxp
    have e2 : x.same σ2 σq := sq x (by
      by_cases hxq : x ∈ q.writes
      · exact .inr hxq
      · exact .inl (f1 x hxp))
    exact Atom.same_trans e1 (Atom.same_symm e2)

/-- an operation apart from all ahead of it may come first -/
theorem bubble {ps : List AOper} {rest : List AOper} (hap : ∀ r ∈ ps, apartA r p = true) (h : runOps call (ps ++ p :: rest) σ = some σ') :
    ∃ σ1, stepOp call p σ = some σ1 ∧ runOps call (ps ++ rest) σ1 = some σ' := by
  induction ps generalizing σ with
  | nil =>
    simp only [List.nil_append, runOps] at h
    cases hs : stepOp call p σ with
    | none => simp [hs] at h
    | some σ1 => simp only [hs] at h; exact ⟨σ1, rfl, h⟩
  | cons r ps ih =>
    simp only [List.cons_append, runOps] at h
    cases hs : stepOp call r σ with
    | none => simp [hs] at h
    | some σr =>
      simp only [hs] at h
      obtain ⟨σ2, h2, h3⟩ := ih (fun r hr => hap r (by simp [hr])) h
      obtain ⟨σ1, g1, g2⟩ := swap_ok (hap r (by simp)) hs h2
      refine ⟨σ1, g1, ?_⟩
      simp only [List.cons_append, runOps, g2]
      exact h3
end
end Go.Cb
/-
  THE ABSTRACT MACHINE, part 24: regions.
-/
set_option maxRecDepth 4000
set_option linter.unusedSimpArgs false
namespace Go.Cb
open Classical

def guardOK (c : Cx) (ops : Array Oper) (o : Oper) (p : AOper) : Bool := match o.guard, p.guard with
  | none, none => true
  | some (j, w), some (x, w') => (w == w') && (match (ops[j]?).bind (·.dst) with | some d => opdN c (.tmp d) x && decide (d < c.nt) | none => false) && dstOK c o.dst p.dst
  | _, _ => false

def opsOK (c : Cx) (ops : Array Oper) : List Oper → List AOper → Bool
  | [], [] => true
  | o :: os, p :: ps => opOK c o p && guardOK c ops o p && opsOK c ops os ps
  | _, _ => false

def pairsOK (ops : Array Oper) : List (Nat × List Atom × List Atom) → Nat → List AOper → Bool
  | _, _, [] => true
  | es, j, p :: ps =>
    (befores ops j).all (fun i => Nat.blt i j) &&
    es.all (fun e => (!meets e.2.2 p.reads && !meets e.2.2 p.writes && !meets p.writes e.2.1) || (closure ops 4 (befores ops j)).any (Nat.beq e.1)) &&
    pairsOK ops ((j, p.reads, p.writes) :: es) (j + 1) ps

def regOK (c : Cx) (ops : Array Oper) (draw : Bool) (_ : List Nat) (ps : List AOper) : Bool :=
  opsOK c ops ops.toList ps && (!draw || pairsOK ops [] 0 ps)

section
variable {c : Cx} {g : Gh} {w : World} {pr : Nat → Option Pl} {bx : Nat → Nat} {σ σ' : Sig} {a : Act} {call : CallT} {ops : Array Oper} {next : Act → World → Prop} {Q : Exit → Act → World → Prop}

theorem step_ok (fx : Fx c) (hc : CallOK c.P c.gt call) (h : S c g w pr bx σ a) {i : Nat} {o : Oper} {p : AOper} (hi : ops[i]? = some o) (hop : opOK c o p = true) (hg : guardOK c ops o p = true)
    (hs : stepOp call p σ = some σ') (hnext : Post c g w a σ' next) : wpOp c.P ops Q i next a w := by
  unfold wpOp
  simp only [hi]
  unfold stepOp at hs
  unfold guardOK at hg
  split at hg
  · rename_i h1 h2
    rw [h2] at hs
    have hw : Region.wanted o (yielded ops a.tmps) = true := by simp [Region.wanted, h1]
    rw [if_pos hw]
    exact .inl (op_ok hop fx hc h hs hnext)
  · rename_i j want x want' h1 h2
    simp only [Bool.and_eq_true, beq_iff_eq] at hg
    obtain ⟨⟨rfl, hg⟩, hd⟩ := hg
    split at hg
    · rename_i d hdst
      simp only [Bool.and_eq_true, decide_eq_true_eq] at hg
      obtain ⟨hx, hdn⟩ := hg
      have hA := read_ok h hx
      have hlt : d < a.tmps.size := by rw [h.fr.size]; exact hdn
      have hy : ∀ v, a.eval (.tmp d) = v → yielded ops a.tmps j = (match v with | .bool b => some b | _ => none) := fun v hv => by
        have e : a.tmps[d]? = some v := by
          rw [← hv]; simp [Act.eval, hlt]
        simp only [yielded, hdst, Option.bind_some, e]
        cases v <;> rfl
      rw [h2] at hs
      simp only at hs
      have skip : Region.wanted o (yielded ops a.tmps) = false → some (p.dst.put (.tuple []) σ) = some σ' → (if Region.wanted o (yielded ops a.tmps) = true then o.wp c.P a w next Q ∨ (o.asks c.P a w ∧ LetsOut Q) else next (a.put o.dst undef) w) := fun hw hs => by
        rw [if_neg (by rw [hw]; simp)]
        obtain rfl := Option.some.inj hs
        refine hnext _ _ g pr bx (defers_put _ _ _) (put_ok fx h hd (mine := No) (r := .tuple []) (v := undef) ?_ fun _ x => x.elim) (Tr.refl _ _ _)
        exact (show ValOK g w No (.tuple []) undef from ValOK.mk' (by simp only [Rel]; exact ⟨#[], rfl, by simp [RelL]⟩) (by simp) (by simp))
      split at hs
      · rename_i b hb
        rw [hb] at hA
        have hv := ValOK.rel hA
        simp only [Rel] at hv
        have hyv := hy _ hv
        split at hs
        · rename_i hbw
          have hw : Region.wanted o (yielded ops a.tmps) = true := by
            simp only [Region.wanted, h1, hyv]
            simpa using hbw
          rw [if_pos hw]
          exact .inl (op_ok hop fx hc h hs hnext)
        · rename_i hbw
          exact skip (by
            simp only [Region.wanted, h1, hyv]
            simpa using hbw) hs
      · rename_i hb
        rw [hb] at hA
        have hv := ValOK.rel hA
        simp only [Rel] at hv
        obtain ⟨arr, hv, hr⟩ := hv
        have hyv := hy _ hv
        exact skip (by simp [Region.wanted, h1, hyv]) hs
      · cases hs
    · cases hg
  · cases hg

theorem opsOK_get {os : List Oper} : ∀ {ps : List AOper}, opsOK c ops os ps = true → os.length = ps.length ∧ ∀ (i : Nat) (p : AOper), ps[i]? = some p → ∃ o, os[i]? = some o ∧ opOK c o p = true ∧ guardOK c ops o p = true := by
  induction os with
  | nil =>
    intro ps h
    cases ps with
    | nil => exact ⟨rfl, fun i p h => by simp at h⟩
    | cons p ps => simp [opsOK] at h
  | cons o os ih =>
    intro ps h
    cases ps with
    | nil => simp [opsOK] at h
    | cons p ps =>
      rw [opsOK, Bool.and_eq_true, Bool.and_eq_true] at h
      obtain ⟨⟨h1, h2⟩, h3⟩ := h
      obtain ⟨l, hg⟩ := ih h3
      refine ⟨by rw [List.length_cons, List.length_cons, l], fun i q hi => ?_⟩
      cases i with
      | zero =>
        rw [List.getElem?_cons_zero] at hi
        obtain rfl := Option.some.inj hi
        exact ⟨o, rfl, h1, h2⟩
      | succ i =>
        rw [List.getElem?_cons_succ] at hi ⊢
        exact hg i q hi

theorem Post.trans {σ'' : Sig} {g' : Gh} {w' : World} {a' : Act} (h : Post c g w a σ'' next) (hd : a'.defers = a.defers) (ht : Tr c.A g w g' w') : Post c g' w' a' σ'' next :=
  fun a2 w2 g2 pr2 bx2 d2 s2 t2 => h a2 w2 g2 pr2 bx2 (d2.trans hd) s2 (ht.trans t2)

/-- in the order of the text -/
theorem ops_text (fx : Fx c) (hc : CallOK c.P c.gt call) {ps : List AOper} (hok : opsOK c ops ops.toList ps = true) : ∀ (n k : Nat) (g : Gh) (w : World) (pr : Nat → Option Pl) (bx : Nat → Nat) (σ : Sig) (a : Act), k + n = ps.length →
    S c g w pr bx σ a → runOps call (ps.drop k) σ = some σ' → Post c g w a σ' (Q .normal) → wpOps c.P ops Q (List.range' k n) a w
  | 0, k, g, w, pr, bx, σ, a, hk, h, hr, hnext => by
    rw [List.drop_of_length_le (by omega)] at hr
    simp only [runOps, Option.some.injEq] at hr
    subst hr
    exact hnext a w g pr bx rfl h (Tr.refl _ _ _)
  | n + 1, k, g, w, pr, bx, σ, a, hk, h, hr, hnext => by
    obtain ⟨hl, hget⟩ := opsOK_get hok
    rw [List.drop_eq_getElem_cons (by omega)] at hr
    simp only [runOps] at hr
    obtain ⟨o, ho, h1, h2⟩ := hget k _ (List.getElem?_eq_getElem (show k < ps.length by omega))
    cases hs : stepOp call (ps[k]'(by omega)) σ with
    | none => simp [hs] at hr
    | some σ1 =>
      simp only [hs] at hr
      rw [List.range'_succ, wpOps_cons]
      refine step_ok fx hc h (by simpa using ho) h1 h2 hs fun a1 w1 g1 pr1 bx1 hd1 hS1 ht1 => ?_
      exact ops_text fx hc hok n (k + 1) g1 w1 pr1 bx1 σ1 a1 (by omega) hS1 hr (hnext.trans hd1 ht1)
end
end Go.Cb
/-
  THE ABSTRACT MACHINE, part 25: regions whose order is drawn.
-/
set_option maxRecDepth 4000
set_option linter.unusedSimpArgs false
namespace Go.Cb
open Classical

section
variable {c : Cx} {σ' : Sig} {call : CallT} {ops : Array Oper} {Q : Exit → Act → World → Prop}

theorem pairs_spec (all : List AOper) : ∀ (ps : List AOper) (k : Nat) (es : List (Nat × List Atom × List Atom)), ps = all.drop k → (∀ (i : Nat) (q : AOper), i < k → all[i]? = some q → (i, q.reads, q.writes) ∈ es) → pairsOK ops es k ps = true →
    ∀ (j : Nat) (p : AOper), k ≤ j → all[j]? = some p → (∀ i ∈ befores ops j, i < j) ∧ ∀ (i : Nat) (q : AOper), i < j → all[i]? = some q → apartA q p = true ∨ i ∈ closure ops 4 (befores ops j)
  | [], k, es, hps, _, _, j, p, hkj, hj => by
    have : all.length ≤ k := by
      have := congrArg List.length hps
      simp at this; omega
    rw [List.getElem?_eq_none (by omega)] at hj; cases hj
  | p0 :: ps, k, es, hps, hes, h, j, p, hkj, hj => by
    have hk : k < all.length := by
      have := congrArg List.length hps
      simp at this; omega
    rw [List.drop_eq_getElem_cons hk] at hps
    simp only [List.cons.injEq] at hps
    obtain ⟨e0, hps⟩ := hps
    simp only [pairsOK, Bool.and_eq_true] at h
    obtain ⟨⟨h1, h2⟩, h3⟩ := h
    rcases Nat.lt_or_ge k j with hlt | hge
    · refine pairs_spec all ps (k + 1) _ hps (fun i q hi hq => ?_) h3 j p hlt hj
      rcases Nat.lt_or_ge i k with h4 | h4
      · exact List.mem_cons_of_mem _ (hes i q h4 hq)
      · obtain rfl : i = k := by omega
        rw [List.getElem?_eq_getElem hk] at hq
        simp only [Option.some.injEq] at hq
        rw [e0, hq]
        simp
    · obtain rfl : j = k := by omega
      rw [List.getElem?_eq_getElem hk] at hj
      simp only [Option.some.injEq] at hj
      rw [← hj, ← e0]
      refine ⟨fun i hi => ?_, fun i q hi hq => ?_⟩
      · have := List.all_eq_true.1 h1 i hi
        simpa using this
      · have := List.all_eq_true.1 h2 _ (hes i q hi hq)
        simp only [Bool.or_eq_true] at this
        rcases this with h5 | h5
        · left; simpa [apartA] using h5
        · right
          rw [List.any_eq_true] at h5
          obtain ⟨y, hy, e⟩ := h5
          have : i = y := by simpa using e
          rw [this]; exact hy

def rem_ (n : Nat) (listed : Array Bool) : List Nat := (List.range n).filter fun i => !listed.getD i true

theorem mem_rem {n : Nat} {listed : Array Bool} {i : Nat} : i ∈ rem_ n listed ↔ i < n ∧ listed.getD i true = false := by
  simp [rem_]
theorem rem_sorted (n : Nat) (listed : Array Bool) : (rem_ n listed).Pairwise (· < ·) := List.Pairwise.filter _ List.pairwise_lt_range

theorem getD_both {l : Array Bool} {i : Nat} (h : i < l.size) (d e : Bool) : l.getD i d = l.getD i e := by
  simp [Array.getD_eq_getD_getElem?, h]

theorem rem_set {n : Nat} {listed : Array Bool} (hl : listed.size = n) {i : Nat} {l1 l2 : List Nat} (h : rem_ n listed = l1 ++ i :: l2) : rem_ n (listed.setIfInBounds i true) = l1 ++ l2 := by
  have hi : i ∈ rem_ n listed := by rw [h]; simp
  have hin := (mem_rem.1 hi).1
  have e : rem_ n (listed.setIfInBounds i true) = (rem_ n listed).filter (fun x => x != i) := by
    unfold rem_
    rw [List.filter_filter]
    apply List.filter_congr
    intro x hx
    have hxn : x < n := by simpa using hx
    by_cases ex : x = i
    · subst ex
      simp [Array.getD_eq_getD_getElem?, hl, hxn]
    · have : (listed.setIfInBounds i true).getD x true = listed.getD x true := by
        simp [Array.getD_eq_getD_getElem?, Array.getElem?_setIfInBounds_ne (Ne.symm ex)]
      rw [this]
      simp [ex]
  rw [e, h]
  have hp := rem_sorted n listed
  rw [h] at hp
  have hp := List.pairwise_append.1 hp
  have h1 : ∀ x ∈ l1, x ≠ i := fun x hx => Nat.ne_of_lt (hp.2.2 x hx i (by simp))
  have h2 : ∀ x ∈ l2, x ≠ i := fun x hx => Nat.ne_of_gt ((List.pairwise_cons.1 hp.2.1).1 x hx)
  rw [List.filter_append, List.filter_cons_of_neg (by simp), List.filter_eq_self.2 (fun x hx => by simpa using h1 x hx), List.filter_eq_self.2 (fun x hx => by simpa using h2 x hx)]

theorem closure_listed {listed : Array Bool} (hc : ∀ j, listed.getD j false = true → ∀ i ∈ befores ops j, listed.getD i false = true) :
    ∀ (n : Nat) (l : List Nat), (∀ x ∈ l, listed.getD x false = true) → ∀ x ∈ closure ops n l, listed.getD x false = true
  | 0, l, h, x, hx => h x hx
  | n + 1, l, h, x, hx => by
    simp only [closure, List.mem_append] at hx
    rcases hx with hx | hx
    · exact h x hx
    · refine closure_listed hc n _ (fun y hy => ?_) x hx
      obtain ⟨z, hz, hy⟩ := List.mem_flatMap.1 hy
      exact hc z (h z hz) y hy

theorem ready_iff {listed : Array Bool} {i : Nat} : i ∈ Region.ready .any ops listed ↔ i < ops.size ∧ listed.getD i true = false ∧ ∀ b ∈ befores ops i, listed.getD b false = true := by
  unfold Region.ready
  rw [List.mem_filter, List.mem_range]
  constructor
  · rintro ⟨h1, h2⟩
    simp only [Bool.and_eq_true, Bool.not_eq_true'] at h2
    refine ⟨h1, h2.1, fun b hb => ?_⟩
    have h3 := h2.2
    unfold befores at hb
    rw [Array.getElem?_eq_getElem h1] at h3 hb
    simp only [Option.map_some, Option.getD_some] at h3
    simp only at hb
    obtain ⟨e, he, hb⟩ := List.mem_filterMap.1 hb
    have := Array.all_eq_true_iff_forall_mem.1 h3 e (by simpa using he)
    split at hb
    · rename_i hbind
      simp only [Option.some.injEq] at hb
      subst hb
      simpa [hbind] using this
    · cases hb
  · rintro ⟨h1, h2, h3⟩
    refine ⟨h1, ?_⟩
    simp only [Bool.and_eq_true, Bool.not_eq_true']
    refine ⟨h2, ?_⟩
    unfold befores at h3
    rw [Array.getElem?_eq_getElem h1] at h3 ⊢
    simp only [Option.map_some, Option.getD_some]
    refine Array.all_eq_true_iff_forall_mem.2 fun e he => ?_
    cases hbind : Region.binds .any e with
    | false => simp
    | true =>
      have := h3 e.on (List.mem_filterMap.2 ⟨e, by simpa using he, by simp [hbind]⟩)
      simp [this]

/-- in whatever order is drawn -/
theorem ops_any (fx : Fx c) (hc : CallOK c.P c.gt call) {ps : List AOper} (hok : opsOK c ops ops.toList ps = true) (hpairs : pairsOK ops [] 0 ps = true) :
    ∀ (n : Nat) (listed : Array Bool) (g : Gh) (w : World) (pr : Nat → Option Pl) (bx : Nat → Nat) (σ : Sig) (a : Act), listed.size = ps.length → (rem_ ps.length listed).length = n →
      (∀ j, listed.getD j false = true → ∀ i ∈ befores ops j, listed.getD i false = true) →
      S c g w pr bx σ a → runOps call ((rem_ ps.length listed).filterMap (ps[·]?)) σ = some σ' → Post c g w a σ' (Q .normal) → wpAny c.P .any ops Q n listed a w := by
  obtain ⟨hl, hget⟩ := opsOK_get hok
  have hsz : ops.size = ps.length := by simpa using hl
  have hsp := fun (j : Nat) (p : AOper) hj => pairs_spec (ops := ops) ps ps 0 [] rfl (fun i q hi => by omega) hpairs j p (Nat.zero_le _) hj
  have hempty : ∀ (listed : Array Bool), listed.size = ps.length → Region.ready .any ops listed = [] → rem_ ps.length listed = [] := by
    intro listed hls hr
    cases hrem : rem_ ps.length listed with
    | nil => rfl
    | cons i l =>
      exfalso
      have hi : i ∈ rem_ ps.length listed := by rw [hrem]; simp
      obtain ⟨h1, h2⟩ := mem_rem.1 hi
      have : i ∈ Region.ready .any ops listed := by
        refine ready_iff.2 ⟨by omega, h2, fun b hb => ?_⟩
        have hbi := (hsp i _ (List.getElem?_eq_getElem h1)).1 b hb
        have hnb : b ∉ rem_ ps.length listed := fun hm => by
          have hs := rem_sorted ps.length listed
          rw [hrem] at hs hm
          rcases List.mem_cons.1 hm with rfl | hm
          · omega
          · have := (List.pairwise_cons.1 hs).1 b hm; omega
        have hbn : b < ps.length := by omega
        cases hq : listed.getD b true with
        | false => exact absurd (mem_rem.2 ⟨hbn, hq⟩) hnb
        | true => rw [getD_both (by omega) false true]; exact hq
      rw [hr] at this
      cases this
  intro n
  induction n with
  | zero =>
    intro listed g w pr bx σ a hls hn _ h hr hnext
    have hrem : rem_ ps.length listed = [] := List.eq_nil_of_length_eq_zero hn
    rw [hrem] at hr
    simp only [List.filterMap_nil, runOps, Option.some.injEq] at hr
    subst hr
    refine ⟨?_, hnext a w g pr bx rfl h (Tr.refl _ _ _)⟩
    apply List.eq_nil_iff_forall_not_mem.2
    intro i hi
    obtain ⟨h1, h2, _⟩ := ready_iff.1 hi
    have := (mem_rem (n := ps.length)).2 ⟨show i < ps.length by omega, h2⟩
    rw [hrem] at this
    cases this
  | succ n ih =>
    intro listed g w pr bx σ a hls hn hcl h hr hnext
    refine ⟨fun he => ?_, fun i hi => ?_⟩
    · have := hempty listed hls he
      rw [this] at hn
      cases hn
    · obtain ⟨h1, h2, h3⟩ := ready_iff.1 hi
      have hip : i < ps.length := by omega
      have hirem : i ∈ rem_ ps.length listed := mem_rem.2 ⟨hip, h2⟩
      obtain ⟨l1, l2, hsplit⟩ := List.append_of_mem hirem
      obtain ⟨o, ho, hop, hg⟩ := hget i _ (List.getElem?_eq_getElem hip)
      have hs := rem_sorted ps.length listed
      rw [hsplit] at hs
      have hs := List.pairwise_append.1 hs
      rw [hsplit, List.filterMap_append, List.filterMap_cons_some (List.getElem?_eq_getElem hip)] at hr
      obtain ⟨σ1, hstep, hrest⟩ := bubble (fun r hr => by
        obtain ⟨k, hk, hrk⟩ := List.mem_filterMap.1 hr
        have hki : k < i := hs.2.2 k hk i (by simp)
        refine ((hsp i _ (List.getElem?_eq_getElem hip)).2 k r hki hrk).resolve_right fun hcl' => ?_
        have hlist := closure_listed hcl 4 _ h3 k hcl'
        have hkrem : k ∈ rem_ ps.length listed := by rw [hsplit]; simp [hk]
        have := (mem_rem.1 hkrem).2
        rw [getD_both (by omega) true false, hlist] at this
        cases this) hr
      rw [← List.filterMap_append, ← rem_set hls hsplit] at hrest
      refine step_ok fx hc h (by simpa using ho) hop hg hstep fun a1 w1 g1 pr1 bx1 hd1 hS1 ht1 => ?_
      refine ih (listed.setIfInBounds i true) g1 w1 pr1 bx1 σ1 a1 (by simpa using hls) ?_ (fun j hj b hb => ?_) hS1 hrest (hnext.trans hd1 ht1)
      · rw [rem_set hls hsplit]
        rw [hsplit] at hn
        simp at hn ⊢
        omega
      · have up : ∀ x, listed.getD x false = true → (listed.setIfInBounds i true).getD x false = true := fun x hx => by
          by_cases e : i = x
          · subst e; simp [Array.getD_eq_getD_getElem?, hls, hip]
          · simpa [Array.getD_eq_getD_getElem?, Array.getElem?_setIfInBounds_ne e] using hx
        by_cases e : i = j
        · subst e
          exact up b (h3 b hb)
        · refine up b (hcl j ?_ b hb)
          simpa [Array.getD_eq_getD_getElem?, Array.getElem?_setIfInBounds_ne e] using hj

end
end Go.Cb
/-
  THE ABSTRACT MACHINE, part 26: code.
-/
set_option maxRecDepth 4000
set_option linter.unusedSimpArgs false
namespace Go.Cb
open Classical

def condOK (c : Cx) (x : Operand) (y : Opd) : Bool := opdN c x y

/-- the test of code -/
def codeOK (c : Cx) : Code → ACode → Bool
  | .skip, .skip => true
  | .exit id, .exit id' => id == id'
  | .ret, .ret => true
  | .region _ ops d, .reg kill ps => regOK c ops d kill ps
  | .seq (.region _ ops d) (.cond x a b), .test kill ps y a' b' => regOK c ops d kill ps && condOK c x y && codeOK c a a' && codeOK c b b'
  | .seq (.region _ ops d) (.seq (.cond x a b) rest), .seq (.test kill ps y a' b') rest' => regOK c ops d kill ps && condOK c x y && codeOK c a a' && codeOK c b b' && codeOK c rest rest'
  | .seq a b, .seq a' b' => codeOK c a a' && codeOK c b b'
  | .cond x a b, .test kill ps y a' b' => kill.isEmpty && ps.isEmpty && condOK c x y && codeOK c a a' && codeOK c b b'
  | .block id a, .blk id' a' => id == id' && codeOK c a a'
  | .loop a, .loop a' => codeOK c a a'
  | .scope a, a' => codeOK c a a'
  | _, _ => false

def Ex.toExit : Ex → Exit
  | .normal => .normal
  | .exit id => .exit id
  | .ret => .ret

/-- what comes behind code -/
def After (c : Cx) (g : Gh) (w : World) (a : Act) (out : Out) (Q : Exit → Act → World → Prop) : Prop :=
  ∀ a' w' g' pr' bx' τ', a'.defers = a.defers → S c g' w' pr' bx' ⟨out.2.1, τ', out.2.2⟩ a' → Tr c.A g w g' w' → Q out.1.toExit a' w'

def CodeK (c : Cx) (x : Code) (y : ACode) : Prop :=
  ∀ {call : CallT} {n : Nat} {g : Gh} {w : World} {pr : Nat → Option Pl} {bx : Nat → Nat} {fr : List AV} {τ : Nat → AV} {st : St} {a : Act} {out : Out} {Q : Exit → Act → World → Prop},
    Fx c → c.P.follows .mixedOrders = true → CallOK c.P c.gt call → S c g w pr bx ⟨fr, τ, st⟩ a → exec call n y fr st = some out → After c g w a out Q → x.wp c.P Q a w

section
variable {c : Cx}

theorem After.trans {g g' : Gh} {w w' : World} {a a' : Act} {out : Out} {Q : Exit → Act → World → Prop} (h : After c g w a out Q) (hd : a'.defers = a.defers) (ht : Tr c.A g w g' w') : After c g' w' a' out Q :=
  fun a2 w2 g2 pr2 bx2 τ2 d2 s2 t2 => h a2 w2 g2 pr2 bx2 τ2 (d2.trans hd) s2 (ht.trans t2)

theorem killAll_getD : ∀ (kill : List Nat) (fr : List AV) (i : Nat), (killAll kill fr).getD i .undef = fr.getD i .undef ∨ (killAll kill fr).getD i .undef = .undef
  | [], fr, i => .inl rfl
  | k :: kill, fr, i => by
    simp only [killAll]
    rcases killAll_getD kill (fr.set k .undef) i with h | h
    · rw [h, getD_set]
      split
      · exact .inr rfl
      · exact .inl rfl
    · exact .inr h
theorem killAll_len : ∀ (kill : List Nat) (fr : List AV), (killAll kill fr).length = fr.length
  | [], _ => rfl
  | k :: kill, fr => by rw [killAll, killAll_len kill, List.length_set]

theorem VarOK.undef {g : Gh} {w : World} {pr : Nat → Option Pl} {bx : Nat → Nat} {i : Nat} {v : Value} : VarOK g w pr bx i .undef v := ValOK.undef

/-- a region begins: the temporaries are forgotten, and some of the variables -/
theorem S.reset {g : Gh} {w : World} {pr : Nat → Option Pl} {bx : Nat → Nat} {fr : List AV} {τ : Nat → AV} {st : St} {a : Act} (h : S c g w pr bx ⟨fr, τ, st⟩ a) (kill : List Nat) :
    S c g w pr bx ⟨killAll kill fr, fun _ => .undef, st⟩ a := by
  refine ⟨⟨h.fr.size, by rw [killAll_len]; exact h.fr.len, fun i s hs => ?_, fun s hs => ValOK.undef, h.fr.prv, fun i cs hi => ?_⟩, h.st, h.gl, h.fresh, h.stA⟩
  · rcases killAll_getD kill fr i with e | e
    · rw [e]; exact h.fr.var i s hs
    · rw [e]; exact VarOK.undef
  · rcases killAll_getD kill fr i with e | e
    · rw [e] at hi; exact h.fr.bxs i cs hi
    · rw [e] at hi; cases hi

theorem S.drawn {g : Gh} {w : World} {pr : Nat → Option Pl} {bx : Nat → Nat} {σ : Sig} {a : Act} (h : S c g w pr bx σ a) (n : Nat) : S c g { w with drawn := n } pr bx σ a ∧ Tr c.A g w g { w with drawn := n } := by
  have he : Ext g w g { w with drawn := n } := ⟨Nat.le_refl _, fun _ _ => rfl, fun _ _ x => x, fun _ _ _ => rfl⟩
  have ht : Tr No g w g { w with drawn := n } := ⟨he, Nat.le_refl _, Env.drawn rfl rfl rfl, fun b _ hs _ => ⟨⟨rfl, fun _ x => x⟩, hs⟩⟩
  exact ⟨⟨h.fr.evolve ht, h.st.evolve he rfl (Nat.le_refl _) (fun b p hb => ⟨hb, rfl, fun _ x => x⟩) (fun _ _ x => x) (fun _ _ x => .inl x), h.gl.ext he, h.fresh, h.stA⟩, ht.wider fun _ x => x.elim⟩

theorem filterMap_range' (ps : List AOper) : ∀ (n k : Nat), k + n = ps.length → (List.range' k n).filterMap (ps[·]?) = ps.drop k
  | 0, k, h => by rw [List.drop_of_length_le (by omega)]; rfl
  | n + 1, k, h => by
    rw [List.range'_succ, List.filterMap_cons_some (List.getElem?_eq_getElem (show k < ps.length by omega)), filterMap_range' ps n (k + 1) (by omega), ← List.drop_eq_getElem_cons]
theorem filterMap_range (ps : List AOper) : (List.range ps.length).filterMap (ps[·]?) = ps := by
  rw [List.range_eq_range', filterMap_range' ps ps.length 0 (by omega)]
  rfl

theorem reg_ok (fx : Fx c) (hm : c.P.follows .mixedOrders = true) {call : CallT} (hc : CallOK c.P c.gt call) {g : Gh} {w : World} {pr : Nat → Option Pl} {bx : Nat → Nat} {fr : List AV} {τ : Nat → AV} {st : St} {a : Act}
    {id : Nat} {ops : Array Oper} {d : Bool} {kill : List Nat} {ps : List AOper} (hok : regOK c ops d kill ps = true) (h : S c g w pr bx ⟨fr, τ, st⟩ a) {σ' : Sig} (hr : runOps call ps ⟨killAll kill fr, fun _ => .undef, st⟩ = some σ')
    {Q : Exit → Act → World → Prop} (hnext : Post c g w a σ' (Q .normal)) : (Code.region id ops d).wp c.P Q a w := by
  simp only [regOK, Bool.and_eq_true, Bool.or_eq_true, Bool.not_eq_true'] at hok
  obtain ⟨h1, h2⟩ := hok
  have h0 := h.reset kill
  obtain ⟨hl, _⟩ := opsOK_get h1
  cases d with
  | false =>
    refine wp_region ?_
    have := ops_text (Q := Q) fx hc h1 ops.size 0 g w pr bx _ a (by simpa using hl) h0 (by simpa using hr) hnext
    rwa [← List.range_eq_range'] at this
  | true =>
    have h2 := h2.resolve_left (by simp)
    refine wp_region_any hm ?_
    obtain ⟨hd1, hd2⟩ := h0.drawn (w.drawn + 1)
    have hsz : ops.size = ps.length := by simpa using hl
    have hrem : rem_ ps.length (Array.replicate ops.size false) = List.range ps.length := by
      unfold rem_
      apply List.filter_eq_self.2
      intro i hi
      have : i < ps.length := by simpa using hi
      simp [hsz, this]
    refine ops_any fx hc h1 h2 ops.size (Array.replicate ops.size false) g _ pr bx _ a (by simpa using hsz) (by rw [hrem]; simpa using hsz.symm) (fun j hj => ?_) hd1 (by rw [hrem, filterMap_range]; exact hr) (hnext.trans rfl hd2)
    exfalso
    have hlt : j < ps.length := by
      rcases Nat.lt_or_ge j ps.length with h | h
      · exact h
      · simp [Array.getD_eq_getD_getElem?, hsz, Nat.not_lt.2 h] at hj
    simp [hsz, hlt] at hj

theorem cond_ok {g : Gh} {w : World} {pr : Nat → Option Pl} {bx : Nat → Nat} {σ : Sig} {a : Act} (h : S c g w pr bx σ a) {x : Operand} {y : Opd} (hok : condOK c x y = true) {b : Bool} (hb : y.read σ = .bool b) : a.eval x = .bool b := by
  have hA := read_ok h hok
  rw [hb] at hA
  have hr := ValOK.rel hA
  simpa only [Rel] using hr

theorem k_test {id : Nat} {ops : Array Oper} {d : Bool} {kill : List Nat} {ps : List AOper} {x : Operand} {y : Opd} {A B : Code} {A' B' : ACode} (h1 : regOK c ops d kill ps = true) (h2 : condOK c x y = true) (hA : CodeK c A A') (hB : CodeK c B B')
    {call : CallT} {n : Nat} {g : Gh} {w : World} {pr : Nat → Option Pl} {bx : Nat → Nat} {fr : List AV} {τ : Nat → AV} {st : St} {a : Act} {out : Out} {Q Q' : Exit → Act → World → Prop}
    (fx : Fx c) (hm : c.P.follows .mixedOrders = true) (hc : CallOK c.P c.gt call) (h : S c g w pr bx ⟨fr, τ, st⟩ a) (he : exec call n (.test kill ps y A' B') fr st = some out) (hQ : After c g w a out Q') {K : Act → World → Prop}
    (hK : ∀ a' w', (Code.cond x A B).wp c.P Q' a' w' → K a' w') : (Code.region id ops d).wp c.P (Exit.then K Q) a w := by
  simp only [exec] at he
  cases hr : runOps call ps ⟨killAll kill fr, fun _ => .undef, st⟩ with
  | none => simp [hr] at he
  | some σ =>
    simp only [hr, fL_eq] at he
    refine reg_ok fx hm hc h1 h hr fun a1 w1 g1 pr1 bx1 hd1 hS1 ht1 => ?_
    show K a1 w1
    refine hK a1 w1 ?_
    split at he
    · rename_i hb
      exact wp_cond (t := true) (cond_ok hS1 h2 hb) (hA fx hm hc (τ := σ.τ) hS1 he (hQ.trans hd1 ht1))
    · rename_i hb
      exact wp_cond (t := false) (cond_ok hS1 h2 hb) (hB fx hm hc (τ := σ.τ) hS1 he (hQ.trans hd1 ht1))
    · cases he

theorem exec_seq {call : CallT} {n : Nat} {A B : ACode} {fr : List AV} {st : St} {out : Out} (h : exec call n (.seq A B) fr st = some out) :
    (∃ fr1 st1, exec call n A fr st = some (.normal, fr1, st1) ∧ exec call n B fr1 st1 = some out) ∨ (exec call n A fr st = some out ∧ out.1 ≠ .normal) := by
  simp only [exec] at h
  split at h
  · rename_i fr1 st1 h1; exact .inl ⟨fr1, st1, h1, h⟩
  · rename_i h1
    obtain ⟨e, fr', st'⟩ := out
    refine .inr ⟨h, fun hn => ?_⟩
    simp only at hn
    subst hn
    exact h1 fr' st' h

/-- what passes the test is matched -/
theorem code_ok : ∀ (x : Code) (y : ACode), codeOK c x y = true → CodeK c x y := by
  intro x y h
  unfold codeOK at h
  split at h
  · -- skip
    intro call n g w pr bx fr τ st a out Q fx hm hc hS he hQ
    simp only [exec, Option.some.injEq] at he
    subst he
    exact wp_skip (hQ a w g pr bx τ rfl hS (Tr.refl _ _ _))
  · intro call n g w pr bx fr τ st a out Q fx hm hc hS he hQ
    simp only [beq_iff_eq] at h
    subst h
    simp only [exec, Option.some.injEq] at he
    subst he
    exact wp_exit (hQ a w g pr bx τ rfl hS (Tr.refl _ _ _))
  · intro call n g w pr bx fr τ st a out Q fx hm hc hS he hQ
    simp only [exec, Option.some.injEq] at he
    subst he
    exact wp_ret (hQ a w g pr bx τ rfl hS (Tr.refl _ _ _))
  · -- a region
    intro call n g w pr bx fr τ st a out Q fx hm hc hS he hQ
    rename_i id ops d kill ps
    simp only [exec] at he
    cases hr : runOps call ps ⟨killAll kill fr, fun _ => .undef, st⟩ with
    | none => simp [hr] at he
    | some σ =>
      simp only [hr, fL_eq, Option.some.injEq] at he
      subst he
      exact reg_ok fx hm hc h hS hr fun a1 w1 g1 pr1 bx1 hd1 hS1 ht1 => hQ a1 w1 g1 pr1 bx1 σ.τ hd1 hS1 ht1
  · -- a region and a test
    intro call n g w pr bx fr τ st a out Q fx hm hc hS he hQ
    simp only [Bool.and_eq_true] at h
    obtain ⟨⟨⟨h1, h2⟩, h3⟩, h4⟩ := h
    exact wp_seq (k_test h1 h2 (code_ok _ _ h3) (code_ok _ _ h4) fx hm hc hS he hQ fun _ _ x => x)
  · -- a region, a test, and more
    intro call n g w pr bx fr τ st a out Q fx hm hc hS he hQ
    simp only [Bool.and_eq_true] at h
    obtain ⟨⟨⟨⟨h1, h2⟩, h3⟩, h4⟩, h5⟩ := h
    rename_i rest kill ps y A' B' rest'
    rcases exec_seq he with ⟨fr1, st1, e1, e2⟩ | ⟨e1, hn⟩
    · refine wp_seq (k_test (Q' := Exit.then (rest.wp c.P Q) Q) h1 h2 (code_ok _ _ h3) (code_ok _ _ h4) fx hm hc hS e1 (fun a1 w1 g1 pr1 bx1 τ1 hd1 hS1 ht1 => ?_) fun _ _ x => wp_seq x)
      exact code_ok _ _ h5 fx hm hc hS1 e2 (hQ.trans hd1 ht1)
    · refine wp_seq (k_test (Q' := Exit.then (rest.wp c.P Q) Q) h1 h2 (code_ok _ _ h3) (code_ok _ _ h4) fx hm hc hS e1 (fun a1 w1 g1 pr1 bx1 τ1 hd1 hS1 ht1 => ?_) fun _ _ x => wp_seq x)
      have := hQ a1 w1 g1 pr1 bx1 τ1 hd1 hS1 ht1
      revert this hn
      cases out.1 <;> simp [Ex.toExit, Exit.then]
  · -- one after the other
    intro call n g w pr bx fr τ st a out Q fx hm hc hS he hQ
    simp only [Bool.and_eq_true] at h
    obtain ⟨h1, h2⟩ := h
    refine wp_seq ?_
    rcases exec_seq he with ⟨fr1, st1, e1, e2⟩ | ⟨e1, hn⟩
    · exact code_ok _ _ h1 fx hm hc hS e1 fun a1 w1 g1 pr1 bx1 τ1 hd1 hS1 ht1 => code_ok _ _ h2 fx hm hc hS1 e2 (hQ.trans hd1 ht1)
    · refine code_ok _ _ h1 fx hm hc hS e1 fun a1 w1 g1 pr1 bx1 τ1 hd1 hS1 ht1 => ?_
      have := hQ a1 w1 g1 pr1 bx1 τ1 hd1 hS1 ht1
      revert this hn
      cases out.1 <;> simp [Ex.toExit, Exit.then]
  · -- a bare test
    intro call n g w pr bx fr τ st a out Q fx hm hc hS he hQ
    simp only [Bool.and_eq_true, List.isEmpty_iff] at h
    obtain ⟨⟨⟨⟨rfl, rfl⟩, h2⟩, h3⟩, h4⟩ := h
    simp only [exec, runOps, killAll, fL_eq] at he
    have hS0 := hS.reset []
    split at he
    · rename_i hb
      exact wp_cond (t := true) (cond_ok hS0 h2 hb) (code_ok _ _ h3 fx hm hc hS0 he hQ)
    · rename_i hb
      exact wp_cond (t := false) (cond_ok hS0 h2 hb) (code_ok _ _ h4 fx hm hc hS0 he hQ)
    · cases he
  · -- a block
    intro call n g w pr bx fr τ st a out Q fx hm hc hS he hQ
    simp only [Bool.and_eq_true, beq_iff_eq] at h
    obtain ⟨rfl, h1⟩ := h
    simp only [exec] at he
    refine wp_block ?_
    split at he
    · rename_i id' fr1 st1 e1
      simp only [Option.some.injEq] at he
      subst he
      refine code_ok _ _ h1 fx hm hc hS e1 fun a1 w1 g1 pr1 bx1 τ1 hd1 hS1 ht1 => ?_
      have := hQ a1 w1 g1 pr1 bx1 τ1 hd1 hS1 ht1
      simp only [Ex.toExit, Exit.inBlock]
      split
      · rename_i e; simpa [e, Ex.toExit] using this
      · rename_i e; simpa [e, Ex.toExit] using this
    · rename_i hne
      refine code_ok _ _ h1 fx hm hc hS he fun a1 w1 g1 pr1 bx1 τ1 hd1 hS1 ht1 => ?_
      have := hQ a1 w1 g1 pr1 bx1 τ1 hd1 hS1 ht1
      obtain ⟨e, fr1, st1⟩ := out
      cases e with
      | normal => exact this
      | exit id' => exact absurd he (hne id' fr1 st1)
      | ret => exact this
  · -- a loop
    intro call n g w pr bx fr τ st a out Q fx hm hc hS he hQ
    rename_i A A'
    simp only [exec] at he
    refine wp_loop_rounds n ?_
    have body : CodeK c A A' := code_ok A A' h
    have key : ∀ (m : Nat) (g : Gh) (w : World) (pr : Nat → Option Pl) (bx : Nat → Nat) (fr : List AV) (τ : Nat → AV) (st : St) (a : Act), S c g w pr bx ⟨fr, τ, st⟩ a → iter (exec call n A') m fr st = some out → After c g w a out Q → Code.rounds c.P A Q m a w := by
      intro m
      induction m with
      | zero => intro g w pr bx fr τ st a _ he; simp [iter] at he
      | succ m ih =>
        intro g w pr bx fr τ st a hS he hQ
        rw [rounds_succ]
        simp only [iter] at he
        split at he
        · rename_i fr1 st1 e1
          exact body fx hm hc hS e1 fun a1 w1 g1 pr1 bx1 τ1 hd1 hS1 ht1 => ih g1 w1 pr1 bx1 fr1 τ1 st1 a1 hS1 he (hQ.trans hd1 ht1)
        · rename_i hne
          refine body fx hm hc hS he fun a1 w1 g1 pr1 bx1 τ1 hd1 hS1 ht1 => ?_
          have := hQ a1 w1 g1 pr1 bx1 τ1 hd1 hS1 ht1
          obtain ⟨e, fr1, st1⟩ := out
          cases e with
          | normal => exact absurd he (hne fr1 st1)
          | exit id' => exact this
          | ret => exact this
    exact key n g w pr bx fr τ st a hS he hQ
  · -- a scope
    intro call n g w pr bx fr τ st a out Q fx hm hc hS he hQ
    refine wp_scope_straight (code_ok _ _ h fx hm hc hS he fun a1 w1 g1 pr1 bx1 τ1 hd1 hS1 ht1 => ?_)
    have := hQ a1 w1 g1 pr1 bx1 τ1 hd1 hS1 ht1
    revert this
    cases out.1 <;> simp [Ex.toExit, Exit.noGoto]
  · cases h
termination_by x => x
end
end Go.Cb
/-
  THE ABSTRACT MACHINE, part 27: functions, and calls at every depth.
-/
set_option maxRecDepth 4000
set_option linter.unusedSimpArgs false
namespace Go.Cb
open Classical

def nodupB : List Nat → Bool
  | [] => true
  | x :: xs => !xs.any (Nat.beq x) && nodupB xs

def resOK (c : Cx) : List ResultVar → List ResK → Bool
  | [], [] => true
  | .tmp t :: rs, .v i :: ks => c.slots[i]? == some t && !c.bxs.contains i && resOK c rs ks
  | .tmp t :: rs, .vs i :: ks => c.slots[i]? == some t && !c.bxs.contains i && resOK c rs ks
  | .cell a t :: rs, .bx i agg n :: ks => c.slots[i]? == some a && isAggB c t == some agg && sizeB c t == some n && resOK c rs ks
  | _, _ => false

def fnOK (P : Program) (gt : List (Nat × List AV)) (slots bxs : List Nat) (fn : Func) (f : AFn) (A : Nat → Prop) : Bool :=
  f.ext.isNone && nodupB slots && slots.all (fun s => Nat.blt s fn.ntmps) && slots.take f.np == List.range f.np && Nat.ble f.np slots.length && Nat.beq f.nv slots.length &&
    (match fn.body with | some x => codeOK ⟨P, slots, bxs, fn.ntmps, gt, A⟩ x f.code | none => false) && resOK ⟨P, slots, bxs, fn.ntmps, gt, A⟩ fn.results.toList f.results

/-- a call that is told by itself -/
def ExtOK (P : Program) (f : Nat) (e : List AV → St → Option (AV × St)) : Prop :=
  ∀ (args : List AV) (st : St) (res : AV) (st' : St), e args st = some (res, st') → (∀ x ∈ args, x.weak = x) →
    ∀ (g : Gh) (w : World) (vs : List Value), SRel g w st → RelL g w args vs → Calls P f vs.toArray w (CallPost g w st' res)

structure ProgOK (P : Program) (gt : List (Nat × List AV)) (tbl : Nat → Option AFn) : Prop where
  mixed : P.follows .mixedOrders = true
  fn : ∀ f af, tbl f = some af → enterB P f = true ∧ ((∃ slots bxs fn, P.funcs[f]? = some fn ∧ ∀ A, fnOK P gt slots bxs fn af A = true) ∨ (∃ e, af.ext = some e ∧ ExtOK P f e))

theorem nodupB_spec : ∀ {xs : List Nat}, nodupB xs = true → xs.Nodup
  | [], _ => List.nodup_nil
  | x :: xs, h => by
    simp only [nodupB, Bool.and_eq_true, Bool.not_eq_true', List.any_eq_false, Nat.beq_eq] at h
    exact List.nodup_cons.2 ⟨fun hm => h.1 x hm rfl, nodupB_spec h.2⟩

section
variable {c : Cx} {g : Gh} {w : World} {pr : Nat → Option Pl} {bx : Nat → Nat} {σ : Sig} {a : Act}

theorem load_var {t : TypeId} {n bb f : Nat} {ag : Bool} {cs : List AV} {us : List Value} {r : AV} (hag : isAggB c t = some ag) (hn : sizeB c t = some n) (hl : RelL g w cs us) (hc : w.rangeAt bb f us) (h1 : ∀ u ∈ us, u.oneCell' = true) (ht : takeVal ag n cs = some r) :
    ∃ v, (loadVar t (ad bb f)).run c.P w = .ok v w ∧ ValOK g w No r v := by
  obtain ⟨v, hrun, hr⟩ := run_load_any (c := c) (g := g) (bx := fun _ => 0) (fr := []) (a := { tmps := #[.pointer (some (ad bb f))], defers := [] }) (o := { (default : Oper) with op := .load t (.tmp 0) }) (x := .tmp 0) rfl hag hn (by simp [Act.eval]) hl hc h1 ht
  refine ⟨v, ?_, ?_⟩
  · simp only [execOp, Instr.loadAt, Instr.sureAddr, Act.eval, Sem.run_bind, Sem.run_pure] at hrun
    have e : (Array.getD #[Value.pointer (some (ad bb f))] 0 undef) = .pointer (some (ad bb f)) := rfl
    rw [e] at hrun
    simp only [Sem.run_pure, Result.andThen_ok] at hrun
    cases hq : (loadVar t (ad bb f)).run c.P w with
    | ok u w' =>
      rw [hq] at hrun
      simp only [Result.andThen_ok, Result.ok.injEq, Next.value.injEq] at hrun
      obtain ⟨rfl, rfl⟩ := hrun
      rfl
    | halt x w' => rw [hq] at hrun; cases hrun
  · cases r <;> first | exact hr | skip
    · exfalso
      unfold takeVal at ht
      split at ht
      · split at ht <;> simp at ht
      · split at ht
        · rename_i y ys
          simp only [Option.some.injEq] at ht
          simp only [RelL] at hl
          obtain ⟨v', r', _, hr', _⟩ := hl
          cases y <;> simp only [AV.weak1, reduceCtorEq] at ht
          simp [Rel] at hr'
        · cases ht
    · exfalso
      unfold takeVal at ht
      split at ht
      · split at ht <;> simp at ht
      · split at ht
        · rename_i y ys
          simp only [Option.some.injEq] at ht
          simp only [RelL] at hl
          obtain ⟨v', r', _, hr', _⟩ := hl
          cases y <;> simp only [AV.weak1, reduceCtorEq] at ht
          simp [Rel] at hr'
        · cases ht

theorem VarOK.val {i : Nat} {x : AV} {v : Value} (h : VarOK g w pr bx i x v) (hb : ∀ cs, x ≠ .box cs) : ValOK g w (fun b => pr b = some (.var i)) x v := by
  cases x <;> first | exact h | exact absurd rfl (hb _) | exact h.elim

/-- the results of a function -/
theorem res_ok (h : S c g w pr bx σ a) : ∀ {rs : List ResultVar} {ks : List ResK} {vs : List AV}, resOK c rs ks = true → getAll ks σ.fr = some vs →
    ∃ us : List Value, (rs.mapM fun (r : ResultVar) => (match r with | .tmp t => pure (a.tmps.getD t undef) | .cell x t => do loadVar t (← asAddr (a.tmps.getD x undef)) : Sem Value)).run c.P w = .ok us w ∧
      us.length = vs.length ∧ ∀ (k : Nat) (x : AV) (u : Value), vs[k]? = some x → us[k]? = some u → ValOK g w (fun b => ∃ p, pr b = some p) x u
  | [], [], vs, _, hg => by
    simp only [getAll, Option.some.injEq] at hg
    subst hg
    exact ⟨[], rfl, rfl, fun k x u hx => by simp at hx⟩
  | r :: rs, k :: ks, vs, hok, hg => by
    simp only [getAll] at hg
    split at hg
    case h_2 => cases hg
    rename_i x xs hx hxs
    simp only [Option.some.injEq] at hg
    subst hg
    have one : ∃ u, ((match r with | .tmp t => pure (a.tmps.getD t undef) | .cell x t => do loadVar t (← asAddr (a.tmps.getD x undef)) : Sem Value)).run c.P w = .ok u w ∧ ValOK g w (fun b => ∃ p, pr b = some p) x u ∧ resOK c rs ks = true := by
      have nobox : ∀ i, i ∉ c.bxs → ∀ cs, σ.fr.getD i .undef ≠ .box cs := fun i hi cs hc => hi (h.fr.bxs i cs hc)
      unfold resOK at hok
      split at hok <;> first | (rename_i e1 e2; cases e1; cases e2; done) | skip
      · rename_i e1 e2; cases e1
      · rename_i t rs' i ks' e1 e2
        cases e1; cases e2
        simp only [Bool.and_eq_true, beq_iff_eq] at hok
        simp only [ResK.get, Option.some.injEq] at hx
        subst hx
        have hv := h.fr.var i t hok.1.1
        have hnbx := nobox i (by simpa using hok.1.2)
        refine ⟨_, rfl, ?_, hok.2⟩
        cases hq : σ.fr.getD i .undef <;> rw [hq] at hv <;> first
          | exact ValOK.of_weak (ValOK.rel hv)
          | exact hv.elim
          | exact absurd hq (hnbx _)
      · rename_i t rs' i ks' e1 e2
        cases e1; cases e2
        simp only [Bool.and_eq_true, beq_iff_eq] at hok
        simp only [ResK.get, Option.some.injEq] at hx
        subst hx
        have hv := (h.fr.var i t hok.1.1).val (nobox i (by simpa using hok.1.2))
        exact ⟨_, rfl, hv.mono (Ext.refl _ _) fun b hb => ⟨⟨_, hb⟩, rfl, fun _ x => x⟩, hok.2⟩
      · rename_i y t rs' i ag n ks' e1 e2
        cases e1; cases e2
        simp only [Bool.and_eq_true, beq_iff_eq] at hok
        obtain ⟨⟨⟨h1, h2⟩, h3⟩, h4⟩ := hok
        simp only [ResK.get] at hx
        split at hx
        · rename_i cs hcs
          have hvar := h.fr.var i y h1
          rw [hcs] at hvar
          obtain ⟨hptr, _, _, arr, T, hh, hl, h1c, _⟩ := hvar
          obtain ⟨u, hu, hval⟩ := load_var (c := c) h2 h3 hl (by simpa using rangeAt_arr hh 0) h1c hx
          refine ⟨u, ?_, hval.mono (Ext.refl _ _) fun b hb => hb.elim, h4⟩
          simp only [hptr, asAddr, Sem.run_bind, Sem.run_pure, Result.andThen_ok]
          exact hu
        · cases hx
      · cases hok
    obtain ⟨u, hu, hval, hrest⟩ := one
    obtain ⟨us, hus, hlen, hall⟩ := res_ok h hrest hxs
    refine ⟨u :: us, ?_, by simp [hlen], fun j y v hy hv => ?_⟩
    · rw [List.mapM_cons]
      simp only [Sem.run_bind, hu, hus, Result.andThen_ok, Sem.run_pure]
    · cases j with
      | zero => simp at hy hv; subst hy; subst hv; exact hval
      | succ j => exact hall j y v (by simpa using hy) (by simpa using hv)
  | [], _ :: _, _, hok, _ => by simp [resOK] at hok
  | r :: _, [], _, hok, _ => by cases r <;> simp [resOK] at hok

def pack : List Value → Value
  | [v] => v
  | us => .tuple us.toArray

theorem results_run {P : Program} {fn : Func} {tmps : Array Value} {us : List Value} {w : World}
    (h : (fn.results.toList.mapM fun (r : ResultVar) => (match r with | .tmp t => pure (tmps.getD t undef) | .cell x t => do loadVar t (← asAddr (tmps.getD x undef)) : Sem Value)).run P w = .ok us w) :
    (results fn tmps).run P w = .ok (pack us) w := by
  unfold results
  rw [Array.mapM_eq_mapM_toList]
  simp only [map_eq_pure_bind, bind_assoc, pure_bind, Sem.run_bind]
  erw [h]
  simp only [Result.andThen_ok, Sem.run_pure]
  match us with
  | [] => rfl
  | [v] => rfl
  | u :: v :: us => simp [pack]

/-- calls at every depth -/
theorem callF_ok {P : Program} {gt : List (Nat × List AV)} {tbl : Nat → Option AFn} (hP : ProgOK P gt tbl) : ∀ n, CallOK P gt (callF tbl n) := by
  intro n
  induction n with
  | zero => intro f args st res st' h; simp [callF] at h
  | succ n ih =>
    intro f args st res st' h hweak
    simp only [callF] at h
    cases htbl : tbl f with
    | none => simp [htbl] at h
    | some af =>
      simp only [htbl] at h
      obtain ⟨hen, hfn⟩ := hP.fn f af htbl
      refine ⟨hen, fun g w vs hst hgl hrel => ?_⟩
      rcases hfn with ⟨slots, bxs, fn, hf, hok⟩ | ⟨e, he, hext⟩
      case inr =>
        simp only [he] at h
        exact hext args st res st' h hweak g w vs hst hrel
      let A : Nat → Prop := fun b => w.heap.size ≤ b ∨ g.sr b ≠ none
      have hok := hok A
      simp only [fnOK, Bool.and_eq_true, Option.isNone_iff_eq_none, beq_iff_eq, Nat.beq_eq] at hok
      obtain ⟨⟨⟨⟨⟨⟨⟨o1, o2⟩, o3⟩, o4⟩, o5⟩, o6⟩, o7⟩, o8⟩ := hok
      have o5 := Nat.le_of_ble_eq_true o5
      rw [o1] at h
      simp only at h
      split at o7
      case h_2 => cases o7
      rename_i body hbody
      unfold AFn.run at h
      split at h
      case isFalse => cases h
      rename_i hlen
      split at h
      · cases h
      · rename_i ex fr' st1 hnex hexec
        let c : Cx := ⟨P, slots, bxs, fn.ntmps, gt, A⟩
        have hlt : ∀ s ∈ slots, s < fn.ntmps := fun s hs => by
          have := List.all_eq_true.1 o3 s hs
          simpa using this
        have fx : Fx c := ⟨nodupB_spec o2, hlt⟩
        have hvl : vs.length = af.np := by rw [← hrel.length]; exact hlen
        have hnp : af.np ≤ fn.ntmps := by
          rcases Nat.eq_zero_or_pos af.np with h0 | h0
          · omega
          · have hm : af.np - 1 ∈ slots := by
              have : af.np - 1 ∈ slots.take af.np := by rw [o4]; simp; omega
              exact List.mem_of_mem_take this
            have := hlt _ hm
            omega
        have hslot : ∀ i s, slots[i]? = some s → i < af.np → s = i := fun i s hs hi => by
          have h1 : (slots.take af.np)[i]? = some s := by rw [List.getElem?_take, if_pos hi]; exact hs
          rw [o4] at h1
          simp [hi] at h1
          exact h1.symm
        let tm : Array Value := vs.toArray ++ Array.replicate (fn.ntmps - vs.toArray.size) undef
        have hS : S c g w (fun _ => none) (fun _ => 0) ⟨args ++ List.replicate (af.nv - af.np) .undef, fun _ => .undef, st⟩ { tmps := tm, defers := [] } := by
          refine ⟨⟨by simp [tm, c]; omega, by simp [c, hlen, o6]; omega, fun i s hs => ?_, fun s _ => ValOK.undef, fun b p hb => (by cases hb), fun i cs hi => ?_⟩, hst, hgl, fun b hb => .inl hb, fun b p hb => .inr (by rw [hb]; simp)⟩
          · rcases Nat.lt_or_ge i af.np with hi | hi
            · have hs' := hslot i s hs hi
              subst hs'
              have ha : s < args.length := by omega
              have hv : s < vs.length := by omega
              obtain ⟨v, hv1, hv2⟩ := hrel.get (List.getElem?_eq_getElem ha)
              have e1 : (args ++ List.replicate (af.nv - af.np) AV.undef).getD s .undef = args[s] := by
                rw [List.getD_eq_getElem?_getD, List.getElem?_append_left ha, List.getElem?_eq_getElem ha]; rfl
              have e2 : tm.getD s undef = v := by
                simp only [tm, Array.getD_eq_getD_getElem?]
                rw [Array.getElem?_append_left (by simpa using hv)]
                simp [hv1]
              rw [e1, e2]
              have hw := hweak args[s] (List.getElem_mem ha)
              have hval : ValOK g w (fun b => (fun _ => none : Nat → Option Pl) b = some (.var s)) args[s].weak v := ValOK.of_weak hv2
              rw [hw] at hval
              revert hval
              cases args[s] <;> intro hval <;> first | exact hval | exact hval.rel.elim
            · have e1 : (args ++ List.replicate (af.nv - af.np) AV.undef).getD i .undef = .undef := by
                rw [List.getD_eq_getElem?_getD, List.getElem?_append_right (by omega)]
                cases hq : (List.replicate (af.nv - af.np) AV.undef)[i - args.length]? with
                | none => rfl
                | some x => rw [List.eq_of_mem_replicate (List.mem_of_getElem? hq)]; rfl
              rw [e1]
              exact VarOK.undef
          · exfalso
            rcases Nat.lt_or_ge i args.length with hi' | hi'
            · obtain ⟨v, hv1, hv2⟩ := hrel.get (List.getElem?_eq_getElem hi')
              rw [List.getD_eq_getElem?_getD, List.getElem?_append_left hi', List.getElem?_eq_getElem hi'] at hi
              simp only [Option.getD_some] at hi
              rw [hi] at hv2
              exact hv2
            · rw [List.getD_eq_getElem?_getD, List.getElem?_append_right hi'] at hi
              cases hq : (List.replicate (af.nv - af.np) AV.undef)[i - args.length]? with
              | none => rw [hq] at hi; cases hi
              | some x => rw [hq, List.eq_of_mem_replicate (List.mem_of_getElem? hq)] at hi; cases hi
        refine calls_of_wp hf hbody ?_
        refine code_ok (c := c) _ _ o7 fx hP.mixed ih hS hexec fun a' w' g' pr' bx' τ' hd hS' ht => ?_
        have hbp : bodyPost P fn (CallPost g w st' res) .ret a' w' := by
          refine ⟨hd, ?_⟩
          have hgo : ∀ vs', getAll af.results fr' = some vs' → some ((match vs' with | [v] => v | vs' => AV.tuple vs'), st1) = some (res, st') → ∃ v, (results fn a'.tmps).run P w' = .ok v w' ∧ CallPost g w st' res (.returned v) w' := by
            intro vs' hg hres
            simp only [Option.some.injEq, Prod.mk.injEq] at hres
            obtain ⟨rfl, rfl⟩ := hres
            obtain ⟨us, hus, hul, hall⟩ := res_ok (c := c) hS' o8 hg
            refine ⟨_, results_run hus, _, g', rfl, hS'.st, ⟨ht.ext, ht.size, ht.env, fun b hb hs _ => ht.keep b hb hs fun hA => ?_⟩, ?_⟩
            · rcases hA with hA | hA
              · omega
              · exact hA hs
            · match vs', us, hul, hall with
              | [], [], _, _ => exact ValOK.mk' (by simp only [Rel]; exact ⟨#[], rfl, by simp [RelL]⟩) (by simp) (by simp)
              | [x], [u], _, hall =>
                refine (hall 0 x u rfl rfl).mono (Ext.refl _ _) fun b hb => ⟨?_, rfl, fun _ x => x⟩
                obtain ⟨p, hp⟩ := hb
                obtain ⟨q1, q2, q3⟩ := hS'.fr.prv b p hp
                exact ⟨q1, q2, q3⟩
              | x :: y :: xs, u :: v :: us, hul, hall =>
                refine ValOK.mk' ?_ (by simp) (by simp)
                simp only [Rel]
                exact ⟨_, rfl, RelL.of_get (by simpa using hul.symm) fun i x u hx hu => (hall i x u hx hu).rel⟩
          split at h
          · rename_i v hg
            exact hgo [v] hg h
          · rename_i vs' hne hg
            refine hgo vs' hg ?_
            rw [← h]
            match vs', hne with
            | [], _ => rfl
            | [v], hne => exact absurd rfl (hne v)
            | _ :: _ :: _, _ => rfl
          · cases h
        cases ex with
        | normal => exact hbp
        | ret => exact hbp
        | exit id => exact (hnex id rfl).elim
      · cases h
end
end Go.Cb
/-
  THE ABSTRACT MACHINE, part 29: slices.Clone.
-/
set_option maxRecDepth 4000
set_option linter.unusedSimpArgs false
namespace Go.Cb
open Classical

section
variable {c : Cx} {g : Gh} {w : World} {pr : Nat → Option Pl} {bx : Nat → Nat} {σ : Sig} {a : Act} {o : Oper}

theorem S.alloc (h : S c g w pr bx σ a) (cs : Array Value) (T : TypeId) : S c g (w.alloc (.cells cs T)) pr bx σ a :=
  ⟨h.fr.evolve (Tr.alloc No h.st.cli (.cells cs T)), h.st.alloc (.cells cs T), h.gl.ext (Ext.alloc h.st.cli (.cells cs T)), fun b hb => h.fresh b (by simp at hb; omega), h.stA⟩

theorem slE_ok (fx : Fx c) (h : S c g w pr bx σ a) {t e : TypeId} {i : TypeInfo} {d : Dst} (ho : o.op = .buildSlice t 0 #[]) (hu : c.P.underlying t = some (.slice e)) (hi : c.P.info? e = some i) (hd : dstOK c o.dst d = true)
    {next : Act → World → Prop} {Q : Exit → Act → World → Prop} (hnext : Post c g w a (d.put (.list true []) σ) next) : o.wp c.P a w next Q := by
  have hrun : (execOp a.eval o).run c.P w = .ok (.value (.slice (some (ad w.heap.size 0)) 0 0)) (w.alloc (.cells #[] e)) := by
    have e0 : (Array.map (fun _ : Nat => (default : Value)) (Array.range 0)) = #[] := by apply Array.ext'; simp
    simp [execOp, ho, Instr.buildSlice, run_underlying hu, sizeOf, typeInfo, hi, Instr.fill, newRow, e0]
  unfold Oper.wp
  rw [hrun]
  refine hnext _ _ g pr bx (defers_put _ _ _) (put_ok fx (h.alloc _ _) hd (mine := No) (r := .list true []) ?_ fun _ x => x.elim) (Tr.alloc _ h.st.cli _)
  refine (show ValOK g _ No (.list true []) _ from ⟨?_, fun _ _ => .inl ⟨_, _, rfl⟩, fun _ e => (by cases e)⟩)
  simp only [Rel]
  exact ⟨_, 0, 0, rfl, rfl, Nat.le_refl _, fun _ => rfl, fun h => absurd rfl h⟩

/-- is a slice nil? -/
theorem nil_ok (fx : Fx c) (h : S c g w pr bx σ a) {t t' e : TypeId} {x : Operand} {d : Dst} {ad0 : Option Addr} {n cap : Nat} (ho : o.op = .binOp .eql t x (.const (.slice none 0 0)) t') (hu : c.P.underlying t = some (.slice e))
    (hx : a.eval x = .slice ad0 n cap) (hd : dstOK c o.dst d = true) {next : Act → World → Prop} {Q : Exit → Act → World → Prop} (hnext : Post c g w a (d.put (.bool ad0.isNone) σ) next) : o.wp c.P a w next Q := by
  have hrun : (execOp a.eval o).run c.P w = .ok (.value (.bool ad0.isNone)) w := by
    have hg : ∀ v : Value, (eqGuard .eql t x (.const (.slice none 0 0)) (.slice ad0 n cap) (.slice none 0 0)).run c.P w = .ok () w := fun _ => rfl
    have hy : a.eval (.const (.slice none 0 0)) = .slice none 0 0 := rfl
    have heq : (Op.equal t (.slice ad0 n cap) (.slice none 0 0)).run c.P w = .ok ad0.isNone w := by
      rw [equal_eq, Op.equalIn, Sem.run_bind, run_underlying hu, Result.andThen_ok]
      cases ad0 <;> rfl
    simp only [execOp, ho, hx, hy, hg (.bool true), binOp, Sem.run_bind, heq, Result.andThen_ok, Sem.run_pure]
  exact pure_op fx h hd (r := .bool ad0.isNone) hrun (show ValOK g w No (.bool ad0.isNone) (.bool ad0.isNone) from ValOK.mk' (by simp [Rel]) (by simp) (by simp)) hnext

theorem opAt {P : Program} {ops : Array Oper} {Q : Exit → Act → World → Prop} {i : Nat} {o : Oper} {K : Act → World → Prop} {a : Act} {w : World} (hi : ops[i]? = some o) (hg : o.guard = none) (h : o.wp P a w K Q) : wpOp P ops Q i K a w := by
  unfold wpOp
  simp only [hi]
  rw [if_pos (by simp [Region.wanted, hg])]
  exact .inl h

/-- its types -/
def cloneB (P : Program) (t sz bytes : Nat) : Bool := match P.underlying t with
  | some (.slice e) => match P.info? e with
    | some ie => ie.size == sz && ie.bytes == bytes && decide (0 < bytes) && (match ie.zero with | some z => z.cells.size == sz | none => false)
    | none => false
  | _ => false

/-- how slices.Clone is written -/
structure CloneShape (P : Program) (fn : Func) (t sz bytes : Nat) where
  i0 : Nat
  i1 : Nat
  i2 : Nat
  i3 : Nat
  o0 : Oper
  o1 : Oper
  o2 : Oper
  o3 : Oper
  o4 : Oper
  o5 : Oper
  o6 : Oper
  o7 : Oper
  ty : TypeId
  body : fn.body = some (.seq (.region i0 #[o0] false) (.seq (.seq (.region i1 #[o1, o2] false) (.cond (.tmp 4) (.seq (.region i2 #[o3] false) .ret) .skip)) (.seq (.region i3 #[o4, o5, o6, o7] false) .ret)))
  nt : fn.ntmps = 8
  res : fn.results = #[.tmp 2]
  d0 : o0.dst = some 2 ∧ o0.op = .assign (.const (.slice none 0 0)) ∧ o0.guard = none
  d1 : o1.dst = some 3 ∧ o1.op = .move (.tmp 0) ∧ o1.guard = none
  d2 : o2.dst = some 4 ∧ o2.op = .binOp .eql t (.tmp 3) (.const (.slice none 0 0)) ty ∧ o2.guard = none
  d3 : o3.dst = some 2 ∧ o3.op = .assign (.const (.slice none 0 0)) ∧ o3.guard = none
  d4 : o4.dst = some 5 ∧ o4.op = .buildSlice t 0 #[] ∧ o4.guard = none
  d5 : o5.dst = some 6 ∧ o5.op = .move (.tmp 0) ∧ o5.guard = none
  d6 : o6.dst = some 7 ∧ o6.op = .call { callee := .builtin .append, args := #[.tmp 5, .tmp 6], argTypes := #[t, t] } ∧ o6.guard = none
  d7 : o7.dst = some 2 ∧ o7.op = .assign (.tmp 7) ∧ o7.guard = none
  tb : cloneB P t sz bytes = true

theorem cloneB_spec {P : Program} {t sz bytes : Nat} (h : cloneB P t sz bytes = true) : ∃ e ie z, P.underlying t = some (.slice e) ∧ P.info? e = some ie ∧ ie.zero = some z ∧ ie.size = sz ∧ ie.bytes = bytes ∧ z.cells.size = sz ∧ 0 < bytes := by
  unfold cloneB at h
  split at h
  case h_2 => cases h
  rename_i e hu
  split at h
  case h_2 => cases h
  rename_i ie hi
  simp only [Bool.and_eq_true, beq_iff_eq, decide_eq_true_eq] at h
  obtain ⟨⟨⟨h1, h2⟩, h3⟩, h4⟩ := h
  split at h4
  case h_2 => cases h4
  rename_i z hz
  exact ⟨e, ie, z, hu, hi, hz, h1, h2, by simpa using h4, h3⟩

theorem clone_ok {P : Program} {f t sz bytes : Nat} {fn : Func} (hf : P.funcs[f]? = some fn) (C : CloneShape P fn t sz bytes) : ExtOK P f (cloneX sz bytes) := by
  intro args st res st' h hweak g w vs hst hrel
  obtain ⟨e, ie, z, tu, ti, tz, tsz, tby, tzs, tb1⟩ := cloneB_spec C.tb
  unfold cloneX at h
  split at h
  case h_2 => cases h
  rename_i own xs
  split at h
  case isFalse => cases h
  rename_i hcond
  simp only [Bool.and_eq_true, decide_eq_true_eq] at hcond
  obtain ⟨hrows, hbytes⟩ := hcond
  simp only [Option.some.injEq, Prod.mk.injEq] at h
  obtain ⟨rfl, rfl⟩ := h
  simp only [RelL] at hrel
  obtain ⟨v, _, rfl, hv, rfl⟩ := hrel
  have hvs := hv
  simp only [Rel] at hvs
  obtain ⟨ad0, n, cap, rfl, rfl, hcap, hnil, hne⟩ := hvs
  let A : Nat → Prop := fun b => w.heap.size ≤ b ∨ g.sr b ≠ none
  let c : Cx := ⟨P, [0, 2], [], 8, [], A⟩
  have fx : Fx c := ⟨show ([0, 2] : List Nat).Nodup by decide, show ∀ s ∈ ([0, 2] : List Nat), s < 8 by decide⟩
  have hown : own = false := by
    have := hweak (.list own xs) (by simp)
    simpa [AV.weak] using this.symm
  subst hown
  refine calls_of_wp hf C.body ?_
  have hS : S c g w (fun _ => none) (fun _ => 0) ⟨[.list false xs, .undef], fun _ => .undef, st⟩ { tmps := #[Value.slice ad0 xs.length cap] ++ Array.replicate (fn.ntmps - 1) undef, defers := [] } := by
    refine ⟨⟨by simp [c, C.nt], rfl, fun i s hs => ?_, fun s _ => ValOK.undef, fun b p hb => (by cases hb), fun i cs hi => ?_⟩, hst, fun e he => (by cases he), fun b hb => .inl hb, fun b p hb => .inr (by rw [hb]; simp)⟩
    · match i, hs with
      | 0, hs =>
        simp only [c, List.getElem?_cons_zero, Option.some.injEq] at hs
        subst hs
        have hval : ValOK g w (fun b => (fun _ => none : Nat → Option Pl) b = some (.var 0)) (AV.list false xs).weak (.slice ad0 xs.length cap) := ValOK.of_weak hv
        have e0 : (#[Value.slice ad0 xs.length cap] ++ Array.replicate (fn.ntmps - 1) undef).getD 0 undef = .slice ad0 xs.length cap := by rw [C.nt]; rfl
        show VarOK g w (fun _ => none) (fun _ => 0) 0 (.list false xs) ((#[Value.slice ad0 xs.length cap] ++ Array.replicate (fn.ntmps - 1) undef).getD 0 undef)
        rw [e0]
        exact hval
      | 1, hs => exact VarOK.undef
      | i + 2, hs => simp [c] at hs
    · match i, hi with
      | 0, hi => simp at hi
      | 1, hi => simp at hi
      | i + 2, hi => simp at hi
  -- the end
  have fin : ∀ (x : AV) (a' : Act) (w' : World) (g' : Gh) (pr' : Nat → Option Pl) (bx' : Nat → Nat) (τ' : Nat → AV), a'.defers = [] → S c g' w' pr' bx' ⟨[x, .list true xs], τ', st⟩ a' → Tr c.A g w g' w' →
      bodyPost P fn (CallPost g w st (.list true xs)) .ret a' w' := by
    intro x a' w' g' pr' bx' τ' hd hS' ht
    refine ⟨hd, ?_⟩
    obtain ⟨us, hus, hul, hall⟩ := res_ok (c := c) hS' (rs := fn.results.toList) (ks := [.vs 1]) (vs := [.list true xs]) (by rw [C.res]; rfl) rfl
    refine ⟨_, results_run hus, _, g', rfl, hS'.st, ⟨ht.ext, ht.size, ht.env, fun b hb hs _ => ht.keep b hb hs fun hA => ?_⟩, ?_⟩
    · rcases hA with hA | hA
      · omega
      · exact hA hs
    · match us, hul, hall with
      | [u], _, hall =>
        refine (hall 0 (.list true xs) u rfl rfl).mono (Ext.refl _ _) fun b hb => ⟨?_, rfl, fun _ x => x⟩
        obtain ⟨p, hp⟩ := hb
        obtain ⟨q1, q2, q3⟩ := hS'.fr.prv b p hp
        exact ⟨q1, q2, q3⟩
  refine wp_seq (wp_region ?_)
  show wpOps P #[C.o0] _ [0] _ _
  rw [wpOps_cons]
  refine opAt rfl C.d0.2.2 (mv_ok (c := c) fx hS (.inr C.d0.2.1) (p := .c (.list true [])) (d := .v 1) rfl (by rw [C.d0.1]; rfl) fun a1 w1 g1 pr1 bx1 hd1 hS1 ht1 => ?_)
  show (Code.seq _ _).wp P _ a1 w1
  refine wp_seq (wp_seq (wp_region ?_))
  show wpOps P #[C.o1, C.o2] _ [0, 1] _ _
  rw [wpOps_cons]
  refine opAt rfl C.d1.2.2 (mv_ok (c := c) fx hS1 (.inl C.d1.2.1) (p := .v 0) (d := .t 3) rfl (by rw [C.d1.1]; rfl) fun a2 w2 g2 pr2 bx2 hd2 hS2 ht2 => ?_)
  rw [wpOps_cons]
  have hA2 := read_ok hS2 (x := .tmp 3) (p := .t 3) rfl
  have hr2 : Rel g2 w2 (.list false xs) (a2.eval (.tmp 3)) := ValOK.rel hA2
  have hr2' := hr2
  simp only [Rel] at hr2'
  obtain ⟨ad2, n2, cap2, hev2, hn2, hcap2, hnil2, hne2⟩ := hr2'
  refine opAt rfl C.d2.2.2 (nil_ok (c := c) fx hS2 C.d2.2.1 tu hev2 (d := .t 4) (by rw [C.d2.1]; rfl) fun a3 w3 g3 pr3 bx3 hd3 hS3 ht3 => ?_)
  show (Code.cond _ _ _).wp P _ a3 w3
  have ht03 := (ht1.trans ht2).trans ht3
  have hd03 : a3.defers = [] := hd3.trans (hd2.trans hd1)
  have hb := cond_ok hS3 (x := .tmp 4) (y := .t 4) rfl (b := ad2.isNone) rfl
  refine wp_cond hb ?_
  cases ad2 with
  | none =>
    have hx0 : xs = [] := by
      have := hnil2 rfl
      exact List.eq_nil_of_length_eq_zero (by omega)
    refine wp_seq (wp_region ?_)
    show wpOps P #[C.o3] _ [0] _ _
    rw [wpOps_cons]
    refine opAt rfl C.d3.2.2 (mv_ok (c := c) fx hS3 (.inr C.d3.2.1) (p := .c (.list true [])) (d := .v 1) rfl (by rw [C.d3.1]; rfl) fun a4 w4 g4 pr4 bx4 hd4 hS4 ht4 => ?_)
    show Code.ret.wp P _ a4 w4
    refine wp_ret ?_
    show bodyPost P fn _ .ret a4 w4
    subst hx0
    exact fin _ a4 w4 g4 pr4 bx4 _ (hd4.trans hd03) hS4 (ht03.trans ht4)
  | some ad3 =>
    refine wp_skip ?_
    show (Code.seq _ _).wp P _ a3 w3
    refine wp_seq (wp_region ?_)
    show wpOps P #[C.o4, C.o5, C.o6, C.o7] _ [0, 1, 2, 3] _ _
    rw [wpOps_cons]
    refine opAt rfl C.d4.2.2 (slE_ok (c := c) fx hS3 C.d4.2.1 tu ti (d := .t 5) (by rw [C.d4.1]; rfl) fun a4 w4 g4 pr4 bx4 hd4 hS4 ht4 => ?_)
    rw [wpOps_cons]
    refine opAt rfl C.d5.2.2 (mv_ok (c := c) fx hS4 (.inl C.d5.2.1) (p := .v 0) (d := .t 6) rfl (by rw [C.d5.1]; rfl) fun a5 w5 g5 pr5 bx5 hd5 hS5 ht5 => ?_)
    rw [wpOps_cons]
    refine opAt rfl C.d6.2.2 (app_ok (c := c) fx hS5 C.d6.2.1 rfl tu ti tz tsz tby tzs tb1 (p0 := .ts 5) (p1 := .t 6) (d := .t 7) rfl rfl (by rw [C.d6.1]; rfl) (by rw [C.d6.1]; rfl) (xs := []) (ys := xs) (own := false) rfl rfl rfl hrows (by simpa using hbytes) fun a6 w6 g6 pr6 bx6 hd6 hS6 ht6 => ?_)
    rw [wpOps_cons]
    refine opAt rfl C.d7.2.2 (mv_ok (c := c) fx hS6 (.inr C.d7.2.1) (p := .ts 7) (d := .v 1) rfl (by rw [C.d7.1]; rfl) fun a7 w7 g7 pr7 bx7 hd7 hS7 ht7 => ?_)
    show Code.ret.wp P _ a7 w7
    refine wp_ret ?_
    show bodyPost P fn _ .ret a7 w7
    exact fin _ a7 w7 g7 pr7 bx7 _ (hd7.trans (hd6.trans (hd5.trans (hd4.trans hd03)))) hS7 ((((ht03.trans ht4).trans ht5).trans ht6).trans ht7)
end
end Go.Cb
/-
  THE ABSTRACT MACHINE, part 30: from an abstract answer to the model's call.
-/
set_option maxRecDepth 4000
namespace Go.Cb
open Classical

/-- before the call: nothing is of the store, and all that is there stays -/
def gh0 (W : World) : Gh := { n := 0, m := fun _ => 0, cl := fun b _ => b < W.heap.size, sr := fun _ => none }

theorem srel0 (W : World) : SRel (gh0 W) W [] := ⟨rfl, fun o ob h => by simp at h, fun b p h => (by cases h), fun b f h => h⟩

/-- what a call leaves of the old world -/
structure Kept (W W' : World) : Prop where
  kept : W.keptBut W' (fun _ => False)
  fz : ∀ a, W'.frozen? a = W.frozen? a
  size : W.heap.size ≤ W'.heap.size
  old : ∀ b, b < W.heap.size → W'.heap[b]? = W.heap[b]?

theorem answer {P : Program} {gt : List (Nat × List AV)} {tbl : Nat → Option AFn} (hP : ProgOK P gt tbl) {n f : Nat} {args : List AV} {b : Bool} {st' : St} (h : callF tbl n f args [] = some (.bool b, st')) (hw : ∀ x ∈ args, x.weak = x)
    {W : World} {vs : List Value} (hg : Globs gt (gh0 W) W) (hr : RelL (gh0 W) W args vs) : Calls P f vs.toArray W (fun e W' => e = .returned (.bool b) ∧ Kept W W') := by
  refine ((callF_ok hP n f args [] _ _ h hw).2 (gh0 W) W vs (srel0 W) hg hr).mono fun e W' he => ?_
  obtain ⟨v, g', rfl, _, ht, hv⟩ := he
  have hv := hv.rel
  simp only [Rel] at hv
  subst hv
  have hold : ∀ b, b < W.heap.size → W'.heap[b]? = W.heap[b]? := fun b hb => (ht.keep b hb rfl fun x => x).1.1
  refine ⟨rfl, ⟨ht.env.os, ht.env.out, fun i hi => ?_⟩, ht.env.fz, ht.size, hold⟩
  rw [hold i hi]
  cases hq : W.heap[i]? with
  | none => simp
  | some o => cases o <;> simp
end Go.Cb
/-
  THE ABSTRACT MACHINE, part 28: running told as a chain, for reckoning with unknowns.
-/
set_option maxRecDepth 4000
set_option linter.unusedSimpArgs false
namespace Go.Cb
open Classical

/-- an equation that is no mere unfolding to the simplifier -/
theorem spine {α : Sort _} {a b : α} (h : a = b) : a = b := by
  cases h
  rfl

/-- bind, of which only the head is reckoned -/
def obind {α β : Type} (x : Option α) (f : α → Option β) : Option β := match x with
  | some a => f a
  | none => none
theorem obind_some {α β : Type} (a : α) (f : α → Option β) : obind (some a) f = f a := spine rfl
theorem obind_congr {α β : Type} {x x' : Option α} {f : α → Option β} (h : x = x') : obind x f = obind x' f := by rw [h]

/-- the value of an operation that only reckons -/
def p1 (x : Option (AV × AV × St)) : Option AV := match x with
  | some (r, _, _) => some r
  | none => none
theorem p1_some (r b : AV) (st : St) : p1 (some (r, b, st)) = some r := spine rfl
/-- the value and the store -/
def p2 (x : Option (AV × AV × St)) : Option (AV × St) := match x with
  | some (r, _, st) => some (r, st)
  | none => none
theorem p2_some (r b : AV) (st : St) : p2 (some (r, b, st)) = some (r, st) := spine rfl

/-- a guarded value -/
def gv (x : AV) (want : Bool) (e : Option AV) : Option AV := match x with
  | .bool b => if b == want then e else some (.tuple [])
  | .tuple [] => some (.tuple [])
  | _ => none
def gv2 (x : AV) (want : Bool) (st : St) (e : Option (AV × St)) : Option (AV × St) := match x with
  | .bool b => if b == want then e else some (.tuple [], st)
  | .tuple [] => some (.tuple [], st)
  | _ => none
theorem gv_none (want : Bool) (e : Option AV) : gv (.tuple []) want e = some (.tuple []) := spine rfl

theorem gv_tt (e : Option AV) : gv (.bool true) true e = e := spine rfl
theorem gv_tf (e : Option AV) : gv (.bool true) false e = some (.tuple []) := spine rfl
theorem gv_ff (e : Option AV) : gv (.bool false) false e = e := spine rfl
theorem gv_ft (e : Option AV) : gv (.bool false) true e = some (.tuple []) := spine rfl
theorem gv2_tt (st : St) (e : Option (AV × St)) : gv2 (.bool true) true st e = e := spine rfl
theorem gv2_tf (st : St) (e : Option (AV × St)) : gv2 (.bool true) false st e = some (.tuple [], st) := spine rfl
theorem gv2_ff (st : St) (e : Option (AV × St)) : gv2 (.bool false) false st e = e := spine rfl
theorem gv2_ft (st : St) (e : Option (AV × St)) : gv2 (.bool false) true st e = some (.tuple [], st) := spine rfl
theorem gv2_none (want : Bool) (st : St) (e : Option (AV × St)) : gv2 (.tuple []) want st e = some (.tuple [], st) := spine rfl
theorem gv2_congr {x : AV} {want : Bool} {st : St} {e : Option (AV × St)} {x' : AV} (h : x = x') : gv2 x want st e = gv2 x' want st e := by rw [h]

def anySteals (xs : List Opd) : Bool := xs.any Opd.steals

theorem spend_noSteal : ∀ {xs : List Opd} {σ : Sig}, anySteals xs = false → spendAll xs σ = σ
  | [], _, _ => rfl
  | x :: xs, σ, h => by
    simp only [anySteals, List.any_cons, Bool.or_eq_false_iff] at h
    have e : x.spend σ = σ := by cases x <;> simp_all [Opd.spend, Opd.steals]
    rw [spendAll, e]
    exact spend_noSteal (xs := xs) h.2

def goK (call : CallT) {α : Type} (o : AOper) (σ : Sig) (k : Sig → Option α) : Option α :=
  match o.kind.setSt || o.kind.alters || anySteals o.args with
  | false => obind (p1 (sem o.kind call (o.args.map (·.read σ)) (boxOf' o.box σ) σ.st)) fun r => k (o.dst.put r σ)
  | true => match o.kind.alters || anySteals o.args with
    | false => obind (p2 (sem o.kind call (o.args.map (·.read σ)) (boxOf' o.box σ) σ.st)) fun r => k (o.dst.put r.1 { σ with st := r.2 })
    | true => obind (sem o.kind call (o.args.map (·.read σ)) (boxOf' o.box σ) σ.st) fun r =>
      let σ := spendAll o.args σ
      match o.box with
      | some i => k (o.dst.put r.1 { σ with fr := σ.fr.set i r.2.1, st := r.2.2 })
      | none => k (o.dst.put r.1 { σ with st := r.2.2 })
where boxOf' (b : Option Nat) (σ : Sig) : AV := match b with | some i => σ.fr.getD i .undef | none => .undef

def stepK (call : CallT) {α : Type} (o : AOper) (σ : Sig) (k : Sig → Option α) : Option α :=
  match o.guard with
  | none => goK call o σ k
  | some (x, want) => match o.kind.setSt || o.kind.alters || anySteals o.args with
    | false => obind (gv (x.read σ) want (p1 (sem o.kind call (o.args.map (·.read σ)) (goK.boxOf' o.box σ) σ.st))) fun r => k (o.dst.put r σ)
    | true => match o.kind.alters || anySteals o.args with
      | false => obind (gv2 (x.read σ) want σ.st (p2 (sem o.kind call (o.args.map (·.read σ)) (goK.boxOf' o.box σ) σ.st))) fun r => k (o.dst.put r.1 { σ with st := r.2 })
      | true => match x.read σ with
        | .bool b => if b == want then goK call o σ k else k (o.dst.put (.tuple []) σ)
        | .tuple [] => k (o.dst.put (.tuple []) σ)
        | _ => none

def runK (call : CallT) {α : Type} : List AOper → Sig → (Sig → Option α) → Option α
  | [], σ, k => k σ
  | o :: os, σ, k => stepK call o σ fun σ => runK call os σ k

theorem set_getD' (fr : List AV) (i : Nat) : fr.set i (fr.getD i .undef) = fr := by
  apply List.ext_getElem?
  intro j
  rw [List.getElem?_set]
  by_cases e : i = j
  · subst e
    rw [if_pos rfl]
    split
    · rename_i h; simp [h]
    · rename_i h; rw [List.getElem?_eq_none (by omega)]
  · rw [if_neg e]

theorem goK_eq {call : CallT} {α : Type} {o : AOper} {σ : Sig} {k : Sig → Option α} : goK call o σ k = obind (goOp call o σ) k := by
  have hb : goK.boxOf' o.box σ = (match o.box with | some i => σ.fr.getD i .undef | none => .undef) := rfl
  unfold goK
  rw [goOp_eq, hb]
  split
  · rename_i hp
    simp only [Bool.or_eq_false_iff] at hp
    obtain ⟨⟨h1, h2⟩, h3⟩ := hp
    cases hs : sem o.kind call (o.args.map (·.read σ)) (match o.box with | some i => σ.fr.getD i .undef | none => .undef) σ.st with
    | none => rfl
    | some x =>
      obtain ⟨r, b', st'⟩ := x
      have e1 := sem_st h1 hs
      have e2 := sem_bx h2 hs
      subst e1
      simp only [p1, obind_some, spend_noSteal h3]
      cases hbx : o.box with
      | none => rfl
      | some i =>
        simp only [hbx] at e2
        rw [e2]
        simp only [set_getD', obind_some]
  · rename_i hp
    split
    · rename_i hq
      simp only [Bool.or_eq_false_iff] at hq
      obtain ⟨h2, h3⟩ := hq
      cases hs : sem o.kind call (o.args.map (·.read σ)) (match o.box with | some i => σ.fr.getD i .undef | none => .undef) σ.st with
      | none => rfl
      | some x =>
        obtain ⟨r, b', st'⟩ := x
        have e2 := sem_bx h2 hs
        simp only [p2, obind_some, spend_noSteal h3]
        cases hbx : o.box with
        | none => rfl
        | some i =>
          simp only [hbx] at e2
          rw [e2]
          simp only [set_getD', obind_some]
    · cases hs : sem o.kind call (o.args.map (·.read σ)) (match o.box with | some i => σ.fr.getD i .undef | none => .undef) σ.st with
      | none => rfl
      | some x =>
        obtain ⟨r, b', st'⟩ := x
        simp only [obind_some]
        cases hbx : o.box with
        | none => rfl
        | some i => rfl

theorem gv_bind {α : Type} {x : AV} {want : Bool} {e : Option AV} {f : AV → Option α} : obind (gv x want e) f =
    (match x with | .bool b => if b == want then obind e f else f (.tuple []) | .tuple [] => f (.tuple []) | _ => none) := by
  unfold gv
  split
  · split <;> rfl
  · rfl
  · rfl

theorem gv2_bind {α : Type} {x : AV} {want : Bool} {st : St} {e : Option (AV × St)} {f : AV × St → Option α} : obind (gv2 x want st e) f =
    (match x with | .bool b => if b == want then obind e f else f (.tuple [], st) | .tuple [] => f (.tuple [], st) | _ => none) := by
  unfold gv2
  split
  · split <;> rfl
  · rfl
  · rfl

theorem stepK_eq {call : CallT} {α : Type} {o : AOper} {σ : Sig} {k : Sig → Option α} : stepK call o σ k = obind (stepOp call o σ) k := by
  unfold stepK stepOp
  cases hg : o.guard with
  | none => exact goK_eq
  | some xw =>
    obtain ⟨x, want⟩ := xw
    simp only
    split
    · rename_i hp
      have hgo : obind (p1 (sem o.kind call (o.args.map (·.read σ)) (goK.boxOf' o.box σ) σ.st)) (fun r => k (o.dst.put r σ)) = obind (goOp call o σ) k := by
        have := goK_eq (call := call) (o := o) (σ := σ) (k := k)
        unfold goK at this
        rw [hp] at this
        exact this
      rw [gv_bind]
      cases hx : x.read σ <;> try rfl
      · dsimp only
        split
        · exact hgo
        · rfl
      · rename_i vs
        cases vs <;> rfl
    · rename_i hp
      split
      · rename_i hq
        have hgo : obind (p2 (sem o.kind call (o.args.map (·.read σ)) (goK.boxOf' o.box σ) σ.st)) (fun r => k (o.dst.put r.1 { σ with st := r.2 })) = obind (goOp call o σ) k := by
          have := goK_eq (call := call) (o := o) (σ := σ) (k := k)
          unfold goK at this
          rw [hp, hq] at this
          exact this
        rw [gv2_bind]
        cases hx : x.read σ <;> try rfl
        · dsimp only
          split
          · exact hgo
          · rfl
        · rename_i vs
          cases vs <;> rfl
      · cases hx : x.read σ <;> try rfl
        · dsimp only
          split
          · exact goK_eq
          · rfl
        · rename_i vs
          cases vs <;> rfl

theorem runK_eq {call : CallT} {α : Type} {k : Sig → Option α} : ∀ {ops : List AOper} {σ : Sig}, runK call ops σ k = obind (runOps call ops σ) k
  | [], σ => rfl
  | o :: os, σ => by
    simp only [runK, runOps, stepK_eq]
    cases hs : stepOp call o σ with
    | none => rfl
    | some σ1 => exact runK_eq

def br (c : AV) (a b : Option Out) : Option Out := match c with
  | .bool true => a
  | .bool false => b
  | _ => none
theorem exec_reg (call : CallT) (n : Nat) (kill : List Nat) (ps : List AOper) (fr : List AV) (st : St) :
    exec call n (.reg kill ps) fr st = runK call ps ⟨killAll kill fr, fun _ => .undef, st⟩ fun σ => some (.normal, σ.fr, σ.st) := by
  rw [runK_eq]
  simp only [exec, fL_eq]
  cases runOps call ps ⟨killAll kill fr, fun _ => .undef, st⟩ <;> rfl
theorem exec_test (call : CallT) (n : Nat) (kill : List Nat) (ps : List AOper) (c : Opd) (a b : ACode) (fr : List AV) (st : St) :
    exec call n (.test kill ps c a b) fr st = runK call ps ⟨killAll kill fr, fun _ => .undef, st⟩ fun σ => br (c.read σ) (exec call n a σ.fr σ.st) (exec call n b σ.fr σ.st) := by
  rw [runK_eq]
  simp only [exec, fL_eq]
  cases runOps call ps ⟨killAll kill fr, fun _ => .undef, st⟩ with
  | none => rfl
  | some σ =>
    simp only [obind_some]
    generalize c.read σ = y
    cases y <;> rfl

/-- the address of a private box -/
def locOf (i : Nat) (x : AV) : AV := match x with
  | .box _ => .loc i 0
  | _ => .undef

/-- what comes behind code that ends -/
def seqK (x : Option Out) (f : List AV → St → Option Out) : Option Out := match x with
  | some (.normal, fr, st) => f fr st
  | r => r
theorem seqK_normal (fr : List AV) (st : St) (f : List AV → St → Option Out) : seqK (some (.normal, fr, st)) f = f fr st := spine rfl
theorem seqK_exit (id : Nat) (fr : List AV) (st : St) (f : List AV → St → Option Out) : seqK (some (.exit id, fr, st)) f = some (.exit id, fr, st) := spine rfl
theorem seqK_ret (fr : List AV) (st : St) (f : List AV → St → Option Out) : seqK (some (.ret, fr, st)) f = some (.ret, fr, st) := spine rfl
theorem seqK_congr {x x' : Option Out} {f : List AV → St → Option Out} (h : x = x') : seqK x f = seqK x' f := by rw [h]
theorem exec_seqK (call : CallT) (n : Nat) (a b : ACode) (fr : List AV) (st : St) : exec call n (.seq a b) fr st = seqK (exec call n a fr st) (exec call n b) := by
  simp only [exec, seqK]
  split <;> rename_i h <;> simp only [h]

/-- the results, out of how the body ended -/
def finK (rs : List ResK) (x : Option Out) : Option (AV × St) := match x with
  | some (.exit _, _, _) => none
  | some (_, fr, st) => match getAll rs fr with
    | some [v] => some (v, st)
    | some vs => some (.tuple vs, st)
    | none => none
  | none => none
theorem run_finK (fn : AFn) (call : CallT) (n : Nat) (args : List AV) (st : St) (h : args.length = fn.np) :
    fn.run call n args st = finK fn.results (exec call n fn.code (args ++ List.replicate (fn.nv - fn.np) .undef) st) := by
  unfold AFn.run finK
  rw [if_pos h]
  cases exec call n fn.code (args ++ List.replicate (fn.nv - fn.np) .undef) st with
  | none => rfl
  | some x =>
    obtain ⟨e, fr, st'⟩ := x
    cases e <;> dsimp only <;> cases getAll fn.results fr with
    | none => rfl
    | some vs =>
      match vs with
      | [] => rfl
      | [v] => rfl
      | _ :: _ :: _ => rfl
theorem exec_ret (call : CallT) (n : Nat) (fr : List AV) (st : St) : exec call n .ret fr st = some (.ret, fr, st) := by simp only [exec]
theorem exec_exit (call : CallT) (n id : Nat) (fr : List AV) (st : St) : exec call n (.exit id) fr st = some (.exit id, fr, st) := by simp only [exec]
theorem exec_skip (call : CallT) (n : Nat) (fr : List AV) (st : St) : exec call n .skip fr st = some (.normal, fr, st) := by simp only [exec]
end Go.Cb
/-
  THE ABSTRACT MACHINE, part 31: more fuel does no harm.
-/
set_option maxRecDepth 4000
set_option linter.unusedSimpArgs false
namespace Go.Cb
open Classical

/-- one way of calling answers all that another answers -/
def CallLe (c c' : CallT) : Prop := ∀ f as st r, c f as st = some r → c' f as st = some r

theorem sem_le {c c' : CallT} (h : CallLe c c') {k : Kind} {as : List AV} {b : AV} {st : St} {r : AV × AV × St} (hs : sem k c as b st = some r) : sem k c' as b st = some r := by
  cases k
  case call f =>
    simp only [sem, semCall] at hs ⊢
    split at hs
    · rename_i hp
      rw [if_pos hp]
      obtain ⟨x, hx, rfl⟩ := Option.map_eq_some_iff.1 hs
      rw [h _ _ _ _ hx]
      rfl
    · cases hs
  case callV =>
    simp only [sem] at hs ⊢
    unfold semCallV at hs ⊢
    split at hs
    · split at hs
      · rename_i hp
        simp only [if_pos hp]
        obtain ⟨x, hx, rfl⟩ := Option.map_eq_some_iff.1 hs
        rw [h _ _ _ _ hx]
        rfl
      · cases hs
    · cases hs
  all_goals exact hs

theorem goOp_le {c c' : CallT} (h : CallLe c c') {o : AOper} {σ σ' : Sig} (hs : goOp c o σ = some σ') : goOp c' o σ = some σ' := by
  obtain ⟨r, b', st', h1, rfl⟩ := goOp_some hs
  exact goOp_mk (sem_le h h1)
theorem stepOp_le {c c' : CallT} (h : CallLe c c') {o : AOper} {σ σ' : Sig} (hs : stepOp c o σ = some σ') : stepOp c' o σ = some σ' := by
  unfold stepOp at hs ⊢
  split at hs
  · exact goOp_le h hs
  · split at hs
    · split at hs
      · rename_i hc; rw [if_pos hc]; exact goOp_le h hs
      · rename_i hc; rw [if_neg hc]; exact hs
    · exact hs
    · cases hs
theorem runOps_le {c c' : CallT} (h : CallLe c c') : ∀ {os : List AOper} {σ σ' : Sig}, runOps c os σ = some σ' → runOps c' os σ = some σ'
  | [], _, _, hs => hs
  | o :: os, σ, σ', hs => by
    simp only [runOps] at hs ⊢
    cases hq : stepOp c o σ with
    | none => simp [hq] at hs
    | some σ1 =>
      simp only [hq] at hs
      simp only [stepOp_le h hq]
      exact runOps_le h hs
theorem iter_le {body body' : List AV → St → Option Out} (h : ∀ fr st r, body fr st = some r → body' fr st = some r) : ∀ {n m : Nat} {fr : List AV} {st : St} {r : Out}, n ≤ m → iter body n fr st = some r → iter body' m fr st = some r
  | 0, _, _, _, _, _, hs => by simp [iter] at hs
  | n + 1, 0, _, _, _, hle, _ => by omega
  | n + 1, m + 1, fr, st, r, hle, hs => by
    simp only [iter] at hs ⊢
    cases hq : body fr st with
    | none => simp [hq] at hs
    | some o =>
      rw [hq] at hs
      rw [h _ _ _ hq]
      obtain ⟨e, fr1, st1⟩ := o
      cases e with
      | normal => exact iter_le h (by omega) hs
      | exit id => exact hs
      | ret => exact hs
theorem exec_le {c c' : CallT} (h : CallLe c c') {n m : Nat} (hle : n ≤ m) : ∀ {x : ACode} {fr : List AV} {st : St} {r : Out}, exec c n x fr st = some r → exec c' m x fr st = some r
  | .skip, _, _, _, hs => hs
  | .exit _, _, _, _, hs => hs
  | .ret, _, _, _, hs => hs
  | .reg kill ops, fr, st, r, hs => by
    simp only [exec] at hs ⊢
    cases hq : runOps c ops ⟨killAll kill fr, fun _ => .undef, st⟩ with
    | none => simp [hq] at hs
    | some σ => rw [hq] at hs; rw [runOps_le h hq]; exact hs
  | .test kill ops x a b, fr, st, r, hs => by
    rw [exec_test] at hs ⊢
    rw [runK_eq] at hs ⊢
    cases hq : runOps c ops ⟨killAll kill fr, fun _ => .undef, st⟩ with
    | none => rw [hq] at hs; cases hs
    | some σ =>
      rw [hq] at hs
      rw [runOps_le h hq]
      rw [obind_some] at hs ⊢
      unfold br at hs ⊢
      split at hs
      · exact exec_le h hle hs
      · exact exec_le h hle hs
      · cases hs
  | .seq a b, fr, st, r, hs => by
    rw [exec_seqK] at hs ⊢
    cases hq : exec c n a fr st with
    | none => rw [hq] at hs; cases hs
    | some o =>
      rw [hq] at hs
      rw [exec_le h hle hq]
      obtain ⟨e, fr1, st1⟩ := o
      cases e with
      | normal => exact exec_le h hle hs
      | exit id => exact hs
      | ret => exact hs
  | .blk id a, fr, st, r, hs => by
    simp only [exec] at hs ⊢
    cases hq : exec c n a fr st with
    | none => rw [hq] at hs; cases hs
    | some o => rw [hq] at hs; rw [exec_le h hle hq]; exact hs
  | .loop a, fr, st, r, hs => by
    simp only [exec] at hs ⊢
    exact iter_le (fun _ _ _ hb => exec_le h hle hb) hle hs
theorem run_le {c c' : CallT} (h : CallLe c c') {n m : Nat} (hle : n ≤ m) {fn : AFn} {args : List AV} {st : St} {r : AV × St} (hs : fn.run c n args st = some r) : fn.run c' m args st = some r := by
  have hl : args.length = fn.np := by
    unfold AFn.run at hs
    split at hs
    · assumption
    · cases hs
  rw [run_finK _ _ _ _ _ hl] at hs ⊢
  cases hq : exec c n fn.code (args ++ List.replicate (fn.nv - fn.np) .undef) st with
  | none => rw [hq] at hs; cases hs
  | some o => rw [hq] at hs; rw [exec_le h hle hq]; exact hs
theorem callF_le {tbl : Nat → Option AFn} : ∀ {n m : Nat}, n ≤ m → CallLe (callF tbl n) (callF tbl m)
  | 0, _, _, _, _, _, _, hs => by simp [callF] at hs
  | n + 1, 0, hle, _, _, _, _, _ => by omega
  | n + 1, m + 1, hle, f, as, st, r, hs => by
    simp only [callF] at hs ⊢
    cases htb : tbl f with
    | none => simp [htb] at hs
    | some fn =>
      simp only [htb] at hs ⊢
      cases he : fn.ext with
      | some e => simp only [he] at hs ⊢; exact hs
      | none =>
        simp only [he] at hs ⊢
        exact run_le (callF_le (by omega)) (by omega) hs

/-- a call that comes to an answer, with enough fuel -/
def Ev (tbl : Nat → Option AFn) (f : Nat) (as : List AV) (st : St) (r : AV) (st' : St) : Prop := ∃ n, callF tbl n f as st = some (r, st')
theorem Ev.ge {tbl : Nat → Option AFn} {f : Nat} {as : List AV} {st : St} {r : AV} {st' : St} (h : Ev tbl f as st r st') : ∃ n0, ∀ n, n0 ≤ n → callF tbl n f as st = some (r, st') :=
  let ⟨n, hn⟩ := h; ⟨n, fun m hm => callF_le hm _ _ _ _ hn⟩
end Go.Cb
/-
  THE ABSTRACT MACHINE, part 32: rules for what code comes to, with enough fuel.
-/
set_option maxRecDepth 4000
set_option linter.unusedVariables false
namespace Go.Cb
open Classical

section
variable {tbl : Nat → Option AFn}

/-- code comes to that, with enough fuel -/
def XC (tbl : Nat → Option AFn) (x : ACode) (fr : List AV) (st : St) (out : Out) : Prop := ∃ n, exec (callF tbl n) n x fr st = some out
theorem XC.ge {x : ACode} {fr : List AV} {st : St} {out : Out} (h : XC tbl x fr st out) : ∃ n0, ∀ n, n0 ≤ n → exec (callF tbl n) n x fr st = some out :=
  let ⟨n, hn⟩ := h; ⟨n, fun m hm => exec_le (callF_le hm) hm hn⟩

/-- k rounds of a loop, with enough fuel -/
def LX (tbl : Nat → Option AFn) (x : ACode) (fr : List AV) (st : St) (out : Out) : Prop := ∃ n k, iter (exec (callF tbl n) n x) k fr st = some out

theorem LX.done {x : ACode} {fr : List AV} {st : St} {e : Ex} {fr' : List AV} {st' : St} (h : XC tbl x fr st (e, fr', st')) (he : e ≠ .normal) : LX tbl x fr st (e, fr', st') := by
  obtain ⟨n, hn⟩ := h
  refine ⟨n, 1, ?_⟩
  simp only [iter, hn]
  cases e with
  | normal => exact absurd rfl he
  | exit id => rfl
  | ret => rfl
theorem LX.step {x : ACode} {fr fr1 : List AV} {st st1 : St} {out : Out} (h : XC tbl x fr st (.normal, fr1, st1)) (h' : LX tbl x fr1 st1 out) : LX tbl x fr st out := by
  obtain ⟨n, hn⟩ := h
  obtain ⟨m, k, hm⟩ := h'
  refine ⟨max n m, k + 1, ?_⟩
  have h1 := exec_le (callF_le (tbl := tbl) (Nat.le_max_left n m)) (Nat.le_max_left n m) hn
  simp only [iter, h1]
  exact iter_le (fun _ _ _ hb => exec_le (callF_le (Nat.le_max_right n m)) (Nat.le_max_right n m) hb) (Nat.le_refl k) hm
theorem XC.loop {x : ACode} {fr : List AV} {st : St} {out : Out} (h : LX tbl x fr st out) : XC tbl (.loop x) fr st out := by
  obtain ⟨n, k, h⟩ := h
  refine ⟨max n k, ?_⟩
  simp only [exec]
  exact iter_le (fun _ _ _ hb => exec_le (callF_le (Nat.le_max_left n k)) (Nat.le_max_left n k) hb) (Nat.le_max_right n k) h
theorem XC.seq {a b : ACode} {fr fr1 : List AV} {st st1 : St} {out : Out} (h : XC tbl a fr st (.normal, fr1, st1)) (h' : XC tbl b fr1 st1 out) : XC tbl (.seq a b) fr st out := by
  obtain ⟨n, hn⟩ := h
  obtain ⟨m, hm⟩ := h'
  refine ⟨max n m, ?_⟩
  rw [exec_seqK, exec_le (callF_le (Nat.le_max_left n m)) (Nat.le_max_left n m) hn, seqK_normal]
  exact exec_le (callF_le (Nat.le_max_right n m)) (Nat.le_max_right n m) hm
theorem XC.blk {id : Nat} {a : ACode} {fr fr1 : List AV} {st st1 : St} {e : Ex} (h : XC tbl a fr st (e, fr1, st1)) : XC tbl (.blk id a) fr st (if e = .exit id then .normal else e, fr1, st1) := by
  obtain ⟨n, hn⟩ := h
  refine ⟨n, ?_⟩
  simp only [exec, hn]
  cases e with
  | normal => rfl
  | exit id' =>
    by_cases hid : id' = id
    · subst hid; simp
    · simp [hid]
  | ret => rfl
theorem XC.skip {fr : List AV} {st : St} : XC tbl .skip fr st (.normal, fr, st) := ⟨0, rfl⟩
theorem XC.exit {id : Nat} {fr : List AV} {st : St} : XC tbl (.exit id) fr st (.exit id, fr, st) := ⟨0, rfl⟩
theorem XC.ret {fr : List AV} {st : St} : XC tbl .ret fr st (.ret, fr, st) := ⟨0, rfl⟩

theorem XC.of {x : ACode} {fr : List AV} {st : St} {out : Out} (h : ∃ n0, ∀ n, n0 ≤ n → exec (callF tbl n) n x fr st = some out) : XC tbl x fr st out :=
  let ⟨n, hn⟩ := h; ⟨n, hn n (Nat.le_refl n)⟩
/-- a test that goes on as one of its branches -/
theorem XC.goes {x a : ACode} {fr fr1 : List AV} {st st1 : St} {out : Out} (h : ∃ n0, ∀ n, n0 ≤ n → exec (callF tbl n) n x fr st = exec (callF tbl n) n a fr1 st1) (h' : XC tbl a fr1 st1 out) : XC tbl x fr st out := by
  obtain ⟨n, hn⟩ := h
  obtain ⟨m, hm⟩ := h'.ge
  exact ⟨max n m, by rw [hn _ (Nat.le_max_left n m)]; exact hm _ (Nat.le_max_right n m)⟩

/-- a function's answer, out of its body's -/
theorem Ev.of_body {f : Nat} {fn : AFn} {as : List AV} {st : St} {e : Ex} {fr' : List AV} {st' : St} {r : AV × St} (htb : tbl f = some fn) (he : fn.ext = none) (hl : as.length = fn.np)
    (h : XC tbl fn.code (as ++ List.replicate (fn.nv - fn.np) .undef) st (e, fr', st')) (hr : finK fn.results (some (e, fr', st')) = some r) : Ev tbl f as st r.1 r.2 := by
  obtain ⟨n, hn⟩ := h
  refine ⟨n + 1, ?_⟩
  simp only [callF, htb, he]
  rw [run_finK _ _ _ _ _ hl, hn, hr]
theorem Ev.of_ext {f : Nat} {fn : AFn} {as : List AV} {st : St} {e : List AV → St → Option (AV × St)} {r : AV × St} (htb : tbl f = some fn) (he : fn.ext = some e) (h : e as st = some r) : Ev tbl f as st r.1 r.2 :=
  ⟨1, by simp only [callF, htb, he]; exact h⟩
end
end Go.Cb
/-
  THE ABSTRACT MACHINE, part 33: with enough fuel it comes to something of that sort.
-/
set_option maxRecDepth 4000
set_option linter.unusedVariables false
namespace Go.Cb
open Classical

/-- with enough fuel it comes to something of that sort -/
def WC {α : Type} (c : Nat → Option α) (Q : α → Prop) : Prop := ∃ n0 a, (∀ n, n0 ≤ n → c n = some a) ∧ Q a
/-- a call comes to something of that sort -/
def EvQ (tbl : Nat → Option AFn) (f : Nat) (as : List AV) (st : St) (Q : AV → St → Prop) : Prop := ∃ r st', Ev tbl f as st r st' ∧ Q r st'

theorem WC.ret {α : Type} {a : α} {Q : α → Prop} (h : Q a) : WC (fun _ => some a) Q := ⟨0, a, fun _ _ => rfl, h⟩
theorem WC.mono {α : Type} {c : Nat → Option α} {P Q : α → Prop} (h : WC c P) (hq : ∀ a, P a → Q a) : WC c Q :=
  let ⟨n, a, ha, hp⟩ := h; ⟨n, a, ha, hq a hp⟩
theorem WC.obind {α β : Type} {c : Nat → Option α} {k : Nat → α → Option β} {P : α → Prop} {Q : β → Prop} (h : WC c P) (hk : ∀ a, P a → WC (fun n => k n a) Q) : WC (fun n => Go.Cb.obind (c n) (k n)) Q := by
  obtain ⟨n, a, ha, hp⟩ := h
  obtain ⟨m, b, hb, hq⟩ := hk a hp
  refine ⟨max n m, b, fun j hj => ?_, hq⟩
  show Go.Cb.obind (c j) (k j) = some b
  rw [ha j (by omega), obind_some]
  exact hb j (Nat.le_trans (Nat.le_max_right n m) hj)
theorem EvQ.mono {tbl : Nat → Option AFn} {f : Nat} {as : List AV} {st : St} {P Q : AV → St → Prop} (h : EvQ tbl f as st P) (hq : ∀ r st', P r st' → Q r st') : EvQ tbl f as st Q :=
  let ⟨r, st', he, hp⟩ := h; ⟨r, st', he, hq r st' hp⟩

section
variable {tbl : Nat → Option AFn}
theorem WC.call {β : Type} {f : Nat} {as as' : List AV} {bx : AV} {st : St} {k : Nat → AV × St → Option β} {P : AV → St → Prop} {Q : β → Prop}
    (h : EvQ tbl f as' st P) (hp : allPlain as = true) (hw : as.map AV.weak = as') (hk : ∀ r st', P r st' → WC (fun n => k n (r, st')) Q) : WC (fun n => Go.Cb.obind (p2 (semCall f (callF tbl n) as bx st)) (k n)) Q := by
  obtain ⟨r, st', he, hq⟩ := h
  obtain ⟨n0, h0⟩ := he.ge
  refine WC.obind (P := fun x => x = (r, st')) ⟨n0, (r, st'), fun n hn => ?_, rfl⟩ (fun a ha => ha ▸ hk r st' hq)
  simp only [semCall, hp, if_true, hw, h0 n hn, Option.map_some, p2_some]
theorem WC.callV {β : Type} {f : Nat} {first caps as as' : List AV} {bx : AV} {st : St} {k : Nat → AV × St → Option β} {P : AV → St → Prop} {Q : β → Prop}
    (h : EvQ tbl f as' st P) (hp : allPlain as = true) (hw : (first ++ as ++ caps).map AV.weak = as') (hk : ∀ r st', P r st' → WC (fun n => k n (r, st')) Q) : WC (fun n => Go.Cb.obind (p2 (semCallV (callF tbl n) (.func f first caps :: as) bx st)) (k n)) Q := by
  obtain ⟨r, st', he, hq⟩ := h
  obtain ⟨n0, h0⟩ := he.ge
  refine WC.obind (P := fun x => x = (r, st')) ⟨n0, (r, st'), fun n hn => ?_, rfl⟩ (fun a ha => ha ▸ hk r st' hq)
  simp only [semCallV, hp, if_true, hw, h0 n hn, Option.map_some, p2_some]

/-- what a block makes of how its code ended -/
def blkOut (id : Nat) (o : Out) : Out := match o with
  | (.exit id', fr, st) => if id' = id then (.normal, fr, st) else (.exit id', fr, st)
  | o => o
def blkK (id : Nat) (x : Option Out) : Option Out := match x with
  | some o => some (blkOut id o)
  | none => none
theorem blkK_some (id : Nat) (o : Out) : blkK id (some o) = some (blkOut id o) := spine rfl
theorem blkOut_normal (id : Nat) (fr : List AV) (st : St) : blkOut id (.normal, fr, st) = (.normal, fr, st) := spine rfl
theorem blkOut_ret (id : Nat) (fr : List AV) (st : St) : blkOut id (.ret, fr, st) = (.ret, fr, st) := spine rfl
theorem blkOut_exit (id id' : Nat) (fr : List AV) (st : St) : blkOut id (.exit id', fr, st) = if id' = id then (.normal, fr, st) else (.exit id', fr, st) := spine rfl
theorem blkK_congr {id : Nat} {x x' : Option Out} (h : x = x') : blkK id x = blkK id x' := by rw [h]
theorem exec_blkK (call : CallT) (n id : Nat) (a : ACode) (fr : List AV) (st : St) : exec call n (.blk id a) fr st = blkK id (exec call n a fr st) := by
  simp only [exec, blkK]
  cases exec call n a fr st with
  | none => rfl
  | some o =>
    obtain ⟨e, fr', st'⟩ := o
    cases e with
    | normal => rfl
    | ret => rfl
    | exit id' => by_cases h : id' = id <;> simp [blkOut, h]
theorem WC.seqK {c : Nat → Option Out} {g : Nat → List AV → St → Option Out} {P Q : Out → Prop} (h : WC c P) (hk : ∀ o, P o → WC (fun n => Go.Cb.seqK (some o) (g n)) Q) : WC (fun n => Go.Cb.seqK (c n) (g n)) Q := by
  obtain ⟨n, a, ha, hp⟩ := h
  obtain ⟨m, b, hb, hq⟩ := hk a hp
  exact ⟨max n m, b, fun j hj => by dsimp only; rw [ha j (by omega)]; exact hb j (by omega), hq⟩
theorem WC.blkK {id : Nat} {c : Nat → Option Out} {Q : Out → Prop} (h : WC c (fun o => Q (blkOut id o))) : WC (fun n => Go.Cb.blkK id (c n)) Q := by
  obtain ⟨n, a, ha, hp⟩ := h
  exact ⟨n, _, fun j hj => by dsimp only; rw [ha j hj, blkK_some], hp⟩
theorem WC.finK {rs : List ResK} {c : Nat → Option Out} {P : Out → Prop} {Q : AV × St → Prop} (h : WC c P) (hk : ∀ o, P o → WC (fun n => Go.Cb.finK rs (some o)) Q) : WC (fun n => Go.Cb.finK rs (c n)) Q := by
  obtain ⟨n, a, ha, hp⟩ := h
  obtain ⟨m, b, hb, hq⟩ := hk a hp
  exact ⟨max n m, b, fun j hj => by dsimp only; rw [ha j (by omega)]; exact hb j (by omega), hq⟩

theorem WC.of_xc {x : ACode} {fr : List AV} {st : St} {out : Out} {Q : Out → Prop} (h : XC tbl x fr st out) (hq : Q out) : WC (fun n => exec (callF tbl n) n x fr st) Q := by
  obtain ⟨n, hn⟩ := h.ge
  exact ⟨n, out, hn, hq⟩
theorem WC.xc {x : ACode} {fr : List AV} {st : St} {Q : Out → Prop} (h : WC (fun n => exec (callF tbl n) n x fr st) Q) : ∃ out, XC tbl x fr st out ∧ Q out := by
  obtain ⟨n, a, ha, hq⟩ := h
  exact ⟨a, ⟨n, ha n (Nat.le_refl n)⟩, hq⟩

/-- a loop, by what holds ahead of each round, and a number that falls -/
theorem WC.loop {x : ACode} {Q : Out → Prop} (I : Nat → List AV → St → Prop) {m : Nat} {fr : List AV} {st : St} (h0 : I m fr st)
    (hI : ∀ m fr st, I m fr st → WC (fun n => exec (callF tbl n) n x fr st) (fun o => (∃ m' fr' st', o = (.normal, fr', st') ∧ m' < m ∧ I m' fr' st') ∨ (o.1 ≠ .normal ∧ Q o))) :
    WC (fun n => exec (callF tbl n) n (.loop x) fr st) Q := by
  have key : ∀ m fr st, I m fr st → ∃ out, LX tbl x fr st out ∧ Q out := by
    intro m
    induction m using Nat.strongRecOn with
    | ind m ih =>
      intro fr st h
      obtain ⟨out, hx, hc⟩ := (hI m fr st h).xc
      rcases hc with ⟨m', fr', st', rfl, hlt, hi⟩ | ⟨hne, hq⟩
      · obtain ⟨out, hl, hq⟩ := ih m' hlt fr' st' hi
        exact ⟨out, LX.step hx hl, hq⟩
      · obtain ⟨e, fr', st'⟩ := out
        exact ⟨_, LX.done hx hne, hq⟩
  obtain ⟨out, hl, hq⟩ := key m fr st h0
  exact WC.of_xc (XC.loop hl) hq

/-- a function's answer -/
theorem EvQ.of_body {f : Nat} {fn : AFn} {as : List AV} {st : St} {Q : AV → St → Prop} (htb : tbl f = some fn) (he : fn.ext = none) (hl : as.length = fn.np)
    (h : WC (fun n => Go.Cb.finK fn.results (exec (callF tbl n) n fn.code (as ++ List.replicate (fn.nv - fn.np) .undef) st)) (fun r => Q r.1 r.2)) : EvQ tbl f as st Q := by
  obtain ⟨n, a, ha, hq⟩ := h
  refine ⟨a.1, a.2, ⟨n + 1, ?_⟩, hq⟩
  simp only [callF, htb, he]
  rw [run_finK _ _ _ _ _ hl]
  exact ha n (Nat.le_refl n)
theorem EvQ.of_ext {f : Nat} {fn : AFn} {as : List AV} {st : St} {e : List AV → St → Option (AV × St)} {r : AV × St} {Q : AV → St → Prop} (htb : tbl f = some fn) (he : fn.ext = some e) (h : e as st = some r) (hq : Q r.1 r.2) : EvQ tbl f as st Q :=
  ⟨_, _, Ev.of_ext htb he h, hq⟩
end
end Go.Cb
/-
  THE ABSTRACT MACHINE, part 34: rules for loops within blocks, and for a body's end.
-/
set_option maxRecDepth 4000
set_option linter.unusedVariables false
namespace Go.Cb
open Classical
section
variable {tbl : Nat → Option AFn}

theorem WC.next {I : Nat → List AV → St → Prop} {m m' : Nat} {fr' : List AV} {st' : St} {R : Out → Prop} (hm : m' < m) (hi : I m' fr' st') :
    WC (fun _ => some (Ex.normal, fr', st')) (fun o => (∃ m' fr' st', o = (.normal, fr', st') ∧ m' < m ∧ I m' fr' st') ∨ (o.1 ≠ .normal ∧ R o)) := WC.ret (Or.inl ⟨m', fr', st', rfl, hm, hi⟩)
theorem WC.leave {I : Nat → List AV → St → Prop} {m id : Nat} {fr' : List AV} {st' : St} {R : Out → Prop} (h : R (.exit id, fr', st')) :
    WC (fun _ => some (Ex.exit id, fr', st')) (fun o => (∃ m' fr' st', o = (.normal, fr', st') ∧ m' < m ∧ I m' fr' st') ∨ (o.1 ≠ .normal ∧ R o)) := WC.ret (Or.inr ⟨fun h => by simp at h, h⟩)
theorem WC.leaveR {I : Nat → List AV → St → Prop} {m : Nat} {fr' : List AV} {st' : St} {R : Out → Prop} (h : R (.ret, fr', st')) :
    WC (fun _ => some (Ex.ret, fr', st')) (fun o => (∃ m' fr' st', o = (.normal, fr', st') ∧ m' < m ∧ I m' fr' st') ∨ (o.1 ≠ .normal ∧ R o)) := WC.ret (Or.inr ⟨fun h => by simp at h, h⟩)

/-- a function's answer, told at its body's end -/
theorem EvQ.body {f : Nat} {fn : AFn} {as : List AV} {st : St} {Q : AV → St → Prop} (htb : tbl f = some fn) (he : fn.ext = none) (hl : as.length = fn.np)
    (h : WC (fun n => exec (callF tbl n) n fn.code (as ++ List.replicate (fn.nv - fn.np) .undef) st) (fun o => ∃ r st', Go.Cb.finK fn.results (some o) = some (r, st') ∧ Q r st')) : EvQ tbl f as st Q :=
  EvQ.of_body htb he hl (WC.finK h fun o ⟨r, st', hr, hq⟩ => ⟨0, (r, st'), fun _ _ => hr, hq⟩)
end
end Go.Cb
/-
  THE ABSTRACT MACHINE, part 35: small laws on numbers and rows, for walks with unknowns.
-/
set_option maxRecDepth 4000
set_option linter.unusedVariables false
namespace Go.Cb
open Classical

theorem wrap64 {n : Int} (h1 : -9223372036854775808 ≤ n) (h2 : n < 9223372036854775808) : wrapA .i64 n = n := by
  rw [wrapA_eq]
  simp only [IntKind.wrap, IntKind.signed, IntKind.bits, Bool.true_and]
  split
  · rename_i h; have h := of_decide_eq_true h; omega
  · rename_i h; have h : ¬ (n % 2 ^ 64 ≥ 2 ^ (64 - 1)) := fun x => h (decide_eq_true x); omega
theorem inc64 {i : Nat} (h : i + 1 < 2 ^ 63) : wrapA .i64 (addI (i : Int) 1) = ((i + 1 : Nat) : Int) := by
  rw [addI_eq, wrap64 (by omega) (by omega)]
  omega
theorem ltN (i j : Nat) : ltI (i : Int) (j : Int) = decide (i < j) := by
  rw [ltI_eq]
  by_cases h : i < j
  · simp [h]
  · simp [h]
theorem eqNN (i j : Nat) : eqI (i : Int) (j : Int) = decide (i = j) := by
  rw [eqI_eq]
  by_cases h : i = j
  · simp [h]
  · simp [h]; omega
theorem bool_tf (b : Bool) : b = true ∨ b = false := by cases b <;> simp
end Go.Cb
/-
  THE ABSTRACT MACHINE, part 36: guarded values, reckoned without splitting; copies, form by form; tests as rules.
-/
set_option maxRecDepth 4000
set_option linter.unusedVariables false
namespace Go.Cb
open Classical

/-- a value that is there where its guard is so -/
def gV (x : AV) (want : Bool) (v : AV) : AV := match x with
  | .bool b => if b == want then v else .tuple []
  | _ => .tuple []
theorem gV_tt (v : AV) : gV (.bool true) true v = v := spine rfl
theorem gV_ff (v : AV) : gV (.bool false) false v = v := spine rfl
theorem gV_tf (v : AV) : gV (.bool true) false v = .tuple [] := spine rfl
theorem gV_ft (v : AV) : gV (.bool false) true v = .tuple [] := spine rfl
theorem gV_none (want : Bool) (v : AV) : gV (.tuple []) want v = .tuple [] := spine rfl
theorem gv_some (c want : Bool) (v : AV) : gv (.bool c) want (some v) = some (gV (.bool c) want v) := by
  cases c <;> cases want <;> rfl
theorem gv_some2 (x : AV) (w b want : Bool) (v : AV) : gv (gV x w (.bool b)) want (some v) = some (gV (gV x w (.bool b)) want v) := by
  unfold gV
  cases x with
  | bool c => cases c <;> cases w <;> cases b <;> cases want <;> rfl
  | _ => rfl
theorem gv_congr2 {x x' : AV} {want : Bool} {e e' : Option AV} (h1 : x = x') (h2 : x' = .bool want → e = e') : gv x want e = gv x' want e' := by
  subst h1
  unfold gv
  split
  · rename_i b
    by_cases hb : b = want
    · rw [h2 (by rw [hb])]
    · simp [hb]
  · rfl
  · rfl
theorem weak_gV (x : AV) (w : Bool) (v : AV) : (gV x w v).weak = gV x w v.weak := by
  unfold gV
  cases x with
  | bool c => dsimp only; split <;> rfl
  | _ => rfl
theorem strip_gV (x : AV) (w : Bool) (v : AV) : (gV x w v).strip = gV x w v.strip := by
  unfold gV
  cases x with
  | bool c => dsimp only; split <;> rfl
  | _ => rfl
theorem stripB_gV (x : AV) (w : Bool) (v : AV) : (gV x w v).stripB = gV x w v.stripB := by
  unfold gV
  cases x with
  | bool c => dsimp only; split <;> rfl
  | _ => rfl
theorem pick_t (call : CallT) (a b bx : AV) (st : St) : p1 (semPick call [.bool true, a, b] bx st) = if a.plain then some a else none := by
  unfold semPick; dsimp only; by_cases h : a.plain = true <;> simp [h, p1]
theorem pick_f (call : CallT) (a b bx : AV) (st : St) : p1 (semPick call [.bool false, a, b] bx st) = if b.plain then some b else none := by
  unfold semPick; dsimp only; by_cases h : b.plain = true <;> simp [h, p1]
theorem pick_or (call : CallT) (c d : Bool) (bx : AV) (st : St) : p1 (semPick call [.bool c, .bool true, gV (.bool c) false (.bool d)] bx st) = some (.bool (c || d)) := by
  cases c <;> rfl
theorem pick_and (call : CallT) (c d : Bool) (bx : AV) (st : St) : p1 (semPick call [.bool c, gV (.bool c) true (.bool d), .bool false] bx st) = some (.bool (c && d)) := by
  cases c <;> rfl

theorem weak_bool (b : Bool) : (AV.bool b).weak = .bool b := spine rfl
theorem weak_int (k : IntKind) (n : Int) : (AV.int k n).weak = .int k n := spine rfl
theorem weak_str (s : List Nat) : (AV.str s).weak = .str s := spine rfl
theorem weak_list (o : Bool) (xs : List (List AV)) : (AV.list o xs).weak = .list false xs := spine rfl
theorem weak_ptr (o f : Nat) : (AV.ptr o f).weak = .ptr o f := spine rfl
theorem weak_nilp : AV.nilp.weak = .nilp := spine rfl
theorem weak_ro (cs : List AV) : (AV.ro cs).weak = .ro cs := spine rfl
theorem weak_loc (i f : Nat) : (AV.loc i f).weak = .loc i f := spine rfl
theorem weak_map (o : Nat) : (AV.map o).weak = .map o := spine rfl
theorem weak_nilm : AV.nilm.weak = .nilm := spine rfl
theorem weak_func (f : Nat) (a b : List AV) : (AV.func f a b).weak = .func f a b := spine rfl
theorem weak_nilf : AV.nilf.weak = .nilf := spine rfl
theorem weak_agg (cs : List AV) : (AV.agg cs).weak = .agg (cs.map AV.weak1) := spine rfl
theorem weak_tuple (vs : List AV) : (AV.tuple vs).weak = .tuple vs := spine rfl
theorem weak_undef : AV.undef.weak = .undef := spine rfl
theorem weak_box (cs : List AV) : (AV.box cs).weak = .box cs := spine rfl
theorem weak1_bool (b : Bool) : (AV.bool b).weak1 = .bool b := spine rfl
theorem weak1_int (k : IntKind) (n : Int) : (AV.int k n).weak1 = .int k n := spine rfl
theorem weak1_str (s : List Nat) : (AV.str s).weak1 = .str s := spine rfl
theorem weak1_list (o : Bool) (xs : List (List AV)) : (AV.list o xs).weak1 = .list false xs := spine rfl
theorem weak1_ptr (o f : Nat) : (AV.ptr o f).weak1 = .ptr o f := spine rfl
theorem weak1_nilp : AV.nilp.weak1 = .nilp := spine rfl
theorem weak1_map (o : Nat) : (AV.map o).weak1 = .map o := spine rfl
theorem weak1_nilm : AV.nilm.weak1 = .nilm := spine rfl
theorem strip_bool (b : Bool) : (AV.bool b).strip = .bool b := spine rfl
theorem strip_int (k : IntKind) (n : Int) : (AV.int k n).strip = .int k n := spine rfl
theorem strip_str (s : List Nat) : (AV.str s).strip = .str s := spine rfl
theorem strip_list (o : Bool) (xs : List (List AV)) : (AV.list o xs).strip = .list o xs := spine rfl
theorem strip_ptr (o f : Nat) : (AV.ptr o f).strip = .ptr o f := spine rfl
theorem strip_nilp : AV.nilp.strip = .nilp := spine rfl
theorem strip_ro (cs : List AV) : (AV.ro cs).strip = .ro cs := spine rfl
theorem strip_loc (i f : Nat) : (AV.loc i f).strip = .undef := spine rfl
theorem strip_map (o : Nat) : (AV.map o).strip = .map o := spine rfl
theorem strip_nilm : AV.nilm.strip = .nilm := spine rfl
theorem strip_func (f : Nat) (a b : List AV) : (AV.func f a b).strip = .func f a b := spine rfl
theorem strip_nilf : AV.nilf.strip = .nilf := spine rfl
theorem strip_agg (cs : List AV) : (AV.agg cs).strip = .agg cs := spine rfl
theorem strip_tuple (vs : List AV) : (AV.tuple vs).strip = .tuple vs := spine rfl
theorem strip_undef : AV.undef.strip = .undef := spine rfl
theorem stripB_bool (b : Bool) : (AV.bool b).stripB = .bool b := spine rfl
theorem stripB_int (k : IntKind) (n : Int) : (AV.int k n).stripB = .int k n := spine rfl
theorem stripB_str (s : List Nat) : (AV.str s).stripB = .str s := spine rfl
theorem stripB_list (o : Bool) (xs : List (List AV)) : (AV.list o xs).stripB = .list o xs := spine rfl
theorem stripB_ptr (o f : Nat) : (AV.ptr o f).stripB = .ptr o f := spine rfl
theorem stripB_nilp : AV.nilp.stripB = .nilp := spine rfl
theorem stripB_ro (cs : List AV) : (AV.ro cs).stripB = .ro cs := spine rfl
theorem stripB_loc (i f : Nat) : (AV.loc i f).stripB = .loc i f := spine rfl
theorem stripB_map (o : Nat) : (AV.map o).stripB = .map o := spine rfl
theorem stripB_nilm : AV.nilm.stripB = .nilm := spine rfl
theorem stripB_func (f : Nat) (a b : List AV) : (AV.func f a b).stripB = .func f a b := spine rfl
theorem stripB_nilf : AV.nilf.stripB = .nilf := spine rfl
theorem stripB_agg (cs : List AV) : (AV.agg cs).stripB = .agg cs := spine rfl
theorem stripB_tuple (vs : List AV) : (AV.tuple vs).stripB = .tuple vs := spine rfl
theorem stripB_undef : AV.undef.stripB = .undef := spine rfl

/-! what comes behind, as constants that wait: nothing of it is reckoned ahead of its time -/
def seqC {α : Type} (K : α → Option Out) (g : List AV → St → Option Out) (a : α) : Option Out := Go.Cb.seqK (K a) g
def blkC {α : Type} (id : Nat) (K : α → Option Out) (a : α) : Option Out := Go.Cb.blkK id (K a)
theorem seqC_x {α : Type} (K : α → Option Out) (g : List AV → St → Option Out) (a : α) : seqC K g a = Go.Cb.seqK (K a) g := spine rfl
theorem blkC_x {α : Type} (id : Nat) (K : α → Option Out) (a : α) : blkC id K a = Go.Cb.blkK id (K a) := spine rfl
theorem seqK_obindC {α : Type} (x : Option α) (f : α → Option Out) (g : List AV → St → Option Out) : Go.Cb.seqK (Go.Cb.obind x f) g = Go.Cb.obind x (seqC f g) := by cases x <;> rfl
theorem blkK_obindC {α : Type} (id : Nat) (x : Option α) (f : α → Option Out) : Go.Cb.blkK id (Go.Cb.obind x f) = Go.Cb.obind x (blkC id f) := by cases x <;> rfl

def exeT (call : CallT) (n : Nat) (a : ACode) (fr : List AV) (st : St) (_ : Unit) : Option Out := exec call n a fr st
def seqT (A : Unit → Option Out) (g : List AV → St → Option Out) (u : Unit) : Option Out := Go.Cb.seqK (A u) g
def blkT (id : Nat) (A : Unit → Option Out) (u : Unit) : Option Out := Go.Cb.blkK id (A u)
theorem exeT_x (call : CallT) (n : Nat) (a : ACode) (fr : List AV) (st : St) (u : Unit) : exeT call n a fr st u = exec call n a fr st := spine rfl
theorem seqT_x (A : Unit → Option Out) (g : List AV → St → Option Out) (u : Unit) : seqT A g u = Go.Cb.seqK (A u) g := spine rfl
theorem blkT_x (id : Nat) (A : Unit → Option Out) (u : Unit) : blkT id A u = Go.Cb.blkK id (A u) := spine rfl
def brT (c : AV) (A B : Unit → Option Out) : Option Out := match c with
  | .bool true => A ()
  | .bool false => B ()
  | _ => none
theorem brT_true (A B : Unit → Option Out) : brT (.bool true) A B = A () := spine rfl
theorem brT_false (A B : Unit → Option Out) : brT (.bool false) A B = B () := spine rfl
theorem brT_congr {c c' : AV} {A B : Unit → Option Out} (h : c = c') : brT c A B = brT c' A B := by rw [h]
theorem seqK_brT (c : AV) (A B : Unit → Option Out) (g : List AV → St → Option Out) : Go.Cb.seqK (brT c A B) g = brT c (seqT A g) (seqT B g) := by
  cases c <;> try rfl
  rename_i b; cases b <;> rfl
theorem blkK_brT (id : Nat) (c : AV) (A B : Unit → Option Out) : Go.Cb.blkK id (brT c A B) = brT c (blkT id A) (blkT id B) := by
  cases c <;> try rfl
  rename_i b; cases b <;> rfl
theorem br_brT (call : CallT) (n : Nat) (c : AV) (a b : ACode) (fr : List AV) (st : St) : Go.Cb.br c (exec call n a fr st) (exec call n b fr st) = brT c (exeT call n a fr st) (exeT call n b fr st) := by
  cases c <;> try rfl
theorem exec_testT (call : CallT) (n : Nat) (kill : List Nat) (ps : List AOper) (c : Opd) (a b : ACode) (fr : List AV) (st : St) :
    exec call n (.test kill ps c a b) fr st = runK call ps ⟨killAll kill fr, fun _ => .undef, st⟩ fun σ => brT (c.read σ) (exeT call n a σ.fr σ.st) (exeT call n b σ.fr σ.st) := by
  rw [exec_test]
  simp only [br_brT]
def loopO (call : CallT) (n : Nat) (x : ACode) (fr : List AV) (st : St) : Option Out := exec call n (.loop x) fr st
theorem exec_loopO (call : CallT) (n : Nat) (x : ACode) (fr : List AV) (st : St) : exec call n (.loop x) fr st = Go.Cb.obind (loopO call n x fr st) some := by
  unfold loopO; cases exec call n (.loop x) fr st <;> rfl

theorem WC.br {c : Bool} {A B : Nat → Unit → Option Out} {Q : Out → Prop} (ht : c = true → WC (fun n => A n ()) Q) (hf : c = false → WC (fun n => B n ()) Q) : WC (fun n => brT (.bool c) (A n) (B n)) Q := by
  cases c with
  | true => exact ht rfl
  | false => exact hf rfl
/-- a loop, by what holds ahead of each round, and a number that falls; R: what holds behind it -/
theorem WC.loopR {tbl : Nat → Option AFn} {β : Type} {x : ACode} {K : Nat → Out → Option β} {Q : β → Prop} (I : Nat → List AV → St → Prop) {m : Nat} {fr : List AV} {st : St} (h0 : I m fr st)
    (hI : ∀ m fr st, I m fr st → WC (fun n => exec (callF tbl n) n x fr st) (fun o => (∃ m' fr' st', o = (.normal, fr', st') ∧ m' < m ∧ I m' fr' st') ∨ (o.1 ≠ .normal ∧ WC (fun n => K n o) Q))) :
    WC (fun n => Go.Cb.obind (loopO (callF tbl n) n x fr st) (K n)) Q := WC.obind (WC.loop I h0 hI) fun _ ho => ho
theorem WC.g2 {β : Type} {c want : Bool} {st : St} {E : Nat → Option (AV × St)} {k : Nat → AV × St → Option β} {Q : β → Prop} (ht : c = want → WC (fun n => Go.Cb.obind (E n) (k n)) Q) (hf : c = !want → WC (fun n => k n (.tuple [], st)) Q) :
    WC (fun n => Go.Cb.obind (gv2 (.bool c) want st (E n)) (k n)) Q := by
  by_cases h : c = want
  · subst h
    have e : ∀ n, gv2 (.bool c) c st (E n) = E n := fun n => by cases c <;> rfl
    simp only [e]
    exact ht rfl
  · have h' : c = !want := by cases c <;> cases want <;> simp_all
    have e : ∀ n, gv2 (.bool c) want st (E n) = some (.tuple [], st) := fun n => by subst h'; cases want <;> rfl
    simp only [e, obind_some]
    exact hf h'
end Go.Cb
/-
  THE ABSTRACT MACHINE, part 37: what operations come to, form by form; all of it under one name.
-/
set_option maxRecDepth 4000
set_option linter.unusedVariables false
set_option linter.unusedSimpArgs false
namespace Go.Cb
/-- a temporary, read -/
def W (a : AV) : AV := AV.weak (AV.stripB a)
def brE (c : AV) (call : CallT) (n : Nat) (a b : ACode) (fr : List AV) (st : St) : Option Out := brT c (exeT call n a fr st) (exeT call n b fr st)
/-- a move -/
def m1 {β : Type} (a : AV) (f : AV → Option β) : Option β := obind (p1 (some (a, AV.undef, ([] : St)))) f
/-- a guarded move -/
def gm {β : Type} (x : AV) (w : Bool) (a : AV) (f : AV → Option β) : Option β := obind (gv x w (some a)) f
theorem m1_congr {β : Type} {a a' : AV} {f : AV → Option β} (h : a = a') : m1 a f = m1 a' f := by rw [h]
theorem gm_congr {β : Type} {x x' a a' : AV} {w : Bool} {f : AV → Option β} (h1 : x = x') (h2 : x' = .bool w → a = a') : gm x w a f = gm x' w a' f := by
  unfold gm
  rw [gv_congr2 (e := some a) (e' := some a') h1 (fun h => by rw [h2 h])]
end Go.Cb
namespace Go.Cb.R
open Go.Cb
theorem mv_e (call : CallT) (bx : AV) (st : St) (a : AV) : semMv call [a] bx st = some (a, bx, st) := spine rfl
theorem nilchk_ptr (call : CallT) (bx : AV) (st : St) (o f : Nat) : semNilchk call [.ptr o f] bx st = some (.ptr o f, bx, st) := spine rfl
theorem nilchk_loc (call : CallT) (bx : AV) (st : St) (o f : Nat) : semNilchk call [.loc o f] bx st = some (.loc o f, bx, st) := spine rfl
theorem nilchk_ro (call : CallT) (bx : AV) (st : St) (cs : List AV) : semNilchk call [.ro cs] bx st = some (.ro cs, bx, st) := spine rfl
theorem nilchk_func (call : CallT) (bx : AV) (st : St) (f : Nat) (a b : List AV) : semNilchk call [.func f a b] bx st = some (.func f a b, bx, st) := spine rfl
theorem alloc_e (call : CallT) (st : St) (zero : List AV) : semAlloc zero call [] .undef st = some (.undef, .box zero, st) := spine rfl
theorem boxV_e (call : CallT) (st : St) (a : AV) : semBoxV call [a] .undef st = if a.plain then some (.undef, .box a.cellsW, st) else none := spine rfl
theorem allocO_e (call : CallT) (bx : AV) (st : St) (zero : List AV) : semAllocO zero call [] bx st = some (.ptr st.length 0, bx, st ++ [.cells zero]) := spine rfl
theorem boxO_e (call : CallT) (bx : AV) (st : St) (a : AV) : semBoxO call [a] bx st = if a.plain then some (.ptr st.length 0, bx, st ++ [.cells a.cellsW]) else none := spine rfl
theorem build_e (call : CallT) (bx : AV) (st : St) (zero : List AV) (offs : List (Nat × Nat)) (as : List AV) : semBuild zero offs call as bx st = (fillSegs offs as zero).map fun cs => (.agg cs, bx, st) := spine rfl
theorem bslice_e (call : CallT) (bx : AV) (st : St) (sz : Nat) (zero : List (List AV)) (at_ : List Nat) (as : List AV) : semBslice sz zero at_ call as bx st = (fillRows sz at_ as zero).map fun rs => (.list true rs, bx, st) := spine rfl
theorem ldLc_e (call : CallT) (st : St) (i off n : Nat) (agg : Bool) (cs : List AV) : semLdLc i agg n call [.loc i off] (.box cs) st = (takeVal agg n (cs.drop off)).map (fun v => (v, .box cs, st)) := by unfold semLdLc; simp only [if_true]
theorem ldSt_e (call : CallT) (bx : AV) (st : St) (o off n : Nat) (agg : Bool) : semLdSt agg n call [.ptr o off] bx st = match st[o]? with | some (.cells cs) => (takeVal agg n (cs.drop off)).map (fun v => (v, bx, st)) | _ => none := spine rfl
theorem ldRo_e (call : CallT) (bx : AV) (st : St) (n : Nat) (agg : Bool) (cs : List AV) : semLdRo agg n call [.ro cs] bx st = (takeVal agg n cs).map (fun v => (v, bx, st)) := spine rfl
theorem ldLcS_e (call : CallT) (st : St) (i off : Nat) (cs : List AV) : semLdLcS i call [.loc i off] (.box cs) st = match cs[off]? with | some c => some (c, .box (cs.set off c.weak1), st) | none => none := by unfold semLdLcS; simp only [if_true]; rfl
theorem ldStS_e (call : CallT) (bx : AV) (st : St) (o off : Nat) : semLdStS call [.ptr o off] bx st = match st[o]? with | some (.cells cs) => (match cs[off]? with | some c => some (c, bx, st.set o (.cells (cs.set off c.weak1))) | none => none) | _ => none := spine rfl
theorem stLc_e (call : CallT) (st : St) (i n off : Nat) (x : AV) (cs : List AV) : semStLc i n call [.loc i off, x] (.box cs) st = if x.plain = true ∧ x.cells.length = n ∧ off + n ≤ cs.length then some (.tuple [], .box (setSeg cs off x.cells), st) else none := by unfold semStLc; simp only [true_and]
theorem stSt_e (call : CallT) (bx : AV) (st : St) (o off n : Nat) (x : AV) : semStSt n call [.ptr o off, x] bx st = match st[o]? with | some (.cells cs) => (if x.plain = true ∧ x.cells.length = n ∧ off + n ≤ cs.length then some (.tuple [], bx, st.set o (.cells (setSeg cs off x.cells))) else none) | _ => none := by unfold semStSt; simp only [fL_eq]; rfl
theorem fad_ptr (call : CallT) (bx : AV) (st : St) (off o f : Nat) : semFad off call [.ptr o f] bx st = some (.ptr o (f + off), bx, st) := spine rfl
theorem fad_loc (call : CallT) (bx : AV) (st : St) (off o f : Nat) : semFad off call [.loc o f] bx st = some (.loc o (f + off), bx, st) := spine rfl
theorem fad_ro (call : CallT) (bx : AV) (st : St) (off : Nat) (cs : List AV) : semFad off call [.ro cs] bx st = some (.ro (cs.drop off), bx, st) := spine rfl
theorem fld_e (call : CallT) (bx : AV) (st : St) (off n : Nat) (agg : Bool) (cs : List AV) : semFld off n agg call [.agg cs] bx st = if off + n ≤ cs.length then (takeVal agg n (cs.drop off)).map (fun v => (v, bx, st)) else none := spine rfl
theorem iad_e (call : CallT) (bx : AV) (st : St) (sz : Nat) (w : Bool) (xs : List (List AV)) (k : IntKind) (i : Int) : semIad sz call [.list w xs, .int k i] bx st = if 0 ≤ i then (match xs[i.toNat]? with | some r => if r.length = sz then some (.ro r, bx, st) else none | none => none) else none := spine rfl
theorem iadA_ro (call : CallT) (bx : AV) (st : St) (len sz : Nat) (cs : List AV) (k : IntKind) (i : Int) : semIadA len sz call [.ro cs, .int k i] bx st = if 0 ≤ i ∧ i < (len : Int) then some (.ro (cs.drop (i.toNat * sz)), bx, st) else none := spine rfl
theorem iadA_ptr (call : CallT) (bx : AV) (st : St) (len sz o f : Nat) (k : IntKind) (i : Int) : semIadA len sz call [.ptr o f, .int k i] bx st = if 0 ≤ i ∧ i < (len : Int) then some (.ptr o (f + i.toNat * sz), bx, st) else none := spine rfl
theorem iadA_loc (call : CallT) (bx : AV) (st : St) (len sz o f : Nat) (k : IntKind) (i : Int) : semIadA len sz call [.loc o f, .int k i] bx st = if 0 ≤ i ∧ i < (len : Int) then some (.loc o (f + i.toNat * sz), bx, st) else none := spine rfl
theorem idxS_e (call : CallT) (bx : AV) (st : St) (s : List Nat) (k : IntKind) (i : Int) : semIdxS call [.str s, .int k i] bx st = if 0 ≤ i then (match s[i.toNat]? with | some b => some (.int .u8 b, bx, st) | none => none) else none := spine rfl
theorem slS_e (call : CallT) (bx : AV) (st : St) (lo hi : Bool) (s : List Nat) (r : List AV) : semSlS lo hi call (.str s :: r) bx st = (bounds lo hi r s.length).map fun p => (.str ((s.take p.2).drop p.1), bx, st) := spine rfl
theorem slL_e (call : CallT) (bx : AV) (st : St) (sz : Nat) (lo hi : Bool) (w : Bool) (xs : List (List AV)) (r : List AV) : semSlL sz lo hi call (.list w xs :: r) bx st = if rowsOk sz xs then (bounds lo hi r xs.length).map fun p => (.list false ((xs.take p.2).drop p.1), bx, st) else none := spine rfl
theorem slZ_e (call : CallT) (bx : AV) (st : St) (w : Bool) (xs : List (List AV)) : semSlZ call [.list w xs] bx st = some (.list true [], bx, st) := spine rfl
theorem slA_e (call : CallT) (bx : AV) (st : St) (len sz : Nat) (lo hi : Bool) (cs r : List AV) : semSlA len sz lo hi call (.ro cs :: r) bx st = if cs.length = len * sz then (bounds lo hi r len).map fun p => (.list false (((chunks sz len cs).take p.2).drop p.1), bx, st) else none := spine rfl
theorem bin_e (call : CallT) (bx : AV) (st : St) (op : BinOp) (a b : AV) : semBin op call [a, b] bx st = (binA op a b).map (fun v => (v, bx, st)) := spine rfl
theorem binB_e (call : CallT) (bx : AV) (st : St) (op : BinOp) (a b : AV) : semBinB op call [a, b] bx st = (binBA op a b).map (fun v => (v, bx, st)) := spine rfl
theorem binP_e (call : CallT) (bx : AV) (st : St) (op : BinOp) (a b : AV) : semBinP op call [a, b] bx st = (binPA op a b).map (fun v => (v, bx, st)) := spine rfl
theorem bi_add (k : IntKind) (a b : Int) : binA .add (.int k a) (.int k b) = some (.int k (wrapA k (addI a b))) := by simp only [binA, if_true]
theorem bi_sub (k : IntKind) (a b : Int) : binA .sub (.int k a) (.int k b) = some (.int k (wrapA k (subI a b))) := by simp only [binA, if_true]
theorem bi_mul (k : IntKind) (a b : Int) : binA .mul (.int k a) (.int k b) = some (.int k (wrapA k (a * b))) := by simp only [binA, if_true]
theorem bi_quo (k : IntKind) (a b : Int) : binA .quo (.int k a) (.int k b) = if b = 0 then none else some (.int k (k.wrap (a.tdiv b))) := by simp only [binA, if_true]
theorem bi_rem (k : IntKind) (a b : Int) : binA .rem (.int k a) (.int k b) = if b = 0 then none else some (.int k (a.tmod b)) := by simp only [binA, if_true]
theorem bi_eql (k : IntKind) (a b : Int) : binA .eql (.int k a) (.int k b) = some (.bool (eqI a b)) := by simp only [binA, if_true]
theorem bi_neq (k : IntKind) (a b : Int) : binA .neq (.int k a) (.int k b) = some (.bool !(eqI a b)) := by simp only [binA, if_true]
theorem bi_lss (k : IntKind) (a b : Int) : binA .lss (.int k a) (.int k b) = some (.bool (ltI a b)) := by simp only [binA, if_true]
theorem bi_leq (k : IntKind) (a b : Int) : binA .leq (.int k a) (.int k b) = some (.bool !(ltI b a)) := by simp only [binA, if_true]
theorem bi_gtr (k : IntKind) (a b : Int) : binA .gtr (.int k a) (.int k b) = some (.bool (ltI b a)) := by simp only [binA, if_true]
theorem bi_geq (k : IntKind) (a b : Int) : binA .geq (.int k a) (.int k b) = some (.bool !(ltI a b)) := by simp only [binA, if_true]
theorem bs_add (a b : List Nat) : binA .add (.str a) (.str b) = if a.length + b.length ≤ 2 ^ 62 then some (.str (a ++ b)) else none := spine rfl
theorem bs_eql (a b : List Nat) : binA .eql (.str a) (.str b) = some (.bool (eqN a b)) := spine rfl
theorem bs_neq (a b : List Nat) : binA .neq (.str a) (.str b) = some (.bool !(eqN a b)) := spine rfl
theorem bs_lss (a b : List Nat) : binA .lss (.str a) (.str b) = some (.bool (lessN a b)) := spine rfl
theorem bb_eql (a b : Bool) : binBA .eql (.bool a) (.bool b) = some (.bool (a == b)) := spine rfl
theorem bb_neq (a b : Bool) : binBA .neq (.bool a) (.bool b) = some (.bool !(a == b)) := spine rfl
theorem bp_eql1 (o f : Nat) : binPA .eql (.ptr o f) .nilp = some (.bool false) := spine rfl
theorem bp_eql2 (o f : Nat) : binPA .eql .nilp (.ptr o f) = some (.bool false) := spine rfl
theorem bp_eql3 : binPA .eql .nilp .nilp = some (.bool true) := spine rfl
theorem bp_neq1 (o f : Nat) : binPA .neq (.ptr o f) .nilp = some (.bool true) := spine rfl
theorem bp_neq2 (o f : Nat) : binPA .neq .nilp (.ptr o f) = some (.bool true) := spine rfl
theorem bp_neq3 : binPA .neq .nilp .nilp = some (.bool false) := spine rfl
theorem un_not (call : CallT) (bx : AV) (st : St) (b : Bool) : semUn .not call [.bool b] bx st = some (.bool !b, bx, st) := spine rfl
theorem un_neg (call : CallT) (bx : AV) (st : St) (k : IntKind) (n : Int) : semUn .neg call [.int k n] bx st = some (.int k (wrapA k (0 - n)), bx, st) := spine rfl
theorem conv_e (call : CallT) (bx : AV) (st : St) (k k' : IntKind) (n : Int) : semConv k call [.int k' n] bx st = some (.int k (wrapA k n), bx, st) := spine rfl
theorem mkF_e (call : CallT) (bx : AV) (st : St) (f n : Nat) (as : List AV) : semMkF f n call as bx st = if allPlain as then some (.func f ((as.map AV.weak).take n) ((as.map AV.weak).drop n), bx, st) else none := spine rfl
theorem mkM_e (call : CallT) (bx : AV) (st : St) : semMkM call [] bx st = some (.map st.length, bx, st ++ [.map []]) := spine rfl
theorem ext_e (call : CallT) (bx : AV) (st : St) (i : Nat) (vs : List AV) : semExt i call [.tuple vs] bx st = match vs[i]? with | some v => some (v.weak, bx, st) | none => none := spine rfl
theorem lenS_e (call : CallT) (bx : AV) (st : St) (s : List Nat) : semLenS call [.str s] bx st = some (.int .i64 s.length, bx, st) := spine rfl
theorem lenL_e (call : CallT) (bx : AV) (st : St) (w : Bool) (xs : List (List AV)) : semLenL call [.list w xs] bx st = some (.int .i64 xs.length, bx, st) := spine rfl
theorem app_e (call : CallT) (bx : AV) (st : St) (sz bytes : Nat) (w : Bool) (xs ys : List (List AV)) : semApp sz bytes call [.list true xs, .list w ys] bx st = if rowsOk sz xs && rowsOk sz ys && decide ((xs.length + ys.length) * bytes ≤ 2 ^ 47) then some (.list true (xs ++ ys), bx, st) else none := spine rfl
theorem takeVal_t (n : Nat) (cs : List AV) : takeVal true n cs = if n ≤ cs.length then some (.agg ((cs.take n).map AV.weak1)) else none := spine rfl
theorem takeVal_f (n : Nat) (c : AV) (cs : List AV) : takeVal false n (c :: cs) = some c.weak1 := spine rfl
theorem fillSegs_n (cs : List AV) : fillSegs [] [] cs = some cs := spine rfl
theorem fillSegs_c (off n : Nat) (offs : List (Nat × Nat)) (p : AV) (ps cs : List AV) : fillSegs ((off, n) :: offs) (p :: ps) cs = if p.plain = true ∧ p.cells.length = n ∧ off + n ≤ cs.length then fillSegs offs ps (setSeg cs off p.cells) else none := spine rfl
theorem fillRows_n (sz : Nat) (rs : List (List AV)) : fillRows sz [] [] rs = some rs := spine rfl
theorem fillRows_c (sz i : Nat) (is : List Nat) (p : AV) (ps : List AV) (rs : List (List AV)) : fillRows sz (i :: is) (p :: ps) rs = if p.plain = true ∧ p.cells.length = sz ∧ i < rs.length then fillRows sz is ps (rs.set i (p.cells.map AV.weak1)) else none := spine rfl
theorem setSeg_e (cs : List AV) (off : Nat) (new : List AV) : setSeg cs off new = cs.take off ++ new ++ cs.drop (off + new.length) := spine rfl
theorem bounds_ff (n : Nat) : bounds false false [] n = some (0, n) := spine rfl
theorem bounds_tf (l : AV) (n : Nat) : bounds true false [l] n = (bound l n).map fun l => (l, n) := spine rfl
theorem bounds_ft (h : AV) (n : Nat) : bounds false true [h] n = (bound h n).map fun h => (0, h) := spine rfl
theorem bounds_tt (l h : AV) (n : Nat) : bounds true true [l, h] n = match bound h n with | some h => (bound l h).map (fun l => (l, h)) | none => none := spine rfl
theorem bound_e (k : IntKind) (i : Int) (top : Nat) : bound (.int k i) top = if 0 ≤ i ∧ i ≤ (top : Int) then some i.toNat else none := spine rfl
theorem rowsOk_n (sz : Nat) : rowsOk sz [] = true := spine rfl
theorem rowsOk_c (sz : Nat) (r : List AV) (rs : List (List AV)) : rowsOk sz (r :: rs) = (r.length == sz) := spine rfl
theorem locOf_e (i : Nat) (cs : List AV) : locOf i (.box cs) = .loc i 0 := spine rfl
theorem plain_bool (b : Bool) : AV.plain (.bool b) = true := spine rfl
theorem cells_bool (b : Bool) : AV.cells (.bool b) = [.bool b] := spine rfl
theorem cellsW_bool (b : Bool) : AV.cellsW (.bool b) = [.bool b] := spine rfl
theorem plain_int (k : IntKind) (n : Int) : AV.plain (.int k n) = true := spine rfl
theorem cells_int (k : IntKind) (n : Int) : AV.cells (.int k n) = [.int k n] := spine rfl
theorem cellsW_int (k : IntKind) (n : Int) : AV.cellsW (.int k n) = [.int k n] := spine rfl
theorem plain_str (s : List Nat) : AV.plain (.str s) = true := spine rfl
theorem cells_str (s : List Nat) : AV.cells (.str s) = [.str s] := spine rfl
theorem cellsW_str (s : List Nat) : AV.cellsW (.str s) = [.str s] := spine rfl
theorem plain_list (w : Bool) (xs : List (List AV)) : AV.plain (.list w xs) = true := spine rfl
theorem cells_list (w : Bool) (xs : List (List AV)) : AV.cells (.list w xs) = [.list w xs] := spine rfl
theorem plain_ptr (o f : Nat) : AV.plain (.ptr o f) = true := spine rfl
theorem cells_ptr (o f : Nat) : AV.cells (.ptr o f) = [.ptr o f] := spine rfl
theorem cellsW_ptr (o f : Nat) : AV.cellsW (.ptr o f) = [.ptr o f] := spine rfl
theorem plain_nilp  : AV.plain (.nilp) = true := spine rfl
theorem cells_nilp  : AV.cells (.nilp) = [.nilp] := spine rfl
theorem cellsW_nilp  : AV.cellsW (.nilp) = [.nilp] := spine rfl
theorem plain_ro (cs : List AV) : AV.plain (.ro cs) = true := spine rfl
theorem cells_ro (cs : List AV) : AV.cells (.ro cs) = [.ro cs] := spine rfl
theorem cellsW_ro (cs : List AV) : AV.cellsW (.ro cs) = [.ro cs] := spine rfl
theorem plain_map (o : Nat) : AV.plain (.map o) = true := spine rfl
theorem cells_map (o : Nat) : AV.cells (.map o) = [.map o] := spine rfl
theorem cellsW_map (o : Nat) : AV.cellsW (.map o) = [.map o] := spine rfl
theorem plain_nilm  : AV.plain (.nilm) = true := spine rfl
theorem cells_nilm  : AV.cells (.nilm) = [.nilm] := spine rfl
theorem cellsW_nilm  : AV.cellsW (.nilm) = [.nilm] := spine rfl
theorem plain_func (f : Nat) (a b : List AV) : AV.plain (.func f a b) = true := spine rfl
theorem cells_func (f : Nat) (a b : List AV) : AV.cells (.func f a b) = [.func f a b] := spine rfl
theorem cellsW_func (f : Nat) (a b : List AV) : AV.cellsW (.func f a b) = [.func f a b] := spine rfl
theorem plain_nilf  : AV.plain (.nilf) = true := spine rfl
theorem cells_nilf  : AV.cells (.nilf) = [.nilf] := spine rfl
theorem cellsW_nilf  : AV.cellsW (.nilf) = [.nilf] := spine rfl
theorem plain_agg (cs : List AV) : AV.plain (.agg cs) = true := spine rfl
theorem cells_agg (cs : List AV) : AV.cells (.agg cs) = cs := spine rfl
theorem cellsW_agg (cs : List AV) : AV.cellsW (.agg cs) = cs := spine rfl
theorem cellsW_list (w : Bool) (xs : List (List AV)) : AV.cellsW (.list w xs) = [.list (w && xs.isEmpty) xs] := spine rfl
theorem allPlain_n : allPlain [] = true := spine rfl
theorem allPlain_c (a : AV) (as : List AV) : allPlain (a :: as) = (a.plain && allPlain as) := spine rfl
theorem map_n {α β : Type} (f : α → β) : List.map f [] = [] := spine rfl
theorem map_c {α β : Type} (f : α → β) (a : α) (l : List α) : List.map f (a :: l) = f a :: l.map f := spine rfl
theorem drop_0 {α : Type} (l : List α) : List.drop 0 l = l := spine rfl
theorem drop_s {α : Type} (n : Nat) (a : α) (l : List α) : List.drop (n + 1) (a :: l) = l.drop n := spine rfl
theorem drop_n {α : Type} (n : Nat) : List.drop n ([] : List α) = [] := by cases n <;> rfl
theorem take_0 {α : Type} (l : List α) : List.take 0 l = [] := spine rfl
theorem take_s {α : Type} (n : Nat) (a : α) (l : List α) : List.take (n + 1) (a :: l) = a :: l.take n := spine rfl
theorem take_n {α : Type} (n : Nat) : List.take n ([] : List α) = [] := by cases n <;> rfl
theorem len_n {α : Type} : ([] : List α).length = 0 := spine rfl
theorem len_c {α : Type} (a : α) (l : List α) : (a :: l).length = l.length + 1 := spine rfl
theorem app_c {α : Type} (a : α) (l m : List α) : (a :: l) ++ m = a :: (l ++ m) := spine rfl
theorem app_n {α : Type} (l : List α) : [] ++ l = l := spine rfl
theorem app_nil {α : Type} (l : List α) : l ++ [] = l := List.append_nil l
theorem get_0 {α : Type} (a : α) (l : List α) : (a :: l)[0]? = some a := spine rfl
theorem get_s {α : Type} (n : Nat) (a : α) (l : List α) : (a :: l)[n + 1]? = l[n]? := spine rfl
theorem set_0 {α : Type} (a b : α) (l : List α) : (a :: l).set 0 b = b :: l := spine rfl
theorem set_s {α : Type} (n : Nat) (a b : α) (l : List α) : (a :: l).set (n + 1) b = a :: l.set n b := spine rfl
theorem rep_0 {α : Type} (a : α) : List.replicate 0 a = [] := spine rfl
theorem rep_s {α : Type} (n : Nat) (a : α) : List.replicate (n + 1) a = a :: List.replicate n a := spine rfl
theorem omap_s {α β : Type} (f : α → β) (a : α) : Option.map f (some a) = some (f a) := spine rfl
theorem omap_n {α β : Type} (f : α → β) : Option.map f none = none := spine rfl
theorem isE_n {α : Type} : ([] : List α).isEmpty = true := spine rfl
theorem isE_c {α : Type} (a : α) (l : List α) : (a :: l).isEmpty = false := spine rfl
theorem ite_t {α : Type} (a b : α) : (if True then a else b) = a := if_pos trivial
theorem ite_f {α : Type} (a b : α) : (if False then a else b) = b := if_neg (fun h => h)
theorem itb_t {α : Type} (a b : α) : (if true = true then a else b) = a := if_pos rfl
theorem itb_f {α : Type} (a b : α) : (if false = true then a else b) = b := if_neg (fun h => by cases h)
theorem t_eq_f : (true = false) = False := by simp
theorem f_eq_t : (false = true) = False := by simp
theorem not_t : (!true) = false := spine rfl
theorem not_f : (!false) = true := spine rfl
theorem t_and (b : Bool) : (true && b) = b := spine rfl
theorem and_t (b : Bool) : (b && true) = b := by cases b <;> rfl
theorem f_and (b : Bool) : (false && b) = false := spine rfl
theorem and_f (b : Bool) : (b && false) = false := by cases b <;> rfl
theorem t_or (b : Bool) : (true || b) = true := spine rfl
theorem or_t (b : Bool) : (b || true) = true := by cases b <;> rfl
theorem f_or (b : Bool) : (false || b) = b := spine rfl
theorem or_f (b : Bool) : (b || false) = b := by cases b <;> rfl
theorem and_T (p : Prop) : (p ∧ True) = p := by simp
theorem T_and (p : Prop) : (True ∧ p) = p := by simp
theorem dec_T : decide True = true := spine rfl
theorem dec_F : decide False = false := spine rfl
theorem eqs {α : Type} (a : α) : (a = a) = True := by simp
theorem nn (n : Nat) : (0 ≤ (n : Int)) = True := by simp
theorem tn (n : Nat) : (n : Int).toNat = n := Int.toNat_natCast n
theorem lecast (m n : Nat) : ((m : Int) ≤ (n : Int)) = (m ≤ n) := by simp
theorem lerefl (n : Nat) : (n ≤ n) = True := by simp
theorem ltNx (i j : Nat) : ltI (i : Int) (j : Int) = decide (i < j) := ltN i j
theorem eqNx (i j : Nat) : eqI (i : Int) (j : Int) = decide (i = j) := eqNN i j
theorem brE_e (c : AV) (call : CallT) (n : Nat) (a b : ACode) (fr : List AV) (st : St) : brE c call n a b fr st = brT c (exeT call n a fr st) (exeT call n b fr st) := spine rfl
theorem lt01 : (0 < (1 : Nat)) = True := by simp
theorem lt03 : (0 < (3 : Nat)) = True := by simp
theorem lt13 : (1 < (3 : Nat)) = True := by simp
theorem lt23 : (2 < (3 : Nat)) = True := by simp
theorem il0 : (0 ≤ (0 : Int)) = True := by simp
theorem it0 : (0 : Int).toNat = 0 := spine rfl
theorem il1 : (0 ≤ (1 : Int)) = True := by simp
theorem it1 : (1 : Int).toNat = 1 := spine rfl
theorem il2 : (0 ≤ (2 : Int)) = True := by simp
theorem it2 : (2 : Int).toNat = 2 := spine rfl
theorem m41 : 4 * 1 = (4 : Nat) := spine rfl
theorem W_e (a : AV) : W a = AV.weak (AV.stripB a) := spine rfl
theorem m1_e {β : Type} (a : AV) (f : AV → Option β) : m1 a f = f a := spine rfl
theorem gm_some {β : Type} (c w : Bool) (a : AV) (f : AV → Option β) : gm (.bool c) w a f = f (gV (.bool c) w a) := by unfold gm; rw [gv_some, obind_some]
theorem gm_some2 {β : Type} (x : AV) (w b want : Bool) (a : AV) (f : AV → Option β) : gm (gV x w (.bool b)) want a f = f (gV (gV x w (.bool b)) want a) := by unfold gm; rw [gv_some2, obind_some]
theorem gm_none {β : Type} (w : Bool) (a : AV) (f : AV → Option β) : gm (.tuple []) w a f = f (.tuple []) := by unfold gm; rw [gv_none, obind_some]
theorem z_add (n : Nat) : 0 + n = n := Nat.zero_add n
theorem add_z (n : Nat) : n + 0 = n := spine rfl
theorem beqN (n : Nat) : (n == n) = true := by simp
end Go.Cb.R
namespace Go.Cb
open Go.Cb.R
theorem SS : type_of% (And.intro (And.intro (And.intro (And.intro (And.intro (And.intro (And.intro (And.intro (@exec_seqK) (@exec_blkK)) (And.intro (@exec_ret) (@exec_exit))) (And.intro (And.intro (@exec_skip) (@seqK_normal)) (And.intro (@seqK_exit) (And.intro (@seqK_ret) (@blkK_some))))) (And.intro (And.intro (And.intro (@blkOut_normal) (@blkOut_ret)) (And.intro (@blkOut_exit) (@seqC_x))) (And.intro (And.intro (@blkC_x) (@seqK_obindC)) (And.intro (@blkK_obindC) (And.intro (@exeT_x) (@seqT_x)))))) (And.intro (And.intro (And.intro (And.intro (@blkT_x) (@brT_true)) (And.intro (@brT_false) (@seqK_brT))) (And.intro (And.intro (@blkK_brT) (@exec_loopO)) (And.intro (@p1_some) (And.intro (@p2_some) (@obind_some))))) (And.intro (And.intro (And.intro (@gv_tt) (@gv_tf)) (And.intro (@gv_ff) (@gv_ft))) (And.intro (And.intro (@gv_none) (@gv2_tt)) (And.intro (@gv2_tf) (And.intro (@gv2_ff) (@gv2_ft))))))) (And.intro (And.intro (And.intro (And.intro (And.intro (@gv2_none) (@gV_tt)) (And.intro (@gV_ff) (@gV_tf))) (And.intro (And.intro (@gV_ft) (@gV_none)) (And.intro (@gv_some) (And.intro (@gv_some2) (@weak_gV))))) (And.intro (And.intro (And.intro (@strip_gV) (@stripB_gV)) (And.intro (@pick_t) (@pick_f))) (And.intro (And.intro (@pick_or) (@pick_and)) (And.intro (@weak_bool) (And.intro (@weak_int) (@weak_str)))))) (And.intro (And.intro (And.intro (And.intro (@weak_list) (@weak_ptr)) (And.intro (@weak_nilp) (@weak_ro))) (And.intro (And.intro (@weak_loc) (@weak_map)) (And.intro (@weak_nilm) (And.intro (@weak_func) (@weak_nilf))))) (And.intro (And.intro (And.intro (@weak_agg) (@weak_tuple)) (And.intro (@weak_undef) (And.intro (@weak_box) (@weak1_bool)))) (And.intro (And.intro (@weak1_int) (@weak1_str)) (And.intro (@weak1_list) (And.intro (@weak1_ptr) (@weak1_nilp)))))))) (And.intro (And.intro (And.intro (And.intro (And.intro (And.intro (@weak1_map) (@weak1_nilm)) (And.intro (@strip_bool) (@strip_int))) (And.intro (And.intro (@strip_str) (@strip_list)) (And.intro (@strip_ptr) (And.intro (@strip_nilp) (@strip_ro))))) (And.intro (And.intro (And.intro (@strip_loc) (@strip_map)) (And.intro (@strip_nilm) (@strip_func))) (And.intro (And.intro (@strip_nilf) (@strip_agg)) (And.intro (@strip_tuple) (And.intro (@strip_undef) (@stripB_bool)))))) (And.intro (And.intro (And.intro (And.intro (@stripB_int) (@stripB_str)) (And.intro (@stripB_list) (@stripB_ptr))) (And.intro (And.intro (@stripB_nilp) (@stripB_ro)) (And.intro (@stripB_loc) (And.intro (@stripB_map) (@stripB_nilm))))) (And.intro (And.intro (And.intro (@stripB_func) (@stripB_nilf)) (And.intro (@stripB_agg) (And.intro (@stripB_tuple) (@stripB_undef)))) (And.intro (And.intro (@mv_e) (@nilchk_ptr)) (And.intro (@nilchk_loc) (And.intro (@nilchk_ro) (@nilchk_func))))))) (And.intro (And.intro (And.intro (And.intro (And.intro (@alloc_e) (@boxV_e)) (And.intro (@allocO_e) (@boxO_e))) (And.intro (And.intro (@build_e) (@bslice_e)) (And.intro (@ldLc_e) (And.intro (@ldSt_e) (@ldRo_e))))) (And.intro (And.intro (And.intro (@ldLcS_e) (@ldStS_e)) (And.intro (@stLc_e) (@stSt_e))) (And.intro (And.intro (@fad_ptr) (@fad_loc)) (And.intro (@fad_ro) (And.intro (@fld_e) (@iad_e)))))) (And.intro (And.intro (And.intro (And.intro (@iadA_ro) (@iadA_ptr)) (And.intro (@iadA_loc) (@idxS_e))) (And.intro (And.intro (@slS_e) (@slL_e)) (And.intro (@slZ_e) (And.intro (@slA_e) (@bin_e))))) (And.intro (And.intro (And.intro (@binB_e) (@binP_e)) (And.intro (@bi_add) (And.intro (@bi_sub) (@bi_mul)))) (And.intro (And.intro (@bi_quo) (@bi_rem)) (And.intro (@bi_eql) (And.intro (@bi_neq) (@bi_lss))))))))) (And.intro (And.intro (And.intro (And.intro (And.intro (And.intro (And.intro (@bi_leq) (@bi_gtr)) (And.intro (@bi_geq) (@bs_add))) (And.intro (And.intro (@bs_eql) (@bs_neq)) (And.intro (@bs_lss) (And.intro (@bb_eql) (@bb_neq))))) (And.intro (And.intro (And.intro (@bp_eql1) (@bp_eql2)) (And.intro (@bp_eql3) (@bp_neq1))) (And.intro (And.intro (@bp_neq2) (@bp_neq3)) (And.intro (@un_not) (And.intro (@un_neg) (@conv_e)))))) (And.intro (And.intro (And.intro (And.intro (@mkF_e) (@mkM_e)) (And.intro (@ext_e) (@lenS_e))) (And.intro (And.intro (@lenL_e) (@app_e)) (And.intro (@takeVal_t) (And.intro (@takeVal_f) (@fillSegs_n))))) (And.intro (And.intro (And.intro (@fillSegs_c) (@fillRows_n)) (And.intro (@fillRows_c) (@setSeg_e))) (And.intro (And.intro (@bounds_ff) (@bounds_tf)) (And.intro (@bounds_ft) (And.intro (@bounds_tt) (@bound_e))))))) (And.intro (And.intro (And.intro (And.intro (And.intro (@rowsOk_n) (@rowsOk_c)) (And.intro (@locOf_e) (@plain_bool))) (And.intro (And.intro (@cells_bool) (@cellsW_bool)) (And.intro (@plain_int) (And.intro (@cells_int) (@cellsW_int))))) (And.intro (And.intro (And.intro (@plain_str) (@cells_str)) (And.intro (@cellsW_str) (@plain_list))) (And.intro (And.intro (@cells_list) (@plain_ptr)) (And.intro (@cells_ptr) (And.intro (@cellsW_ptr) (@plain_nilp)))))) (And.intro (And.intro (And.intro (And.intro (@cells_nilp) (@cellsW_nilp)) (And.intro (@plain_ro) (@cells_ro))) (And.intro (And.intro (@cellsW_ro) (@plain_map)) (And.intro (@cells_map) (And.intro (@cellsW_map) (@plain_nilm))))) (And.intro (And.intro (And.intro (@cells_nilm) (@cellsW_nilm)) (And.intro (@plain_func) (And.intro (@cells_func) (@cellsW_func)))) (And.intro (And.intro (@plain_nilf) (@cells_nilf)) (And.intro (@cellsW_nilf) (And.intro (@plain_agg) (@cells_agg)))))))) (And.intro (And.intro (And.intro (And.intro (And.intro (And.intro (@cellsW_agg) (@cellsW_list)) (And.intro (@allPlain_n) (@allPlain_c))) (And.intro (And.intro (@map_n) (@map_c)) (And.intro (@drop_0) (And.intro (@drop_s) (@drop_n))))) (And.intro (And.intro (And.intro (@take_0) (@take_s)) (And.intro (@take_n) (@len_n))) (And.intro (And.intro (@len_c) (@app_c)) (And.intro (@app_n) (And.intro (@app_nil) (@get_0)))))) (And.intro (And.intro (And.intro (And.intro (@get_s) (@set_0)) (And.intro (@set_s) (@rep_0))) (And.intro (And.intro (@rep_s) (@omap_s)) (And.intro (@omap_n) (And.intro (@isE_n) (@isE_c))))) (And.intro (And.intro (And.intro (@ite_t) (@ite_f)) (And.intro (@itb_t) (And.intro (@itb_f) (@t_eq_f)))) (And.intro (And.intro (@f_eq_t) (@not_t)) (And.intro (@not_f) (And.intro (@t_and) (@and_t))))))) (And.intro (And.intro (And.intro (And.intro (And.intro (@f_and) (@and_f)) (And.intro (@t_or) (@or_t))) (And.intro (And.intro (@f_or) (@or_f)) (And.intro (@and_T) (And.intro (@T_and) (@dec_T))))) (And.intro (And.intro (And.intro (@dec_F) (@eqs)) (And.intro (@nn) (@tn))) (And.intro (And.intro (@lecast) (@lerefl)) (And.intro (@ltNx) (And.intro (@eqNx) (@brE_e)))))) (And.intro (And.intro (And.intro (And.intro (@lt01) (@lt03)) (And.intro (@lt13) (@lt23))) (And.intro (And.intro (@il0) (@it0)) (And.intro (@il1) (And.intro (@it1) (@il2))))) (And.intro (And.intro (And.intro (@it2) (@m41)) (And.intro (@W_e) (And.intro (@m1_e) (@gm_some)))) (And.intro (And.intro (@gm_some2) (@gm_none)) (And.intro (@z_add) (And.intro (@add_z) (@beqN)))))))))) := And.intro (And.intro (And.intro (And.intro (And.intro (And.intro (And.intro (And.intro (@exec_seqK) (@exec_blkK)) (And.intro (@exec_ret) (@exec_exit))) (And.intro (And.intro (@exec_skip) (@seqK_normal)) (And.intro (@seqK_exit) (And.intro (@seqK_ret) (@blkK_some))))) (And.intro (And.intro (And.intro (@blkOut_normal) (@blkOut_ret)) (And.intro (@blkOut_exit) (@seqC_x))) (And.intro (And.intro (@blkC_x) (@seqK_obindC)) (And.intro (@blkK_obindC) (And.intro (@exeT_x) (@seqT_x)))))) (And.intro (And.intro (And.intro (And.intro (@blkT_x) (@brT_true)) (And.intro (@brT_false) (@seqK_brT))) (And.intro (And.intro (@blkK_brT) (@exec_loopO)) (And.intro (@p1_some) (And.intro (@p2_some) (@obind_some))))) (And.intro (And.intro (And.intro (@gv_tt) (@gv_tf)) (And.intro (@gv_ff) (@gv_ft))) (And.intro (And.intro (@gv_none) (@gv2_tt)) (And.intro (@gv2_tf) (And.intro (@gv2_ff) (@gv2_ft))))))) (And.intro (And.intro (And.intro (And.intro (And.intro (@gv2_none) (@gV_tt)) (And.intro (@gV_ff) (@gV_tf))) (And.intro (And.intro (@gV_ft) (@gV_none)) (And.intro (@gv_some) (And.intro (@gv_some2) (@weak_gV))))) (And.intro (And.intro (And.intro (@strip_gV) (@stripB_gV)) (And.intro (@pick_t) (@pick_f))) (And.intro (And.intro (@pick_or) (@pick_and)) (And.intro (@weak_bool) (And.intro (@weak_int) (@weak_str)))))) (And.intro (And.intro (And.intro (And.intro (@weak_list) (@weak_ptr)) (And.intro (@weak_nilp) (@weak_ro))) (And.intro (And.intro (@weak_loc) (@weak_map)) (And.intro (@weak_nilm) (And.intro (@weak_func) (@weak_nilf))))) (And.intro (And.intro (And.intro (@weak_agg) (@weak_tuple)) (And.intro (@weak_undef) (And.intro (@weak_box) (@weak1_bool)))) (And.intro (And.intro (@weak1_int) (@weak1_str)) (And.intro (@weak1_list) (And.intro (@weak1_ptr) (@weak1_nilp)))))))) (And.intro (And.intro (And.intro (And.intro (And.intro (And.intro (@weak1_map) (@weak1_nilm)) (And.intro (@strip_bool) (@strip_int))) (And.intro (And.intro (@strip_str) (@strip_list)) (And.intro (@strip_ptr) (And.intro (@strip_nilp) (@strip_ro))))) (And.intro (And.intro (And.intro (@strip_loc) (@strip_map)) (And.intro (@strip_nilm) (@strip_func))) (And.intro (And.intro (@strip_nilf) (@strip_agg)) (And.intro (@strip_tuple) (And.intro (@strip_undef) (@stripB_bool)))))) (And.intro (And.intro (And.intro (And.intro (@stripB_int) (@stripB_str)) (And.intro (@stripB_list) (@stripB_ptr))) (And.intro (And.intro (@stripB_nilp) (@stripB_ro)) (And.intro (@stripB_loc) (And.intro (@stripB_map) (@stripB_nilm))))) (And.intro (And.intro (And.intro (@stripB_func) (@stripB_nilf)) (And.intro (@stripB_agg) (And.intro (@stripB_tuple) (@stripB_undef)))) (And.intro (And.intro (@mv_e) (@nilchk_ptr)) (And.intro (@nilchk_loc) (And.intro (@nilchk_ro) (@nilchk_func))))))) (And.intro (And.intro (And.intro (And.intro (And.intro (@alloc_e) (@boxV_e)) (And.intro (@allocO_e) (@boxO_e))) (And.intro (And.intro (@build_e) (@bslice_e)) (And.intro (@ldLc_e) (And.intro (@ldSt_e) (@ldRo_e))))) (And.intro (And.intro (And.intro (@ldLcS_e) (@ldStS_e)) (And.intro (@stLc_e) (@stSt_e))) (And.intro (And.intro (@fad_ptr) (@fad_loc)) (And.intro (@fad_ro) (And.intro (@fld_e) (@iad_e)))))) (And.intro (And.intro (And.intro (And.intro (@iadA_ro) (@iadA_ptr)) (And.intro (@iadA_loc) (@idxS_e))) (And.intro (And.intro (@slS_e) (@slL_e)) (And.intro (@slZ_e) (And.intro (@slA_e) (@bin_e))))) (And.intro (And.intro (And.intro (@binB_e) (@binP_e)) (And.intro (@bi_add) (And.intro (@bi_sub) (@bi_mul)))) (And.intro (And.intro (@bi_quo) (@bi_rem)) (And.intro (@bi_eql) (And.intro (@bi_neq) (@bi_lss))))))))) (And.intro (And.intro (And.intro (And.intro (And.intro (And.intro (And.intro (@bi_leq) (@bi_gtr)) (And.intro (@bi_geq) (@bs_add))) (And.intro (And.intro (@bs_eql) (@bs_neq)) (And.intro (@bs_lss) (And.intro (@bb_eql) (@bb_neq))))) (And.intro (And.intro (And.intro (@bp_eql1) (@bp_eql2)) (And.intro (@bp_eql3) (@bp_neq1))) (And.intro (And.intro (@bp_neq2) (@bp_neq3)) (And.intro (@un_not) (And.intro (@un_neg) (@conv_e)))))) (And.intro (And.intro (And.intro (And.intro (@mkF_e) (@mkM_e)) (And.intro (@ext_e) (@lenS_e))) (And.intro (And.intro (@lenL_e) (@app_e)) (And.intro (@takeVal_t) (And.intro (@takeVal_f) (@fillSegs_n))))) (And.intro (And.intro (And.intro (@fillSegs_c) (@fillRows_n)) (And.intro (@fillRows_c) (@setSeg_e))) (And.intro (And.intro (@bounds_ff) (@bounds_tf)) (And.intro (@bounds_ft) (And.intro (@bounds_tt) (@bound_e))))))) (And.intro (And.intro (And.intro (And.intro (And.intro (@rowsOk_n) (@rowsOk_c)) (And.intro (@locOf_e) (@plain_bool))) (And.intro (And.intro (@cells_bool) (@cellsW_bool)) (And.intro (@plain_int) (And.intro (@cells_int) (@cellsW_int))))) (And.intro (And.intro (And.intro (@plain_str) (@cells_str)) (And.intro (@cellsW_str) (@plain_list))) (And.intro (And.intro (@cells_list) (@plain_ptr)) (And.intro (@cells_ptr) (And.intro (@cellsW_ptr) (@plain_nilp)))))) (And.intro (And.intro (And.intro (And.intro (@cells_nilp) (@cellsW_nilp)) (And.intro (@plain_ro) (@cells_ro))) (And.intro (And.intro (@cellsW_ro) (@plain_map)) (And.intro (@cells_map) (And.intro (@cellsW_map) (@plain_nilm))))) (And.intro (And.intro (And.intro (@cells_nilm) (@cellsW_nilm)) (And.intro (@plain_func) (And.intro (@cells_func) (@cellsW_func)))) (And.intro (And.intro (@plain_nilf) (@cells_nilf)) (And.intro (@cellsW_nilf) (And.intro (@plain_agg) (@cells_agg)))))))) (And.intro (And.intro (And.intro (And.intro (And.intro (And.intro (@cellsW_agg) (@cellsW_list)) (And.intro (@allPlain_n) (@allPlain_c))) (And.intro (And.intro (@map_n) (@map_c)) (And.intro (@drop_0) (And.intro (@drop_s) (@drop_n))))) (And.intro (And.intro (And.intro (@take_0) (@take_s)) (And.intro (@take_n) (@len_n))) (And.intro (And.intro (@len_c) (@app_c)) (And.intro (@app_n) (And.intro (@app_nil) (@get_0)))))) (And.intro (And.intro (And.intro (And.intro (@get_s) (@set_0)) (And.intro (@set_s) (@rep_0))) (And.intro (And.intro (@rep_s) (@omap_s)) (And.intro (@omap_n) (And.intro (@isE_n) (@isE_c))))) (And.intro (And.intro (And.intro (@ite_t) (@ite_f)) (And.intro (@itb_t) (And.intro (@itb_f) (@t_eq_f)))) (And.intro (And.intro (@f_eq_t) (@not_t)) (And.intro (@not_f) (And.intro (@t_and) (@and_t))))))) (And.intro (And.intro (And.intro (And.intro (And.intro (@f_and) (@and_f)) (And.intro (@t_or) (@or_t))) (And.intro (And.intro (@f_or) (@or_f)) (And.intro (@and_T) (And.intro (@T_and) (@dec_T))))) (And.intro (And.intro (And.intro (@dec_F) (@eqs)) (And.intro (@nn) (@tn))) (And.intro (And.intro (@lecast) (@lerefl)) (And.intro (@ltNx) (And.intro (@eqNx) (@brE_e)))))) (And.intro (And.intro (And.intro (And.intro (@lt01) (@lt03)) (And.intro (@lt13) (@lt23))) (And.intro (And.intro (@il0) (@it0)) (And.intro (@il1) (And.intro (@it1) (@il2))))) (And.intro (And.intro (And.intro (@it2) (@m41)) (And.intro (@W_e) (And.intro (@m1_e) (@gm_some)))) (And.intro (And.intro (@gm_some2) (@gm_none)) (And.intro (@z_add) (And.intro (@add_z) (@beqN)))))))))
end Go.Cb
