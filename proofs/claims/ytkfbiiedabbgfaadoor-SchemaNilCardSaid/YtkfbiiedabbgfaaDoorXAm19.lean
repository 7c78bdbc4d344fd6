/-
  THE ABSTRACT MACHINE, part 19: what passes the test is matched, on.
-/
import Derived.Test.YtkfbiiedabbgfaaDoorXAm18
set_option maxRecDepth 4000
namespace Go.Cb
open Classical

section
variable {c : Cx} {o : Oper} {p : AOper}

theorem op_un {op : UnOp} (hk : p.kind = .un op) (h : ckUn c o p op = true) : OpK c o p := by
  unfold ckUn at h; split at h
  · rename_i op' t x ho
    simp only [Bool.and_eq_true, decide_eq_true_eq] at h
    obtain ⟨rfl, h⟩ := h
    exact pureK_of h fun hS hr hs => by rw [hk] at hs; exact sim_un (call := nc) ho hr hs
  · cases h
theorem op_bin {op : BinOp} (hk : p.kind = .bin op) (h : ckBin c o p op = true) : OpK c o p := by
  unfold ckBin at h; split at h
  · rename_i op' t x y yt ho
    simp only [Bool.and_eq_true, decide_eq_true_eq] at h
    obtain ⟨rfl, h⟩ := h
    exact pureK_of h fun hS hr hs => by rw [hk] at hs; exact sim_bin (call := nc) ho hr hs
  · cases h
theorem op_binB {op : BinOp} (hk : p.kind = .binB op) (h : ckBinB c o p op = true) : OpK c o p := by
  unfold ckBinB at h; split at h
  · rename_i op' t x y yt ho
    simp only [Bool.and_eq_true, decide_eq_true_eq] at h
    obtain ⟨⟨rfl, hu0⟩, h⟩ := h
    split at hu0
    · rename_i hu; exact pureK_of h fun hS hr hs => by rw [hk] at hs; exact sim_binB (call := nc) ho hu hr hs
    · cases hu0
  · cases h
theorem op_binP {op : BinOp} (hk : p.kind = .binP op) (h : ckBinP c o p op = true) : OpK c o p := by
  unfold ckBinP at h; split at h
  · rename_i op' t x y yt ho
    simp only [Bool.and_eq_true, decide_eq_true_eq] at h
    obtain ⟨⟨rfl, hu0⟩, h⟩ := h
    split at hu0
    · rename_i e hu; exact pureK_of h fun hS hr hs => by rw [hk] at hs; exact sim_binP (call := nc) ho hu hr hs
    · cases hu0
  · cases h
theorem op_conv {k : IntKind} (hk : p.kind = .conv k) (h : ckConv c o p k = true) : OpK c o p := by
  unfold ckConv at h; split at h
  · rename_i t u x ho
    simp only [Bool.and_eq_true] at h
    obtain ⟨hu, h⟩ := h
    split at hu
    · rename_i h1 h2
      simp only [decide_eq_true_eq] at hu
      subst hu
      exact pureK_of h fun hS hr hs => by rw [hk] at hs; exact sim_conv (call := nc) ho h1 h2 hr hs
    · cases hu
  · cases h
theorem op_ext {i : Nat} (hk : p.kind = .ext i) (h : ckExt c o p i = true) : OpK c o p := by
  unfold ckExt at h; split at h
  · rename_i x j ho
    simp only [Bool.and_eq_true, beq_iff_eq] at h
    obtain ⟨rfl, h⟩ := h
    exact pureK_of h fun hS hr hs => by rw [hk] at hs; exact sim_ext (call := nc) ho hr hs
  · cases h
theorem op_ldSt {ag : Bool} {n : Nat} (hk : p.kind = .ldSt ag n) (h : ckLdSt c o p ag n = true) : OpK c o p := by
  unfold ckLdSt at h; split at h
  · rename_i t x ho
    simp only [Bool.and_eq_true, beq_iff_eq] at h
    obtain ⟨⟨h1, h2⟩, h⟩ := h
    exact pureK_of h fun hS hr hs => by rw [hk] at hs; exact sim_ldSt (call := nc) hS.st ho h1 h2 hr hs
  · cases h
theorem op_ldRo {ag : Bool} {n : Nat} (hk : p.kind = .ldRo ag n) (h : ckLdSt c o p ag n = true) : OpK c o p := by
  unfold ckLdSt at h; split at h
  · rename_i t x ho
    simp only [Bool.and_eq_true, beq_iff_eq] at h
    obtain ⟨⟨h1, h2⟩, h⟩ := h
    exact pureK_of h fun hS hr hs => by rw [hk] at hs; exact sim_ldRo (call := nc) ho h1 h2 hr hs
  · cases h
theorem op_ldLc {i : Nat} {ag : Bool} {n : Nat} (hk : p.kind = .ldLc i ag n) (h : ckLdLc c o p i ag n = true) : OpK c o p := by
  unfold ckLdLc at h; split at h
  · rename_i t x j ho hb
    simp only [Bool.and_eq_true, beq_iff_eq, decide_eq_true_eq] at h
    obtain ⟨⟨⟨⟨⟨rfl, h0⟩, h1⟩, h2⟩, h3⟩, h4⟩ := h
    refine PureK.op (fun hS hs => ?_) (fun σ => spendAll_none h3) h4
    rw [hk] at hs
    simp only [boxOf, hb] at hs ⊢
    exact sim_ldLc (call := nc) hS.fr (List.getElem?_eq_getElem h0) ho h1 h2 (reads_ok hS h3) hs
  · cases h
theorem op_fad {off : Nat} (hk : p.kind = .fad off) (h : ckFad c o p off = true) : OpK c o p := by
  unfold ckFad at h; split at h
  · rename_i s x f ho
    simp only [Bool.and_eq_true] at h
    obtain ⟨h1, h⟩ := h
    split at h1
    · rename_i fl hf
      simp only [Bool.and_eq_true, beq_iff_eq] at h1
      obtain ⟨h1, h2⟩ := h1
      split at h1
      · rename_i n hn
        exact pureK_of h fun hS hr hs => by rw [hk] at hs; exact sim_fad (call := nc) ho hf hn (by simpa using h1) h2 hr hs
      · cases h1
    · cases h1
  · cases h
theorem op_fld {off n : Nat} {ag : Bool} (hk : p.kind = .fld off n ag) (h : ckFld c o p off n ag = true) : OpK c o p := by
  unfold ckFld at h; split at h
  · rename_i s x f ho
    simp only [Bool.and_eq_true] at h
    obtain ⟨h1, h⟩ := h
    split at h1
    · rename_i fl hf
      simp only [Bool.and_eq_true, beq_iff_eq] at h1
      obtain ⟨⟨h1, h2⟩, h3⟩ := h1
      exact pureK_of h fun hS hr hs => by rw [hk] at hs; exact sim_fld (call := nc) ho hf h1 h2 h3 hr hs
    · cases h1
  · cases h
theorem op_iad {sz : Nat} (hk : p.kind = .iad sz) (h : ckIad c o p sz = true) : OpK c o p := by
  unfold ckIad at h; split at h
  · rename_i t x i ho
    simp only [Bool.and_eq_true] at h
    obtain ⟨h1, h⟩ := h
    split at h1
    · rename_i e hu
      simp only [beq_iff_eq] at h1
      exact pureK_of h fun hS hr hs => by rw [hk] at hs; exact sim_iad (call := nc) ho hu h1 hr hs
    · cases h1
  · cases h
theorem op_iadA {len sz : Nat} (hk : p.kind = .iadA len sz) (h : ckIadA c o p len sz = true) : OpK c o p := by
  unfold ckIadA at h; split at h
  · rename_i t x i ho
    simp only [Bool.and_eq_true] at h
    obtain ⟨h1, h⟩ := h
    split at h1
    · rename_i n e hu
      simp only [Bool.and_eq_true, beq_iff_eq] at h1
      obtain ⟨rfl, h1⟩ := h1
      exact pureK_of h fun hS hr hs => by rw [hk] at hs; exact sim_iadA (call := nc) ho hu h1 hr hs
    · cases h1
  · cases h
theorem op_idxS (hk : p.kind = .idxS) (h : ckIdxS c o p = true) : OpK c o p := by
  unfold ckIdxS at h; split at h
  · rename_i t x i ho
    simp only [Bool.and_eq_true] at h
    obtain ⟨h1, h⟩ := h
    split at h1
    · rename_i hu
      exact pureK_of h fun hS hr hs => by rw [hk] at hs; exact sim_idxS (call := nc) ho hu hr hs
    · cases h1
  · cases h
theorem opt_args {a : Act} {x : Operand} {l h : Option Operand} : (x :: (l.toList ++ h.toList)).map a.eval = a.eval x :: ((l.map a.eval).toList ++ (h.map a.eval).toList) := by
  cases l <;> cases h <;> rfl
theorem op_slS {lo hi : Bool} (hk : p.kind = .slS lo hi) (h : ckSlS c o p lo hi = true) : OpK c o p := by
  unfold ckSlS at h; split at h
  · rename_i t x l h' ho
    simp only [Bool.and_eq_true, beq_iff_eq] at h
    obtain ⟨⟨⟨h1, rfl⟩, rfl⟩, h⟩ := h
    split at h1
    · rename_i hu
      exact pureK_of h fun hS hr hs => by rw [hk] at hs; rw [opt_args] at hr; exact sim_slS (call := nc) ho hu hr hs
    · cases h1
  · cases h
theorem op_slL {sz : Nat} {lo hi : Bool} (hk : p.kind = .slL sz lo hi) (h : ckSlL c o p sz lo hi = true) : OpK c o p := by
  unfold ckSlL at h; split at h
  · rename_i t x l h' ho
    simp only [Bool.and_eq_true, beq_iff_eq] at h
    obtain ⟨⟨⟨h1, rfl⟩, rfl⟩, h⟩ := h
    split at h1
    · rename_i e hu
      simp only [beq_iff_eq] at h1
      exact pureK_of h fun hS hr hs => by rw [hk] at hs; rw [opt_args] at hr; exact sim_slL (call := nc) ho hu h1 hr hs
    · cases h1
  · cases h
theorem op_slZ (hk : p.kind = .slZ) (h : ckSlZ c o p = true) : OpK c o p := by
  unfold ckSlZ at h; split at h
  · rename_i t x k m k' n ho
    simp only [Bool.and_eq_true, decide_eq_true_eq] at h
    obtain ⟨⟨⟨rfl, rfl⟩, h1⟩, h⟩ := h
    split at h1
    · rename_i e hu
      exact pureK_of h fun hS hr hs => by rw [hk] at hs; exact sim_slZ (call := nc) ho hu h1 hr hs
    · cases h1
  · cases h
theorem op_slA {len sz : Nat} {lo hi : Bool} (hk : p.kind = .slA len sz lo hi) (h : ckSlA c o p len sz lo hi = true) : OpK c o p := by
  unfold ckSlA at h; split at h
  · rename_i t x l h' ho
    simp only [Bool.and_eq_true, beq_iff_eq] at h
    obtain ⟨⟨⟨h1, rfl⟩, rfl⟩, h⟩ := h
    split at h1
    · rename_i n e hu
      simp only [Bool.and_eq_true, beq_iff_eq] at h1
      obtain ⟨rfl, h1⟩ := h1
      exact pureK_of h fun hS hr hs => by rw [hk] at hs; rw [opt_args] at hr; exact sim_slA (call := nc) ho hu h1 hr hs
    · cases h1
  · cases h
theorem op_mkF {f n : Nat} (hk : p.kind = .mkF f n) (h : ckMkF c o p f n = true) : OpK c o p := by
  unfold ckMkF at h; split at h
  · rename_i f' first caps ho
    simp only [Bool.and_eq_true, beq_iff_eq] at h
    obtain ⟨⟨rfl, h1⟩, h⟩ := h
    exact pureK_of h fun hS hr hs => by rw [hk] at hs; exact sim_mkF (call := nc) ho h1 hr hs
  · cases h
theorem op_mget {kc : Nat} {zero : List AV} {ag ok : Bool} (hk : p.kind = .mget kc zero ag ok) (h : ckMget c o p kc zero ag ok = true) : OpK c o p := by
  unfold ckMget at h; split at h
  · rename_i t m k ok' ho
    simp only [Bool.and_eq_true, beq_iff_eq] at h
    obtain ⟨⟨rfl, h1⟩, h⟩ := h
    split at h1
    · rename_i kt et hu
      simp only [Bool.and_eq_true, beq_iff_eq] at h1
      obtain ⟨⟨⟨h1, h2⟩, h3⟩, h4⟩ := h1
      exact pureK_of h fun hS hr hs => by rw [hk] at hs; exact sim_mget (call := nc) hS.st ho hu h1 h2 h3 h4 hr hs
    · cases h1
  · cases h
theorem op_lenS (hk : p.kind = .lenS) (h : ckLenS c o p = true) : OpK c o p := by
  unfold ckLenS at h; split at h
  · rename_i x t ts ho
    simp only [Bool.and_eq_true] at h
    obtain ⟨h1, h⟩ := h
    split at h1
    · rename_i hu
      exact pureK_of h fun hS hr hs => by rw [hk] at hs; exact sim_lenS (call := nc) ho (by simp) hu hr hs
    · cases h1
  · cases h
theorem op_lenL (hk : p.kind = .lenL) (h : ckLenL c o p = true) : OpK c o p := by
  unfold ckLenL at h; split at h
  · rename_i x t ts ho
    simp only [Bool.and_eq_true] at h
    obtain ⟨h1, h⟩ := h
    split at h1
    · rename_i e hu
      exact pureK_of h fun hS hr hs => by rw [hk] at hs; exact sim_lenL (call := nc) ho (by simp) hu hr hs
    · cases h1
  · cases h
theorem offsOK_spec : ∀ {places : List (Nat × Nat)} {is : List Nat} {qs : List (Nat × Nat)}, offsOK places is qs = true → is.map (fun i => places[i]?) = qs.map some
  | _, [], [], _ => rfl
  | places, i :: is, q :: qs, h => by
    simp only [offsOK, Bool.and_eq_true, beq_iff_eq] at h
    simp only [List.map_cons, h.1, offsOK_spec h.2]
theorem op_build {zero : List AV} {offs : List (Nat × Nat)} (hk : p.kind = .build zero offs) (h : ckBuild c o p zero offs = true) : OpK c o p := by
  unfold ckBuild at h; split at h
  · rename_i t parts ho
    simp only [Bool.and_eq_true] at h
    obtain ⟨⟨h1, h2⟩, h⟩ := h
    split at h1
    · rename_i places hpl
      obtain ⟨z, hz, hzz⟩ := zeroOK_spec h2
      refine pureK_of h fun {g w pr bx σ a call r b' b st'} hS hr hs => ?_
      rw [hk] at hs
      rw [List.map_map] at hr
      exact sim_build (call := nc) ho hpl hz hzz (offsOK_spec h1) hr hs
    · cases h1
  · cases h
end
end Go.Cb
