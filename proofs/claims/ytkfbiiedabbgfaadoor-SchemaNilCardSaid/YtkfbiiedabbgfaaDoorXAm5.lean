/-
  THE ABSTRACT MACHINE, part 5: operands read alike; the operations that only reckon.
-/
import Derived.Test.YtkfbiiedabbgfaaDoorXAm4
namespace Go.Cb

def Globs (gt : List (Nat × List AV)) (g : Gh) (w : World) : Prop := ∀ e ∈ gt, RelCells g w e.1 0 e.2

theorem Globs.ext {gt : List (Nat × List AV)} {g g' : Gh} {w w' : World} (h : Globs gt g w) (he : Ext g w g' w') : Globs gt g' w' :=
  fun e hm => RelCells.ext he _ _ _ (h e hm)

structure S (c : Cx) (g : Gh) (w : World) (pr : Nat → Option Pl) (bx : Nat → Nat) (σ : Sig) (a : Act) : Prop where
  fr : FR c.A g w pr bx c.slots c.bxs c.nt σ.fr σ.τ a.tmps
  st : SRel g w σ.st
  gl : Globs c.gt g w
  fresh : ∀ b, w.heap.size ≤ b → c.A b
  stA : ∀ b p, g.sr b = some p → c.A b

def ArgOK (g : Gh) (w : World) (bx : Nat → Nat) (fr : List AV) (mine : Nat → Prop) (a : AV) (v : Value) : Prop :=
  match a with
  | .loc j off => (∃ cs, fr.getD j .undef = .box cs) ∧ v = .pointer (some (ad (bx j) off))
  | .box _ => True
  | a => ValOK g w mine a v

abbrev No : Nat → Prop := fun _ => False

theorem strsEq_eq : ∀ {x y : List AV}, strsEq x y = true → x = y
  | [], [], _ => rfl
  | .str a :: x, .str b :: y, h => by
    simp only [strsEq, Bool.and_eq_true, beq_iff_eq] at h
    rw [h.1, strsEq_eq h.2]

theorem ValOK.mk' {g : Gh} {w : World} {mine : Nat → Prop} {a : AV} {v : Value} (h : Rel g w a v) (h1 : ∀ xs, a ≠ .list true xs) (h2 : ∀ cs, a ≠ .agg cs) : ValOK g w mine a v :=
  ⟨h, fun xs e => absurd e (h1 xs), fun cs e => absurd e (h2 cs)⟩

theorem constOK_val {v : Value} {a : AV} (h : constOK v a = true) (g : Gh) (w : World) : ValOK g w No a v := by
  unfold constOK at h
  split at h
  · simp only [beq_iff_eq] at h
    subst h
    exact ValOK.mk' (by simp [Rel]) (by simp) (by simp)
  · simp only [Bool.and_eq_true, decide_eq_true_eq] at h
    obtain ⟨rfl, rfl⟩ := h
    exact ValOK.mk' (by simp [Rel]) (by simp) (by simp)
  · simp only [beq_iff_eq] at h
    exact ValOK.mk' (by simp only [Rel]; exact ⟨_, rfl, h⟩) (by simp) (by simp)
  · exact ⟨by simp only [Rel]; exact ⟨none, 0, 0, rfl, rfl, Nat.le_refl _, fun _ => rfl, fun h => absurd rfl h⟩, fun _ _ => .inl ⟨_, _, rfl⟩, fun _ e => (by cases e)⟩
  · exact ValOK.mk' (by simp [Rel]) (by simp) (by simp)
  · exact ValOK.mk' (by simp [Rel]) (by simp) (by simp)
  · exact ValOK.mk' (by simp [Rel]) (by simp) (by simp)
  · exact ValOK.mk' (by simp [Rel]) (by simp) (by simp)
  · cases h

theorem constOK_one {v : Value} {a : AV} (h : constOK v a = true) : v.oneCell' = true := by
  unfold constOK at h
  split at h <;> first | rfl | cases h

theorem constsOK_rel : ∀ {vs : List Value} {as : List AV}, constsOK vs as = true → ∀ (g : Gh) (w : World), RelL g w as vs ∧ (∀ v ∈ vs, v.oneCell' = true) ∧
    ∀ (k : Nat) (a : AV) (v : Value), as[k]? = some a → vs[k]? = some v → OwnN a v
  | [], [], _, g, w => by simp [RelL]
  | v :: vs, a :: as, h, g, w => by
    simp only [constsOK, Bool.and_eq_true] at h
    obtain ⟨h1, h2⟩ := h
    obtain ⟨r1, r2, r3⟩ := constsOK_rel h2 g w
    have hv := constOK_val h1 g w
    refine ⟨by simp only [RelL]; exact ⟨v, vs, rfl, hv.rel, r1⟩, ?_, ?_⟩
    · intro u hu
      rcases List.mem_cons.1 hu with rfl | hu
      · exact constOK_one h1
      · exact r2 u hu
    · intro k b u hb hu
      cases k with
      | zero =>
        simp at hb hu
        subst hb; subst hu
        intro xs e
        rcases hv.own xs e with h | ⟨_, _, _, _, _, _, _, h, _⟩
        · exact h
        · exact h.elim
      | succ k => exact r3 k b u (by simpa using hb) (by simpa using hu)

section
variable {c : Cx} {g : Gh} {w : World} {pr : Nat → Option Pl} {bx : Nat → Nat} {σ : Sig} {a : Act}

theorem contains_not {l : List Nat} {s : Nat} (h : (!l.contains s) = true) : s ∉ l := by simpa using h

theorem VarOK.arg {i : Nat} {b : AV} {v : Value} (h : VarOK g w pr bx i b v) : ArgOK g w bx σ.fr No b.weak v := by
  cases b <;> first | exact ValOK.of_weak (ValOK.rel h) | exact h.elim | trivial
theorem TmpOK.arg {s : Nat} {b : AV} {v : Value} (h : TmpOK g w pr bx σ.fr s b v) : ArgOK g w bx σ.fr No b.weak v := by
  cases b <;> first | exact ValOK.of_weak (ValOK.rel h) | exact h | trivial

/-- an operand that is not spent -/
theorem read_ok (h : S c g w pr bx σ a) {x : Operand} {p : Opd} (hp : opdN c x p = true) : ArgOK g w bx σ.fr No (p.read σ) (a.eval x) := by
  simp only [opdN, Bool.and_eq_true] at hp
  obtain ⟨hp, hs⟩ := hp
  unfold opdOK at hp
  split at hp
  · simp only [Bool.and_eq_true, beq_iff_eq] at hp
    obtain ⟨rfl, hn⟩ := hp
    exact (h.fr.tmp _ (contains_not hn)).arg
  · simp [Opd.steals] at hs
  · exact (h.fr.var _ _ (by simpa using hp)).arg
  · simp [Opd.steals] at hs
  · rename_i s i
    have hv := h.fr.var i s (by simpa using hp)
    simp only [Opd.read, Act.eval]
    cases hb : σ.fr.getD i .undef <;> rw [hb] at hv <;> first
      | exact ⟨⟨_, hb⟩, hv.1⟩
      | exact ValOK.mk' (by simp [Rel]) (by simp) (by simp)
  · rename_i v b
    have hv := constOK_val hp g w
    simp only [Opd.read, Act.eval]
    cases b <;> first | exact hv | (unfold constOK at hp; split at hp <;> simp_all)
  · simp only [beq_iff_eq] at hp
    subst hp
    exact (show ValOK g w No (.func _ [] []) _ from ValOK.mk' (by simp [Act.eval, Rel, RelL]) (by simp) (by simp))
  · rename_i gi cs
    simp only [List.any_eq_true, Bool.and_eq_true, beq_iff_eq] at hp
    obtain ⟨e, he, h1, h2⟩ := hp
    have := h.gl e he
    rw [h1, strsEq_eq h2] at this
    exact (show ValOK g w No (.ro cs) _ from ValOK.mk' (by simp only [Act.eval, Rel]; exact ⟨gi, 0, rfl, this⟩) (by simp) (by simp))
  · cases hp

inductive ArgsOK (g : Gh) (w : World) (bx : Nat → Nat) (fr : List AV) : List AV → List Value → Prop where
  | nil : ArgsOK g w bx fr [] []
  | cons {a : AV} {v : Value} {as : List AV} {vs : List Value} (h : ArgOK g w bx fr No a v) (t : ArgsOK g w bx fr as vs) : ArgsOK g w bx fr (a :: as) (v :: vs)

theorem reads_ok (h : S c g w pr bx σ a) : ∀ {xs : List Operand} {ps : List Opd}, opdsN c xs ps = true → ArgsOK g w bx σ.fr (ps.map (·.read σ)) (xs.map a.eval)
  | [], [], _ => .nil
  | x :: xs, p :: ps, hp => by
    simp only [opdsN, Bool.and_eq_true] at hp
    exact .cons (read_ok h hp.1) (reads_ok h hp.2)

theorem spendAll_none : ∀ {xs : List Operand} {ps : List Opd}, opdsN c xs ps = true → spendAll ps σ = σ
  | [], [], _ => rfl
  | x :: xs, p :: ps, hp => by
    simp only [opdsN, opdN, Bool.and_eq_true] at hp
    simp only [spendAll]
    have : p.spend σ = σ := by
      have := hp.1.2
      cases p <;> simp_all [Opd.steals, Opd.spend]
    rw [this]
    exact spendAll_none hp.2

/-- what comes next: whatever stands for the new state will do -/
def Post (c : Cx) (g : Gh) (w : World) (a : Act) (σ' : Sig) (next : Act → World → Prop) : Prop :=
  ∀ a' w' g' pr' bx', a'.defers = a.defers → S c g' w' pr' bx' σ' a' → Tr c.A g w g' w' → next a' w'

/-- facts on the frame that do not change -/
structure Fx (c : Cx) : Prop where
  nd : c.slots.Nodup
  lt : ∀ s ∈ c.slots, s < c.nt

theorem defers_put (a : Act) (d : Option Tmp) (v : Value) : (a.put d v).defers = a.defers := by cases d <;> rfl

theorem ValOK.undef {mine : Nat → Prop} {v : Value} : ValOK g w mine .undef v := ValOK.mk' (by simp [Rel]) (by simp) (by simp)
theorem ArgOK.tmp {mine : Nat → Prop} {s : Nat} {b : AV} {v : Value} (h : ArgOK g w bx σ.fr mine b v) (hm : ∀ b, mine b → pr b = some (.tmp s)) : TmpOK g w pr bx σ.fr s b.stripB v := by
  cases b <;> first
    | exact ValOK.mono h (Ext.refl g w) fun b hb => ⟨hm b hb, rfl, fun _ x => x⟩
    | exact h
    | exact ValOK.undef
theorem ArgOK.var {mine : Nat → Prop} {i : Nat} {b : AV} {v : Value} (h : ArgOK g w bx σ.fr mine b v) (hm : ∀ b, mine b → pr b = some (.var i)) : VarOK g w pr bx i b.strip v := by
  cases b <;> first
    | exact ValOK.mono h (Ext.refl g w) fun b hb => ⟨hm b hb, rfl, fun _ x => x⟩
    | exact ValOK.undef

/-- where a result goes -/
def Dst.pl : Dst → Pl
  | .t s => .tmp s
  | .v i => .var i
  | _ => .tmp 0

theorem put_ok (fx : Fx c) (h : S c g w pr bx σ a) {d : Option Tmp} {p : Dst} (hd : dstOK c d p = true) {mine : Nat → Prop} {r : AV} {v : Value} (hr : ArgOK g w bx σ.fr mine r v)
    (hm : ∀ b, mine b → pr b = some p.pl) : S c g w pr bx (p.put r σ) (a.put d v) := by
  unfold dstOK at hd
  split at hd
  · exact h
  · rename_i s s'
    simp only [Bool.and_eq_true, beq_iff_eq, decide_eq_true_eq] at hd
    obtain ⟨⟨rfl, hn⟩, hl⟩ := hd
    exact ⟨h.fr.put_t (contains_not hn) hl (hr.tmp hm), h.st, h.gl, h.fresh, h.stA⟩
  · rename_i s i
    simp only [Bool.and_eq_true, beq_iff_eq] at hd
    refine ⟨h.fr.put_v fx.nd fx.lt hd.1 (contains_not hd.2) (hr.var hm) ?_, h.st, h.gl, h.fresh, h.stA⟩
    intro cs e
    cases r <;> simp [AV.strip] at e
  · cases hd

/-- an operation that only reckons -/
theorem pure_op (fx : Fx c) (h : S c g w pr bx σ a) {o : Oper} {p : Dst} (hd : dstOK c o.dst p = true) {r : AV} {v : Value}
    (hrun : (execOp a.eval o).run c.P w = .ok (.value v) w) (hr : ArgOK g w bx σ.fr No r v) {next : Act → World → Prop} {Q : Exit → Act → World → Prop}
    (hn : Post c g w a (p.put r σ) next) : o.wp c.P a w next Q := by
  unfold Oper.wp
  rw [hrun]
  exact hn _ _ g pr bx (defers_put _ _ _) (put_ok fx h hd hr fun _ x => x.elim) (Tr.refl _ _ _)
end
end Go.Cb
