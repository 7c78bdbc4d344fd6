/-
  THE ABSTRACT MACHINE, part 26: code.
-/
import Derived.Test.YtkfbiiedabbgfaaDoorXAm25
import Derived.Scope
import Derived.LoopN
set_option maxRecDepth 4000
set_option linter.unusedSimpArgs false
namespace Go.Cb
open Classical

def condOK (c : Cx) (x : Operand) (y : Opd) : Bool := opdN c x y

/-- the test of code -/
def codeOK (c : Cx) : Code → ACode → Bool
  | .skip, .skip => true
  | .exit id, .exit id' => id == id'
  | .ret, .ret => true
  | .region _ ops d, .reg kill ps => regOK c ops d kill ps
  | .seq (.region _ ops d) (.cond x a b), .test kill ps y a' b' => regOK c ops d kill ps && condOK c x y && codeOK c a a' && codeOK c b b'
  | .seq (.region _ ops d) (.seq (.cond x a b) rest), .seq (.test kill ps y a' b') rest' => regOK c ops d kill ps && condOK c x y && codeOK c a a' && codeOK c b b' && codeOK c rest rest'
  | .seq a b, .seq a' b' => codeOK c a a' && codeOK c b b'
  | .cond x a b, .test kill ps y a' b' => kill.isEmpty && ps.isEmpty && condOK c x y && codeOK c a a' && codeOK c b b'
  | .block id a, .blk id' a' => id == id' && codeOK c a a'
  | .loop a, .loop a' => codeOK c a a'
  | .scope a, a' => codeOK c a a'
  | _, _ => false

def Ex.toExit : Ex → Exit
  | .normal => .normal
  | .exit id => .exit id
  | .ret => .ret

/-- what comes behind code -/
def After (c : Cx) (g : Gh) (w : World) (a : Act) (out : Out) (Q : Exit → Act → World → Prop) : Prop :=
  ∀ a' w' g' pr' bx' τ', a'.defers = a.defers → S c g' w' pr' bx' ⟨out.2.1, τ', out.2.2⟩ a' → Tr c.A g w g' w' → Q out.1.toExit a' w'

def CodeK (c : Cx) (x : Code) (y : ACode) : Prop :=
  ∀ {call : CallT} {n : Nat} {g : Gh} {w : World} {pr : Nat → Option Pl} {bx : Nat → Nat} {fr : List AV} {τ : Nat → AV} {st : St} {a : Act} {out : Out} {Q : Exit → Act → World → Prop},
    Fx c → c.P.follows .mixedOrders = true → CallOK c.P c.gt call → S c g w pr bx ⟨fr, τ, st⟩ a → exec call n y fr st = some out → After c g w a out Q → x.wp c.P Q a w

section
variable {c : Cx}

theorem After.trans {g g' : Gh} {w w' : World} {a a' : Act} {out : Out} {Q : Exit → Act → World → Prop} (h : After c g w a out Q) (hd : a'.defers = a.defers) (ht : Tr c.A g w g' w') : After c g' w' a' out Q :=
  fun a2 w2 g2 pr2 bx2 τ2 d2 s2 t2 => h a2 w2 g2 pr2 bx2 τ2 (d2.trans hd) s2 (ht.trans t2)

theorem killAll_getD : ∀ (kill : List Nat) (fr : List AV) (i : Nat), (killAll kill fr).getD i .undef = fr.getD i .undef ∨ (killAll kill fr).getD i .undef = .undef
  | [], fr, i => .inl rfl
  | k :: kill, fr, i => by
    simp only [killAll]
    rcases killAll_getD kill (fr.set k .undef) i with h | h
    · rw [h, getD_set]
      split
      · exact .inr rfl
      · exact .inl rfl
    · exact .inr h
theorem killAll_len : ∀ (kill : List Nat) (fr : List AV), (killAll kill fr).length = fr.length
  | [], _ => rfl
  | k :: kill, fr => by rw [killAll, killAll_len kill, List.length_set]

theorem VarOK.undef {g : Gh} {w : World} {pr : Nat → Option Pl} {bx : Nat → Nat} {i : Nat} {v : Value} : VarOK g w pr bx i .undef v := ValOK.undef

/-- a region begins: the temporaries are forgotten, and some of the variables -/
theorem S.reset {g : Gh} {w : World} {pr : Nat → Option Pl} {bx : Nat → Nat} {fr : List AV} {τ : Nat → AV} {st : St} {a : Act} (h : S c g w pr bx ⟨fr, τ, st⟩ a) (kill : List Nat) :
    S c g w pr bx ⟨killAll kill fr, fun _ => .undef, st⟩ a := by
  refine ⟨⟨h.fr.size, by rw [killAll_len]; exact h.fr.len, fun i s hs => ?_, fun s hs => ValOK.undef, h.fr.prv, fun i cs hi => ?_⟩, h.st, h.gl, h.fresh, h.stA⟩
  · rcases killAll_getD kill fr i with e | e
    · rw [e]; exact h.fr.var i s hs
    · rw [e]; exact VarOK.undef
  · rcases killAll_getD kill fr i with e | e
    · rw [e] at hi; exact h.fr.bxs i cs hi
    · rw [e] at hi; cases hi

theorem S.drawn {g : Gh} {w : World} {pr : Nat → Option Pl} {bx : Nat → Nat} {σ : Sig} {a : Act} (h : S c g w pr bx σ a) (n : Nat) : S c g { w with drawn := n } pr bx σ a ∧ Tr c.A g w g { w with drawn := n } := by
  have he : Ext g w g { w with drawn := n } := ⟨Nat.le_refl _, fun _ _ => rfl, fun _ _ x => x, fun _ _ _ => rfl⟩
  have ht : Tr No g w g { w with drawn := n } := ⟨he, Nat.le_refl _, Env.drawn rfl rfl rfl, fun b _ hs _ => ⟨⟨rfl, fun _ x => x⟩, hs⟩⟩
  exact ⟨⟨h.fr.evolve ht, h.st.evolve he rfl (Nat.le_refl _) (fun b p hb => ⟨hb, rfl, fun _ x => x⟩) (fun _ _ x => x) (fun _ _ x => .inl x), h.gl.ext he, h.fresh, h.stA⟩, ht.wider fun _ x => x.elim⟩

theorem filterMap_range' (ps : List AOper) : ∀ (n k : Nat), k + n = ps.length → (List.range' k n).filterMap (ps[·]?) = ps.drop k
  | 0, k, h => by rw [List.drop_of_length_le (by omega)]; rfl
  | n + 1, k, h => by
    rw [List.range'_succ, List.filterMap_cons_some (List.getElem?_eq_getElem (show k < ps.length by omega)), filterMap_range' ps n (k + 1) (by omega), ← List.drop_eq_getElem_cons]
theorem filterMap_range (ps : List AOper) : (List.range ps.length).filterMap (ps[·]?) = ps := by
  rw [List.range_eq_range', filterMap_range' ps ps.length 0 (by omega)]
  rfl

theorem reg_ok (fx : Fx c) (hm : c.P.follows .mixedOrders = true) {call : CallT} (hc : CallOK c.P c.gt call) {g : Gh} {w : World} {pr : Nat → Option Pl} {bx : Nat → Nat} {fr : List AV} {τ : Nat → AV} {st : St} {a : Act}
    {id : Nat} {ops : Array Oper} {d : Bool} {kill : List Nat} {ps : List AOper} (hok : regOK c ops d kill ps = true) (h : S c g w pr bx ⟨fr, τ, st⟩ a) {σ' : Sig} (hr : runOps call ps ⟨killAll kill fr, fun _ => .undef, st⟩ = some σ')
    {Q : Exit → Act → World → Prop} (hnext : Post c g w a σ' (Q .normal)) : (Code.region id ops d).wp c.P Q a w := by
  simp only [regOK, Bool.and_eq_true, Bool.or_eq_true, Bool.not_eq_true'] at hok
  obtain ⟨h1, h2⟩ := hok
  have h0 := h.reset kill
  obtain ⟨hl, _⟩ := opsOK_get h1
  cases d with
  | false =>
    refine wp_region ?_
    have := ops_text (Q := Q) fx hc h1 ops.size 0 g w pr bx _ a (by simpa using hl) h0 (by simpa using hr) hnext
    rwa [← List.range_eq_range'] at this
  | true =>
    have h2 := h2.resolve_left (by simp)
    refine wp_region_any hm ?_
    obtain ⟨hd1, hd2⟩ := h0.drawn (w.drawn + 1)
    have hsz : ops.size = ps.length := by simpa using hl
    have hrem : rem_ ps.length (Array.replicate ops.size false) = List.range ps.length := by
      unfold rem_
      apply List.filter_eq_self.2
      intro i hi
      have : i < ps.length := by simpa using hi
      simp [hsz, this]
    refine ops_any fx hc h1 h2 ops.size (Array.replicate ops.size false) g _ pr bx _ a (by simpa using hsz) (by rw [hrem]; simpa using hsz.symm) (fun j hj => ?_) hd1 (by rw [hrem, filterMap_range]; exact hr) (hnext.trans rfl hd2)
    exfalso
    have hlt : j < ps.length := by
      rcases Nat.lt_or_ge j ps.length with h | h
      · exact h
      · simp [Array.getD_eq_getD_getElem?, hsz, Nat.not_lt.2 h] at hj
    simp [hsz, hlt] at hj

theorem cond_ok {g : Gh} {w : World} {pr : Nat → Option Pl} {bx : Nat → Nat} {σ : Sig} {a : Act} (h : S c g w pr bx σ a) {x : Operand} {y : Opd} (hok : condOK c x y = true) {b : Bool} (hb : y.read σ = .bool b) : a.eval x = .bool b := by
  have hA := read_ok h hok
  rw [hb] at hA
  have hr := ValOK.rel hA
  simpa only [Rel] using hr

theorem k_test {id : Nat} {ops : Array Oper} {d : Bool} {kill : List Nat} {ps : List AOper} {x : Operand} {y : Opd} {A B : Code} {A' B' : ACode} (h1 : regOK c ops d kill ps = true) (h2 : condOK c x y = true) (hA : CodeK c A A') (hB : CodeK c B B')
    {call : CallT} {n : Nat} {g : Gh} {w : World} {pr : Nat → Option Pl} {bx : Nat → Nat} {fr : List AV} {τ : Nat → AV} {st : St} {a : Act} {out : Out} {Q Q' : Exit → Act → World → Prop}
    (fx : Fx c) (hm : c.P.follows .mixedOrders = true) (hc : CallOK c.P c.gt call) (h : S c g w pr bx ⟨fr, τ, st⟩ a) (he : exec call n (.test kill ps y A' B') fr st = some out) (hQ : After c g w a out Q') {K : Act → World → Prop}
    (hK : ∀ a' w', (Code.cond x A B).wp c.P Q' a' w' → K a' w') : (Code.region id ops d).wp c.P (Exit.then K Q) a w := by
  simp only [exec] at he
  cases hr : runOps call ps ⟨killAll kill fr, fun _ => .undef, st⟩ with
  | none => simp [hr] at he
  | some σ =>
    simp only [hr, fL_eq] at he
    refine reg_ok fx hm hc h1 h hr fun a1 w1 g1 pr1 bx1 hd1 hS1 ht1 => ?_
    show K a1 w1
    refine hK a1 w1 ?_
    split at he
    · rename_i hb
      exact wp_cond (t := true) (cond_ok hS1 h2 hb) (hA fx hm hc (τ := σ.τ) hS1 he (hQ.trans hd1 ht1))
    · rename_i hb
      exact wp_cond (t := false) (cond_ok hS1 h2 hb) (hB fx hm hc (τ := σ.τ) hS1 he (hQ.trans hd1 ht1))
    · cases he

theorem exec_seq {call : CallT} {n : Nat} {A B : ACode} {fr : List AV} {st : St} {out : Out} (h : exec call n (.seq A B) fr st = some out) :
    (∃ fr1 st1, exec call n A fr st = some (.normal, fr1, st1) ∧ exec call n B fr1 st1 = some out) ∨ (exec call n A fr st = some out ∧ out.1 ≠ .normal) := by
  simp only [exec] at h
  split at h
  · rename_i fr1 st1 h1; exact .inl ⟨fr1, st1, h1, h⟩
  · rename_i h1
    obtain ⟨e, fr', st'⟩ := out
    refine .inr ⟨h, fun hn => ?_⟩
    simp only at hn
    subst hn
    exact h1 fr' st' h

/-- what passes the test is matched -/
theorem code_ok : ∀ (x : Code) (y : ACode), codeOK c x y = true → CodeK c x y := by
  intro x y h
  unfold codeOK at h
  split at h
  · -- skip
    intro call n g w pr bx fr τ st a out Q fx hm hc hS he hQ
    simp only [exec, Option.some.injEq] at he
    subst he
    exact wp_skip (hQ a w g pr bx τ rfl hS (Tr.refl _ _ _))
  · intro call n g w pr bx fr τ st a out Q fx hm hc hS he hQ
    simp only [beq_iff_eq] at h
    subst h
    simp only [exec, Option.some.injEq] at he
    subst he
    exact wp_exit (hQ a w g pr bx τ rfl hS (Tr.refl _ _ _))
  · intro call n g w pr bx fr τ st a out Q fx hm hc hS he hQ
    simp only [exec, Option.some.injEq] at he
    subst he
    exact wp_ret (hQ a w g pr bx τ rfl hS (Tr.refl _ _ _))
  · -- a region
    intro call n g w pr bx fr τ st a out Q fx hm hc hS he hQ
    rename_i id ops d kill ps
    simp only [exec] at he
    cases hr : runOps call ps ⟨killAll kill fr, fun _ => .undef, st⟩ with
    | none => simp [hr] at he
    | some σ =>
      simp only [hr, fL_eq, Option.some.injEq] at he
      subst he
      exact reg_ok fx hm hc h hS hr fun a1 w1 g1 pr1 bx1 hd1 hS1 ht1 => hQ a1 w1 g1 pr1 bx1 σ.τ hd1 hS1 ht1
  · -- a region and a test
    intro call n g w pr bx fr τ st a out Q fx hm hc hS he hQ
    simp only [Bool.and_eq_true] at h
    obtain ⟨⟨⟨h1, h2⟩, h3⟩, h4⟩ := h
    exact wp_seq (k_test h1 h2 (code_ok _ _ h3) (code_ok _ _ h4) fx hm hc hS he hQ fun _ _ x => x)
  · -- a region, a test, and more
    intro call n g w pr bx fr τ st a out Q fx hm hc hS he hQ
    simp only [Bool.and_eq_true] at h
    obtain ⟨⟨⟨⟨h1, h2⟩, h3⟩, h4⟩, h5⟩ := h
    rename_i rest kill ps y A' B' rest'
    rcases exec_seq he with ⟨fr1, st1, e1, e2⟩ | ⟨e1, hn⟩
    · refine wp_seq (k_test (Q' := Exit.then (rest.wp c.P Q) Q) h1 h2 (code_ok _ _ h3) (code_ok _ _ h4) fx hm hc hS e1 (fun a1 w1 g1 pr1 bx1 τ1 hd1 hS1 ht1 => ?_) fun _ _ x => wp_seq x)
      exact code_ok _ _ h5 fx hm hc hS1 e2 (hQ.trans hd1 ht1)
    · refine wp_seq (k_test (Q' := Exit.then (rest.wp c.P Q) Q) h1 h2 (code_ok _ _ h3) (code_ok _ _ h4) fx hm hc hS e1 (fun a1 w1 g1 pr1 bx1 τ1 hd1 hS1 ht1 => ?_) fun _ _ x => wp_seq x)
      have := hQ a1 w1 g1 pr1 bx1 τ1 hd1 hS1 ht1
      revert this hn
      cases out.1 <;> simp [Ex.toExit, Exit.then]
  · -- one after the other
    intro call n g w pr bx fr τ st a out Q fx hm hc hS he hQ
    simp only [Bool.and_eq_true] at h
    obtain ⟨h1, h2⟩ := h
    refine wp_seq ?_
    rcases exec_seq he with ⟨fr1, st1, e1, e2⟩ | ⟨e1, hn⟩
    · exact code_ok _ _ h1 fx hm hc hS e1 fun a1 w1 g1 pr1 bx1 τ1 hd1 hS1 ht1 => code_ok _ _ h2 fx hm hc hS1 e2 (hQ.trans hd1 ht1)
    · refine code_ok _ _ h1 fx hm hc hS e1 fun a1 w1 g1 pr1 bx1 τ1 hd1 hS1 ht1 => ?_
      have := hQ a1 w1 g1 pr1 bx1 τ1 hd1 hS1 ht1
      revert this hn
      cases out.1 <;> simp [Ex.toExit, Exit.then]
  · -- a bare test
    intro call n g w pr bx fr τ st a out Q fx hm hc hS he hQ
    simp only [Bool.and_eq_true, List.isEmpty_iff] at h
    obtain ⟨⟨⟨⟨rfl, rfl⟩, h2⟩, h3⟩, h4⟩ := h
    simp only [exec, runOps, killAll, fL_eq] at he
    have hS0 := hS.reset []
    split at he
    · rename_i hb
      exact wp_cond (t := true) (cond_ok hS0 h2 hb) (code_ok _ _ h3 fx hm hc hS0 he hQ)
    · rename_i hb
      exact wp_cond (t := false) (cond_ok hS0 h2 hb) (code_ok _ _ h4 fx hm hc hS0 he hQ)
    · cases he
  · -- a block
    intro call n g w pr bx fr τ st a out Q fx hm hc hS he hQ
    simp only [Bool.and_eq_true, beq_iff_eq] at h
    obtain ⟨rfl, h1⟩ := h
    simp only [exec] at he
    refine wp_block ?_
    split at he
    · rename_i id' fr1 st1 e1
      simp only [Option.some.injEq] at he
      subst he
      refine code_ok _ _ h1 fx hm hc hS e1 fun a1 w1 g1 pr1 bx1 τ1 hd1 hS1 ht1 => ?_
      have := hQ a1 w1 g1 pr1 bx1 τ1 hd1 hS1 ht1
      simp only [Ex.toExit, Exit.inBlock]
      split
      · rename_i e; simpa [e, Ex.toExit] using this
      · rename_i e; simpa [e, Ex.toExit] using this
    · rename_i hne
      refine code_ok _ _ h1 fx hm hc hS he fun a1 w1 g1 pr1 bx1 τ1 hd1 hS1 ht1 => ?_
      have := hQ a1 w1 g1 pr1 bx1 τ1 hd1 hS1 ht1
      obtain ⟨e, fr1, st1⟩ := out
      cases e with
      | normal => exact this
      | exit id' => exact absurd he (hne id' fr1 st1)
      | ret => exact this
  · -- a loop
    intro call n g w pr bx fr τ st a out Q fx hm hc hS he hQ
    rename_i A A'
    simp only [exec] at he
    refine wp_loop_rounds n ?_
    have body : CodeK c A A' := code_ok A A' h
    have key : ∀ (m : Nat) (g : Gh) (w : World) (pr : Nat → Option Pl) (bx : Nat → Nat) (fr : List AV) (τ : Nat → AV) (st : St) (a : Act), S c g w pr bx ⟨fr, τ, st⟩ a → iter (exec call n A') m fr st = some out → After c g w a out Q → Code.rounds c.P A Q m a w := by
      intro m
      induction m with
      | zero => intro g w pr bx fr τ st a _ he; simp [iter] at he
      | succ m ih =>
        intro g w pr bx fr τ st a hS he hQ
        rw [rounds_succ]
        simp only [iter] at he
        split at he
        · rename_i fr1 st1 e1
          exact body fx hm hc hS e1 fun a1 w1 g1 pr1 bx1 τ1 hd1 hS1 ht1 => ih g1 w1 pr1 bx1 fr1 τ1 st1 a1 hS1 he (hQ.trans hd1 ht1)
        · rename_i hne
          refine body fx hm hc hS he fun a1 w1 g1 pr1 bx1 τ1 hd1 hS1 ht1 => ?_
          have := hQ a1 w1 g1 pr1 bx1 τ1 hd1 hS1 ht1
          obtain ⟨e, fr1, st1⟩ := out
          cases e with
          | normal => exact absurd he (hne fr1 st1)
          | exit id' => exact this
          | ret => exact this
    exact key n g w pr bx fr τ st a hS he hQ
  · -- a scope
    intro call n g w pr bx fr τ st a out Q fx hm hc hS he hQ
    refine wp_scope_straight (code_ok _ _ h fx hm hc hS he fun a1 w1 g1 pr1 bx1 τ1 hd1 hS1 ht1 => ?_)
    have := hQ a1 w1 g1 pr1 bx1 τ1 hd1 hS1 ht1
    revert this
    cases out.1 <;> simp [Ex.toExit, Exit.noGoto]
  · cases h
termination_by x => x
end
end Go.Cb
