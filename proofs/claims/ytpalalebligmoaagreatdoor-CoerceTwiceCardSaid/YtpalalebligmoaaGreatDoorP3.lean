import Derived.Test.YtpalalebligmoaaGreatDoorP2
import Derived.KernelRfl
set_option maxRecDepth 20000
set_option linter.unusedSimpArgs false
set_option linter.unusedVariables false
namespace Go.Cb.CodeA
open Go Go.Cb
abbrev fa : FD := ⟨[97], .one sInt false, false, Val.none⟩
abbrev fb : FD := ⟨[98], .lst [] (.one sE true) false, true, .mk 5 0 [] [] [.mk 4 0 [65] [] []]⟩
abbrev fc : FD := ⟨[99], .one sID true, false, Val.none⟩
def dA : Val := .mk 5 0 [] [] [.mk 4 0 [65] [] []]
def Fx (f : FD) (y : Val) : Prop := valueF true (N0 true) f.T y = (y, true, 0) ∧ fitG B0 f.T y = true
theorem fx_dA : Fx fb dA := ⟨by kernel_rfl, by kernel_rfl⟩
theorem dflt_b : valueF false (N0 false) fb.T fb.v = (dA, true, 0) := by kernel_rfl
theorem field_good {f : FD} (hf : f.T.leaf ≠ sI) {x : Val} (hx : x.Ok) : Good (valueF true (N0 true) f.T) (fitG B0 f.T) (valueF true (N0 true) f.T x) :=
  value_good f.T (fun y hy _ => named_good hy fun h => absurd h hf) x hx
theorem give_at {f : FD} {v y : Val} (h : v.at f.name = some y) (hy : Fx f y) : giveF N0 true f v = (y, true, 0) := by
  unfold giveF
  rw [h]
  dsimp only
  rw [hy.1]
  unfold dflF
  rfl
theorem give_none {f : FD} {v : Val} (h : v.at f.name = none) (hh : f.has = false) : giveF N0 true f v = (Val.none, false, 0) := by
  unfold giveF
  rw [h]
  unfold dflF
  dsimp only
  rw [hh]
  rfl
theorem give_dflt {v : Val} (h : v.at fb.name = none) : giveF N0 true fb v = (dA, true, 0) := by
  unfold giveF
  rw [h]
  unfold dflF
  dsimp only
  exact dflt_b
theorem give_some {f : FD} (hf : f.T.leaf ≠ sI) {v x : Val} (hv : v.Ok) (h : v.at f.name = some x) : (∃ y, giveF N0 true f v = (y, true, 0) ∧ Fx f y) ∨ (giveF N0 true f v).2.2 ≠ 0 := by
  have hg := field_good hf (at_ok hv h)
  unfold giveF
  rw [h]
  dsimp only
  revert hg
  generalize valueF true (N0 true) f.T x = r
  intro hg
  rcases hg with ⟨h1, h2, h3, h4⟩ | ⟨h1, h2⟩
  · obtain ⟨y, ok, e⟩ := r
    dsimp only at h1 h2 h3 h4
    subst h1; subst h2
    exact .inl ⟨y, rfl, h3, h4⟩
  · refine .inr ?_
    have : dflF N0 f r = r := if_neg (by rw [(eqI_ne _ _).2 h1]; simp)
    rw [this]
    exact h1
theorem goF_cons_ok {N : Bool → List Nat → Val → CRes} {p : Bool} {v : Val} {f : FD} {F : List FD} {ks : List (List Nat)} {ls : List Val} {y : Val} (h : giveF N p f v = (y, true, 0)) : goF N p v (f :: F) ks ls = goF N p v F (ks ++ [f.name]) (ls ++ [y]) := by
  rw [goF, h]; rfl
theorem goF_cons_skip {N : Bool → List Nat → Val → CRes} {p : Bool} {v : Val} {f : FD} {F : List FD} {ks : List (List Nat)} {ls : List Val} (h : giveF N p f v = (Val.none, false, 0)) (hb : f.T.bang = false) : goF N p v (f :: F) ks ls = goF N p v F ks ls := by
  rw [goF, h, hb]; rfl
theorem goF_cons_bang {N : Bool → List Nat → Val → CRes} {p : Bool} {v : Val} {f : FD} {F : List FD} {ks : List (List Nat)} {ls : List Val} (h : giveF N p f v = (Val.none, false, 0)) (hb : f.T.bang = true) : goF N p v (f :: F) ks ls = cErr 9 := by
  rw [goF, h, hb]; rfl
theorem goF_cons_err {N : Bool → List Nat → Val → CRes} {p : Bool} {v : Val} {f : FD} {F : List FD} {ks : List (List Nat)} {ls : List Val} (h : (giveF N p f v).2.2 ≠ 0) : goF N p v (f :: F) ks ls = cErr (giveF N p f v).2.2 := by
  rw [goF, if_neg (fun x => h ((eqI_iff _ _).1 x))]
theorem two_good {yb yc : Val} (hb : Fx fb yb) (hc : Fx fc yc) : Good (fieldsF N0 FI true) (fitF B0 FI) (.mk 6 0 [] [[98], [99]] [yb, yc], true, 0) := by
  refine .inl ⟨rfl, rfl, ?_, ?_⟩
  · dsimp only
    unfold fieldsF
    rw [if_pos (by kernel_rfl)]
    show goF N0 true _ [fa, fb, fc] [] [] = _
    rw [goF_cons_skip (give_none rfl rfl) rfl, goF_cons_ok (give_at (y := yb) rfl hb), goF_cons_ok (give_at (y := yc) rfl hc)]
    rfl
  · show fitL B0 FI [] [[98], [99]] [yb, yc] && fitR FI [[98], [99]] = true
    show (((true && fitG B0 fb.T yb) && ((true && fitG B0 fc.T yc) && true)) && true) = true
    rw [hb.2, hc.2]
    rfl
theorem three_good {ya yb yc : Val} (ha : Fx fa ya) (hb : Fx fb yb) (hc : Fx fc yc) : Good (fieldsF N0 FI true) (fitF B0 FI) (.mk 6 0 [] [[97], [98], [99]] [ya, yb, yc], true, 0) := by
  refine .inl ⟨rfl, rfl, ?_, ?_⟩
  · dsimp only
    unfold fieldsF
    rw [if_pos (by kernel_rfl)]
    show goF N0 true _ [fa, fb, fc] [] [] = _
    rw [goF_cons_ok (give_at (y := ya) rfl ha), goF_cons_ok (give_at (y := yb) rfl hb), goF_cons_ok (give_at (y := yc) rfl hc)]
    rfl
  · show fitL B0 FI [] [[97], [98], [99]] [ya, yb, yc] && fitR FI [[97], [98], [99]] = true
    show (((true && fitG B0 fa.T ya) && ((true && fitG B0 fb.T yb) && ((true && fitG B0 fc.T yc) && true))) && true) = true
    rw [ha.2, hb.2, hc.2]
    rfl
theorem fields_good {v : Val} (hv : v.Ok) : GoodK (fieldsF N0 FI true) (fitF B0 FI) (fieldsF N0 FI true v) ∧ (fieldsF N0 FI true v).1.kind = 6 ∨ ((fieldsF N0 FI true v).2.2 ≠ 0 ∧ (fieldsF N0 FI true v).1 = Val.none) := by
  have eF : fieldsF N0 FI true v = if eqI (badL FI [] v.names) 0 then goF N0 true v [fa, fb, fc] [] [] else cErr (badL FI [] v.names) := rfl
  rcases bool_tf (eqI (badL FI [] v.names) 0) with h0 | h0
  rotate_left
  · rw [if_neg (by rw [h0]; decide)] at eF
    rw [eF]
    exact .inr ⟨(eqI_ne _ _).1 h0, rfl⟩
  rw [if_pos h0] at eF
  have err : ∀ (f : FD) (ks : List (List Nat)) (ls : List Val) (F : List FD), goF N0 true v [fa, fb, fc] [] [] = goF N0 true v (f :: F) ks ls → (giveF N0 true f v).2.2 ≠ 0 → (fieldsF N0 FI true v).2.2 ≠ 0 ∧ (fieldsF N0 FI true v).1 = Val.none := fun f ks ls F h1 h2 => by
    rw [eF, h1, goF_cons_err h2]
    exact ⟨h2, rfl⟩
  -- the last two
  have tail : ∀ (ks : List (List Nat)) (ls : List Val), goF N0 true v [fa, fb, fc] [] [] = goF N0 true v [fb, fc] ks ls → (∃ yb yc, Fx fb yb ∧ Fx fc yc ∧ fieldsF N0 FI true v = (.mk 6 0 [] (ks ++ [[98]] ++ [[99]]) (ls ++ [yb] ++ [yc]), true, 0)) ∨ ((fieldsF N0 FI true v).2.2 ≠ 0 ∧ (fieldsF N0 FI true v).1 = Val.none) := by
    intro ks ls h1
    have hb : (∃ y, giveF N0 true fb v = (y, true, 0) ∧ Fx fb y) ∨ (giveF N0 true fb v).2.2 ≠ 0 := by
      cases h : v.at fb.name with
      | none => exact .inl ⟨dA, give_dflt h, fx_dA⟩
      | some x => exact give_some (by decide) hv h
    rcases hb with ⟨yb, hb, hyb⟩ | hb
    rotate_left
    · exact .inr (err fb ks ls [fc] h1 hb)
    have h2 := h1.trans (goF_cons_ok hb)
    cases h : v.at fc.name with
    | none =>
      refine .inr ?_
      rw [eF, h2, goF_cons_bang (give_none h rfl) rfl]
      exact ⟨(show (9 : Int) ≠ 0 by decide), rfl⟩
    | some x =>
      rcases give_some (by decide) hv h with ⟨yc, hc, hyc⟩ | hc
      · refine .inl ⟨yb, yc, hyb, hyc, ?_⟩
        rw [eF, h2, goF_cons_ok hc]
        rfl
      · exact .inr (err fc _ _ [] h2 hc)
  have fin : ∀ {r : CRes}, fieldsF N0 FI true v = r → Good (fieldsF N0 FI true) (fitF B0 FI) r → r.1.kind = 6 → GoodK (fieldsF N0 FI true) (fitF B0 FI) (fieldsF N0 FI true v) ∧ (fieldsF N0 FI true v).1.kind = 6 := fun {r} e h h6 => by
    rw [e]
    exact ⟨⟨h, fun _ => by rw [h6]; decide⟩, h6⟩
  cases h : v.at fa.name with
  | none =>
    rcases tail [] [] (goF_cons_skip (give_none h rfl) rfl) with ⟨yb, yc, hb, hc, e⟩ | e
    · exact .inl (fin e (two_good hb hc) rfl)
    · exact .inr e
  | some x =>
    rcases give_some (f := fa) (by decide) hv h with ⟨ya, ha, hya⟩ | ha
    · rcases tail [[97]] [ya] (goF_cons_ok ha) with ⟨yb, yc, hb, hc, e⟩ | e
      · exact .inl (fin e (three_good hya hb hc) rfl)
      · exact .inr e
    · exact .inr (err fa [] [] [fb, fc] rfl ha)
/-- what was made a value of a type stays, made so again; and it fits -/
theorem twice_pure (T : Ty) {v : Val} (hv : v.Ok) : Good (valF true T) (fitG BF T) (valF true T v) :=
  value_good T (fun x hx _ => named_good hx fun _ _ => fields_good hx) v hv
end Go.Cb.CodeA
