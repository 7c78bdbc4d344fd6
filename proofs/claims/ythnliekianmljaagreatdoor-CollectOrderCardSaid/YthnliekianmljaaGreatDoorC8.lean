import Derived.Test.YthnliekianmljaaGreatDoorC7
set_option maxRecDepth 100000
set_option linter.unusedSimpArgs false
set_option linter.unusedVariables false
namespace Go.Cb.CodeA
open Go Go.Cb
attribute [local congr] obind_congr gv_congr2 gv2_congr brT_congr seqK_congr blkK_congr m1_congr gm_congr

/-- with other directives -/
def Sel.re (d : List Dir) : Sel → Sel
 | .mk k al nm on as _ sub => .mk k al nm on as d sub
theorem FRun.re {K : Cfg} {d1 d2 : List Dir} (h1 : wantB K d1 = true) (h2 : wantB K d2 = true) : ∀ (l : List Sel) {s : List (List Nat)} {F : List Sel} {s' : List (List Nat)}, FRun K (l.map (Sel.re d1)) s F s' → ∃ F2, FRun K (l.map (Sel.re d2)) s F2 s' ∧ F2.map keyS = F.map keyS
 | [], s, F, s', h => by cases h; exact ⟨[], .nil _, rfl⟩
 | .mk k al nm on as ds sub :: l, s, F, s', h => by
  rw [List.map_cons, Sel.re] at h
  rw [List.map_cons, Sel.re]
  cases h with
  | skipC a _ => rw [h1] at a; cases a
  | fieldC a b c => obtain ⟨F2, g1, g2⟩ := FRun.re h1 h2 l c; exact ⟨_, .fieldC h2 b g1, by rw [List.map_cons, List.map_cons, g2]; rfl⟩
  | noneC a b c d e => obtain ⟨F2, g1, g2⟩ := FRun.re h1 h2 l e; exact ⟨_, .noneC h2 b c d g1, g2⟩
  | otherC a b c d e f g h => obtain ⟨F2, g1, g2⟩ := FRun.re h1 h2 l h; exact ⟨_, .otherC h2 b c d e f g g1, g2⟩
  | spreadC a b c d e f g h7 h8 => obtain ⟨F2, g1, g2⟩ := FRun.re h1 h2 l h8; exact ⟨_, .spreadC h2 b c d e f g h7 g1, by rw [List.map_append, List.map_append, g2]⟩
  | inNoC a b c d e => obtain ⟨F2, g1, g2⟩ := FRun.re h1 h2 l e; exact ⟨_, .inNoC h2 b c d g1, g2⟩
  | inlC a b c d h7 h8 => obtain ⟨F2, g1, g2⟩ := FRun.re h1 h2 l h8; exact ⟨_, .inlC h2 b c d h7 g1, by rw [List.map_append, List.map_append, g2]⟩
/-- selections that nobody wants -/
def Off (K : Cfg) (x : Sel) : Prop := match x with | .mk _ _ _ _ _ ds _ => wantB K ds = false
theorem FRun.off {K : Cfg} : ∀ (l : List Sel) {s : List (List Nat)} {F : List Sel} {s' : List (List Nat)}, (∀ x ∈ l, Off K x) → FRun K l s F s' → F = []
 | [], s, F, s', _, h => by cases h; rfl
 | .mk k al nm on as ds sub :: l, s, F, s', ho, h => by
  have h0 : wantB K ds = false := ho (.mk k al nm on as ds sub) (by simp)
  cases h with
  | skipC a b => exact FRun.off l (fun x hx => ho x (by simp [hx])) b
  | fieldC a _ _ => rw [h0] at a; cases a
  | noneC a _ _ _ _ => rw [h0] at a; cases a
  | otherC a _ _ _ _ _ _ _ => rw [h0] at a; cases a
  | spreadC a _ _ _ _ _ _ _ _ => rw [h0] at a; cases a
  | inNoC a _ _ _ _ => rw [h0] at a; cases a
  | inlC a _ _ _ _ _ => rw [h0] at a; cases a
end Go.Cb.CodeA
