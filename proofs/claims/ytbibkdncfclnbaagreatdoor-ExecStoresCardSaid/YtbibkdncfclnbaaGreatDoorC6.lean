import Derived.Test.YtbibkdncfclnbaaGreatDoorS1
set_option maxRecDepth 20000
set_option linter.unusedSimpArgs false
set_option linter.unusedVariables false
namespace Go.Cb.CodeA
open Go Go.Cb

/-! what selections tell, further -/
theorem FRun.app {K:Cfg} {l1 l2:List Sel} {s:List (List Nat)} {F1:List Sel} {s1:List (List Nat)} (h:FRun K l1 s F1 s1):∀ {F2:List Sel} {s2:List (List Nat)},FRun K l2 s1 F2 s2→FRun K (l1++l2) s (F1++F2) s2:=by
 induction h with
 | nil s=>intro F2 s2 h; exact h
 | skipC a _ ih=>intro F2 s2 h; exact .skipC a (ih h)
 | fieldC a b _ ih=>intro F2 s2 h; exact .fieldC a b (ih h)
 | noneC a b c d _ ih=>intro F2 s2 h; exact .noneC a b c d (ih h)
 | otherC a b c d e f g _ ih=>intro F2 s2 h; exact .otherC a b c d e f g (ih h)
 | spreadC a b c d e f g h7 _ _ ih=>intro F2 s2 h; rw [List.append_assoc]; exact .spreadC a b c d e f g h7 (ih h)
 | inNoC a b c d _ ih=>intro F2 s2 h; exact .inNoC a b c d (ih h)
 | inlC a b c d h7 _ _ ih=>intro F2 s2 h; rw [List.append_assoc]; exact .inlC a b c d h7 (ih h)
theorem FRun.mono {K:Cfg} {l:List Sel} {s:List (List Nat)} {F:List Sel} {s':List (List Nat)} (h:FRun K l s F s'):∀ m,I8 s m=true→I8 s' m=true:=by
 induction h with
 | nil s=>exact fun _ h=>h
 | skipC _ _ ih=>exact ih
 | fieldC _ _ _ ih=>exact ih
 | noneC _ _ _ _ _ ih=>exact ih
 | otherC _ _ _ _ _ _ _ _ ih=>exact fun m h=>ih m (by rw [J1,h]; rfl)
 | spreadC _ _ _ _ _ _ _ _ _ ih ih2=>exact fun m h=>ih2 m (ih m (by rw [J1,h]; rfl))
 | inNoC _ _ _ _ _ ih=>exact ih
 | inlC _ _ _ _ _ _ ih ih2=>exact fun m h=>ih2 m (ih m h)
/-- once more, where all that was come to is known -/
theorem FRun.again {K:Cfg} {l:List Sel} {s:List (List Nat)} {F:List Sel} {s':List (List Nat)} (h:FRun K l s F s'):∀ t,(∀ m,I8 s' m=true→I8 t m=true)→∃ G,FRun K l t G t∧G.Sublist F∧(K.frags=[]→G=F):=by
 induction h with
 | nil s=>exact fun t _=>⟨[],.nil _,.refl _,fun _=>rfl⟩
 | skipC a _ ih=>intro t ht; obtain ⟨G,h1,h2,h3⟩:=ih t ht; exact ⟨G,.skipC a h1,h2,h3⟩
 | fieldC a b _ ih=>intro t ht; obtain ⟨G,h1,h2,h3⟩:=ih t ht; exact ⟨_::G,.fieldC a b h1,h2.cons_cons _,fun h=>by rw [h3 h]⟩
 | noneC a b c d h ih =>
  intro t ht
  obtain ⟨G,h1,h2,h3⟩:=ih t ht
  refine ⟨G,.noneC a b c ?_ h1,h2,h3⟩
  rcases d with d|d
  · exact Or.inl d
  · exact Or.inr (ht _ (h.mono _ d))
 | @otherC k al nm on as ds sub l s s2 F i f a b c d e f g h ih =>
  intro t ht
  obtain ⟨G,h1,h2,h3⟩:=ih t ht
  refine ⟨G,.noneC a b c (Or.inr (ht _ (h.mono _ ?_))) h1,h2,h3⟩
  rw [J1,(a2r nm nm).2 rfl,Bool.or_true]
 | @spreadC k al nm on as ds sub l s s2 F i f s1 F1 a b c d e f g h7 h8 ih ih2 =>
  intro t ht
  obtain ⟨G,h1,h2,h3⟩:=ih2 t ht
  refine ⟨G,.noneC a b c (Or.inr (ht _ (h8.mono _ (h7.mono _ ?_)))) h1,h2.trans (List.sublist_append_right _ _),fun h=>?_⟩
  · rw [J1,(a2r nm nm).2 rfl,Bool.or_true]
  · rw [h] at e; simp at e
 | inNoC a b c d _ ih=>intro t ht; obtain ⟨G,h1,h2,h3⟩:=ih t ht; exact ⟨G,.inNoC a b c d h1,h2,h3⟩
 | inlC a b c d h7 h8 ih ih2 =>
  intro t ht
  obtain ⟨G1,h1,h2,h3⟩:=ih t (fun m hm=>ht m (h8.mono m hm))
  obtain ⟨G2,h4,h5,h6⟩:=ih2 t ht
  exact ⟨G1++G2,.inlC a b c d h1 h4,h2.append h5,fun h=>by rw [h3 h,h6 h]⟩

/-! groups -/
end Go.Cb.CodeA
