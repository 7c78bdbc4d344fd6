import Derived.Test.YtbibkdncfclnbaaGreatDoorS1
set_option maxRecDepth 20000
set_option linter.unusedSimpArgs false
set_option linter.unusedVariables false
namespace Go.Cb.CodeA
open Go Go.Cb
theorem FRun.det {K:Cfg} {l:List Sel} {s:List (List Nat)} {F:List Sel} {s':List (List Nat)} (h:FRun K l s F s'):∀ {F2:List Sel} {s2:List (List Nat)},FRun K l s F2 s2→F2=F∧s2=s':=by
 induction h with
 | nil s=>intro F2 s2 h2; cases h2; exact ⟨rfl,rfl⟩
 | skipC a _ ih=>intro F2 s2 h2; cases h2 <;> first|exact ih ‹_›|simp_all
 | fieldC a b _ ih =>
  intro F2 s2 h2
  cases h2 with
  | fieldC _ _ h=>obtain ⟨rfl,rfl⟩:=ih h; exact ⟨rfl,rfl⟩
  | _=>simp_all
 | noneC a b c d _ ih =>
  intro F2 s2 h2
  cases h2 with
  | noneC _ _ _ _ h=>exact ih h
  | otherC _ _ _ g _ h5 _ _=>rcases d with d|d <;> simp_all
  | spreadC _ _ _ g _ h5 _ _ _=>rcases d with d|d <;> simp_all
  | _=>simp_all
 | otherC a b c d e f g _ ih =>
  intro F2 s2 h2
  cases h2 with
  | noneC _ _ _ h4 h=>rcases h4 with h4|h4 <;> simp_all
  | otherC _ _ _ g1 g2 _ _ h =>
   rw [d] at g1; cases g1; rw [e] at g2; cases g2
   exact ih h
  | spreadC _ _ _ g1 g2 _ g3 _ _ =>
   rw [d] at g1; cases g1; rw [e] at g2; cases g2
   rw [g] at g3; cases g3
  | _=>simp_all
 | spreadC a b c d e f g _ _ ih ih2 =>
  intro F2 s2 h2
  cases h2 with
  | noneC _ _ _ h4 h=>rcases h4 with h4|h4 <;> simp_all
  | otherC _ _ _ g1 g2 _ g3 h =>
   rw [d] at g1; cases g1; rw [e] at g2; cases g2
   rw [g] at g3; cases g3
  | spreadC _ _ _ g1 g2 _ _ h7 h8 =>
   rw [d] at g1; cases g1; rw [e] at g2; cases g2
   obtain ⟨rfl,rfl⟩:=ih h7
   obtain ⟨rfl,rfl⟩:=ih2 h8
   exact ⟨rfl,rfl⟩
  | _=>simp_all
 | inNoC a b c d _ ih =>
  intro F2 s2 h2
  cases h2 with
  | inNoC _ _ _ _ h=>exact ih h
  | inlC _ _ _ h _ _=>rw [d] at h; cases h
  | _=>simp_all
 | inlC a b c d _ _ ih ih2 =>
  intro F2 s2 h2
  cases h2 with
  | inNoC _ _ _ h _=>rw [d] at h; cases h
  | inlC _ _ _ _ h7 h8 =>
   obtain ⟨rfl,rfl⟩:=ih h7
   obtain ⟨rfl,rfl⟩:=ih2 h8
   exact ⟨rfl,rfl⟩
  | _=>simp_all
theorem FRun.app {K:Cfg} {l1 l2:List Sel} {s:List (List Nat)} {F1:List Sel} {s1:List (List Nat)} (h:FRun K l1 s F1 s1):∀ {F2:List Sel} {s2:List (List Nat)},FRun K l2 s1 F2 s2→FRun K (l1++l2) s (F1++F2) s2:=by
 induction h with
 | nil s=>intro F2 s2 h; exact h
 | skipC a _ ih=>intro F2 s2 h; exact .skipC a (ih h)
 | fieldC a b _ ih=>intro F2 s2 h; exact .fieldC a b (ih h)
 | noneC a b c d _ ih=>intro F2 s2 h; exact .noneC a b c d (ih h)
 | otherC a b c d e f g _ ih=>intro F2 s2 h; exact .otherC a b c d e f g (ih h)
 | spreadC a b c d e f g h7 _ _ ih=>intro F2 s2 h; rw [AW]; exact .spreadC a b c d e f g h7 (ih h)
 | inNoC a b c d _ ih=>intro F2 s2 h; exact .inNoC a b c d (ih h)
 | inlC a b c d h7 _ _ ih=>intro F2 s2 h; rw [AW]; exact .inlC a b c d h7 (ih h)
theorem FRun.mono {K:Cfg} {l:List Sel} {s:List (List Nat)} {F:List Sel} {s':List (List Nat)} (h:FRun K l s F s'):∀ m,l6 s m=true→l6 s' m=true:=by
 induction h with
 | nil s=>exact fun _ h=>h
 | skipC _ _ ih=>exact ih
 | fieldC _ _ _ ih=>exact ih
 | noneC _ _ _ _ _ ih=>exact ih
 | otherC _ _ _ _ _ _ _ _ ih=>exact fun m h=>ih m (by rw [Q5,h]; rfl)
 | spreadC _ _ _ _ _ _ _ _ _ ih ih2=>exact fun m h=>ih2 m (ih m (by rw [Q5,h]; rfl))
 | inNoC _ _ _ _ _ ih=>exact ih
 | inlC _ _ _ _ _ _ ih ih2=>exact fun m h=>ih2 m (ih m h)
theorem FRun.again {K:Cfg} {l:List Sel} {s:List (List Nat)} {F:List Sel} {s':List (List Nat)} (h:FRun K l s F s'):∀ t,(∀ m,l6 s' m=true→l6 t m=true)→∃ G,FRun K l t G t∧G.Sublist F∧(K.frags=[]→G=F):=by
 induction h with
 | nil s=>exact fun t _=>⟨[],.nil _,.refl _,fun _=>rfl⟩
 | skipC a _ ih=>intro t ht; obtain ⟨G,h1,h2,h3⟩:=ih t ht; exact ⟨G,.skipC a h1,h2,h3⟩
 | fieldC a b _ ih=>intro t ht; obtain ⟨G,h1,h2,h3⟩:=ih t ht; exact ⟨_::G,.fieldC a b h1,h2.cons_cons _,fun h=>by rw [h3 h]⟩
 | noneC a b c d h ih =>
  intro t ht
  obtain ⟨G,h1,h2,h3⟩:=ih t ht
  refine ⟨G,.noneC a b c ?_ h1,h2,h3⟩
  rcases d with d|d
  · exact Or.inl d
  · exact Or.inr (ht _ (h.mono _ d))
 | @otherC k al nm on as ds sub l s s2 F i f a b c d e f g h ih =>
  intro t ht
  obtain ⟨G,h1,h2,h3⟩:=ih t ht
  refine ⟨G,.noneC a b c (Or.inr (ht _ (h.mono _ ?_))) h1,h2,h3⟩
  rw [Q5,(x9 nm nm).2 rfl,Bool.or_true]
 | @spreadC k al nm on as ds sub l s s2 F i f s1 F1 a b c d e f g h7 h8 ih ih2 =>
  intro t ht
  obtain ⟨G,h1,h2,h3⟩:=ih2 t ht
  refine ⟨G,.noneC a b c (Or.inr (ht _ (h8.mono _ (h7.mono _ ?_)))) h1,h2.trans (List.sublist_append_right _ _),fun h=>?_⟩
  · rw [Q5,(x9 nm nm).2 rfl,Bool.or_true]
  · rw [h] at e; simp at e
 | inNoC a b c d _ ih=>intro t ht; obtain ⟨G,h1,h2,h3⟩:=ih t ht; exact ⟨G,.inNoC a b c d h1,h2,h3⟩
 | inlC a b c d h7 h8 ih ih2 =>
  intro t ht
  obtain ⟨G1,h1,h2,h3⟩:=ih t (fun m hm=>ht m (h8.mono m hm))
  obtain ⟨G2,h4,h5,h6⟩:=ih2 t ht
  exact ⟨G1++G2,.inlC a b c d h1 h4,h2.append h5,fun h=>by rw [h3 h,h6 h]⟩
def R7 (F:List Sel):List (List Nat):=F.foldl (fun ks x=>if l6 ks (B2 x) then ks else ks++[B2 x]) []
def a0I (F:List Sel) (k:List Nat):List Sel:=F.filter fun x=>eqN k (B2 x)
theorem X0 (F:List Sel) (x:Sel):R7 (F++[x])=if l6 (R7 F) (B2 x) then R7 F else R7 F++[B2 x]:=by rw [R7,List.foldl_append]; rfl
theorem a1b (l:List (List Nat)) (n:List Nat):l6 l n=true ↔ n∈l:=by
 unfold l6
 rw [List.any_eq_true]
 constructor
 · rintro ⟨x,h1,h2⟩; rw [(x9 _ _).1 h2]; exact h1
 · intro h; exact ⟨n,h,(x9 _ _).2 rfl⟩
theorem a0Q {α:Type} {P:List α→Prop} (h0:P []) (h1:∀ l x,P l→P (l++[x])):∀ l,P l:=by
 intro l
 have:∀ r:List α,P r.reverse:=by
  intro r
  induction r with
  | nil=>exact h0
  | cons x r ih=>rw [List.reverse_cons]; exact h1 _ _ ih
 have h:=this l.reverse
 rwa [List.reverse_reverse] at h
theorem b94:∀ F,(R7 F).Nodup:=by
 refine a0Q (by simp [R7]) fun F x ih=>?_
 rw [X0]
 split
 · exact ih
 · rename_i h
   rw [List.nodup_append]
   refine ⟨ih,by simp,fun a ha b hb=>?_⟩
   simp at hb; subst hb
   intro e; subst e
   exact h ((a1b _ _).2 ha)
theorem b8Z:∀ (F:List Sel) (x:Sel),x∈F→B2 x∈R7 F:=by
 refine a0Q (by simp) fun F y ih=>?_
 intro x hx
 rw [X0]
 rcases AP.1 hx with hx|hx
 · split
   · exact ih x hx
   · exact List.mem_append_left _ (ih x hx)
 · simp at hx; subst hx
   split
   · rename_i h; exact (a1b _ _).1 h
   · simp
theorem a9x (A:List Nat→List Sel) (x:Sel):∀ (ks:List (List Nat)),ks.Nodup→F5 (ks.map fun k=>(k,A k)) x=if l6 ks (B2 x) then ks.map (fun k=>(k,if eqN k (B2 x) then A k++[x] else A k)) else ks.map (fun k=>(k,A k))++[(B2 x,[x])]
 | [],_=>rfl
 | k::ks,h=>by
  rw [List.nodup_cons] at h
  rw [AG,F5]
  dsimp only
  by_cases hk:eqN k (B2 x)=true
  · have e:=(x9 _ _).1 hk
    rw [if_pos hk,if_pos (by rw [a1b,e]; simp),AG,if_pos hk]
    congr 1
    refine List.map_congr_left fun k' hk'=>?_
    rw [if_neg]
    intro h'
    rw [(x9 _ _).1 h'] at hk'
    rw [← e] at hk'
    exact h.1 hk'
  · rw [if_neg hk,a9x A x ks h.2]
    have e:l6 (k::ks) (B2 x)=l6 ks (B2 x):=by
     have:eqN (B2 x) k=false:=by
      cases h':eqN (B2 x) k with
      | false=>rfl
      | true=>exact absurd ((x9 _ _).2 ((x9 _ _).1 h').symm) hk
     simp [l6,this]
    rw [e]
    split
    · rw [AG,if_neg hk]
    · rfl
theorem a8V:∀ F,G5 F=(R7 F).map fun k=>(k,a0I F k):=by
 refine a0Q rfl fun F x ih=>?_
 rw [a3z,ih,a9x (a0I F) x _ (b94 F),X0]
 have e:∀ k,a0I (F++[x]) k=if eqN k (B2 x) then a0I F k++[x] else a0I F k:=by
  intro k
  unfold a0I
  rw [List.filter_append]
  cases h:eqN k (B2 x) <;> simp [h]
 split
 · refine List.map_congr_left fun k _=>?_
   rw [e]
 · rename_i h
   rw [AU]
   congr 1
   · refine List.map_congr_left fun k hk=>?_
     rw [e,if_neg]
     intro h'
     rw [(x9 _ _).1 h'] at hk
     exact h ((a1b _ _).2 hk)
   · rw [AG,AL,e,if_pos ((x9 _ _).2 rfl)]
     have:a0I F (B2 x)=[]:=by
      unfold a0I
      rw [List.filter_eq_nil_iff]
      intro y hy h'
      exact h ((a1b _ _).2 (by rw [(x9 _ _).1 h']; exact b8Z F y hy))
     rw [this]
     rfl
end Go.Cb.CodeA
