import Derived.Test.YtbibkdncfclnbaaGreatDoorC5
set_option maxRecDepth 20000
set_option linter.all false
namespace Go.Cb.CodeA
open Go Go.Cb
theorem FRun.det {K:Cfg} {l:List Sel} {s:List (List Nat)} {F:List Sel} {s':List (List Nat)} (h:FRun K l s F s'):∀ {F2:List Sel} {v:List (List Nat)},FRun K l s F2 v→F2=F∧v=s':=by
 induction h with
 | nil s=>intro F2 v t; cases t; exact⟨rfl,rfl⟩
 | skipC a _ u=>intro F2 v t; cases t<;>first|exact u ‹_›|simp_all
 | fieldC a b _ u =>
  intro F2 v t;cases t with
  | fieldC _ _ h=>obtain⟨rfl,rfl⟩:=u h; exact⟨rfl,rfl⟩
  | _=>simp_all
 | noneC a b c d _ u =>
  intro F2 v t;cases t with
  | noneC _ _ _ _ h=>exact u h
  | otherC _ _ _ g _ C _ _=>rcases d with d|d<;>simp_all
  | spreadC _ _ _ g _ C _ _ _=>rcases d with d|d<;>simp_all
  | _=>simp_all
 | otherC a b c d e f g _ u =>
  intro F2 v t;cases t with
  | noneC _ _ _ h4 h=>rcases h4 with h4|h4<;>simp_all
  | otherC _ _ _ g1 g2 _ _ h =>rw[d]at g1; cases g1; rw[e]at g2; cases g2;exact u h
  | spreadC _ _ _ g1 g2 _ g3 _ _ =>rw[d]at g1; cases g1; rw[e]at g2; cases g2;rw[g]at g3; cases g3
  | _=>simp_all
 | spreadC a b c d e f g _ _ u x =>
  intro F2 v t;cases t with
  | noneC _ _ _ h4 h=>rcases h4 with h4|h4<;>simp_all
  | otherC _ _ _ g1 g2 _ g3 h =>rw[d]at g1; cases g1; rw[e]at g2; cases g2;rw[g]at g3; cases g3
  | spreadC _ _ _ g1 g2 _ _ y z =>rw[d]at g1; cases g1; rw[e]at g2; cases g2;obtain⟨rfl,rfl⟩:=u y;obtain⟨rfl,rfl⟩:=x z;exact⟨rfl,rfl⟩
  | _=>simp_all
 | inNoC a b c d _ u =>
  intro F2 v t;cases t with
  | inNoC _ _ _ _ h=>exact u h
  | inlC _ _ _ h _ _=>rw[d]at h; cases h
  | _=>simp_all
 | inlC a b c d _ _ u x =>
  intro F2 v t;cases t with
  | inNoC _ _ _ h _=>rw[d]at h; cases h
  | inlC _ _ _ _ y z =>obtain⟨rfl,rfl⟩:=u y;obtain⟨rfl,rfl⟩:=x z;exact⟨rfl,rfl⟩
  | _=>simp_all
theorem FRun.app {K:Cfg} {l1 l2:List Sel} {s:List (List Nat)} {v:List Sel} {x:List (List Nat)} (h:FRun K l1 s v x):∀ {F2:List Sel} {t:List (List Nat)},FRun K l2 x F2 t→FRun K (l1++l2) s (v++F2) t:=by
 induction h with
 | nil s=>intro F2 t h; exact h
 | skipC a _ l=>intro F2 t h; exact .skipC a (l h)
 | fieldC a b _ l=>intro F2 t h; exact .fieldC a b (l h)
 | noneC a b c d _ l=>intro F2 t h; exact .noneC a b c d (l h)
 | otherC a b c d e f g _ l=>intro F2 t h; exact .otherC a b c d e f g (l h)
 | spreadC a b c d e f g u _ _ l=>intro F2 t h; rw[AX]; exact .spreadC a b c d e f g u (l h)
 | inNoC a b c d _ l=>intro F2 t h; exact .inNoC a b c d (l h)
 | inlC a b c d u _ _ l=>intro F2 t h; rw[AX]; exact .inlC a b c d u (l h)
theorem FRun.mono {K:Cfg} {l:List Sel} {s:List (List Nat)} {F:List Sel} {s':List (List Nat)} (h:FRun K l s F s'):∀ m,k9 s m=true→k9 s' m=true:=by
 induction h with
 | nil s=>exact fun _ h=>h
 | skipC _ _ e=>exact e
 | fieldC _ _ _ e=>exact e
 | noneC _ _ _ _ _ e=>exact e
 | otherC _ _ _ _ _ _ _ _ e=>exact fun m h=>e m (by rw[W2,h]; rfl)
 | spreadC _ _ _ _ _ _ _ _ _ e t=>exact fun m h=>t m (e m (by rw[W2,h]; rfl))
 | inNoC _ _ _ _ _ e=>exact e
 | inlC _ _ _ _ _ _ e t=>exact fun m h=>t m (e m h)
theorem FRun.again {K:Cfg} {l:List Sel} {s:List (List Nat)} {F:List Sel} {s':List (List Nat)} (h:FRun K l s F s'):∀ t,(∀ m,k9 s' m=true→k9 t m=true)→∃ G,FRun K l t G t∧G.Sublist F∧(K.frags=[]→G=F):=by
 induction h with
 | nil s=>exact fun t _=>⟨[],.nil _,.refl _,fun _=>rfl⟩
 | skipC a _ z=>intro t u; obtain⟨G,v,x,y⟩:=z t u; exact⟨G,.skipC a v,x,y⟩
 | fieldC a b _ z=>intro t u; obtain⟨G,v,x,y⟩:=z t u; exact⟨_::G,.fieldC a b v,x.cons_cons _,fun h=>by rw[y h]⟩
 | noneC a b c d h z =>
  intro t u;obtain⟨G,v,x,y⟩:=z t u;refine⟨G,.noneC a b c ?_ v,x,y⟩;rcases d with d|d
  · exact Or.inl d
  · exact Or.inr (u _ (h.mono _ d))
 | @otherC k al nm on as ds sub l s W F i f a b c d e f g h z =>intro t u;obtain⟨G,v,x,y⟩:=z t u;refine⟨G,.noneC a b c (Or.inr (u _ (h.mono _ ?_))) v,x,y⟩;rw[W2,(t7 nm nm).2 rfl,Bool.or_true]
 | @spreadC k al nm on as ds sub l s W F i f Z Y a b c d e f g J I z C =>
  intro t u;obtain⟨G,v,x,y⟩:=C t u;refine⟨G,.noneC a b c (Or.inr (u _ (I.mono _ (J.mono _ ?_)))) v,x.trans (List.sublist_append_right _ _),fun h=>?_⟩
  · rw[W2,(t7 nm nm).2 rfl,Bool.or_true]
  · rw[h]at e; simp at e
 | inNoC a b c d _ z=>intro t u; obtain⟨G,v,x,y⟩:=z t u; exact⟨G,.inNoC a b c d v,x,y⟩
 | inlC a b c d J I z C =>intro t u;obtain⟨L,v,x,y⟩:=z t (fun m U=>u m (I.mono m U));obtain⟨M,N,O,T⟩:=C t u;exact⟨L++M,.inlC a b c d v N,x.append O,fun h=>by rw[y h,T h]⟩
def X8 (F:List Sel):List (List Nat):=F.foldl (fun ks x=>if k9 ks (D4 x)then ks else ks++[D4 x]) []
def a1X (F:List Sel) (k:List Nat):List Sel:=F.filter fun x=>eqN k (D4 x)
theorem a0C (F:List Sel) (x:Sel):X8 (F++[x])=if k9 (X8 F) (D4 x)then X8 F else X8 F++[D4 x]:=by rw[X8,List.foldl_append]; rfl
theorem a2A (l:List (List Nat)) (n:List Nat):k9 l n=true↔n∈l:=by
 unfold k9;rw[List.any_eq_true];constructor
 · rintro⟨x,e,t⟩; rw[(t7 _ _).1 t]; exact e
 · intro h; exact⟨n,h,(t7 _ _).2 rfl⟩
theorem a3C {α:Type} {P:List α→Prop} (e:P []) (t:∀ l x,P l→P (l++[x])):∀ l,P l:=by
 intro l;have:∀ r:List α,P r.reverse:=by
  intro r;induction r with
  | nil=>exact e
  | cons x r u=>rw[List.reverse_cons]; exact t _ _ u
 have h:=this l.reverse
 rwa [List.reverse_reverse]at h
theorem c2f:∀ F,(X8 F).Nodup:=by
 refine a3C (by simp[X8]) fun F x t=>?_
 rw[a0C];split
 · exact t
 · rename_i h;rw[List.nodup_append];refine⟨t,by simp,fun a u b l=>?_⟩;simp at l; subst l;intro e; subst e;exact h ((a2A _ _).2 u)
theorem b8O:∀ (F:List Sel) (x:Sel),x∈F→D4 x∈X8 F:=by
 refine a3C (by simp) fun F y e=>?_
 intro x hx;rw[a0C];rcases AQ.1 hx with hx|hx
 · split
   · exact e x hx
   · exact List.mem_append_left _ (e x hx)
 · simp at hx; subst hx;split
   · rename_i h; exact(a2A _ _).1 h
   · simp
theorem a9S (A:List Nat→List Sel) (x:Sel):∀ (ks:List (List Nat)),ks.Nodup→K6 (ks.map fun k=>(k,A k)) x=if k9 ks (D4 x)then ks.map (fun k=>(k,if eqN k (D4 x)then A k++[x]else A k))else ks.map (fun k=>(k,A k))++[(D4 x,[x])]
 | [],_=>rfl
 | k::ks,h=>by
  rw[List.nodup_cons]at h;rw[AH,K6];dsimp only;by_cases t:eqN k (D4 x)=true
  · have e:=(t7 _ _).1 t;rw[if_pos t,if_pos (by rw[a2A,e]; simp),AH,if_pos t];congr 1;refine List.map_congr_left fun v l=>?_
    rw[if_neg];intro u;rw[(t7 _ _).1 u]at l;rw[← e]at l;exact h.1 l
  · rw[if_neg t,a9S A x ks h.2];have e:k9 (k::ks) (D4 x)=k9 ks (D4 x):=by
     have:eqN (D4 x) k=false:=by
      cases u:eqN (D4 x) k with
      | false=>rfl
      | true=>exact absurd ((t7 _ _).2 ((t7 _ _).1 u).symm) t
     simp[k9,this]
    rw[e];split
    · rw[AH,if_neg t]
    · rfl
theorem b3Q:∀ F,a0E F=(X8 F).map fun k=>(k,a1X F k):=by
 refine a3C rfl fun F x v=>?_
 rw[b0a,v,a9S (a1X F) x _ (c2f F),a0C];have e:∀ k,a1X (F++[x]) k=if eqN k (D4 x)then a1X F k++[x]else a1X F k:=by intro k;unfold a1X;rw[List.filter_append];cases h:eqN k (D4 x)<;>simp[h]
 split
 · refine List.map_congr_left fun k _=>?_
   rw[e]
 · rename_i h;rw[AW];congr 1
   · refine List.map_congr_left fun k t=>?_
     rw[e,if_neg];intro l;rw[(t7 _ _).1 l]at t;exact h ((a2A _ _).2 t)
   · rw[AH,AM,e,if_pos ((t7 _ _).2 rfl)];have:a1X F (D4 x)=[]:=by unfold a1X;rw[List.filter_eq_nil_iff];intro y u l;exact h ((a2A _ _).2 (by rw[(t7 _ _).1 l]; exact b8O F y u))
     rw[this];rfl
end Go.Cb.CodeA
