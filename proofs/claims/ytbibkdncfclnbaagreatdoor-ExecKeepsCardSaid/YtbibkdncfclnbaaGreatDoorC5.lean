import Derived.Test.YtbibkdncfclnbaaGreatDoorS1
set_option maxRecDepth 20000
set_option linter.all false
namespace Go.Cb.CodeA
open Go Go.Cb
def S6 {α:Type} (N:Nat) (p:Nat→Option (α×Nat)) (μ:α→Nat):Prop:=∀ i x j,i≤N→p i=some (x,j)→μ x+i≤j∧j≤N
theorem s8 {L:List Tok} {i:Nat} {s:List Nat} (h:B7 L i s=true):i < L.length:=by
 cases hL:L[i]? with
 | some t=>exact(AB.1 hL).1
 | none=>rw[B7,a1K,a3X,hL]at h; cases h
theorem s4 (L:List Tok):S6 L.length (E3 L) (fun _=>1):=by
 intro i x j hi h;unfold E3 at h;cases hL:L[i]? with
 | none=>rw[hL]at h; cases h
 | some t =>
  rw[hL]at h;dsimp only at h;split at h
  · cases h;have:=(AB.1 hL).1
    ((try dsimp only at *); omega)
  · cases h
theorem J3 {L:List Tok} {s:List Nat} {i j:Nat} (h:P9 L s i=some j):j=i+1∧j≤L.length:=by
 unfold P9 at h;split at h
 · rename_i e;have:=s8 e;cases h
   ((try dsimp only at *); omega)
 · cases h
theorem H4 {α:Type} {N:Nat} {step:Nat→α→Option (Bool×Nat×α)} {μ:α→Nat} (l:∀ i a b j u,i≤N→step i a=some (b,j,u)→μ u+i≤μ a+j∧i≤j∧j≤N):∀ (f i:Nat) (a x:α) (j:Nat),i≤N→C3 step f i a=some (x,j)→μ x+i≤μ a+j∧i≤j∧j≤N
 | 0,i,a,x,j,_,h=>by cases h
 | f+1,i,a,x,j,hi,h=>by
  rw[C3]at h;cases e:step i a with
  | none=>rw[e]at h; cases h
  | some r =>
   obtain⟨t,v,b⟩:=r;rw[e]at h;cases t with
   | true =>cases h;exact l i a true j x hi e
   | false =>
    obtain⟨z,C,y⟩:=l i a false v b hi e;have:=H4 l f v b x j y h
    ((try dsimp only at *); omega)
theorem b1C (L:List Tok):∀ f,S6 L.length (U9 L f) (fun _=>0)
 | 0=>by intro i x j _ h; rw[U9]at h; cases h
 | f+1=>by
  intro i x j hi h;rw[U9]at h;split at h
  · rename_i v;have:=s8 v;split at h
    · cases h
    · rename_i u i2 l;have a92:=b1C L f _ _ _ (by((try dsimp only at *); omega)) l;split at h
      · cases h
      · rename_i i3 t;have a93:=J3 t;split at h
        · rename_i e; have:=s8 e; cases h; ((try dsimp only at *); omega)
        · cases h; ((try dsimp only at *); omega)
  · split at h
    · cases h
    · rename_i u i2 l;have a92:=s4 L _ _ _ hi l;split at h
      · rename_i e; have:=s8 e; cases h; ((try dsimp only at *); omega)
      · cases h; ((try dsimp only at *); omega)
theorem a5f (L:List Tok) (I:Bool):∀ f,S6 L.length (B2 L I f) (fun _=>0)
 | 0=>by intro i x j _ h; rw[B2]at h; cases h
 | f+1=>by
  have J:=a5f L I f;intro i x j hi h;rw[B2,value1P]at h;cases hL:L[i]? with
  | none=>rw[hL]at h; cases h
  | some t =>
   have e:=(AB.1 hL).1;rw[hL]at h;dsimp only at h;split at h; · cases h; ((try dsimp only at *); omega)
   split at h; · cases h; ((try dsimp only at *); omega)
   split at h; · cases h; ((try dsimp only at *); omega)
   split at h; · cases h; ((try dsimp only at *); omega)
   split at h; · cases h; ((try dsimp only at *); omega)
   split at h; · cases h; ((try dsimp only at *); omega)
   split at h
   · unfold b4m at h;split at h
     · cases h
     · rename_i n M z;have:=s4 L _ _ _ e z;cases h
       ((try dsimp only at *); omega)
   split at h
   · unfold b0k at h;split at h
     · cases h
     · rename_i l M y;have:=H4 (N:=L.length) (μ:=fun _=>0) (fun i a b j O hi h=>by
        unfold a2P at h;split at h
        · rename_i u; have:=s8 u; cases h; ((try dsimp only at *); omega)
        · split at h
          · cases h
          · rename_i v U C;have:=J _ _ _ hi C;cases h; ((try dsimp only at *); omega)) _ _ _ _ _ e y
       cases h
       ((try dsimp only at *); omega)
   split at h
   · unfold b4G at h;split at h
     · cases h
     · rename_i l M y;have:=H4 (N:=L.length) (μ:=fun _=>0) (fun i a b j O hi h=>by
        unfold a2G at h;split at h
        · rename_i u; have:=s8 u; cases h; ((try dsimp only at *); omega)
        · split at h
          · cases h
          · rename_i n i2 z;have a91:=s4 L _ _ _ hi z;split at h
            · cases h
            · rename_i i3 T;have a92:=J3 T;split at h
              · cases h
              · rename_i v U C;have:=J _ _ _ (by((try dsimp only at *); omega)) C;cases h; ((try dsimp only at *); omega)) _ _ _ _ _ e y
       cases h
       ((try dsimp only at *); omega)
   · cases h
theorem b06 (L:List Tok) (f:Nat):S6 L.length (Q4 L f) (fun _=>0):=by
 intro i x j hi h;unfold Q4 at h;split at h
 · rename_i e;have l:=s8 e;obtain⟨y,k,t,u⟩:=bind_some h;have:=H4 (N:=L.length) (μ:=fun _=>0) (fun i a b j z hi h=>by
    unfold X8 at h;split at h
    · rename_i e; simp at e; have:=s8 e.2; cases h; ((try dsimp only at *); omega)
    · obtain⟨n,i2,g1,h⟩:=bind_some h;have a91:=s4 L _ _ _ hi g1;obtain⟨i3,g2,h⟩:=C8 h;have a92:=J3 g2;obtain⟨v,i4,g3,h⟩:=bind_some h;have a93:=a5f L false f _ _ _ a92.2 g3;cases h; ((try dsimp only at *); omega)) _ _ _ _ _ l t
   cases u
   ((try dsimp only at *); omega)
 · cases h; ((try dsimp only at *); omega)
theorem a6Q (L:List Tok) (f:Nat):S6 L.length (a1F L f) (fun _=>0):=by
 intro i x j hi h;have:=H4 (N:=L.length) (μ:=fun _=>0) (fun i a b j t hi h=>by
  unfold a0b at h;split at h
  · rename_i l;have e:=s8 l;obtain⟨n,i2,g1,h⟩:=bind_some h;have a91:=s4 L _ _ _ e g1;obtain⟨v,i4,g3,h⟩:=bind_some h;have a93:=b06 L f _ _ _ a91.2 g3;cases h; ((try dsimp only at *); omega)
  · cases h; ((try dsimp only at *); omega)) _ _ _ _ _ hi h
 ((try dsimp only at *); omega)
theorem c32 (L:List Tok) (f:Nat) {v:Nat→Option (List Sel×Nat)} (z:S6 L.length v sizes):S6 L.length (O9 L f v) Sel.size:=by
 have inl:∀ on,S6 L.length (a2p L f v on) (fun x=>x.size - 1):=by
  intro on i x j hi h;unfold a2p at h;obtain⟨ds,i2,g1,h⟩:=bind_some h;have a91:=a6Q L f _ _ _ hi g1;obtain⟨sub,i3,g2,h⟩:=bind_some h;have a92:=z _ _ _ a91.2 g2;cases h;simp only[H3]
  ((try dsimp only at *); omega)
 intro i x j hi h;have pos:1≤x.size:=by cases x; rw[H3]; ((try dsimp only at *); omega)
 unfold O9 at h;split at h
 · rename_i t;have e:=s8 t;split at h
   · rename_i u;have l:=s8 u;obtain⟨on,i2,g1,h⟩:=bind_some h;have a91:=s4 L _ _ _ l g1;have a92:=inl _ _ _ _ a91.2 h
     ((try dsimp only at *); omega)
   · split at h
     · obtain⟨n,i2,g1,h⟩:=bind_some h;have a91:=s4 L _ _ _ e g1;obtain⟨ds,i3,g2,h⟩:=bind_some h;have a92:=a6Q L f _ _ _ a91.2 g2;cases h;simp only[H3,sizes]
       ((try dsimp only at *); omega)
     · have a92:=inl _ _ _ _ e h
       ((try dsimp only at *); omega)
 · unfold a3J at h;obtain⟨n,i2,g1,h⟩:=bind_some h;have a91:=s4 L _ _ _ hi g1;obtain⟨y,i3,g2,h⟩:=bind_some h;have a92:i2≤i3∧i3≤L.length:=by
    unfold a1a at g2;split at g2
    · rename_i t;have e:=s8 t;obtain⟨m,i4,g3,g2⟩:=bind_some g2;have:=s4 L _ _ _ e g3;cases g2
      ((try dsimp only at *); omega)
    · cases g2; ((try dsimp only at *); omega)
   obtain⟨as,i4,g3,h⟩:=bind_some h;have a93:=b06 L f _ _ _ a92.2 g3;obtain⟨ds,i5,g4,h⟩:=bind_some h;have a94:=a6Q L f _ _ _ a93.2 g4;split at h
   · obtain⟨sub,i6,g5,h⟩:=bind_some h;have a95:=z _ _ _ a94.2 g5;cases h;simp only[H3]
     ((try dsimp only at *); omega)
   · cases h;simp only[H3,sizes]
     ((try dsimp only at *); omega)
theorem a9V (a b:List Sel):sizes (a++b)=sizes a+sizes b:=by
 induction a with
 | nil=>simp[sizes]
 | cons x a e=>rw[List.cons_append,m0,m0,e]; ((try dsimp only at *); omega)
theorem a5U (L:List Tok):∀ f,S6 L.length (t6 L f) sizes
 | 0=>by intro i x j _ h; rw[t6]at h; cases h
 | f+1=>by
  have l:=c32 L f (a5U L f);intro i x j hi h;rw[t6]at h;obtain⟨i2,g1,h⟩:=C8 h;have a91:=J3 g1;have:=H4 (N:=L.length) (μ:=sizes) (fun i a b j t hi h=>by
   unfold X4 at h;obtain⟨y,i3,g2,h⟩:=bind_some h;have a92:=l _ _ _ hi g2;split at h
   · rename_i e; have:=s8 e; cases h; rw[a9V,a4T]; ((try dsimp only at *); omega)
   · cases h; rw[a9V,a4T]; ((try dsimp only at *); omega)) _ _ _ _ _ a91.2 h
  simp only[sizes]at this
  ((try dsimp only at *); omega)
def C4 (l:List Frag):Nat:=j7 l []
def C5:List Op→Nat
 | []=>0
 | o::l=>sizes o.sub+C5 l
theorem b8J (a b:List Op):C5 (a++b)=C5 a+C5 b:=by
 induction a with
 | nil=>simp[C5]
 | cons x a e=>rw[List.cons_append,C5,C5,e]; ((try dsimp only at *); omega)
theorem b65 (a b:List Frag):C4 (a++b)=C4 a+C4 b:=by
 induction a with
 | nil=>simp[C4,j7]
 | cons x a e=>simp only[C4,List.cons_append,j7]at e ⊢; ((try dsimp only at *); omega)
theorem b8j (f:Frag):C4 [f]=1+sizes f.sub:=by simp[C4,j7,l6]
theorem b2u (L:List Tok):S6 L.length (Y8 L) (fun _=>0):=by
 have one:S6 L.length (a4J L) (fun _=>0):=by
  intro i x j hi h;unfold a4J at h;obtain⟨i2,g1,h⟩:=C8 h;have a91:=J3 g1;obtain⟨n,i3,g2,h⟩:=bind_some h;have a92:=s4 L _ _ _ a91.2 g2;obtain⟨i4,g3,h⟩:=C8 h;have a93:=J3 g3;obtain⟨t,i5,g4,h⟩:=bind_some h;have a94:=b1C L 24 _ _ _ a93.2 g4;split at h
  · rename_i l;have e:=s8 l;obtain⟨v,i6,g5,h⟩:=bind_some h;have a95:=a5f L true 24 _ _ _ e g5;cases h; ((try dsimp only at *); omega)
  · cases h; ((try dsimp only at *); omega)
 intro i x j hi h;unfold Y8 at h;split at h
 · rename_i l;have e:=s8 l;obtain⟨v,i2,g1,h⟩:=bind_some h;have a91:=one _ _ _ e g1;have:=H4 (N:=L.length) (μ:=fun _=>0) (fun i a b j u hi h=>by
    unfold a0X at h;split at h
    · rename_i l; have:=s8 l; cases h; ((try dsimp only at *); omega)
    · obtain⟨v,i2,g1,h⟩:=bind_some h;have:=one _ _ _ hi g1;cases h; ((try dsimp only at *); omega)) _ _ _ _ _ a91.2 h
   ((try dsimp only at *); omega)
 · cases h; ((try dsimp only at *); omega)
theorem c1v {L:List Tok} {D:Docm} (h:a6W L=some D):C5 D.ops+C4 D.frags≤L.length:=by
 unfold a6W at h;obtain⟨y,k,t,u⟩:=bind_some h;have:=H4 (N:=L.length) (μ:=fun x:Bool×Docm=>C5 x.2.ops+C4 x.2.frags) (fun i a b j z hi h=>by
  unfold O6 at h;split at h
  · cases h; ((try dsimp only at *); omega)
  · split at h
    · rename_i l;have e:=s8 (L:=L) (i:=i) (s:=[102,114,97,103,109,101,110,116]) (by rw[B7,l,Bool.or_true]);obtain⟨f,i2,g1,h⟩:=bind_some h;unfold a1P at g1;split at g1
      · cases g1
      · obtain⟨n,i3,g2,g1⟩:=bind_some g1;have a91:=s4 L _ _ _ e g2;obtain⟨i4,g3,g1⟩:=C8 g1;have a92:=J3 g3;obtain⟨on,i5,g4,g1⟩:=bind_some g1;have a93:=s4 L _ _ _ a92.2 g4;obtain⟨sub,i6,g5,g1⟩:=bind_some g1;have a94:=a5U L 24 _ _ _ a93.2 g5;cases g1;cases h;simp only[b65,b8j]
        ((try dsimp only at *); omega)
    · obtain⟨o,i2,g1,h⟩:=bind_some h;have key:sizes o.sub+i≤i2∧i2≤L.length:=by
       unfold opP at g1;split at g1
       · obtain⟨sub,i6,g5,g1⟩:=bind_some g1;have a94:=a5U L 24 _ _ _ hi g5;cases g1;exact a94
       · obtain⟨m,i3,g2,g1⟩:=bind_some g1;have a91:i≤i3∧i3≤L.length:=by
          unfold a4v at g2;split at g2
          · rename_i v; have:=s8 v; cases g2; ((try dsimp only at *); omega)
          · obtain⟨i4,g3,g2⟩:=C8 g2;unfold a5P at g3;split at g3
            · rename_i l;have:=s8 (L:=L) (i:=i) (s:=[113,117,101,114,121]) (by rw[B7,l,Bool.or_true]);cases g3;cases g2
              ((try dsimp only at *); omega)
            · cases g3
         obtain⟨n,i4,g3,g1⟩:=bind_some g1;have a92:i3≤i4∧i4≤L.length:=by
          unfold a1g at g3;split at g3
          · have:=s4 L _ _ _ a91.2 g3; ((try dsimp only at *); omega)
          · cases g3; ((try dsimp only at *); omega)
         obtain⟨vs,i5,g4,g1⟩:=bind_some g1;have a93:=b2u L _ _ _ a92.2 g4;obtain⟨sub,i6,g5,g1⟩:=bind_some g1;have a94:=a5U L 24 _ _ _ a93.2 g5;cases g1;dsimp only
         ((try dsimp only at *); omega)
      cases h;simp only[b8J,C5]
      ((try dsimp only at *); omega)) _ _ _ _ _ (Aa _) t
 cases u;simp only[C5,C4,j7]at this ⊢
 ((try dsimp only at *); omega)
end Go.Cb.CodeA
