import Derived.Test.YtbibkdncfclnbaaGreatDoorS1
set_option maxRecDepth 20000
set_option linter.all false
namespace Go.Cb.CodeA
open Go Go.Cb
def T5 {α:Type} (N:Nat) (p:Nat→Option (α×Nat)) (μ:α→Nat):Prop:=∀ i x j,i≤N→p i=some (x,j)→μ x+i≤j∧j≤N
theorem s8 {L:List Tok} {i:Nat} {s:List Nat} (h:C0 L i s=true):i < L.length:=by
 cases hL:L[i]? with
 | some t=>exact(AB.1 hL).1
 | none=>rw[C0,a2a,a4y,hL]at h; cases h
theorem s6 (L:List Tok):T5 L.length (E6 L) (fun _=>1):=by
 intro i x j hi h;unfold E6 at h;cases hL:L[i]? with
 | none=>rw[hL]at h; cases h
 | some t =>
  rw[hL]at h;dsimp only at h;split at h
  · cases h;have:=(AB.1 hL).1
    ((try dsimp only at *); omega)
  · cases h
theorem K2 {L:List Tok} {s:List Nat} {i j:Nat} (h:R7 L s i=some j):j=i+1∧j≤L.length:=by
 unfold R7 at h;split at h
 · rename_i e;have:=s8 e;cases h
   ((try dsimp only at *); omega)
 · cases h
theorem I0 {α:Type} {N:Nat} {step:Nat→α→Option (Bool×Nat×α)} {μ:α→Nat} (l:∀ i a b j u,i≤N→step i a=some (b,j,u)→μ u+i≤μ a+j∧i≤j∧j≤N):∀ (f i:Nat) (a x:α) (j:Nat),i≤N→C7 step f i a=some (x,j)→μ x+i≤μ a+j∧i≤j∧j≤N
 | 0,i,a,x,j,_,h=>by cases h
 | f+1,i,a,x,j,hi,h=>by
  rw[C7]at h;cases e:step i a with
  | none=>rw[e]at h; cases h
  | some r =>
   obtain⟨t,v,b⟩:=r;rw[e]at h;cases t with
   | true =>cases h;exact l i a true j x hi e
   | false =>
    obtain⟨z,C,y⟩:=l i a false v b hi e;have:=I0 l f v b x j y h
    ((try dsimp only at *); omega)
theorem b13 (L:List Tok):∀ f,T5 L.length (Y6 L f) (fun _=>0)
 | 0=>by intro i x j _ h; rw[Y6]at h; cases h
 | f+1=>by
  intro i x j hi h;rw[Y6]at h;split at h
  · rename_i v;have:=s8 v;split at h
    · cases h
    · rename_i u i2 l;have a92:=b13 L f _ _ _ (by((try dsimp only at *); omega)) l;split at h
      · cases h
      · rename_i i3 t;have a93:=K2 t;split at h
        · rename_i e; have:=s8 e; cases h; ((try dsimp only at *); omega)
        · cases h; ((try dsimp only at *); omega)
  · split at h
    · cases h
    · rename_i u i2 l;have a92:=s6 L _ _ _ hi l;split at h
      · rename_i e; have:=s8 e; cases h; ((try dsimp only at *); omega)
      · cases h; ((try dsimp only at *); omega)
theorem a5t (L:List Tok) (I:Bool):∀ f,T5 L.length (B7 L I f) (fun _=>0)
 | 0=>by intro i x j _ h; rw[B7]at h; cases h
 | f+1=>by
  have J:=a5t L I f;intro i x j hi h;rw[B7,value1P]at h;cases hL:L[i]? with
  | none=>rw[hL]at h; cases h
  | some t =>
   have e:=(AB.1 hL).1;rw[hL]at h;dsimp only at h;split at h; · cases h; ((try dsimp only at *); omega)
   split at h; · cases h; ((try dsimp only at *); omega)
   split at h; · cases h; ((try dsimp only at *); omega)
   split at h; · cases h; ((try dsimp only at *); omega)
   split at h; · cases h; ((try dsimp only at *); omega)
   split at h; · cases h; ((try dsimp only at *); omega)
   split at h
   · unfold b6a at h;split at h
     · cases h
     · rename_i n M z;have:=s6 L _ _ _ e z;cases h
       ((try dsimp only at *); omega)
   split at h
   · unfold b0L at h;split at h
     · cases h
     · rename_i l M y;have:=I0 (N:=L.length) (μ:=fun _=>0) (fun i a b j O hi h=>by
        unfold a2Q at h;split at h
        · rename_i u; have:=s8 u; cases h; ((try dsimp only at *); omega)
        · split at h
          · cases h
          · rename_i v U C;have:=J _ _ _ hi C;cases h; ((try dsimp only at *); omega)) _ _ _ _ _ e y
       cases h
       ((try dsimp only at *); omega)
   split at h
   · unfold b4V at h;split at h
     · cases h
     · rename_i l M y;have:=I0 (N:=L.length) (μ:=fun _=>0) (fun i a b j O hi h=>by
        unfold a2P at h;split at h
        · rename_i u; have:=s8 u; cases h; ((try dsimp only at *); omega)
        · split at h
          · cases h
          · rename_i n i2 z;have a91:=s6 L _ _ _ hi z;split at h
            · cases h
            · rename_i i3 T;have a92:=K2 T;split at h
              · cases h
              · rename_i v U C;have:=J _ _ _ (by((try dsimp only at *); omega)) C;cases h; ((try dsimp only at *); omega)) _ _ _ _ _ e y
       cases h
       ((try dsimp only at *); omega)
   · cases h
theorem b0V (L:List Tok) (f:Nat):T5 L.length (R6 L f) (fun _=>0):=by
 intro i x j hi h;unfold R6 at h;split at h
 · rename_i e;have l:=s8 e;obtain⟨y,k,t,u⟩:=bind_some h;have:=I0 (N:=L.length) (μ:=fun _=>0) (fun i a b j z hi h=>by
    unfold Y1 at h;split at h
    · rename_i e; simp at e; have:=s8 e.2; cases h; ((try dsimp only at *); omega)
    · obtain⟨n,i2,g1,h⟩:=bind_some h;have a91:=s6 L _ _ _ hi g1;obtain⟨i3,g2,h⟩:=D0 h;have a92:=K2 g2;obtain⟨v,i4,g3,h⟩:=bind_some h;have a93:=a5t L false f _ _ _ a92.2 g3;cases h; ((try dsimp only at *); omega)) _ _ _ _ _ l t
   cases u
   ((try dsimp only at *); omega)
 · cases h; ((try dsimp only at *); omega)
theorem a7o (L:List Tok) (f:Nat):T5 L.length (a1W L f) (fun _=>0):=by
 intro i x j hi h;have:=I0 (N:=L.length) (μ:=fun _=>0) (fun i a b j t hi h=>by
  unfold a0g at h;split at h
  · rename_i l;have e:=s8 l;obtain⟨n,i2,g1,h⟩:=bind_some h;have a91:=s6 L _ _ _ e g1;obtain⟨v,i4,g3,h⟩:=bind_some h;have a93:=b0V L f _ _ _ a91.2 g3;cases h; ((try dsimp only at *); omega)
  · cases h; ((try dsimp only at *); omega)) _ _ _ _ _ hi h
 ((try dsimp only at *); omega)
theorem c4N (L:List Tok) (f:Nat) {v:Nat→Option (List Sel×Nat)} (z:T5 L.length v sizes):T5 L.length (O8 L f v) Sel.size:=by
 have inl:∀ on,T5 L.length (a2D L f v on) (fun x=>x.size - 1):=by
  intro on i x j hi h;unfold a2D at h;obtain⟨ds,i2,g1,h⟩:=bind_some h;have a91:=a7o L f _ _ _ hi g1;obtain⟨sub,i3,g2,h⟩:=bind_some h;have a92:=z _ _ _ a91.2 g2;cases h;simp only[I1]
  ((try dsimp only at *); omega)
 intro i x j hi h;have pos:1≤x.size:=by cases x; rw[I1]; ((try dsimp only at *); omega)
 unfold O8 at h;split at h
 · rename_i t;have e:=s8 t;split at h
   · rename_i u;have l:=s8 u;obtain⟨on,i2,g1,h⟩:=bind_some h;have a91:=s6 L _ _ _ l g1;have a92:=inl _ _ _ _ a91.2 h
     ((try dsimp only at *); omega)
   · split at h
     · obtain⟨n,i2,g1,h⟩:=bind_some h;have a91:=s6 L _ _ _ e g1;obtain⟨ds,i3,g2,h⟩:=bind_some h;have a92:=a7o L f _ _ _ a91.2 g2;cases h;simp only[I1,sizes]
       ((try dsimp only at *); omega)
     · have a92:=inl _ _ _ _ e h
       ((try dsimp only at *); omega)
 · unfold a3T at h;obtain⟨n,i2,g1,h⟩:=bind_some h;have a91:=s6 L _ _ _ hi g1;obtain⟨y,i3,g2,h⟩:=bind_some h;have a92:i2≤i3∧i3≤L.length:=by
    unfold a1l at g2;split at g2
    · rename_i t;have e:=s8 t;obtain⟨m,i4,g3,g2⟩:=bind_some g2;have:=s6 L _ _ _ e g3;cases g2
      ((try dsimp only at *); omega)
    · cases g2; ((try dsimp only at *); omega)
   obtain⟨as,i4,g3,h⟩:=bind_some h;have a93:=b0V L f _ _ _ a92.2 g3;obtain⟨ds,i5,g4,h⟩:=bind_some h;have a94:=a7o L f _ _ _ a93.2 g4;split at h
   · obtain⟨sub,i6,g5,h⟩:=bind_some h;have a95:=z _ _ _ a94.2 g5;cases h;simp only[I1]
     ((try dsimp only at *); omega)
   · cases h;simp only[I1,sizes]
     ((try dsimp only at *); omega)
theorem b0c (a b:List Sel):sizes (a++b)=sizes a+sizes b:=by
 induction a with
 | nil=>simp[sizes]
 | cons x a e=>rw[List.cons_append,m0,m0,e]; ((try dsimp only at *); omega)
theorem a6j (L:List Tok):∀ f,T5 L.length (t6 L f) sizes
 | 0=>by intro i x j _ h; rw[t6]at h; cases h
 | f+1=>by
  have l:=c4N L f (a6j L f);intro i x j hi h;rw[t6]at h;obtain⟨i2,g1,h⟩:=D0 h;have a91:=K2 g1;have:=I0 (N:=L.length) (μ:=sizes) (fun i a b j t hi h=>by
   unfold W9 at h;obtain⟨y,i3,g2,h⟩:=bind_some h;have a92:=l _ _ _ hi g2;split at h
   · rename_i e; have:=s8 e; cases h; rw[b0c,a5i]; ((try dsimp only at *); omega)
   · cases h; rw[b0c,a5i]; ((try dsimp only at *); omega)) _ _ _ _ _ a91.2 h
  simp only[sizes]at this
  ((try dsimp only at *); omega)
def C6 (l:List Frag):Nat:=j7 l []
def C8:List Op→Nat
 | []=>0
 | o::l=>sizes o.sub+C8 l
theorem b7L (a b:List Op):C8 (a++b)=C8 a+C8 b:=by
 induction a with
 | nil=>simp[C8]
 | cons x a e=>rw[List.cons_append,C8,C8,e]; ((try dsimp only at *); omega)
theorem b9i (a b:List Frag):C6 (a++b)=C6 a+C6 b:=by
 induction a with
 | nil=>simp[C6,j7]
 | cons x a e=>simp only[C6,List.cons_append,j7]at e ⊢; ((try dsimp only at *); omega)
theorem b7a (f:Frag):C6 [f]=1+sizes f.sub:=by simp[C6,j7,k9]
theorem b1g (L:List Tok):T5 L.length (a0b L) (fun _=>0):=by
 have one:T5 L.length (a5J L) (fun _=>0):=by
  intro i x j hi h;unfold a5J at h;obtain⟨i2,g1,h⟩:=D0 h;have a91:=K2 g1;obtain⟨n,i3,g2,h⟩:=bind_some h;have a92:=s6 L _ _ _ a91.2 g2;obtain⟨i4,g3,h⟩:=D0 h;have a93:=K2 g3;obtain⟨t,i5,g4,h⟩:=bind_some h;have a94:=b13 L 24 _ _ _ a93.2 g4;split at h
  · rename_i l;have e:=s8 l;obtain⟨v,i6,g5,h⟩:=bind_some h;have a95:=a5t L true 24 _ _ _ e g5;cases h; ((try dsimp only at *); omega)
  · cases h; ((try dsimp only at *); omega)
 intro i x j hi h;unfold a0b at h;split at h
 · rename_i l;have e:=s8 l;obtain⟨v,i2,g1,h⟩:=bind_some h;have a91:=one _ _ _ e g1;have:=I0 (N:=L.length) (μ:=fun _=>0) (fun i a b j u hi h=>by
    unfold a08 at h;split at h
    · rename_i l; have:=s8 l; cases h; ((try dsimp only at *); omega)
    · obtain⟨v,i2,g1,h⟩:=bind_some h;have:=one _ _ _ hi g1;cases h; ((try dsimp only at *); omega)) _ _ _ _ _ a91.2 h
   ((try dsimp only at *); omega)
 · cases h; ((try dsimp only at *); omega)
theorem c1p {L:List Tok} {D:Docm} (h:a7f L=some D):C8 D.ops+C6 D.frags≤L.length:=by
 unfold a7f at h;obtain⟨y,k,t,u⟩:=bind_some h;have:=I0 (N:=L.length) (μ:=fun x:Bool×Docm=>C8 x.2.ops+C6 x.2.frags) (fun i a b j z hi h=>by
  unfold Q1 at h;split at h
  · cases h; ((try dsimp only at *); omega)
  · split at h
    · rename_i l;have e:=s8 (L:=L) (i:=i) (s:=[102,114,97,103,109,101,110,116]) (by rw[C0,l,Bool.or_true]);obtain⟨f,i2,g1,h⟩:=bind_some h;unfold a1Z at g1;split at g1
      · cases g1
      · obtain⟨n,i3,g2,g1⟩:=bind_some g1;have a91:=s6 L _ _ _ e g2;obtain⟨i4,g3,g1⟩:=D0 g1;have a92:=K2 g3;obtain⟨on,i5,g4,g1⟩:=bind_some g1;have a93:=s6 L _ _ _ a92.2 g4;obtain⟨sub,i6,g5,g1⟩:=bind_some g1;have a94:=a6j L 24 _ _ _ a93.2 g5;cases g1;cases h;simp only[b9i,b7a]
        ((try dsimp only at *); omega)
    · obtain⟨o,i2,g1,h⟩:=bind_some h;have key:sizes o.sub+i≤i2∧i2≤L.length:=by
       unfold opP at g1;split at g1
       · obtain⟨sub,i6,g5,g1⟩:=bind_some g1;have a94:=a6j L 24 _ _ _ hi g5;cases g1;exact a94
       · obtain⟨m,i3,g2,g1⟩:=bind_some g1;have a91:i≤i3∧i3≤L.length:=by
          unfold a4P at g2;split at g2
          · rename_i v; have:=s8 v; cases g2; ((try dsimp only at *); omega)
          · obtain⟨i4,g3,g2⟩:=D0 g2;unfold a5Y at g3;split at g3
            · rename_i l;have:=s8 (L:=L) (i:=i) (s:=[113,117,101,114,121]) (by rw[C0,l,Bool.or_true]);cases g3;cases g2
              ((try dsimp only at *); omega)
            · cases g3
         obtain⟨n,i4,g3,g1⟩:=bind_some g1;have a92:i3≤i4∧i4≤L.length:=by
          unfold a1s at g3;split at g3
          · have:=s6 L _ _ _ a91.2 g3; ((try dsimp only at *); omega)
          · cases g3; ((try dsimp only at *); omega)
         obtain⟨vs,i5,g4,g1⟩:=bind_some g1;have a93:=b1g L _ _ _ a92.2 g4;obtain⟨sub,i6,g5,g1⟩:=bind_some g1;have a94:=a6j L 24 _ _ _ a93.2 g5;cases g1;dsimp only
         ((try dsimp only at *); omega)
      cases h;simp only[b7L,C8]
      ((try dsimp only at *); omega)) _ _ _ _ _ (Aa _) t
 cases u;simp only[C8,C6,j7]at this ⊢
 ((try dsimp only at *); omega)
end Go.Cb.CodeA
