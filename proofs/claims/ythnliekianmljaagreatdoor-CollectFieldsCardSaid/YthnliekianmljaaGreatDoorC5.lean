import Derived.Test.YthnliekianmljaaGreatDoorS1
set_option maxRecDepth 20000
set_option linter.unusedSimpArgs false
set_option linter.unusedVariables false
namespace Go.Cb.CodeA
open Go Go.Cb

/-! how much is read: as many selections as tokens, at most -/
def a0D {α:Type} (N:Nat) (p:Nat→Option (α×Nat)) (μ:α→Nat):Prop:=∀ i x j,i≤N→p i=some (x,j)→μ x+i≤j∧j≤N
theorem p8 {L:List Tok} {i:Nat} {s:List Nat} (h:s8 L i s=true):i < L.length:=by
 cases hL:L[i]? with
 | some t=>exact (List.getElem?_eq_some_iff.1 hL).1
 | none=>rw [s8,Z6,a1E,hL] at h; cases h
theorem C1 (L:List Tok):a0D L.length (t7 L) (fun _=>1):=by
 intro i x j hi h
 unfold t7 at h
 cases hL:L[i]? with
 | none=>rw [hL] at h; cases h
 | some t =>
  rw [hL] at h
  dsimp only at h
  split at h
  · cases h
    have:=(List.getElem?_eq_some_iff.1 hL).1
    ((try dsimp only at *); omega)
  · cases h
theorem C0 {L:List Tok} {s:List Nat} {i j:Nat} (h:K2 L s i=some j):j=i+1∧j≤L.length:=by
 unfold K2 at h
 split at h
 · rename_i he
   have:=p8 he
   cases h
   ((try dsimp only at *); omega)
 · cases h
theorem M9 {α:Type} {N:Nat} {step:Nat→α→Option (Bool×Nat×α)} {μ:α→Nat} (hs:∀ i a b j a',i≤N→step i a=some (b,j,a')→μ a'+i≤μ a+j∧i≤j∧j≤N):∀ (f i:Nat) (a x:α) (j:Nat),i≤N→t8 step f i a=some (x,j)→μ x+i≤μ a+j∧i≤j∧j≤N
 | 0,i,a,x,j,_,h=>by cases h
 | f+1,i,a,x,j,hi,h=>by
  rw [t8] at h
  cases hb:step i a with
  | none=>rw [hb] at h; cases h
  | some r =>
   obtain ⟨t,j',b⟩:=r
   rw [hb] at h
   cases t with
   | true =>
    cases h
    exact hs i a true j x hi hb
   | false =>
    obtain ⟨h1,h2,h3⟩:=hs i a false j' b hi hb
    have:=M9 hs f j' b x j h3 h
    ((try dsimp only at *); omega)
theorem a4L (L:List Tok):∀ f,a0D L.length (P0 L f) (fun _=>0)
 | 0=>by intro i x j _ h; rw [P0] at h; cases h
 | f+1=>by
  intro i x j hi h
  rw [P0] at h
  split at h
  · rename_i he
    have:=p8 he
    split at h
    · cases h
    · rename_i u i2 h2
      have a2:=a4L L f _ _ _ (by ((try dsimp only at *); omega)) h2
      split at h
      · cases h
      · rename_i i3 h3
        have a3:=C0 h3
        split at h
        · rename_i he2; have:=p8 he2; cases h; ((try dsimp only at *); omega)
        · cases h; ((try dsimp only at *); omega)
  · split at h
    · cases h
    · rename_i u i2 h2
      have a2:=C1 L _ _ _ hi h2
      split at h
      · rename_i he2; have:=p8 he2; cases h; ((try dsimp only at *); omega)
      · cases h; ((try dsimp only at *); omega)
theorem a2T (L:List Tok) (fx:Bool):∀ f,a0D L.length (t9 L fx f) (fun _=>0)
 | 0=>by intro i x j _ h; rw [t9] at h; cases h
 | f+1=>by
  have ih:=a2T L fx f
  intro i x j hi h
  rw [t9,value1P] at h
  cases hL:L[i]? with
  | none=>rw [hL] at h; cases h
  | some t =>
   have hlt:=(List.getElem?_eq_some_iff.1 hL).1
   rw [hL] at h
   dsimp only at h
   split at h; · cases h; ((try dsimp only at *); omega)
   split at h; · cases h; ((try dsimp only at *); omega)
   split at h; · cases h; ((try dsimp only at *); omega)
   split at h; · cases h; ((try dsimp only at *); omega)
   split at h; · cases h; ((try dsimp only at *); omega)
   split at h; · cases h; ((try dsimp only at *); omega)
   split at h
   · unfold b6U at h
     split at h
     · cases h
     · rename_i n j' hn
       have:=C1 L _ _ _ hlt hn
       cases h
       ((try dsimp only at *); omega)
   split at h
   · unfold b3w at h
     split at h
     · cases h
     · rename_i l j' hl
       have:=M9 (N:=L.length) (μ:=fun _=>0) (fun i a b j a' hi h=>by
        unfold a1r at h
        split at h
        · rename_i he; have:=p8 he; cases h; ((try dsimp only at *); omega)
        · split at h
          · cases h
          · rename_i v j2 hv
            have:=ih _ _ _ hi hv
            cases h; ((try dsimp only at *); omega)) _ _ _ _ _ hlt hl
       cases h
       ((try dsimp only at *); omega)
   split at h
   · unfold b6N at h
     split at h
     · cases h
     · rename_i l j' hl
       have:=M9 (N:=L.length) (μ:=fun _=>0) (fun i a b j a' hi h=>by
        unfold a1U at h
        split at h
        · rename_i he; have:=p8 he; cases h; ((try dsimp only at *); omega)
        · split at h
          · cases h
          · rename_i n i2 hn
            have a1:=C1 L _ _ _ hi hn
            split at h
            · cases h
            · rename_i i3 hm
              have a2:=C0 hm
              split at h
              · cases h
              · rename_i v j2 hv
                have:=ih _ _ _ (by ((try dsimp only at *); omega)) hv
                cases h; ((try dsimp only at *); omega)) _ _ _ _ _ hlt hl
       cases h
       ((try dsimp only at *); omega)
   · cases h
theorem a9O (L:List Tok) (f:Nat):a0D L.length (P3 L f) (fun _=>0):=by
 intro i x j hi h
 unfold P3 at h
 split at h
 · rename_i he
   have hlt:=p8 he
   obtain ⟨y,k,h1,h2⟩:=bind_some h
   have:=M9 (N:=L.length) (μ:=fun _=>0) (fun i a b j a' hi h=>by
    unfold R3 at h
    split at h
    · rename_i he; simp at he; have:=p8 he.2; cases h; ((try dsimp only at *); omega)
    · obtain ⟨n,i2,g1,h⟩:=bind_some h
      have a1:=C1 L _ _ _ hi g1
      obtain ⟨i3,g2,h⟩:=w8 h
      have a2:=C0 g2
      obtain ⟨v,i4,g3,h⟩:=bind_some h
      have a3:=a2T L false f _ _ _ a2.2 g3
      cases h; ((try dsimp only at *); omega)) _ _ _ _ _ hlt h1
   cases h2
   ((try dsimp only at *); omega)
 · cases h; ((try dsimp only at *); omega)
theorem a4A (L:List Tok) (f:Nat):a0D L.length (Z0 L f) (fun _=>0):=by
 intro i x j hi h
 have:=M9 (N:=L.length) (μ:=fun _=>0) (fun i a b j a' hi h=>by
  unfold R1 at h
  split at h
  · rename_i he
    have hlt:=p8 he
    obtain ⟨n,i2,g1,h⟩:=bind_some h
    have a1:=C1 L _ _ _ hlt g1
    obtain ⟨v,i4,g3,h⟩:=bind_some h
    have a3:=a9O L f _ _ _ a1.2 g3
    cases h; ((try dsimp only at *); omega)
  · cases h; ((try dsimp only at *); omega)) _ _ _ _ _ hi h
 ((try dsimp only at *); omega)
theorem c1s (L:List Tok) (f:Nat) {sP:Nat→Option (List Sel×Nat)} (hs:a0D L.length sP m3):a0D L.length (I7 L f sP) Sel.size:=by
 have inl:∀ on,a0D L.length (a0n L f sP on) (fun x=>x.size - 1):=by
  intro on i x j hi h
  unfold a0n at h
  obtain ⟨ds,i2,g1,h⟩:=bind_some h
  have a1:=a4A L f _ _ _ hi g1
  obtain ⟨sub,i3,g2,h⟩:=bind_some h
  have a2:=hs _ _ _ a1.2 g2
  cases h
  simp only [P1]
  ((try dsimp only at *); omega)
 intro i x j hi h
 have pos:1≤x.size:=by cases x; rw [P1]; ((try dsimp only at *); omega)
 unfold I7 at h
 split at h
 · rename_i he
   have hlt:=p8 he
   split at h
   · rename_i he2
     have hlt2:=p8 he2
     obtain ⟨on,i2,g1,h⟩:=bind_some h
     have a1:=C1 L _ _ _ hlt2 g1
     have a2:=inl _ _ _ _ a1.2 h
     ((try dsimp only at *); omega)
   · split at h
     · obtain ⟨n,i2,g1,h⟩:=bind_some h
       have a1:=C1 L _ _ _ hlt g1
       obtain ⟨ds,i3,g2,h⟩:=bind_some h
       have a2:=a4A L f _ _ _ a1.2 g2
       cases h
       simp only [P1,m3]
       ((try dsimp only at *); omega)
     · have a2:=inl _ _ _ _ hlt h
       ((try dsimp only at *); omega)
 · unfold a06 at h
   obtain ⟨n,i2,g1,h⟩:=bind_some h
   have a1:=C1 L _ _ _ hi g1
   obtain ⟨y,i3,g2,h⟩:=bind_some h
   have a2:i2≤i3∧i3≤L.length:=by
    unfold W2 at g2
    split at g2
    · rename_i he
      have hlt:=p8 he
      obtain ⟨m,i4,g3,g2⟩:=bind_some g2
      have:=C1 L _ _ _ hlt g3
      cases g2
      ((try dsimp only at *); omega)
    · cases g2; ((try dsimp only at *); omega)
   obtain ⟨as,i4,g3,h⟩:=bind_some h
   have a3:=a9O L f _ _ _ a2.2 g3
   obtain ⟨ds,i5,g4,h⟩:=bind_some h
   have a4:=a4A L f _ _ _ a3.2 g4
   split at h
   · obtain ⟨sub,i6,g5,h⟩:=bind_some h
     have a5:=hs _ _ _ a4.2 g5
     cases h
     simp only [P1]
     ((try dsimp only at *); omega)
   · cases h
     simp only [P1,m3]
     ((try dsimp only at *); omega)
theorem a7N (a b:List Sel):m3 (a++b)=m3 a+m3 b:=by
 induction a with
 | nil=>simp [m3]
 | cons x a ih=>rw [List.cons_append,x9,x9,ih]; ((try dsimp only at *); omega)
theorem a3o (L:List Tok):∀ f,a0D L.length (q9 L f) m3
 | 0=>by intro i x j _ h; rw [q9] at h; cases h
 | f+1=>by
  have ih:=c1s L f (a3o L f)
  intro i x j hi h
  rw [q9] at h
  obtain ⟨i2,g1,h⟩:=w8 h
  have a1:=C0 g1
  have:=M9 (N:=L.length) (μ:=m3) (fun i a b j a' hi h=>by
   unfold O1 at h
   obtain ⟨y,i3,g2,h⟩:=bind_some h
   have a2:=ih _ _ _ hi g2
   split at h
   · rename_i he; have:=p8 he; cases h; rw [a7N,a2K]; ((try dsimp only at *); omega)
   · cases h; rw [a7N,a2K]; ((try dsimp only at *); omega)) _ _ _ _ _ a1.2 h
  simp only [m3] at this
  ((try dsimp only at *); omega)
def D4 (l:List Frag):Nat:=m2 l []
def K3:List Op→Nat
 | []=>0
 | o::l=>m3 o.sub+K3 l
theorem b6a (a b:List Op):K3 (a++b)=K3 a+K3 b:=by
 induction a with
 | nil=>simp [K3]
 | cons x a ih=>rw [List.cons_append,K3,K3,ih]; ((try dsimp only at *); omega)
theorem b4z {l:List Op} {o:Op} (h:o∈l):m3 o.sub≤K3 l:=by
 induction l with
 | nil=>cases h
 | cons x l ih =>
  rw [K3]
  rcases List.mem_cons.1 h with rfl|h
  · ((try dsimp only at *); omega)
  · have:=ih h; ((try dsimp only at *); omega)
theorem b6c (a b:List Frag):D4 (a++b)=D4 a+D4 b:=by
 induction a with
 | nil=>simp [D4,m2]
 | cons x a ih=>simp only [D4,List.cons_append,m2] at ih ⊢; ((try dsimp only at *); omega)
theorem b5h (f:Frag):D4 [f]=1+m3 f.sub:=by simp [D4,m2,o9]
theorem b6W (L:List Tok):a0D L.length (S0 L) (fun _=>0):=by
 have one:a0D L.length (a2D L) (fun _=>0):=by
  intro i x j hi h
  unfold a2D at h
  obtain ⟨i2,g1,h⟩:=w8 h
  have a1:=C0 g1
  obtain ⟨n,i3,g2,h⟩:=bind_some h
  have a2:=C1 L _ _ _ a1.2 g2
  obtain ⟨i4,g3,h⟩:=w8 h
  have a3:=C0 g3
  obtain ⟨t,i5,g4,h⟩:=bind_some h
  have a4:=a4L L 24 _ _ _ a3.2 g4
  split at h
  · rename_i he
    have hlt:=p8 he
    obtain ⟨v,i6,g5,h⟩:=bind_some h
    have a5:=a2T L true 24 _ _ _ hlt g5
    cases h; ((try dsimp only at *); omega)
  · cases h; ((try dsimp only at *); omega)
 intro i x j hi h
 unfold S0 at h
 split at h
 · rename_i he
   have hlt:=p8 he
   obtain ⟨v,i2,g1,h⟩:=bind_some h
   have a1:=one _ _ _ hlt g1
   have:=M9 (N:=L.length) (μ:=fun _=>0) (fun i a b j a' hi h=>by
    unfold U4 at h
    split at h
    · rename_i he; have:=p8 he; cases h; ((try dsimp only at *); omega)
    · obtain ⟨v,i2,g1,h⟩:=bind_some h
      have:=one _ _ _ hi g1
      cases h; ((try dsimp only at *); omega)) _ _ _ _ _ a1.2 h
   ((try dsimp only at *); omega)
 · cases h; ((try dsimp only at *); omega)
theorem b7m {L:List Tok} {D:Docm} (h:a0u L=some D):K3 D.ops+D4 D.frags≤L.length:=by
 unfold a0u at h
 obtain ⟨y,k,h1,h2⟩:=bind_some h
 have:=M9 (N:=L.length) (μ:=fun x:Bool×Docm=>K3 x.2.ops+D4 x.2.frags) (fun i a b j a' hi h=>by
  unfold G5 at h
  split at h
  · cases h; ((try dsimp only at *); omega)
  · split at h
    · rename_i hw
      have hlt:=p8 (L:=L) (i:=i) (s:=[102,114,97,103,109,101,110,116]) (by rw [s8,hw,Bool.or_true])
      obtain ⟨f,i2,g1,h⟩:=bind_some h
      unfold Y8 at g1
      split at g1
      · cases g1
      · obtain ⟨n,i3,g2,g1⟩:=bind_some g1
        have a1:=C1 L _ _ _ hlt g2
        obtain ⟨i4,g3,g1⟩:=w8 g1
        have a2:=C0 g3
        obtain ⟨on,i5,g4,g1⟩:=bind_some g1
        have a3:=C1 L _ _ _ a2.2 g4
        obtain ⟨sub,i6,g5,g1⟩:=bind_some g1
        have a4:=a3o L 24 _ _ _ a3.2 g5
        cases g1
        cases h
        simp only [b6c,b5h]
        ((try dsimp only at *); omega)
    · obtain ⟨o,i2,g1,h⟩:=bind_some h
      have key:m3 o.sub+i≤i2∧i2≤L.length:=by
       unfold opP at g1
       split at g1
       · obtain ⟨sub,i6,g5,g1⟩:=bind_some g1
         have a4:=a3o L 24 _ _ _ hi g5
         cases g1
         exact a4
       · obtain ⟨m,i3,g2,g1⟩:=bind_some g1
         have a1:i≤i3∧i3≤L.length:=by
          unfold a1w at g2
          split at g2
          · rename_i he; have:=p8 he; cases g2; ((try dsimp only at *); omega)
          · obtain ⟨i4,g3,g2⟩:=w8 g2
            unfold a2V at g3
            split at g3
            · rename_i hw
              have:=p8 (L:=L) (i:=i) (s:=[113,117,101,114,121]) (by rw [s8,hw,Bool.or_true])
              cases g3
              cases g2
              ((try dsimp only at *); omega)
            · cases g3
         obtain ⟨n,i4,g3,g1⟩:=bind_some g1
         have a2:i3≤i4∧i4≤L.length:=by
          unfold W3 at g3
          split at g3
          · have:=C1 L _ _ _ a1.2 g3; ((try dsimp only at *); omega)
          · cases g3; ((try dsimp only at *); omega)
         obtain ⟨vs,i5,g4,g1⟩:=bind_some g1
         have a3:=b6W L _ _ _ a2.2 g4
         obtain ⟨sub,i6,g5,g1⟩:=bind_some g1
         have a4:=a3o L 24 _ _ _ a3.2 g5
         cases g1
         dsimp only
         ((try dsimp only at *); omega)
      cases h
      simp only [b6a,K3]
      ((try dsimp only at *); omega)) _ _ _ _ _ (Nat.zero_le _) h1
 cases h2
 simp only [K3,D4,m2] at this ⊢
 ((try dsimp only at *); omega)
end Go.Cb.CodeA
