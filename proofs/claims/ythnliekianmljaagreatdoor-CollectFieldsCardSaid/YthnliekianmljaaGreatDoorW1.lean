import Derived.Test.YthnliekianmljaaGreatDoorC5
set_option maxRecDepth 20000
set_option linter.unusedSimpArgs false
set_option linter.unusedVariables false
namespace Go.Cb.CodeA
open Go Go.Cb

/-! how long a text is, at most, into which a thing is written out: so many bytes for each token -/
def wS {α:Type} (f:α→Nat):List α→Nat
 | []=>0
 | x::l=>f x+wS f l
theorem j5 {α:Type} (f:α→Nat) (a b:List α):wS f (a++b)=wS f a+wS f b:=by
 induction a with
 | nil=>simp [wS]
 | cons x a ih=>rw [List.cons_append,wS,wS,ih]; omega
theorem j7 {α:Type} (f:α→Nat) (x:α):wS f [x]=f x:=by simp [wS]
theorem j9 {α:Type} (f:α→Nat):wS f []=0:=rfl
theorem T4 {α:Type} (f:α→Nat) {l:List α} {x:α} (h:x∈l):f x≤wS f l:=by
 induction l with
 | nil=>cases h
 | cons y l ih =>
  rw [wS]
  rcases List.mem_cons.1 h with rfl|h
  · omega
  · have:=ih h; omega
mutual
def Val.w:Val→Nat
 | .mk _ _ s ks ls=>30+2*s.length+wK ks+wV ls
def wV:List Val→Nat
 | []=>0
 | v::l=>(v.w+10)+wV l
def wK:List (List Nat)→Nat
 | []=>0
 | k::l=>(k.length+10)+wK l
end
theorem b91:∀ l,wV l=wS (fun v=>v.w+10) l
 | []=>by rw [wV]; rfl
 | v::l=>by rw [wV,b91 l]; rfl
theorem b9Z:∀ l,wK l=wS (fun k:List Nat=>k.length+10) l
 | []=>by rw [wK]; rfl
 | v::l=>by rw [wK,b9Z l]; rfl
theorem Val.w_mk (k n:Int) (s:List Nat) (ks:List (List Nat)) (ls:List Val):(Val.mk k n s ks ls).w=30+2*s.length+wS (fun k:List Nat=>k.length+10) ks+wS (fun v=>v.w+10) ls:=by rw [Val.w,b91,b9Z]
def Arg.w (a:Arg):Nat:=14+a.n.length+a.v.w
def Dir.w (d:Dir):Nat:=10+d.n.length+wS Arg.w d.as
mutual
def Sel.w:Sel→Nat
 | .mk _ al nm on as ds sub=>30+al.length+nm.length+on.length+wS Arg.w as+wS Dir.w ds+b0O sub
def b0O:List Sel→Nat
 | []=>0
 | x::l=>(x.w+2)+b0O l
end
theorem b2o:∀ l,b0O l=wS (fun x=>x.w+2) l
 | []=>by rw [b0O]; rfl
 | v::l=>by rw [b0O,b2o l]; rfl
theorem Sel.w_mk (k:Int) (al nm on:List Nat) (as:List Arg) (ds:List Dir) (sub:List Sel):(Sel.mk k al nm on as ds sub).w=30+al.length+nm.length+on.length+wS Arg.w as+wS Dir.w ds+wS (fun x=>x.w+2) sub:=by rw [Sel.w,b2o]
def Y4 (L:List Tok):Prop:=∀ t∈L,t.t.length≤200
def a0X {α:Type} (N:Nat) (p:Nat→Option (α×Nat)) (μ:α→Nat):Prop:=∀ i x j,i≤N→p i=some (x,j)→μ x+700*i≤700*j∧j≤N
theorem J1 {α:Type} {N:Nat} {step:Nat→α→Option (Bool×Nat×α)} {μ:α→Nat} (hs:∀ i a b j a',i≤N→step i a=some (b,j,a')→μ a'+700*i≤μ a+700*j∧i≤j∧j≤N):∀ (f i:Nat) (a x:α) (j:Nat),i≤N→t8 step f i a=some (x,j)→μ x+700*i≤μ a+700*j∧i≤j∧j≤N
 | 0,i,a,x,j,_,h=>by cases h
 | f+1,i,a,x,j,hi,h=>by
  rw [t8] at h
  cases hb:step i a with
  | none=>rw [hb] at h; cases h
  | some r =>
   obtain ⟨t,j',b⟩:=r
   rw [hb] at h
   cases t with
   | true =>
    cases h
    exact hs i a true j x hi hb
   | false =>
    obtain ⟨h1,h2,h3⟩:=hs i a false j' b hi hb
    have:=J1 hs f j' b x j h3 h
    omega
theorem B0 {L:List Tok} (hT:Y4 L):a0X L.length (t7 L) (fun n=>2*n.length+200):=by
 intro i x j hi h
 unfold t7 at h
 cases hL:L[i]? with
 | none=>rw [hL] at h; cases h
 | some t =>
  rw [hL] at h
  dsimp only at h
  split at h
  · cases h
    have:=(List.getElem?_eq_some_iff.1 hL).1
    have:=hT _ (List.mem_of_getElem? hL)
    ((try dsimp only at *); (try simp only [j5,j7,j9,Val.w_mk,Sel.w_mk,Arg.w,Dir.w,List.length_nil] at *); omega)
  · cases h
theorem b8v {L:List Tok} (hT:Y4 L) {i:Nat} {n:List Nat} {j:Nat} (h:t7 L i=some (n,j)):n.length≤200:=by
 unfold t7 at h
 cases hL:L[i]? with
 | none=>rw [hL] at h; cases h
 | some t =>
  rw [hL] at h
  dsimp only at h
  split at h
  · cases h; exact hT _ (List.mem_of_getElem? hL)
  · cases h
theorem a1A {L:List Tok} (hT:Y4 L) (fx:Bool):∀ f,a0X L.length (t9 L fx f) (fun v=>v.w+10)
 | 0=>by intro i x j _ h; rw [t9] at h; cases h
 | f+1=>by
  have ih:=a1A hT fx f
  intro i x j hi h
  rw [t9,value1P] at h
  cases hL:L[i]? with
  | none=>rw [hL] at h; cases h
  | some t =>
   have hlt:=(List.getElem?_eq_some_iff.1 hL).1
   have htw:=hT _ (List.mem_of_getElem? hL)
   rw [hL] at h
   dsimp only at h
   split at h; · cases h; ((try dsimp only at *); (try simp only [j5,j7,j9,Val.w_mk,Sel.w_mk,Arg.w,Dir.w,List.length_nil] at *); omega)
   split at h; · cases h; ((try dsimp only at *); (try simp only [j5,j7,j9,Val.w_mk,Sel.w_mk,Arg.w,Dir.w,List.length_nil] at *); omega)
   split at h; · cases h; ((try dsimp only at *); (try simp only [j5,j7,j9,Val.w_mk,Sel.w_mk,Arg.w,Dir.w,List.length_nil] at *); omega)
   split at h; · cases h; ((try dsimp only at *); (try simp only [j5,j7,j9,Val.w_mk,Sel.w_mk,Arg.w,Dir.w,List.length_nil] at *); omega)
   split at h; · cases h; ((try dsimp only at *); (try simp only [j5,j7,j9,Val.w_mk,Sel.w_mk,Arg.w,Dir.w,List.length_nil] at *); omega)
   split at h; · cases h; ((try dsimp only at *); (try simp only [j5,j7,j9,Val.w_mk,Sel.w_mk,Arg.w,Dir.w,List.length_nil] at *); omega)
   split at h
   · unfold b6U at h
     split at h
     · cases h
     · rename_i n j' hn
       have:=B0 hT _ _ _ hlt hn
       cases h
       ((try dsimp only at *); (try simp only [j5,j7,j9,Val.w_mk,Sel.w_mk,Arg.w,Dir.w,List.length_nil] at *); omega)
   split at h
   · unfold b3w at h
     split at h
     · cases h
     · rename_i l j' hl
       have:=J1 (N:=L.length) (μ:=wS (fun v:Val=>v.w+10)) (fun i a b j a' hi h=>by
        unfold a1r at h
        split at h
        · rename_i he; have:=p8 he; cases h; ((try dsimp only at *); (try simp only [j5,j7,j9,Val.w_mk,Sel.w_mk,Arg.w,Dir.w,List.length_nil] at *); omega)
        · split at h
          · cases h
          · rename_i v j2 hv
            have:=ih _ _ _ hi hv
            cases h; ((try dsimp only at *); (try simp only [j5,j7,j9,Val.w_mk,Sel.w_mk,Arg.w,Dir.w,List.length_nil] at *); omega)) _ _ _ _ _ hlt hl
       cases h
       ((try dsimp only at *); (try simp only [j5,j7,j9,Val.w_mk,Sel.w_mk,Arg.w,Dir.w,List.length_nil] at *); omega)
   split at h
   · unfold b6N at h
     split at h
     · cases h
     · rename_i l j' hl
       have:=J1 (N:=L.length) (μ:=fun x:List (List Nat)×List Val=>wS (fun k:List Nat=>k.length+10) x.1+wS (fun v:Val=>v.w+10) x.2) (fun i a b j a' hi h=>by
        unfold a1U at h
        split at h
        · rename_i he; have:=p8 he; cases h; ((try dsimp only at *); (try simp only [j5,j7,j9,Val.w_mk,Sel.w_mk,Arg.w,Dir.w,List.length_nil] at *); omega)
        · split at h
          · cases h
          · rename_i n i2 hn
            have a1:=B0 hT _ _ _ hi hn
            split at h
            · cases h
            · rename_i i3 hm
              have a2:=C0 hm
              split at h
              · cases h
              · rename_i v j2 hv
                have:=ih _ _ _ (by ((try dsimp only at *); (try simp only [j5,j7,j9,Val.w_mk,Sel.w_mk,Arg.w,Dir.w,List.length_nil] at *); omega)) hv
                cases h; ((try dsimp only at *); (try simp only [j5,j7,j9,Val.w_mk,Sel.w_mk,Arg.w,Dir.w,List.length_nil] at *); omega)) _ _ _ _ _ hlt hl
       cases h
       ((try dsimp only at *); (try simp only [j5,j7,j9,Val.w_mk,Sel.w_mk,Arg.w,Dir.w,List.length_nil] at *); omega)
   · cases h
theorem a7B {L:List Tok} (hT:Y4 L) (f:Nat):a0X L.length (P3 L f) (wS Arg.w):=by
 intro i x j hi h
 unfold P3 at h
 split at h
 · rename_i he
   have hlt:=p8 he
   obtain ⟨y,k,h1,h2⟩:=bind_some h
   have:=J1 (N:=L.length) (μ:=fun x:Bool×List Arg=>wS Arg.w x.2) (fun i a b j a' hi h=>by
    unfold R3 at h
    split at h
    · rename_i he; simp at he; have:=p8 he.2; cases h; ((try dsimp only at *); (try simp only [j5,j7,j9,Val.w_mk,Sel.w_mk,Arg.w,Dir.w,List.length_nil] at *); omega)
    · obtain ⟨n,i2,g1,h⟩:=bind_some h
      have a1:=B0 hT _ _ _ hi g1
      obtain ⟨i3,g2,h⟩:=w8 h
      have a2:=C0 g2
      obtain ⟨v,i4,g3,h⟩:=bind_some h
      have a3:=a1A hT false f _ _ _ a2.2 g3
      cases h; ((try dsimp only at *); (try simp only [j5,j7,j9,Val.w_mk,Sel.w_mk,Arg.w,Dir.w,List.length_nil] at *); omega)) _ _ _ _ _ hlt h1
   cases h2
   ((try dsimp only at *); (try simp only [j5,j7,j9,Val.w_mk,Sel.w_mk,Arg.w,Dir.w,List.length_nil] at *); omega)
 · cases h; ((try dsimp only at *); (try simp only [j5,j7,j9,Val.w_mk,Sel.w_mk,Arg.w,Dir.w,List.length_nil] at *); omega)
theorem a2n {L:List Tok} (hT:Y4 L) (f:Nat):a0X L.length (Z0 L f) (wS Dir.w):=by
 intro i x j hi h
 have:=J1 (N:=L.length) (μ:=wS Dir.w) (fun i a b j a' hi h=>by
  unfold R1 at h
  split at h
  · rename_i he
    have hlt:=p8 he
    obtain ⟨n,i2,g1,h⟩:=bind_some h
    have a1:=B0 hT _ _ _ hlt g1
    obtain ⟨v,i4,g3,h⟩:=bind_some h
    have a3:=a7B hT f _ _ _ a1.2 g3
    cases h; ((try dsimp only at *); (try simp only [j5,j7,j9,Val.w_mk,Sel.w_mk,Arg.w,Dir.w,List.length_nil] at *); omega)
  · cases h; ((try dsimp only at *); (try simp only [j5,j7,j9,Val.w_mk,Sel.w_mk,Arg.w,Dir.w,List.length_nil] at *); omega)) _ _ _ _ _ hi h
 ((try dsimp only at *); (try simp only [j5,j7,j9,Val.w_mk,Sel.w_mk,Arg.w,Dir.w,List.length_nil] at *); omega)
theorem b69 {L:List Tok} (hT:Y4 L) (f:Nat) {sP:Nat→Option (List Sel×Nat)} (hs:a0X L.length sP (wS fun x=>x.w+2)):a0X L.length (I7 L f sP) (fun x=>x.w+2):=by
 have inl:∀ on:List Nat,on.length≤200→a0X L.length (a0n L f sP on) (fun x=>x.w+2 - 700):=by
  intro on hon i x j hi h
  unfold a0n at h
  obtain ⟨ds,i2,g1,h⟩:=bind_some h
  have a1:=a2n hT f _ _ _ hi g1
  obtain ⟨sub,i3,g2,h⟩:=bind_some h
  have a2:=hs _ _ _ a1.2 g2
  cases h
  ((try dsimp only at *); (try simp only [j5,j7,j9,Val.w_mk,Sel.w_mk,Arg.w,Dir.w,List.length_nil] at *); omega)
 intro i x j hi h
 unfold I7 at h
 split at h
 · rename_i he
   have hlt:=p8 he
   split at h
   · rename_i he2
     have hlt2:=p8 he2
     obtain ⟨on,i2,g1,h⟩:=bind_some h
     have a1:=B0 hT _ _ _ hlt2 g1
     have a2:=inl _ (b8v hT g1) _ _ _ a1.2 h
     ((try dsimp only at *); (try simp only [j5,j7,j9,Val.w_mk,Sel.w_mk,Arg.w,Dir.w,List.length_nil] at *); omega)
   · split at h
     · obtain ⟨n,i2,g1,h⟩:=bind_some h
       have a1:=B0 hT _ _ _ hlt g1
       obtain ⟨ds,i3,g2,h⟩:=bind_some h
       have a2:=a2n hT f _ _ _ a1.2 g2
       cases h
       ((try dsimp only at *); (try simp only [j5,j7,j9,Val.w_mk,Sel.w_mk,Arg.w,Dir.w,List.length_nil] at *); omega)
     · have a2:=inl _ (by simp) _ _ _ hlt h
       ((try dsimp only at *); (try simp only [j5,j7,j9,Val.w_mk,Sel.w_mk,Arg.w,Dir.w,List.length_nil] at *); omega)
 · unfold a06 at h
   obtain ⟨n,i2,g1,h⟩:=bind_some h
   have a1:=B0 hT _ _ _ hi g1
   obtain ⟨y,i3,g2,h⟩:=bind_some h
   have a2:y.1.length+y.2.length+700*i2≤n.length+700*i3∧i3≤L.length:=by
    unfold W2 at g2
    split at g2
    · rename_i he
      have hlt:=p8 he
      obtain ⟨m,i4,g3,g2⟩:=bind_some g2
      have:=B0 hT _ _ _ hlt g3
      cases g2
      ((try dsimp only at *); (try simp only [j5,j7,j9,Val.w_mk,Sel.w_mk,Arg.w,Dir.w,List.length_nil] at *); omega)
    · cases g2; ((try dsimp only at *); (try simp only [j5,j7,j9,Val.w_mk,Sel.w_mk,Arg.w,Dir.w,List.length_nil] at *); omega)
   obtain ⟨as,i4,g3,h⟩:=bind_some h
   have a3:=a7B hT f _ _ _ a2.2 g3
   obtain ⟨ds,i5,g4,h⟩:=bind_some h
   have a4:=a2n hT f _ _ _ a3.2 g4
   split at h
   · obtain ⟨sub,i6,g5,h⟩:=bind_some h
     have a5:=hs _ _ _ a4.2 g5
     cases h
     ((try dsimp only at *); (try simp only [j5,j7,j9,Val.w_mk,Sel.w_mk,Arg.w,Dir.w,List.length_nil] at *); omega)
   · cases h
     ((try dsimp only at *); (try simp only [j5,j7,j9,Val.w_mk,Sel.w_mk,Arg.w,Dir.w,List.length_nil] at *); omega)
theorem a1y {L:List Tok} (hT:Y4 L):∀ f,a0X L.length (q9 L f) (wS fun x=>x.w+2)
 | 0=>by intro i x j _ h; rw [q9] at h; cases h
 | f+1=>by
  have ih:=b69 hT f (a1y hT f)
  intro i x j hi h
  rw [q9] at h
  obtain ⟨i2,g1,h⟩:=w8 h
  have a1:=C0 g1
  have:=J1 (N:=L.length) (μ:=wS fun x:Sel=>x.w+2) (fun i a b j a' hi h=>by
   unfold O1 at h
   obtain ⟨y,i3,g2,h⟩:=bind_some h
   have a2:=ih _ _ _ hi g2
   split at h
   · rename_i he; have:=p8 he; cases h; ((try dsimp only at *); (try simp only [j5,j7,j9,Val.w_mk,Sel.w_mk,Arg.w,Dir.w,List.length_nil] at *); omega)
   · cases h; ((try dsimp only at *); (try simp only [j5,j7,j9,Val.w_mk,Sel.w_mk,Arg.w,Dir.w,List.length_nil] at *); omega)) _ _ _ _ _ a1.2 h
  ((try dsimp only at *); (try simp only [j5,j7,j9,Val.w_mk,Sel.w_mk,Arg.w,Dir.w,List.length_nil] at *); omega)
theorem b5U {L:List Tok} (hT:Y4 L):a0X L.length (S0 L) (fun _=>0):=by
 have one:a0X L.length (a2D L) (fun _=>0):=by
  intro i x j hi h
  unfold a2D at h
  obtain ⟨i2,g1,h⟩:=w8 h
  have a1:=C0 g1
  obtain ⟨n,i3,g2,h⟩:=bind_some h
  have a2:=B0 hT _ _ _ a1.2 g2
  obtain ⟨i4,g3,h⟩:=w8 h
  have a3:=C0 g3
  obtain ⟨t,i5,g4,h⟩:=bind_some h
  have a4:=a4L L 24 _ _ _ a3.2 g4
  split at h
  · rename_i he
    have hlt:=p8 he
    obtain ⟨v,i6,g5,h⟩:=bind_some h
    have a5:=a1A hT true 24 _ _ _ hlt g5
    cases h; ((try dsimp only at *); (try simp only [j5,j7,j9,Val.w_mk,Sel.w_mk,Arg.w,Dir.w,List.length_nil] at *); omega)
  · cases h; ((try dsimp only at *); (try simp only [j5,j7,j9,Val.w_mk,Sel.w_mk,Arg.w,Dir.w,List.length_nil] at *); omega)
 intro i x j hi h
 unfold S0 at h
 split at h
 · rename_i he
   have hlt:=p8 he
   obtain ⟨v,i2,g1,h⟩:=bind_some h
   have a1:=one _ _ _ hlt g1
   have:=J1 (N:=L.length) (μ:=fun _=>0) (fun i a b j a' hi h=>by
    unfold U4 at h
    split at h
    · rename_i he; have:=p8 he; cases h; ((try dsimp only at *); (try simp only [j5,j7,j9,Val.w_mk,Sel.w_mk,Arg.w,Dir.w,List.length_nil] at *); omega)
    · obtain ⟨v,i2,g1,h⟩:=bind_some h
      have:=one _ _ _ hi g1
      cases h; ((try dsimp only at *); (try simp only [j5,j7,j9,Val.w_mk,Sel.w_mk,Arg.w,Dir.w,List.length_nil] at *); omega)) _ _ _ _ _ a1.2 h
   ((try dsimp only at *); (try simp only [j5,j7,j9,Val.w_mk,Sel.w_mk,Arg.w,Dir.w,List.length_nil] at *); omega)
 · cases h; ((try dsimp only at *); (try simp only [j5,j7,j9,Val.w_mk,Sel.w_mk,Arg.w,Dir.w,List.length_nil] at *); omega)
def opW (o:Op):Nat:=wS (fun x=>x.w+2) o.sub
def L7 (f:Frag):Nat:=wS (fun x=>x.w+2) f.sub
theorem d5v {L:List Tok} (hT:Y4 L) {D:Docm} (h:a0u L=some D):wS opW D.ops+wS L7 D.frags≤700*L.length:=by
 unfold a0u at h
 obtain ⟨y,k,h1,h2⟩:=bind_some h
 have:=J1 (N:=L.length) (μ:=fun x:Bool×Docm=>wS opW x.2.ops+wS L7 x.2.frags) (fun i a b j a' hi h=>by
  unfold G5 at h
  split at h
  · cases h; ((try dsimp only at *); (try simp only [j5,j7,j9,Val.w_mk,Sel.w_mk,Arg.w,Dir.w,opW,L7,List.length_nil] at *); omega)
  · split at h
    · rename_i hw
      have hlt:=p8 (L:=L) (i:=i) (s:=[102,114,97,103,109,101,110,116]) (by rw [s8,hw,Bool.or_true])
      obtain ⟨f,i2,g1,h⟩:=bind_some h
      unfold Y8 at g1
      split at g1
      · cases g1
      · obtain ⟨n,i3,g2,g1⟩:=bind_some g1
        have a1:=B0 hT _ _ _ hlt g2
        obtain ⟨i4,g3,g1⟩:=w8 g1
        have a2:=C0 g3
        obtain ⟨on,i5,g4,g1⟩:=bind_some g1
        have a3:=B0 hT _ _ _ a2.2 g4
        obtain ⟨sub,i6,g5,g1⟩:=bind_some g1
        have a4:=a1y hT 24 _ _ _ a3.2 g5
        cases g1
        cases h
        simp only [j5,j7,L7]
        ((try dsimp only at *); (try simp only [j5,j7,j9,Val.w_mk,Sel.w_mk,Arg.w,Dir.w,opW,L7,List.length_nil] at *); omega)
    · obtain ⟨o,i2,g1,h⟩:=bind_some h
      have key:opW o+700*i≤700*i2∧i2≤L.length:=by
       unfold opP at g1
       split at g1
       · obtain ⟨sub,i6,g5,g1⟩:=bind_some g1
         have a4:=a1y hT 24 _ _ _ hi g5
         cases g1
         exact a4
       · obtain ⟨m,i3,g2,g1⟩:=bind_some g1
         have a1:i≤i3∧i3≤L.length:=by
          unfold a1w at g2
          split at g2
          · rename_i he; have:=p8 he; cases g2; ((try dsimp only at *); (try simp only [j5,j7,j9,Val.w_mk,Sel.w_mk,Arg.w,Dir.w,opW,L7,List.length_nil] at *); omega)
          · obtain ⟨i4,g3,g2⟩:=w8 g2
            unfold a2V at g3
            split at g3
            · rename_i hw
              have:=p8 (L:=L) (i:=i) (s:=[113,117,101,114,121]) (by rw [s8,hw,Bool.or_true])
              cases g3
              cases g2
              ((try dsimp only at *); (try simp only [j5,j7,j9,Val.w_mk,Sel.w_mk,Arg.w,Dir.w,opW,L7,List.length_nil] at *); omega)
            · cases g3
         obtain ⟨n,i4,g3,g1⟩:=bind_some g1
         have a2:i3≤i4∧i4≤L.length:=by
          unfold W3 at g3
          split at g3
          · have:=B0 hT _ _ _ a1.2 g3; ((try dsimp only at *); (try simp only [j5,j7,j9,Val.w_mk,Sel.w_mk,Arg.w,Dir.w,opW,L7,List.length_nil] at *); omega)
          · cases g3; ((try dsimp only at *); (try simp only [j5,j7,j9,Val.w_mk,Sel.w_mk,Arg.w,Dir.w,opW,L7,List.length_nil] at *); omega)
         obtain ⟨vs,i5,g4,g1⟩:=bind_some g1
         have a3:=b5U hT _ _ _ a2.2 g4
         obtain ⟨sub,i6,g5,g1⟩:=bind_some g1
         have a4:=a1y hT 24 _ _ _ a3.2 g5
         cases g1
         ((try dsimp only at *); (try simp only [j5,j7,j9,Val.w_mk,Sel.w_mk,Arg.w,Dir.w,opW,L7,List.length_nil] at *); omega)
      cases h
      simp only [j5,j7]
      ((try dsimp only at *); (try simp only [j5,j7,j9,Val.w_mk,Sel.w_mk,Arg.w,Dir.w,opW,L7,List.length_nil] at *); omega)) _ _ _ _ _ (Nat.zero_le _) h1
 cases h2
 simp only [j9] at this ⊢
 ((try dsimp only at *); (try simp only [j5,j7,j9,Val.w_mk,Sel.w_mk,Arg.w,Dir.w,opW,L7,List.length_nil] at *); omega)
theorem a4B:∀ (l:List Nat) (c:Nat) (n:Int) (acc:List Nat),acc.length=c→(Y0 c n acc l).2.2.1.length=(Y0 c n acc l).1
 | [],c,n,acc,h=>h
 | x::r,c,n,acc,h=>by
  rw [Y0]
  split
  · exact a4B r _ _ _ (by simp [h])
  · exact h
theorem b0f {m:Bool} {pre acc r:List Nat} {c:Nat} {n:Int} (hp:pre.length≤1) (hc:acc.length=c) {k:Int} {t:List Nat} {v:Int} {r':List Nat} (h:Y2 m pre c n acc r=some (k,t,v,r')):t.length≤200:=by
 unfold Y2 at h
 split at h; · cases h
 split at h; · cases h
 split at h; · cases h
 split at h; · cases h
 simp only [Option.some.injEq,Prod.mk.injEq] at h
 obtain ⟨_,rfl,_⟩:=h
 rw [List.length_append]; omega
theorem a2E:∀ (n:Nat) (l t:List Nat) {k:Int} {u:List Nat} {v:Int} {r':List Nat},l.length≤n→D2 t l=some (k,u,v,r')→u.length≤200
 | 0,[],t,k,u,v,r',_,h=>by rw [D2] at h; cases h
 | 0,_::_,t,k,u,v,r',hn,_=>by simp at hn
 | n+1,[],t,k,u,v,r',_,h=>by rw [D2] at h; cases h
 | n+1,[b],t,k,u,v,r',_,h=>by
  rw [D2] at h
  split at h
  · split at h
    · cases h
    · cases h; omega
  · cases h
 | n+1,b::x::r,t,k,u,v,r',hn,h=>by
  rw [D2] at h
  split at h
  · split at h
    · cases h
    · cases h; omega
  · split at h
    · cases h
    · split at h
      · split at h
        · cases h
        · exact a2E n r _ (by simp at hn; omega) h
      · exact a2E n (x::r) _ (by simp at hn ⊢; omega) h
theorem b66 {l:List Nat} {k:Int} {t:List Nat} {v:Int} {r':List Nat} (h:a0Y l=some (k,t,v,r')):t.length≤200:=by
 cases l with
 | nil=>rw [a0Y] at h; cases h
 | cons b r =>
  rw [a0Y] at h
  split at h
  · unfold a8O at h
    split at h
    · cases h
    · cases h; omega
  split at h
  · rw [a1p] at h
    split at h
    · exact b0f (pre:=[45]) (by simp) (a4B r 0 0 [] rfl) h
    · exact b0f (pre:=[]) (by simp) (a4B (b::r) 0 0 [] rfl) h
  split at h
  · exact a2E _ _ _ (Nat.le_refl _) h
  split at h
  · unfold a1H at h
    split at h
    · cases h; decide
    · cases h
  split at h
  · cases h; simp
  · cases h
theorem a5S:∀ (f i:Nat) (s:List Nat) (acc L:List Tok),Y4 acc→L6 f i s acc=some L→Y4 L
 | 0,_,_,_,_,_,h=>by rw [L6] at h; cases h
 | f+1,i,[],acc,L,ha,h=>by
  rw [L6] at h; cases h
  intro t ht
  rcases List.mem_append.1 ht with ht|ht
  · exact ha t ht
  · simp at ht; subst ht; simp
 | f+1,i,b::r,acc,L,ha,h=>by
  rw [L6] at h
  split at h
  · exact a5S f _ _ _ _ ha h
  split at h
  · exact a5S f _ _ _ _ ha h
  split at h
  · cases h
  · rename_i k t n r' he
    refine a5S f _ _ _ _ (fun u hu=>?_) h
    rcases List.mem_append.1 hu with hu|hu
    · exact ha u hu
    · simp at hu; subst hu; exact b66 he
theorem b8A {s:List Nat} {L:List Tok} (h:I9 s=some L):Y4 L:=by
 unfold I9 at h
 split at h
 · cases h
 · exact a5S _ _ _ _ _ (by intro t ht; cases ht) h
end Go.Cb.CodeA
