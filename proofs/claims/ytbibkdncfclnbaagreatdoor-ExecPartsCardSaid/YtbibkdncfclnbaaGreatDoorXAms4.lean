import Derived.Test.YtbibkdncfclnbaaGreatDoorXAms3
set_option maxRecDepth 4000
set_option linter.unusedVariables false
namespace Go.Cb.G
open Go Go.Cb
inductive Clo where
 | mk (f:d8→List AV→Fr→St→RO)
noncomputable def Clo.run (x:Clo):d8→List AV→Fr→St→RO:=Clo.rec (motive:=fun _=>d8→List AV→Fr→St→RO) (fun f=>f) x
noncomputable def a0b:Clo:=.mk fun _ _ _ _=>none
abbrev OpF:=d8→List AV→Fr→St→(List AV→Fr→St→RO)→RO
abbrev CF:=d8→List AV→Fr→St→(AV→Fr→St→RO)→RO
section
variable {β:Type}
noncomputable def a3B:List Opd→Scope→Scope
 | [],sc=>sc
 | .ts s::xs,sc=>a3B xs (match G8 s sc with
  | some (.s l)=>(s,.d l)::sc
  | some (.k a)=>(s,.q a.weak)::sc
  | _=>sc)
 | _::xs,sc=>a3B xs sc
noncomputable def a2h (nv:Nat):List Opd→β→((Fr→(Fr→RO)→RO)→β)→β
 | [],_,Q=>Q fun fr k=>k fr
 | .vs i::xs,e,Q=>match Nat.blt i nv with
  | true=>a23 i e fun g=>a8u i e fun p=>a2h nv xs e fun r=>Q fun fr k=>g fr fun x=>qWk x fun x=>p x fr fun fr=>r fr k
  | false=>e
 | _::xs,e,Q=>a2h nv xs e Q
def b5E:List Opd→Bool
 | []=>false
 | .vs _::_=>true
 | _::xs=>b5E xs
noncomputable def b5b (nv:Nat) (kd:Kind) (args:List Opd) (box:Option Nat) (kf:KF) (e:β) (Q:CF→β):β :=
 match b5E args,box with
 | false,none=>Q fun c env fr st K=>kf c env fr .undef st fun r _ s=>K r fr s
 | true,none=>a2h nv args e fun sp=>Q fun c env fr st K=>kf c env fr .undef st fun r _ s=>sp fr fun fr=>K r fr s
 | vs,some i=>match Nat.blt i nv with
  | false=>e
  | true=>a23 i e fun g=>match kd.alters || vs with
   | false=>Q fun c env fr st K=>g fr fun b=>kf c env fr b st fun r _ s=>K r fr s
   | true=>a2h nv args e fun sp=>a8u i e fun p=>Q fun c env fr st K=>g fr fun b=>kf c env fr b st fun r b s=>sp fr fun fr=>p b fr fun fr=>K r fr s
abbrev PF:=AV→List AV→Fr→St→(List AV→Fr→St→RO)→RO
def c09 (x:Nat):List Nat→Bool
 | []=>false
 | y::ys=>Nat.beq x y || c09 x ys
noncomputable def c0P (nv dep:Nat) (tss:List Nat) (d:Dst) (sc:Scope) (e:β) (Q:PF→Nat→Scope→β):β :=
 match d with
 | .t s=>match c09 s tss with
  | true=>Q (fun r env fr s k=>qSb r fun v _=>k (v::env) fr s) (dep+1) ((s,.s dep)::sc)
  | false=>Q (fun r env fr s k=>qSb r fun _ w=>k (w::env) fr s) (dep+1) ((s,.w dep)::sc)
 | .v i=>match Nat.blt i nv with
  | true=>a8u i e fun p=>Q (fun r env fr s k=>qSv r fun v _=>p v fr fun fr=>k env fr s) dep sc
  | false=>e
 | _=>Q (fun r env fr s k=>k env fr s) dep sc
noncomputable def qGd (q:AV) (w:Bool) (x y:RO):RO:=c8M q none (fun v=>bW v w x y) (fun vs=>List.rec (motive:=fun _=>RO) y (fun _ _ _=>none) vs)
theorem c8t (q:AV) (w:Bool) (x y:RO):qGd q w x y=match q with|.bool b=>if b == w then x else y|.tuple []=>y|_=>none:=by
 simp only [qGd,c4g,c9j]
 cases q <;> try rfl
 rename_i vs; cases vs <;> rfl
def a8F (o:AOper):Option (Nat×Opd):=match o with
 | ⟨.t s,.mv,[.t s'],none,none⟩=>some (s,.t s')
 | ⟨.t s,.mv,[.c a],none,none⟩=>some (s,.c a)
 | _=>none
noncomputable def opK (nv dep:Nat) (sc:Scope) (tss:List Nat) (o:AOper) (e:β) (Q0:Scope→β) (Q:OpF→Nat→Scope→β):β :=
 match a8F o with
 | some (s,.t s')=>match G8 s' sc with
  | some (.w l)=>Q0 ((s,.w l)::sc)
  | some (.s l)|some (.d l)=>Q0 ((s,.d l)::sc)
  | some (.k a)=>Q0 ((s,.q a.weak)::sc)
  | some (.q a)=>Q0 ((s,.q a)::sc)
  | none=>e
 | some (s,.c a)=>Q0 ((s,.k a.stripB)::sc)
 | _=>rdL nv dep sc (fun x e Q=>rdK nv dep sc x e Q) o.args e fun rs=>b5j o.kind rs fun kf=>b5b nv o.kind o.args o.box kf e fun cf =>
  c0P nv dep tss o.dst (a3B o.args sc) e fun pf dep' sc'=>match o.guard with
   | none=>Q (fun c env fr st k=>cf c env fr st fun r fr s=>pf r env fr s k) dep' sc'
   | some (x,w)=>rdK nv dep sc x e fun g=>Q (fun c env fr st k=>g env fr fun q=>qGd q w (cf c env fr st fun r fr s=>pf r env fr s k) (pf (.tuple []) env fr st k)) dep' sc'
theorem b32 {v:AV} (h:v.stripB=v):v.weak.stripB=v.weak:=by cases v <;> first|rfl|cases h
theorem a5o (v:AV):v.stripB.stripB=v.stripB:=by cases v <;> rfl
theorem a0T (τ:Nat→AV) (s:Nat) (a:AV) (j:Nat):q9 τ s a j=if j=s then a else τ j:=by
 unfold q9
 by_cases h:j=s
 · subst h; simp
 · rw [if_neg h]; simp [h]
theorem I8 {nv:Nat} (hn:nv≤64):∀ (xs:List Opd) {G:β→Prop} {e:β} {Q:(Fr→(Fr→RO)→RO)→β},G e →
 (∀ sp:Fr→(Fr→RO)→RO,(∀ fr σ,σ.fr=toL nv fr→∃ fr',(∀ k,sp fr k=k fr')∧(d9 xs σ).fr=toL nv fr')→G (Q sp))→G (a2h nv xs e Q)
 | [],G,e,Q,he,h=>h _ fun fr σ hf=>⟨fr,fun _=>rfl,hf⟩
 | x::xs,G,e,Q,he,h=>by
  cases x with
  | vs i =>
   unfold a2h
   cases hb:Nat.blt i nv with
   | false=>exact he
   | true =>
    have hi:=S5 hb
    refine N0 (by omega) he fun g hg=>a1x (by omega) he fun p hp=>I8 hn xs he fun sp hsp=>h _ fun fr σ hf=>?_
    obtain ⟨fr',h1,h2⟩:=hsp (a1l i (U6 i fr).weak fr) (Opd.spend (.vs i) σ) (by
     show σ.fr.set i (σ.fr.getD i .undef).weak=_
     rw [hf,P4 hi,a2g hi hn])
    refine ⟨fr',fun k=>?_,h2⟩
    show g fr (fun x=>qWk x fun x=>p x fr fun fr=>sp fr k)=_
    rw [hg,a1d,hp,h1]
  | ts s=>exact I8 hn xs he fun sp hsp=>h sp fun fr σ hf=>hsp fr (Opd.spend (.ts s) σ) hf
  | t s=>exact I8 hn xs he fun sp hsp=>h sp fun fr σ hf=>hsp fr σ hf
  | v s=>exact I8 hn xs he fun sp hsp=>h sp fun fr σ hf=>hsp fr σ hf
  | l s=>exact I8 hn xs he fun sp hsp=>h sp fun fr σ hf=>hsp fr σ hf
  | c s=>exact I8 hn xs he fun sp hsp=>h sp fun fr σ hf=>hsp fr σ hf
def a3i (sc:Scope) (env:List AV) (τ:Nat→AV):Prop:=∀ s x,G8 s sc=some x→SrcOK env (τ s) x
theorem I1 {env:List AV}:∀ {xs:List Opd} {sc:Scope} {σ:Sig},a3i sc env σ.τ→(∀ s,(σ.τ s).stripB=σ.τ s) →
 a3i (a3B xs sc) env σ.τ∧a3i (a3B xs sc) env (d9 xs σ).τ∧(∀ s,((d9 xs σ).τ s).stripB=(d9 xs σ).τ s)∧(d9 xs σ).st=σ.st
 | [],sc,σ,h,hb=>⟨h,h,hb,rfl⟩
 | x::xs,sc,σ,h,hb=>by
  cases x with
  | ts s =>
   have hw:∀ (v:AV),v=σ.τ s∨v=(σ.τ s).weak→∀ y,G8 s (match G8 s sc with|some (.s l)=>(s,.d l)::sc|some (.k a)=>(s,.q a.weak)::sc|_=>sc)=some y→SrcOK env v y:=by
    intro v hv y hy
    have hw':v.weak=(σ.τ s).weak:=by rcases hv with rfl|rfl; rfl; exact I4 _
    cases hs:G8 s sc with
    | none=>rw [hs] at hy; dsimp only at hy; rw [hs] at hy; cases hy
    | some z =>
     have hz:=h _ _ hs
     rw [hs] at hy
     cases z with
     | s l =>
      dsimp only at hy
      rw [a1Y,if_pos rfl] at hy
      cases hy
      obtain ⟨a,h1,h2⟩:=hz
      exact ⟨a,h1,by rw [hw',h2]⟩
     | k a =>
      dsimp only at hy
      rw [a1Y,if_pos rfl] at hy
      cases hy
      show v.weak=a.weak
      rw [hw',show σ.τ s=a from hz]
     | w l =>
      dsimp only at hy
      rw [hs] at hy
      cases hy
      obtain ⟨a,h1,h2⟩:=hz
      exact ⟨a,h1,by rw [hw',h2]⟩
     | d l =>
      dsimp only at hy
      rw [hs] at hy
      cases hy
      obtain ⟨a,h1,h2⟩:=hz
      exact ⟨a,h1,by rw [hw',h2]⟩
     | q a =>
      dsimp only at hy
      rw [hs] at hy
      cases hy
      show v.weak=a
      rw [hw']
      exact hz
   have ho:∀ t,t≠s→∀ y,G8 t (match G8 s sc with|some (.s l)=>(s,.d l)::sc|some (.k a)=>(s,.q a.weak)::sc|_=>sc)=some y→G8 t sc=some y:=by
    intro t ht y hy
    cases hs:G8 s sc with
    | none=>rw [hs] at hy; exact hy
    | some z =>
     rw [hs] at hy
     cases z <;> dsimp only at hy <;> first|exact hy|(rw [a1Y,if_neg (fun q=>ht q.symm)] at hy; exact hy)
   have h1:a3i (match G8 s sc with|some (.s l)=>(s,.d l)::sc|some (.k a)=>(s,.q a.weak)::sc|_=>sc) env σ.τ:=fun t y hy=>by
    by_cases e:t=s
    · subst e; exact hw _ (.inl rfl) y hy
    · exact h _ _ (ho t e y hy)
   have h2:a3i (match G8 s sc with|some (.s l)=>(s,.d l)::sc|some (.k a)=>(s,.q a.weak)::sc|_=>sc) env (Opd.spend (.ts s) σ).τ:=fun t y hy=>by
    show SrcOK env (q9 σ.τ s (σ.τ s).weak t) y
    rw [a0T]
    by_cases e:t=s
    · subst e; rw [if_pos rfl]; exact hw _ (.inr rfl) y hy
    · rw [if_neg e]; exact h _ _ (ho t e y hy)
   have hb2:∀ t,((Opd.spend (.ts s) σ).τ t).stripB=(Opd.spend (.ts s) σ).τ t:=fun t=>by
    show (q9 σ.τ s (σ.τ s).weak t).stripB=q9 σ.τ s (σ.τ s).weak t
    rw [a0T]
    split
    · exact b32 (hb s)
    · exact hb t
   have a:=I1 (xs:=xs) h1 hb
   have b:=I1 (xs:=xs) h2 hb2
   exact ⟨a.1,b.2.1,b.2.2.1,b.2.2.2⟩
  | vs i =>
   have a:=I1 (xs:=xs) h hb
   have b:=I1 (xs:=xs) (σ:=Opd.spend (.vs i) σ) h hb
   exact ⟨a.1,b.2.1,b.2.2.1,b.2.2.2⟩
  | t s=>exact I1 (xs:=xs) h hb
  | v s=>exact I1 (xs:=xs) h hb
  | l s=>exact I1 (xs:=xs) h hb
  | c s=>exact I1 (xs:=xs) h hb
theorem b2w {xs:List Opd} (h:b5E xs=false):∀ σ:Sig,(d9 xs σ).fr=σ.fr:=by
 induction xs with
 | nil=>intro σ; rfl
 | cons x xs ih=>intro σ; cases x <;> first|exact ih h _|cases h
def d5r (nv dep:Nat) (sc:Scope) (o:AOper) (cf:CF):Prop:=∀ c env fr st σ,Ag nv dep sc env fr σ→σ.st=st→∀ (K:AV→Fr→St→RO) out,cf c env fr st K=some out →
 ∃ r b st' fr',sem o.kind c (o.args.map (·.read σ)) (match o.box with|some i=>σ.fr.getD i .undef|none=>.undef) st=some (r,b,st')∧K r fr' st'=some out ∧
  (match o.box with|some i=>(d9 o.args σ).fr.set i b|none=>(d9 o.args σ).fr)=toL nv fr'
theorem a36 {α γ:Type} {x:Option α} {f:α→Option γ} {r:γ} (h:obind x f=some r):∃ a,x=some a∧f a=some r:=by
 cases x with
 | none=>cases h
 | some a=>exact ⟨a,rfl,h⟩
theorem b5t {G:β→Prop} {nv dep:Nat} {sc:Scope} {o:AOper} {rs:List Rd} {kf:KF} {e:β} {Q:CF→β} (hn:nv≤64) (hrs:b0V nv dep sc o.args rs) (hkf:c0y o.kind rs kf) (he:G e) (h:∀ cf,d5r nv dep sc o cf→G (Q cf)) :
 G (b5b nv o.kind o.args o.box kf e Q):=by
 unfold b5b
 split
 · rename_i hv hb
   refine h _ fun c env fr st σ ha hst K out hout=>?_
   rw [hkf,a1a ha hrs] at hout
   obtain ⟨⟨r,b,st'⟩,h1,h2⟩:=a36 hout
   exact ⟨r,b,st',fr,by rw [hb]; exact h1,h2,by rw [hb]; dsimp only; rw [b2w hv,ha.f]⟩
 · rename_i hv hb
   refine I8 hn o.args he fun sp hsp=>h _ fun c env fr st σ ha hst K out hout=>?_
   rw [hkf,a1a ha hrs] at hout
   obtain ⟨⟨r,b,st'⟩,h1,h2⟩:=a36 hout
   obtain ⟨fr',h3,h4⟩:=hsp fr σ ha.f
   dsimp only at h2
   rw [h3] at h2
   exact ⟨r,b,st',fr',by rw [hb]; exact h1,h2,by rw [hb]; exact h4⟩
 · rename_i i hb
   cases hbi:Nat.blt i nv with
   | false=>exact he
   | true =>
    have hi:=S5 hbi
    refine N0 (by omega) he fun g hg=>?_
    split
    · rename_i hal
      simp only [Bool.or_eq_false_iff] at hal
      refine h _ fun c env fr st σ ha hst K out hout=>?_
      rw [hg,hkf,a1a ha hrs] at hout
      obtain ⟨⟨r,b,st'⟩,h1,h2⟩:=a36 hout
      refine ⟨r,b,st',fr,by rw [hb]; dsimp only; rw [ha.f,P4 hi]; exact h1,h2,?_⟩
      rw [hb]
      have:=a2j hal.1 h1
      subst this
      dsimp only
      rw [b2w hal.2,ha.f,← P4 hi fr]
      exact a3F _ _
    · refine I8 hn o.args he fun sp hsp=>a1x (by omega) he fun p hp=>h _ fun c env fr st σ ha hst K out hout=>?_
      rw [hg,hkf,a1a ha hrs] at hout
      obtain ⟨⟨r,b,st'⟩,h1,h2⟩:=a36 hout
      obtain ⟨fr',h3,h4⟩:=hsp fr σ ha.f
      dsimp only at h2
      rw [h3,hp] at h2
      refine ⟨r,b,st',_,by rw [hb]; dsimp only; rw [ha.f,P4 hi]; exact h1,h2,?_⟩
      rw [hb]
      dsimp only
      rw [h4,a2g hi hn]
def d4v (nv dep:Nat) (o:AOper) (sc:Scope) (pf:PF) (dep':Nat) (sc':Scope):Prop:=∀ r env fr s (k:List AV→Fr→St→RO) out,pf r env fr s k=some out→∀ σ:Sig,σ.fr=toL nv fr→env.length=dep→(∀ t,(σ.τ t).stripB=σ.τ t)→a3i sc env σ.τ→σ.st=s →
 ∃ env' fr',k env' fr' s=some out∧Ag nv dep' sc' env' fr' (o.dst.put r σ)∧(o.dst.put r σ).st=s
theorem b7u {G:β→Prop} {nv dep:Nat} {tss:List Nat} {o:AOper} {sc:Scope} {e:β} {Q:PF→Nat→Scope→β} (hn:nv≤64) (he:G e) (h:∀ pf dep' sc',d4v nv dep o sc pf dep' sc'→G (Q pf dep' sc')):G (c0P nv dep tss o.dst sc e Q):=by
 unfold c0P
 cases hd:o.dst with
 | t s =>
  dsimp only
  have nb':∀ (σ:Sig) (r:AV),(∀ t,(σ.τ t).stripB=σ.τ t)→∀ t,(q9 σ.τ s r.stripB t).stripB=q9 σ.τ s r.stripB t:=fun σ r hb t=>by
   rw [a0T]; split
   · exact a5o r
   · exact hb t
  have sc1:∀ (σ:Sig) (r:AV) (env:List AV) (y:Src) (v:AV),env.length=dep→a3i sc env σ.τ→SrcOK (v::env) r.stripB y→a3i ((s,y)::sc) (v::env) (q9 σ.τ s r.stripB):=fun σ r env y v hl hsc hy t x hx=>by
   rw [a1Y] at hx
   rw [a0T]
   split at hx
   · rename_i e; cases hx; rw [if_pos e.symm]; exact hy
   · rename_i e; rw [if_neg (fun q=>e q.symm)]; exact (hsc _ _ hx).push v
  cases c09 s tss with
  | true =>
   refine h _ _ _ fun r env fr s' k out hout σ hf hl hb hsc hst=>?_
   rw [b6B] at hout
   refine ⟨_,_,hout,?_,by rw [hd]; exact hst⟩
   rw [hd]
   exact ⟨hf,by simp [hl],nb' σ r hb,sc1 σ r env _ _ hl hsc ⟨_,by rw [← hl]; exact b83 _ _,rfl⟩⟩
  | false =>
   refine h _ _ _ fun r env fr s' k out hout σ hf hl hb hsc hst=>?_
   rw [b6B] at hout
   refine ⟨_,_,hout,?_,by rw [hd]; exact hst⟩
   rw [hd]
   exact ⟨hf,by simp [hl],nb' σ r hb,sc1 σ r env _ _ hl hsc ⟨_,by rw [← hl]; exact b83 _ _,rfl⟩⟩
 | v i =>
  dsimp only
  cases hbi:Nat.blt i nv with
  | false=>exact he
  | true =>
   have hi:=S5 hbi
   refine a1x (by omega) he fun p hp=>h _ _ _ fun r env fr s' k out hout σ hf hl hb hsc hst=>?_
   rw [c64,hp] at hout
   refine ⟨_,_,hout,?_,by rw [hd]; exact hst⟩
   rw [hd]
   exact ⟨by show σ.fr.set i r.strip=_; rw [hf,a2g hi hn],hl,hb,hsc⟩
 | none =>
  refine h _ _ _ fun r env fr s' k out hout σ hf hl hb hsc hst=>?_
  refine ⟨_,_,hout,?_,by rw [hd]; exact hst⟩
  rw [hd]
  exact ⟨hf,hl,hb,hsc⟩
 | bx =>
  refine h _ _ _ fun r env fr s' k out hout σ hf hl hb hsc hst=>?_
  refine ⟨_,_,hout,?_,by rw [hd]; exact hst⟩
  rw [hd]
  exact ⟨hf,hl,hb,hsc⟩
def d4h (nv dep:Nat) (sc:Scope) (o:AOper) (opf:OpF) (dep':Nat) (sc':Scope):Prop:=∀ c env fr st σ,Ag nv dep sc env fr σ→σ.st=st→∀ (k:List AV→Fr→St→RO) out,opf c env fr st k=some out →
 ∃ σ' env' fr',j4 c o σ=some σ'∧Ag nv dep' sc' env' fr' σ'∧k env' fr' σ'.st=some out
def c5I (nv dep:Nat) (sc:Scope) (o:AOper) (sc':Scope):Prop:=∀ c env fr σ,Ag nv dep sc env fr σ→∃ σ',j4 c o σ=some σ'∧Ag nv dep sc' env fr σ'∧σ'.st=σ.st
theorem b0g {nv dep:Nat} {sc:Scope} {env:List AV} {fr:Fr} {σ:Sig} (ha:Ag nv dep sc env fr σ) (s:Nat) (v:AV) (y:Src) (hy:SrcOK env v.stripB y):Ag nv dep ((s,y)::sc) env fr ({ σ with τ:=q9 σ.τ s v.stripB }) :=
 ⟨ha.f,ha.d,fun t=>by
  show (q9 σ.τ s v.stripB t).stripB=q9 σ.τ s v.stripB t
  rw [a0T]; split
  · exact a5o v
  · exact ha.nb t,fun t x hx=>by
  show SrcOK env (q9 σ.τ s v.stripB t) x
  rw [a1Y] at hx
  rw [a0T]
  split at hx
  · rename_i e; cases hx; rw [if_pos e.symm]; exact hy
  · rename_i e; rw [if_neg (fun q=>e q.symm)]; exact ha.t _ _ hx⟩
theorem a7P (c:d8) (s:Nat) (x:Opd) (hx:x.steals=false) (σ:Sig):j4 c ⟨.t s,.mv,[x],none,none⟩ σ=some { σ with τ:=q9 σ.τ s (x.read σ).stripB }:=by
 have e:d9 [x] σ=σ:=T5 (by simp [g9,hx])
 show E8 c _ σ=_
 rw [P3]
 show some (Dst.put (.t s) (x.read σ) { d9 [x] σ with st:=σ.st })=_
 rw [e]
 rfl
theorem c0J {G:β→Prop} {nv dep:Nat} {sc:Scope} {tss:List Nat} {o:AOper} {e:β} {Q0:Scope→β} {Q:OpF→Nat→Scope→β} (hn:nv≤64) (he:G e) (h0:∀ sc',c5I nv dep sc o sc'→G (Q0 sc'))
 (h:∀ opf dep' sc',d4h nv dep sc o opf dep' sc'→G (Q opf dep' sc')):G (opK nv dep sc tss o e Q0 Q):=by
 unfold opK
 split
 · rename_i s s' hal
   have ho:o=⟨.t s,.mv,[.t s'],none,none⟩:=by
    unfold a8F at hal
    split at hal <;> first|(cases hal; rfl)|cases hal
   subst ho
   have go:∀ y,(∀ env fr σ,Ag nv dep sc env fr σ→SrcOK env (σ.τ s').weak y)→c5I nv dep sc ⟨.t s,.mv,[.t s'],none,none⟩ ((s,y)::sc):=fun y hy c env fr σ ha=>by
    refine ⟨_,a7P c s (.t s') rfl σ,b0g ha s _ y ?_,rfl⟩
    show SrcOK env ((σ.τ s').weak).stripB y
    rw [b32 (ha.nb s')]
    exact hy env fr σ ha
   split
   · rename_i l hs
     exact h0 _ (go _ fun env fr σ ha=>by obtain ⟨a,h1,h2⟩:=ha.t _ _ hs; exact ⟨a,h1,by rw [I4,h2]⟩)
   · rename_i l hs
     exact h0 _ (go _ fun env fr σ ha=>by obtain ⟨a,h1,h2⟩:=ha.t _ _ hs; exact ⟨a,h1,by rw [I4,h2]⟩)
   · rename_i l hs
     exact h0 _ (go _ fun env fr σ ha=>by obtain ⟨a,h1,h2⟩:=ha.t _ _ hs; exact ⟨a,h1,by rw [I4,h2]⟩)
   · rename_i a hs
     exact h0 _ (go _ fun env fr σ ha=>by
      have:=ha.t _ _ hs
      show (σ.τ s').weak.weak=a.weak
      rw [I4,show σ.τ s'=a from this])
   · rename_i a hs
     exact h0 _ (go _ fun env fr σ ha=>by
      have:=ha.t _ _ hs
      show (σ.τ s').weak.weak=a
      rw [I4]
      exact this)
   · exact he
 · rename_i s a hal
   have ho:o=⟨.t s,.mv,[.c a],none,none⟩:=by
    unfold a8F at hal
    split at hal <;> first|(cases hal; rfl)|cases hal
   subst ho
   exact h0 _ fun c env fr σ ha=>⟨_,a7P c s (.c a) rfl σ,b0g ha s _ _ rfl,rfl⟩
 · refine b21 hn he fun rs hrs=>b58 fun kf hkf=>b5t hn hrs hkf he fun cf hcf=>b7u hn he fun pf dep' sc' hpf=>?_
   have body:∀ c env fr st σ,Ag nv dep sc env fr σ→σ.st=st→∀ (k:List AV→Fr→St→RO) out,(cf c env fr st fun r fr s=>pf r env fr s k)=some out →
    ∃ σ' env' fr',E8 c o σ=some σ'∧Ag nv dep' sc' env' fr' σ'∧k env' fr' σ'.st=some out:=fun c env fr st σ ha hst k out hout=>by
    obtain ⟨r,b,st',fr',h1,h2,h3⟩:=hcf c env fr st σ ha hst _ out hout
    obtain ⟨e1,e2,e3,e4⟩:=I1 (xs:=o.args) (σ:=σ) ha.t ha.nb
    let σ1:Sig:=match o.box with
     | some i=>{ d9 o.args σ with fr:=(d9 o.args σ).fr.set i b,st:=st' }
     | none=>{ d9 o.args σ with st:=st' }
    have hfr:σ1.fr=toL nv fr':=by
     rw [← h3]; simp only [σ1]; cases o.box <;> rfl
    have hτ:σ1.τ=(d9 o.args σ).τ:=by simp only [σ1]; cases o.box <;> rfl
    have hs1:σ1.st=st':=by simp only [σ1]; cases o.box <;> rfl
    obtain ⟨env2,fr2,g1,g2,g3⟩:=hpf r env fr' st' k out h2 σ1 hfr ha.d (by rw [hτ]; exact e3) (by rw [hτ]; exact e2) hs1
    refine ⟨_,env2,fr2,?_,g2,by rw [g3]; exact g1⟩
    rw [P3,hst]
    simp only [σ1]
    cases hb:o.box <;> rw [hb] at h1 <;> dsimp only at h1 ⊢ <;> rw [h1]
   split
   · rename_i hg
     refine h _ _ _ fun c env fr st σ ha hst k out hout=>?_
     unfold j4
     rw [hg]
     exact body c env fr st σ ha hst k out hout
   · rename_i x w hg
     refine a5N hn he fun g hgr=>h _ _ _ fun c env fr st σ ha hst k out hout=>?_
     rw [hgr env fr σ ha,c8t] at hout
     unfold j4
     rw [hg]
     dsimp only
     have skip:pf (.tuple []) env fr st k=some out→∃ σ' env' fr',some (o.dst.put (.tuple []) σ)=some σ'∧Ag nv dep' sc' env' fr' σ'∧k env' fr' σ'.st=some out:=fun hout=>by
      obtain ⟨env2,fr2,g1,g2,g3⟩:=hpf _ env fr st k out hout σ ha.f ha.d ha.nb (I1 (xs:=o.args) (σ:=σ) ha.t ha.nb).1 hst
      exact ⟨_,env2,fr2,rfl,g2,by rw [g3]; exact g1⟩
     cases hx:x.read σ <;> rw [hx] at hout <;> (try dsimp only at hout ⊢) <;> try cases hout
     · rename_i b
       split at hout
       · rename_i hbw; rw [if_pos hbw]; exact body c env fr st σ ha hst k out hout
       · rename_i hbw; rw [if_neg hbw]; exact skip hout
     · rename_i vs
       cases vs with
       | nil=>exact skip hout
       | cons=>cases hout
end
noncomputable def a4t (nv:Nat) (tss:List Nat) (cond:Opd) (ops:List AOper):Nat→Scope→Clo:=List.rec (motive:=fun _=>Nat→Scope→Clo)
 (fun dep sc=>rdK nv dep sc cond a0b fun r=>.mk fun c env fr st=>r env fr fun x=>some (x,fr,st))
 (fun o _ ih dep sc=>opK nv dep sc tss o a0b (fun sc'=>ih dep sc') fun opf dep' sc'=>.mk fun c env fr st=>opf c env fr st fun env fr st=>(ih dep' sc').run c env fr st) ops
def a4o (nv dep:Nat) (sc:Scope) (cond:Opd) (ops:List AOper) (x:Clo):Prop:=∀ c env fr st σ v fr' st',Ag nv dep sc env fr σ→σ.st=st→x.run c env fr st=some (v,fr',st') →
 ∃ σ',l7 c ops σ=some σ'∧σ'.fr=toL nv fr'∧σ'.st=st'∧cond.read σ'=v
theorem b2Y {nv dep:Nat} {sc:Scope} {cond:Opd} {ops:List AOper}:a4o nv dep sc cond ops a0b:=fun c env fr st σ v fr' st' ha hst h=>by cases (show (none:RO)=some _ from h)
theorem a2N {nv:Nat} (hn:nv≤64) {tss:List Nat} {cond:Opd}:∀ (ops:List AOper) (dep:Nat) (sc:Scope),a4o nv dep sc cond ops (a4t nv tss cond ops dep sc)
 | [],dep,sc=>by
  show a4o nv dep sc cond [] (rdK nv dep sc cond a0b fun r=>.mk fun c env fr st=>r env fr fun x=>some (x,fr,st))
  refine a5N (G:=a4o nv dep sc cond []) hn b2Y fun r hr c env fr st σ v fr' st' ha hst h=>?_
  have h:r env fr (fun x=>some (x,fr,st))=some (v,fr',st'):=h
  rw [hr env fr σ ha] at h
  cases h
  exact ⟨σ,rfl,ha.f,hst,rfl⟩
 | o::ops,dep,sc=>by
  show a4o nv dep sc cond (o::ops) (opK nv dep sc tss o a0b (fun sc'=>a4t nv tss cond ops dep sc') fun opf dep' sc'=>.mk fun c env fr st=>opf c env fr st fun env fr st=>(a4t nv tss cond ops dep' sc').run c env fr st)
  refine c0J (G:=a4o nv dep sc cond (o::ops)) hn b2Y (fun sc' hal c env fr st σ v fr' st' ha hst h=>?_) fun opf dep' sc' ho c env fr st σ v fr' st' ha hst h=>?_
  · obtain ⟨σ1,h1,h2,h3⟩:=hal c env fr σ ha
    obtain ⟨σ2,g1,g2⟩:=a2N hn ops dep sc' c env fr st σ1 v fr' st' h2 (h3.trans hst) h
    exact ⟨σ2,by rw [l7,h1]; exact g1,g2⟩
  · obtain ⟨σ1,env1,fr1,h1,h2,h3⟩:=ho c env fr st σ ha hst _ _ h
    obtain ⟨σ2,g1,g2⟩:=a2N hn ops dep' sc' c env1 fr1 σ1.st σ1 v fr' st' h2 rfl h3
    exact ⟨σ2,by rw [l7,h1]; exact g1,g2⟩
end Go.Cb.G
set_option maxRecDepth 4000
set_option linter.unusedVariables false
namespace Go.Cb.G
open Go Go.Cb
noncomputable def b0N (nv:Nat) (kill:List Nat) (Q:(Fr→(Fr→RO)→RO)→Clo):Clo:=List.rec (motive:=fun _=>((Fr→(Fr→RO)→RO)→Clo)→Clo) (fun Q=>Q fun fr k=>k fr)
 (fun i _ ih Q=>Bool.rec (motive:=fun _=>Clo) (ih Q) (a8u i a0b fun p=>ih fun r=>Q fun fr k=>p .undef fr fun fr=>r fr k) (Nat.blt i nv)) kill Q
def tsL:List Opd→List Nat
 | []=>[]
 | .ts s::xs=>s::tsL xs
 | _::xs=>tsL xs
def b5K:List AOper→List Nat
 | []=>[]
 | o::os=>match tsL o.args with
  | []=>b5K os
  | l=>l++b5K os
noncomputable def a6q (nv:Nat) (kill:List Nat) (ops:List AOper) (cond:Opd):Clo :=
 b0N nv kill fun kf=>.mk fun c _ fr st=>kf fr fun fr=>(a4t nv (tsL [cond]++b5K ops) cond ops 0 []).run c [] fr st
theorem a2F {G:Clo→Prop} {nv:Nat} (hn:nv≤64) (hs:G a0b):∀ {kill:List Nat} {Q:(Fr→(Fr→RO)→RO)→Clo},(∀ r:Fr→(Fr→RO)→RO,(∀ fr,∃ fr',(∀ k,r fr k=k fr')∧j8 kill (toL nv fr)=toL nv fr')→G (Q r))→G (b0N nv kill Q)
 | [],Q,h=>h _ fun fr=>⟨fr,fun _=>rfl,rfl⟩
 | i::is,Q,h=>by
  show G (Bool.rec (motive:=fun _=>Clo) (b0N nv is Q) (a8u i a0b fun p=>b0N nv is fun r=>Q fun fr k=>p .undef fr fun fr=>r fr k) (Nat.blt i nv))
  cases hb:Nat.blt i nv with
  | false =>
   have hi:¬ i < nv:=fun q=>by rw [show Nat.blt i nv=true by simpa using q] at hb; cases hb
   exact a2F hn hs (kill:=is) fun r hr=>h r fun fr=>by
    obtain ⟨fr',h1,h2⟩:=hr fr
    exact ⟨fr',h1,by rw [j8,a4N hi]; exact h2⟩
  | true =>
   have hi:=S5 hb
   exact a1x (by omega) hs fun p hp=>a2F hn hs (kill:=is) fun r hr=>h _ fun fr=>by
    obtain ⟨fr',h1,h2⟩:=hr (a1l i .undef fr)
    exact ⟨fr',fun k=>by show p .undef fr _=_; rw [hp,h1],by rw [j8,a2g hi hn]; exact h2⟩
def b4X (nv:Nat) (kill:List Nat) (ops:List AOper) (cond:Opd) (x:Clo):Prop:=∀ c env fr st v fr' st',x.run c env fr st=some (v,fr',st') →
 ∃ σ',l7 c ops ⟨j8 kill (toL nv fr),fun _=>.undef,st⟩=some σ'∧σ'.fr=toL nv fr'∧σ'.st=st'∧cond.read σ'=v
theorem b2P {nv:Nat} (hn:nv≤64) {kill:List Nat} {ops:List AOper} {cond:Opd}:b4X nv kill ops cond (a6q nv kill ops cond):=by
 refine a2F (G:=b4X nv kill ops cond) hn (fun c env fr st v fr' st' h=>by cases (show (none:RO)=some _ from h)) fun r hr c env fr st v fr' st' h=>?_
 obtain ⟨fr1,h1,h2⟩:=hr fr
 have h:r fr _=_:=h
 rw [h1] at h
 exact a2N hn ops 0 [] c [] fr1 st ⟨j8 kill (toL nv fr),fun _=>.undef,st⟩ v fr' st' ⟨h2,rfl,fun _=>rfl,fun s x hx=>by cases (show (none:Option Src)=some x from hx)⟩ rfl h
abbrev CO:=Option (Ex×Fr×St)
inductive CloC where
 | mk (f:d8→Nat→Fr→St→CO)
noncomputable def CloC.run (x:CloC):d8→Nat→Fr→St→CO:=CloC.rec (motive:=fun _=>d8→Nat→Fr→St→CO) (fun f=>f) x
section
variable {ρ:Type}
noncomputable def b13 (x:RO) (k:AV→Fr→St→Option ρ):Option ρ:=Option.rec (motive:=fun _=>Option ρ) none (fun p=>Prod.rec (motive:=fun _=>Option ρ) (fun v q=>Prod.rec (motive:=fun _=>Option ρ) (fun fr st=>k v fr st) q) p) x
noncomputable def a1i (x:CO) (k:Ex→Fr→St→Option ρ):Option ρ:=Option.rec (motive:=fun _=>Option ρ) none (fun p=>Prod.rec (motive:=fun _=>Option ρ) (fun v q=>Prod.rec (motive:=fun _=>Option ρ) (fun fr st=>k v fr st) q) p) x
noncomputable def a1u (e:Ex) (n:Option ρ) (x:Nat→Option ρ) (r:Option ρ):Option ρ:=Ex.rec (motive:=fun _=>Option ρ) n x r e
theorem b0f {x:RO} {k:AV→Fr→St→Option ρ} {r:ρ} (h:b13 x k=some r):∃ v fr st,x=some (v,fr,st)∧k v fr st=some r:=by
 cases x with
 | none=>cases h
 | some p=>obtain ⟨v,fr,st⟩:=p; exact ⟨v,fr,st,rfl,h⟩
theorem U2 {x:CO} {k:Ex→Fr→St→Option ρ} {r:ρ} (h:a1i x k=some r):∃ v fr st,x=some (v,fr,st)∧k v fr st=some r:=by
 cases x with
 | none=>cases h
 | some p=>obtain ⟨v,fr,st⟩:=p; exact ⟨v,fr,st,rfl,h⟩
end
noncomputable def b5a (b:d8→Nat→Fr→St→CO) (c:d8) (n m:Nat):Fr→St→CO:=Nat.rec (motive:=fun _=>Fr→St→CO) (fun _ _=>none) (fun _ ih fr st=>a1i (b c n fr st) fun e fr st=>a1u e (ih fr st) (fun i=>some (.exit i,fr,st)) (some (.ret,fr,st))) m
def a7W (nv:Nat):List Nat→Fr→Fr
 | [],fr=>fr
 | i::is,fr=>a7W nv is (if i < nv then a1l i .undef fr else fr)
theorem a3t {nv:Nat} (hn:nv≤64):∀ {is:List Nat} {fr:Fr},j8 is (toL nv fr)=toL nv (a7W nv is fr)
 | [],fr=>rfl
 | i::is,fr=>by
  rw [j8,a7W]
  split
  · rename_i h; rw [a2g h hn]; exact a3t hn
  · rename_i h; rw [a4N h]; exact a3t hn
noncomputable def b7a (nv:Nat) (kill:List Nat) (x y:CO):CO:=a1i x fun e fr st=>a1i y fun e' fr' st' =>
 if b0S (G9 kill (e,toL nv fr,st)) (G9 kill (e',toL nv fr',st')) then some (e,a7W nv kill fr,st) else none
noncomputable def V4 (nv:Nat) (x:ACode):CloC:=ACode.rec (motive:=fun _=>CloC)
 (.mk fun _ _ fr st=>some (.normal,fr,st))
 (fun kill ops=>.mk fun c _ fr st=>b13 ((a6q nv kill ops (.c .undef)).run c [] fr st) fun _ fr st=>some (.normal,fr,st))
 (fun kill ops x _ _ a b=>.mk fun c n fr st=>b13 ((a6q nv kill ops x).run c [] fr st) fun v fr st=>onB v none fun y=>Bool.rec (motive:=fun _=>CO) (b.run c n fr st) (a.run c n fr st) y)
 (fun _ _ a b=>.mk fun c n fr st=>a1i (a.run c n fr st) fun e fr st=>a1u e (b.run c n fr st) (fun i=>some (.exit i,fr,st)) (some (.ret,fr,st)))
 (fun id _ a=>.mk fun c n fr st=>a1i (a.run c n fr st) fun e fr st=>a1u e (some (.normal,fr,st)) (fun i=>Bool.rec (motive:=fun _=>CO) (some (.exit i,fr,st)) (some (.normal,fr,st)) (Nat.beq i id)) (some (.ret,fr,st)))
 (fun _ a=>.mk fun c n fr st=>b5a (fun c n fr st=>a.run c n fr st) c n n fr st)
 (fun kill _ _ a b=>.mk fun c n fr st=>b7a nv kill (a.run c n fr st) (b.run c n fr st))
 (fun id=>.mk fun _ _ fr st=>some (.exit id,fr,st))
 (.mk fun _ _ fr st=>some (.ret,fr,st)) x
def c3k (nv:Nat) (x:ACode) (y:CloC):Prop:=∀ c n fr st e fr' st',y.run c n fr st=some (e,fr',st')→i6 c n x (toL nv fr) st=some (e,toL nv fr',st')
theorem b3k {nv:Nat} {a:ACode} {b:d8→Nat→Fr→St→CO} {c:d8} {n:Nat} (h:∀ fr st e fr' st',b c n fr st=some (e,fr',st')→i6 c n a (toL nv fr) st=some (e,toL nv fr',st')):∀ (m:Nat) (fr:Fr) (st:St) (e:Ex) (fr':Fr) (st':St),b5a b c n m fr st=some (e,fr',st')→P5 (i6 c n a) m (toL nv fr) st=some (e,toL nv fr',st')
 | 0,fr,st,e,fr',st',hs=>by cases (show (none:CO)=some _ from hs)
 | m+1,fr,st,e,fr',st',hs=>by
  obtain ⟨e1,fr1,st1,h1,h2⟩:=U2 (show a1i (b c n fr st) (fun e fr st=>a1u e (b5a b c n m fr st) (fun i=>some (.exit i,fr,st)) (some (.ret,fr,st)))=some (e,fr',st') from hs)
  rw [P5,h _ _ _ _ _ h1]
  cases e1 with
  | normal=>exact b3k h m fr1 st1 e fr' st' h2
  | exit i=>cases (show some (Ex.exit i,fr1,st1)=some (e,fr',st') from h2); rfl
  | ret=>cases (show some (Ex.ret,fr1,st1)=some (e,fr',st') from h2); rfl
theorem O2 {nv:Nat} (hn:nv≤64):∀ x:ACode,c3k nv x (V4 nv x)
 | .skip,c,n,fr,st,e,fr',st',h=>by cases (show some (Ex.normal,fr,st)=some (e,fr',st') from h); rfl
 | .ret,c,n,fr,st,e,fr',st',h=>by cases (show some (Ex.ret,fr,st)=some (e,fr',st') from h); rfl
 | .exit id,c,n,fr,st,e,fr',st',h=>by cases (show some (Ex.exit id,fr,st)=some (e,fr',st') from h); rfl
 | .reg kill ops,c,n,fr,st,e,fr',st',h=>by
  obtain ⟨v,fr1,st1,h1,h2⟩:=b0f (show b13 ((a6q nv kill ops (.c .undef)).run c [] fr st) (fun _ fr st=>some (Ex.normal,fr,st))=some (e,fr',st') from h)
  cases h2
  obtain ⟨σ,g1,g2,g3,g4⟩:=b2P hn _ _ _ _ _ _ _ h1
  rw [i6,g1]
  simp only [fL_eq,g2,g3]
 | .test kill ops x a b,c,n,fr,st,e,fr',st',h=>by
  obtain ⟨v,fr1,st1,h1,h2⟩:=b0f (show b13 ((a6q nv kill ops x).run c [] fr st) (fun v fr st=>onB v none fun y=>Bool.rec (motive:=fun _=>CO) ((V4 nv b).run c n fr st) ((V4 nv a).run c n fr st) y)=some (e,fr',st') from h)
  obtain ⟨σ,g1,g2,g3,g4⟩:=b2P hn _ _ _ _ _ _ _ h1
  rw [b22] at h2
  rw [i6,g1]
  dsimp only
  rw [g4]
  cases v <;> try (cases h2; done)
  rename_i y
  cases y
  · simp only [fL_eq,g2,g3]; exact O2 hn b _ _ _ _ _ _ _ h2
  · simp only [fL_eq,g2,g3]; exact O2 hn a _ _ _ _ _ _ _ h2
 | .seq a b,c,n,fr,st,e,fr',st',h=>by
  obtain ⟨e1,fr1,st1,h1,h2⟩:=U2 (show a1i ((V4 nv a).run c n fr st) (fun e fr st=>a1u e ((V4 nv b).run c n fr st) (fun i=>some (.exit i,fr,st)) (some (.ret,fr,st)))=some (e,fr',st') from h)
  rw [i6,O2 hn a _ _ _ _ _ _ _ h1]
  cases e1 with
  | normal=>exact O2 hn b _ _ _ _ _ _ _ h2
  | exit i=>cases (show some (Ex.exit i,fr1,st1)=some (e,fr',st') from h2); rfl
  | ret=>cases (show some (Ex.ret,fr1,st1)=some (e,fr',st') from h2); rfl
 | .blk id a,c,n,fr,st,e,fr',st',h=>by
  obtain ⟨e1,fr1,st1,h1,h2⟩:=U2 (show a1i ((V4 nv a).run c n fr st) (fun e fr st=>a1u e (some (.normal,fr,st)) (fun i=>Bool.rec (motive:=fun _=>CO) (some (.exit i,fr,st)) (some (.normal,fr,st)) (Nat.beq i id)) (some (.ret,fr,st)))=some (e,fr',st') from h)
  rw [i6,O2 hn a _ _ _ _ _ _ _ h1]
  cases e1 with
  | normal=>cases (show some (Ex.normal,fr1,st1)=some (e,fr',st') from h2); rfl
  | exit i =>
   have h2:Bool.rec (motive:=fun _=>CO) (some (.exit i,fr1,st1)) (some (.normal,fr1,st1)) (Nat.beq i id)=some (e,fr',st'):=h2
   dsimp only
   cases hb:Nat.beq i id with
   | true=>rw [hb] at h2; cases h2; rw [if_pos (Nat.eq_of_beq_eq_true hb)]
   | false=>rw [hb] at h2; cases h2; rw [if_neg (Nat.ne_of_beq_eq_false hb)]
  | ret=>cases (show some (Ex.ret,fr1,st1)=some (e,fr',st') from h2); rfl
 | .loop a,c,n,fr,st,e,fr',st',h=>by
  rw [i6]
  exact b3k (b:=fun c n fr st=>(V4 nv a).run c n fr st) (fun fr st e fr' st' h=>O2 hn a _ _ _ _ _ _ _ h) n fr st e fr' st' h
 | .either kill a b,c,n,fr,st,e,fr',st',h=>by
  have h:b7a nv kill ((V4 nv a).run c n fr st) ((V4 nv b).run c n fr st)=some (e,fr',st'):=h
  obtain ⟨e1,fr1,st1,h1,h2⟩:=U2 h
  obtain ⟨e2,fr2,st2,h3,h4⟩:=U2 h2
  rw [i6,O2 hn a _ _ _ _ _ _ _ h1,O2 hn b _ _ _ _ _ _ _ h3]
  unfold a2C
  split at h4
  · rename_i hq
    cases h4
    dsimp only
    rw [if_pos hq]
    show some (_,j8 kill (toL nv fr1),_)=_
    rw [a3t hn]
  · cases h4
inductive FnC where
 | mk (f:d8→Nat→List AV→St→Option (AV×St))
noncomputable def FnC.run (x:FnC):d8→Nat→List AV→St→Option (AV×St):=FnC.rec (motive:=fun _=>d8→Nat→List AV→St→Option (AV×St)) (fun f=>f) x
noncomputable def Q3:FnC:=.mk fun _ _ _ _=>none
noncomputable def b9m (nv:Nat) (r:ResK) (Q:Gt (AV×St)→FnC):FnC :=
 match r with
 | .v i=>match Nat.blt i nv with
  | true=>a23 i Q3 fun g=>Q fun fr k=>g fr fun x=>qWk x k
  | false=>Q3
 | .vs i=>match Nat.blt i nv with
  | true=>a23 i Q3 fun g=>Q g
  | false=>Q3
 | .bx i agg n=>match Nat.blt i nv with
  | true=>a23 i Q3 fun g=>Q fun fr k=>g fr fun x=>b6d x none fun cs=>a4e k agg n cs
  | false=>Q3
theorem b6L {G:FnC→Prop} {nv:Nat} (hn:nv≤64) (hs:G Q3) {r:ResK} {Q:Gt (AV×St)→FnC} (h:∀ g:Gt (AV×St),(∀ fr k out,g fr k=some out→∃ v,r.get (toL nv fr)=some v∧k v=some out)→G (Q g)):G (b9m nv r Q):=by
 unfold b9m
 cases r with
 | v i =>
  dsimp only
  cases hb:Nat.blt i nv with
  | false=>exact hs
  | true =>
   have hi:=S5 hb
   refine N0 (by omega) hs fun g hg=>h _ fun fr k out ho=>?_
   rw [hg,a1d] at ho
   exact ⟨_,by rw [ResK.get,P4 hi],ho⟩
 | vs i =>
  dsimp only
  cases hb:Nat.blt i nv with
  | false=>exact hs
  | true =>
   have hi:=S5 hb
   refine N0 (by omega) hs fun g hg=>h _ fun fr k out ho=>?_
   rw [hg] at ho
   exact ⟨_,by rw [ResK.get,P4 hi],ho⟩
 | bx i agg n =>
  dsimp only
  cases hb:Nat.blt i nv with
  | false=>exact hs
  | true =>
   have hi:=S5 hb
   refine N0 (by omega) hs fun g hg=>h _ fun fr k out ho=>?_
   rw [hg,a8q] at ho
   rw [ResK.get,P4 hi]
   cases hx:U6 i fr <;> rw [hx] at ho <;> try (cases ho; done)
   rename_i cs
   dsimp only at ho ⊢
   rw [a26] at ho
   cases ht:j7 agg n cs with
   | none=>rw [ht] at ho; cases ho
   | some v=>rw [ht] at ho; exact ⟨v,rfl,ho⟩
noncomputable def b45 (nv:Nat):List ResK→((Fr→(List AV→Option (AV×St))→Option (AV×St))→FnC)→FnC
 | [],Q=>Q fun _ k=>k []
 | r::rs,Q=>b9m nv r fun g=>b45 nv rs fun gs=>Q fun fr k=>g fr fun v=>gs fr fun vs=>k (v::vs)
theorem a9L {G:FnC→Prop} {nv:Nat} (hn:nv≤64) (hs:G Q3):∀ {rs:List ResK} {Q:(Fr→(List AV→Option (AV×St))→Option (AV×St))→FnC},(∀ g:Fr→(List AV→Option (AV×St))→Option (AV×St),(∀ fr k out,g fr k=some out→∃ vs,D9 rs (toL nv fr)=some vs∧k vs=some out)→G (Q g))→G (b45 nv rs Q)
 | [],Q,h=>h _ fun fr k out ho=>⟨[],rfl,ho⟩
 | r::rs,Q,h=>by
  unfold b45
  exact b6L hn hs fun g hg=>a9L hn hs fun gs hgs=>h _ fun fr k out ho=>by
   obtain ⟨v,h1,h2⟩:=hg fr _ _ ho
   obtain ⟨vs,h3,h4⟩:=hgs fr _ _ h2
   exact ⟨v::vs,by rw [D9,h1,h3],h4⟩
noncomputable def a8f (vs:List AV) (st:St):Option (AV×St):=List.rec (motive:=fun _=>Option (AV×St)) (some (.tuple [],st)) (fun v ws _=>List.rec (motive:=fun _=>Option (AV×St)) (some (v,st)) (fun _ _ _=>some (.tuple vs,st)) ws) vs
noncomputable def b6l (fn:AFn):FnC:=match Nat.ble fn.nv 64 && Nat.ble fn.np fn.nv with
 | true=>b45 fn.nv fn.results fun g=>.mk fun c n as st=>Bool.rec (motive:=fun _=>Option (AV×St)) none (b9y as fun w=>a1i ((V4 fn.nv fn.code).run c n (fr0 w) st) fun e fr st=>a1u e (g fr fun vs=>a8f vs st) (fun _=>none) (g fr fun vs=>a8f vs st)) (Nat.beq (N3 as) fn.np)
 | false=>Q3
noncomputable def fnC (x:Option AFn):FnC:=match x with
 | none=>Q3
 | some fn=>match fn.ext with
  | some e=>.mk fun _ _ as st=>e as st
  | none=>b6l fn
theorem c3T {vs:List AV} {st:St}:a8f vs st=(match (some vs:Option (List AV)) with|some [v]=>some (v,st)|some vs=>some (.tuple vs,st)|none=>none):=by
 match vs with
 | []=>rfl
 | [_]=>rfl
 | _::_::_=>rfl
def b8w (fn:AFn) (x:FnC):Prop:=∀ c n as st out,x.run c n as st=some out→fn.run c n as st=some out
theorem c0q (fn:AFn):b8w fn (b6l fn):=by
 have hs:b8w fn Q3:=fun c n as st out h=>by cases (show (none:Option (AV×St))=some _ from h)
 unfold b6l
 cases hb:Nat.ble fn.nv 64 && Nat.ble fn.np fn.nv with
 | false=>exact hs
 | true =>
  simp only [AA,Nat.ble_eq] at hb
  refine a9L hb.1 hs fun g hg c n as st out h=>?_
  have h:Bool.rec (motive:=fun _=>Option (AV×St)) none (b9y as fun w=>a1i ((V4 fn.nv fn.code).run c n (fr0 w) st) fun e fr st=>a1u e (g fr fun vs=>a8f vs st) (fun _=>none) (g fr fun vs=>a8f vs st)) (Nat.beq (N3 as) fn.np)=some out:=h
  cases hl:Nat.beq (N3 as) fn.np with
  | false=>rw [hl] at h; cases h
  | true =>
   rw [hl] at h
   have hl:=Nat.eq_of_beq_eq_true hl
   rw [K1] at hl
   obtain ⟨w,h1,h2,h3⟩:=c3S h
   obtain ⟨e,fr',st',h4,h5⟩:=U2 h1
   have h6:=O2 hb.1 fn.code _ _ _ _ _ _ _ h4
   rw [c8z h3 hl h2 hb.2 hb.1] at h6
   unfold AFn.run
   rw [if_pos hl,h6]
   have fin:(g fr' fun vs=>a8f vs st')=some out→(match D9 fn.results (toL fn.nv fr') with|some [v]=>some (v,st')|some vs=>some (.tuple vs,st')|none=>none)=some out:=fun h=>by
    obtain ⟨vs,h7,h8⟩:=hg fr' _ _ h
    rw [h7,← h8,c3T]
   cases e with
   | normal=>exact fin h5
   | exit i=>cases (show (none:Option (AV×St))=some _ from h5)
   | ret=>exact fin h5
noncomputable def callG (tbl:Nat→Option AFn) (n:Nat):d8:=Nat.rec (motive:=fun _=>d8) (fun _ _ _=>none) (fun n ih f as st=>(fnC (tbl f)).run ih n as st) n
theorem a5C {tbl:Nat→Option AFn}:∀ n,W7 (callG tbl n) (k7 tbl n)
 | 0,f,as,st,r,h=>by cases (show (none:Option (AV×St))=some _ from h)
 | n+1,f,as,st,r,h=>by
  have h:(fnC (tbl f)).run (callG tbl n) n as st=some r:=h
  unfold k7
  cases ht:tbl f with
  | none=>rw [ht] at h; cases (show (none:Option (AV×St))=some _ from h)
  | some fn =>
   rw [ht] at h
   unfold fnC at h
   dsimp only at h ⊢
   cases he:fn.ext with
   | some e=>rw [he] at h; exact h
   | none =>
    rw [he] at h
    exact b1g (a5C n) (AJ _) (c0q fn _ _ _ _ _ h)
theorem ev_ofG {tbl:Nat→Option AFn} {k f:Nat} {as:List AV} {st:St} {r:AV} {st':St} (h:callG tbl k f as st=some (r,st')):Ev tbl f as st r st':=⟨k,a5C k _ _ _ _ h⟩
end Go.Cb.G
set_option maxRecDepth 4000
set_option linter.unusedVariables false
namespace Go.Cb.G
open Go Go.Cb
def N:d8:=fun _ _ _=>none
def sp (kill:List Nat) (ops:List AOper) (i:Nat) (fr:List AV) (st:St):Option (Sig×AOper×List AOper):=match l7 N (ops.take i) ⟨j8 kill fr,fun _=>.undef,st⟩,ops.drop i with
 | some σ,o::os=>some (σ,o,os)
 | _,_=>none
def after (kill:List Nat) (ops:List AOper) (i:Nat) (x:Opd) (fr:List AV) (st:St) (r:AV) (st1:St):Option (AV×List AV×St):=match sp kill ops i fr st with
 | some (σ,o,os)=>match l7 N os (o.dst.put r { d9 o.args σ with st:=st1 }) with
  | some σ=>some (x.read σ,σ.fr,σ.st)
  | none=>none
 | none=>none
section
variable {tbl:Nat→Option AFn}
theorem d46 {code:ACode} {k:Nat} {fr:List AV} {st:St} {out:Out} (h:i6 (callG tbl k) k code fr st=some out):XC tbl code fr st out:=⟨k,E4 (a5C k) (AJ _) h⟩
def fin (rs:List ResK) (o:Option Out):Option (AV×St):=match o with
 | some (.exit _,_,_)=>none
 | some (_,fr,st)=>match D9 rs fr with
  | some [v]=>some (v,st)
  | some vs=>some (.tuple vs,st)
  | none=>none
 | none=>none
def d4u (x:Option (AV×St)):Option AV:=match x with
 | some (v,_)=>some v
 | none=>none
def FX (tbl:Nat→Option AFn) (rs:List ResK) (code:ACode) (fr:List AV) (st:St) (v:AV):Prop:=∃ out st',XC tbl code fr st out∧fin rs (some out)=some (v,st')
theorem FX.seq {rs:List ResK} {a b:ACode} {fr fr1:List AV} {st st1:St} {v:AV} (h:XC tbl a fr st (.normal,fr1,st1)) (h':FX tbl rs b fr1 st1 v):FX tbl rs (.seq a b) fr st v:=by
 obtain ⟨⟨e,fr',st'⟩,s,h1,h2⟩:=h'
 exact ⟨_,s,XC.seq h h1,h2⟩
theorem FX.G {rs:List ResK} {code:ACode} {k:Nat} {fr:List AV} {st:St} {v:AV} (h:d4u (fin rs (i6 (callG tbl k) k code fr st))=some v):FX tbl rs code fr st v:=by
 cases hz:i6 (callG tbl k) k code fr st with
 | none=>rw [hz] at h; cases h
 | some o =>
  rw [hz] at h
  cases hf:fin rs (some o) with
  | none=>rw [hf] at h; cases h
  | some p =>
   obtain ⟨w,s⟩:=p
   rw [hf] at h
   cases (show some w=some v from h)
   exact ⟨o,s,d46 hz,hf⟩
theorem FX.run {rs:List ResK} {code:ACode} {fr:List AV} {st:St} {v:AV} {f:Nat} {fn:AFn} {as:List AV} (htb:tbl f=some fn) (he:fn.ext=none) (hl:as.length=fn.np) (hr:fn.results=rs) (hc:fn.code=code)
 (hfr:as++List.replicate (fn.nv - fn.np) .undef=fr) (h:FX tbl rs code fr st v):∃ n st',k7 tbl n f as st=some (v,st'):=by
 obtain ⟨⟨e,fr',st1⟩,s,⟨n,h1⟩,h2⟩:=h
 refine ⟨n+1,s,?_⟩
 unfold k7
 rw [htb]
 dsimp only
 rw [he]
 dsimp only
 unfold AFn.run
 rw [if_pos hl,hc,hfr,h1,hr]
 cases e with
 | exit i=>cases h2
 | normal=>exact h2
 | ret=>exact h2
end
end Go.Cb.G
