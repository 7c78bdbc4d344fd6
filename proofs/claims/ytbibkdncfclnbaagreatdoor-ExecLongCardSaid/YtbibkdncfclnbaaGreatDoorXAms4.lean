import Derived.Test.YtbibkdncfclnbaaGreatDoorXAms3
/-
 THE ABSTRACT MACHINE, part 45: regions, made ready once.
-/
set_option maxRecDepth 4000
set_option linter.unusedVariables false
namespace Go.Cb.G
open Go Go.Cb
inductive Clo where
 | mk (f:b6→List AV→Fr→St→RO)
noncomputable def Clo.run (x:Clo):b6→List AV→Fr→St→RO:=Clo.rec (motive:=fun _=>b6→List AV→Fr→St→RO) (fun f=>f) x
noncomputable def X9:Clo:=.mk fun _ _ _ _=>none
abbrev OpF:=b6→List AV→Fr→St→(List AV→Fr→St→RO)→RO
abbrev CF:=b6→List AV→Fr→St→(AV→Fr→St→RO)→RO
section
variable {β:Type}
noncomputable def a2y:List Opd→Scope→Scope
 | [],sc=>sc
 | .ts s::xs,sc=>a2y xs (match D4 s sc with
  | some (.s l)=>(s,.d l)::sc
  | some (.k a)=>(s,.q a.weak)::sc
  | _=>sc)
 | _::xs,sc=>a2y xs sc
noncomputable def a1q (nv:Nat):List Opd→β→((Fr→(Fr→RO)→RO)→β)→β
 | [],_,Q=>Q fun fr k=>k fr
 | .vs i::xs,e,Q=>match Nat.blt i nv with
  | true=>a1Q i e fun g=>a7f i e fun p=>a1q nv xs e fun r=>Q fun fr k=>g fr fun x=>qWk x fun x=>p x fr fun fr=>r fr k
  | false=>e
 | _::xs,e,Q=>a1q nv xs e Q
def b3v:List Opd→Bool
 | []=>false
 | .vs _::_=>true
 | _::xs=>b3v xs
noncomputable def b3h (nv:Nat) (kd:Kind) (args:List Opd) (box:Option Nat) (kf:KF) (e:β) (Q:CF→β):β :=
 match b3v args,box with
 | false,none=>Q fun c env fr st K=>kf c env fr .undef st fun r _ s=>K r fr s
 | true,none=>a1q nv args e fun sp=>Q fun c env fr st K=>kf c env fr .undef st fun r _ s=>sp fr fun fr=>K r fr s
 | vs,some i=>match Nat.blt i nv with
  | false=>e
  | true=>a1Q i e fun g=>match kd.alters || vs with
   | false=>Q fun c env fr st K=>g fr fun b=>kf c env fr b st fun r _ s=>K r fr s
   | true=>a1q nv args e fun sp=>a7f i e fun p=>Q fun c env fr st K=>g fr fun b=>kf c env fr b st fun r b s=>sp fr fun fr=>p b fr fun fr=>K r fr s
abbrev PF:=AV→List AV→Fr→St→(List AV→Fr→St→RO)→RO
def b8I (x:Nat):List Nat→Bool
 | []=>false
 | y::ys=>Nat.beq x y || b8I x ys
noncomputable def b8c (nv dep:Nat) (tss:List Nat) (d:Dst) (sc:Scope) (e:β) (Q:PF→Nat→Scope→β):β :=
 match d with
 | .t s=>match b8I s tss with
  | true=>Q (fun r env fr s k=>qSb r fun v _=>k (v::env) fr s) (dep+1) ((s,.s dep)::sc)
  | false=>Q (fun r env fr s k=>qSb r fun _ w=>k (w::env) fr s) (dep+1) ((s,.w dep)::sc)
 | .v i=>match Nat.blt i nv with
  | true=>a7f i e fun p=>Q (fun r env fr s k=>qSv r fun v _=>p v fr fun fr=>k env fr s) dep sc
  | false=>e
 | _=>Q (fun r env fr s k=>k env fr s) dep sc
noncomputable def qGd (q:AV) (w:Bool) (x y:RO):RO:=c5r q none (fun v=>bW v w x y) (fun vs=>List.rec (motive:=fun _=>RO) y (fun _ _ _=>none) vs)
theorem c4Q (q:AV) (w:Bool) (x y:RO):qGd q w x y=match q with|.bool b=>if b == w then x else y|.tuple []=>y|_=>none:=by
 simp only [qGd,c0N,c5N]
 cases q <;> try rfl
 rename_i vs; cases vs <;> rfl
def a6D (o:AOper):Option (Nat×Opd):=match o with
 | ⟨.t s,.mv,[.t s'],none,none⟩=>some (s,.t s')
 | ⟨.t s,.mv,[.c a],none,none⟩=>some (s,.c a)
 | _=>none
noncomputable def opK (nv dep:Nat) (sc:Scope) (tss:List Nat) (o:AOper) (e:β) (Q0:Scope→β) (Q:OpF→Nat→Scope→β):β :=
 match a6D o with
 | some (s,.t s')=>match D4 s' sc with
  | some (.w l)=>Q0 ((s,.w l)::sc)
  | some (.s l)|some (.d l)=>Q0 ((s,.d l)::sc)
  | some (.k a)=>Q0 ((s,.q a.weak)::sc)
  | some (.q a)=>Q0 ((s,.q a)::sc)
  | none=>e
 | some (s,.c a)=>Q0 ((s,.k a.stripB)::sc)
 | _=>rdL nv dep sc (fun x e Q=>rdK nv dep sc x e Q) o.args e fun rs=>b4m o.kind rs fun kf=>b3h nv o.kind o.args o.box kf e fun cf =>
  b8c nv dep tss o.dst (a2y o.args sc) e fun pf dep' sc'=>match o.guard with
   | none=>Q (fun c env fr st k=>cf c env fr st fun r fr s=>pf r env fr s k) dep' sc'
   | some (x,w)=>rdK nv dep sc x e fun g=>Q (fun c env fr st k=>g env fr fun q=>qGd q w (cf c env fr st fun r fr s=>pf r env fr s k) (pf (.tuple []) env fr st k)) dep' sc'

/-! what is true of them -/
theorem b1V {v:AV} (h:v.stripB=v):v.weak.stripB=v.weak:=by cases v <;> first|rfl|cases h
theorem a3x (v:AV):v.stripB.stripB=v.stripB:=by cases v <;> rfl
theorem a0l (τ:Nat→AV) (s:Nat) (a:AV) (j:Nat):r5 τ s a j=if j=s then a else τ j:=by
 unfold r5
 by_cases h:j=s
 · subst h; simp
 · rw [if_neg h]; simp [h]
theorem F7 {nv:Nat} (hn:nv≤64):∀ (xs:List Opd) {G:β→Prop} {e:β} {Q:(Fr→(Fr→RO)→RO)→β},G e →
 (∀ sp:Fr→(Fr→RO)→RO,(∀ fr σ,σ.fr=toL nv fr→∃ fr',(∀ k,sp fr k=k fr')∧(b7 xs σ).fr=toL nv fr')→G (Q sp))→G (a1q nv xs e Q)
 | [],G,e,Q,he,h=>h _ fun fr σ hf=>⟨fr,fun _=>rfl,hf⟩
 | x::xs,G,e,Q,he,h=>by
  cases x with
  | vs i =>
   unfold a1q
   cases hb:Nat.blt i nv with
   | false=>exact he
   | true =>
    have hi:=P5 hb
    refine J4 (by omega) he fun g hg=>a0I (by omega) he fun p hp=>F7 hn xs he fun sp hsp=>h _ fun fr σ hf=>?_
    obtain ⟨fr',h1,h2⟩:=hsp (a0M i (S9 i fr).weak fr) (Opd.spend (.vs i) σ) (by
     show σ.fr.set i (σ.fr.getD i .undef).weak=_
     rw [hf,L6 hi,a1l hi hn])
    refine ⟨fr',fun k=>?_,h2⟩
    show g fr (fun x=>qWk x fun x=>p x fr fun fr=>sp fr k)=_
    rw [hg,a0A,hp,h1]
  | ts s=>exact F7 hn xs he fun sp hsp=>h sp fun fr σ hf=>hsp fr (Opd.spend (.ts s) σ) hf
  | t s=>exact F7 hn xs he fun sp hsp=>h sp fun fr σ hf=>hsp fr σ hf
  | v s=>exact F7 hn xs he fun sp hsp=>h sp fun fr σ hf=>hsp fr σ hf
  | l s=>exact F7 hn xs he fun sp hsp=>h sp fun fr σ hf=>hsp fr σ hf
  | c s=>exact F7 hn xs he fun sp hsp=>h sp fun fr σ hf=>hsp fr σ hf
def a2p (sc:Scope) (env:List AV) (τ:Nat→AV):Prop:=∀ s x,D4 s sc=some x→SrcOK env (τ s) x
theorem E9 {env:List AV}:∀ {xs:List Opd} {sc:Scope} {σ:Sig},a2p sc env σ.τ→(∀ s,(σ.τ s).stripB=σ.τ s) →
 a2p (a2y xs sc) env σ.τ∧a2p (a2y xs sc) env (b7 xs σ).τ∧(∀ s,((b7 xs σ).τ s).stripB=(b7 xs σ).τ s)∧(b7 xs σ).st=σ.st
 | [],sc,σ,h,hb=>⟨h,h,hb,rfl⟩
 | x::xs,sc,σ,h,hb=>by
  cases x with
  | ts s =>
   have hw:∀ (v:AV),v=σ.τ s∨v=(σ.τ s).weak→∀ y,D4 s (match D4 s sc with|some (.s l)=>(s,.d l)::sc|some (.k a)=>(s,.q a.weak)::sc|_=>sc)=some y→SrcOK env v y:=by
    intro v hv y hy
    have hw':v.weak=(σ.τ s).weak:=by rcases hv with rfl|rfl; rfl; exact E8 _
    cases hs:D4 s sc with
    | none=>rw [hs] at hy; dsimp only at hy; rw [hs] at hy; cases hy
    | some z =>
     have hz:=h _ _ hs
     rw [hs] at hy
     cases z with
     | s l =>
      dsimp only at hy
      rw [a1h,if_pos rfl] at hy
      cases hy
      obtain ⟨a,h1,h2⟩:=hz
      exact ⟨a,h1,by rw [hw',h2]⟩
     | k a =>
      dsimp only at hy
      rw [a1h,if_pos rfl] at hy
      cases hy
      show v.weak=a.weak
      rw [hw',show σ.τ s=a from hz]
     | w l =>
      dsimp only at hy
      rw [hs] at hy
      cases hy
      obtain ⟨a,h1,h2⟩:=hz
      exact ⟨a,h1,by rw [hw',h2]⟩
     | d l =>
      dsimp only at hy
      rw [hs] at hy
      cases hy
      obtain ⟨a,h1,h2⟩:=hz
      exact ⟨a,h1,by rw [hw',h2]⟩
     | q a =>
      dsimp only at hy
      rw [hs] at hy
      cases hy
      show v.weak=a
      rw [hw']
      exact hz
   have ho:∀ t,t≠s→∀ y,D4 t (match D4 s sc with|some (.s l)=>(s,.d l)::sc|some (.k a)=>(s,.q a.weak)::sc|_=>sc)=some y→D4 t sc=some y:=by
    intro t ht y hy
    cases hs:D4 s sc with
    | none=>rw [hs] at hy; exact hy
    | some z =>
     rw [hs] at hy
     cases z <;> dsimp only at hy <;> first|exact hy|(rw [a1h,if_neg (fun q=>ht q.symm)] at hy; exact hy)
   have h1:a2p (match D4 s sc with|some (.s l)=>(s,.d l)::sc|some (.k a)=>(s,.q a.weak)::sc|_=>sc) env σ.τ:=fun t y hy=>by
    by_cases e:t=s
    · subst e; exact hw _ (.inl rfl) y hy
    · exact h _ _ (ho t e y hy)
   have h2:a2p (match D4 s sc with|some (.s l)=>(s,.d l)::sc|some (.k a)=>(s,.q a.weak)::sc|_=>sc) env (Opd.spend (.ts s) σ).τ:=fun t y hy=>by
    show SrcOK env (r5 σ.τ s (σ.τ s).weak t) y
    rw [a0l]
    by_cases e:t=s
    · subst e; rw [if_pos rfl]; exact hw _ (.inr rfl) y hy
    · rw [if_neg e]; exact h _ _ (ho t e y hy)
   have hb2:∀ t,((Opd.spend (.ts s) σ).τ t).stripB=(Opd.spend (.ts s) σ).τ t:=fun t=>by
    show (r5 σ.τ s (σ.τ s).weak t).stripB=r5 σ.τ s (σ.τ s).weak t
    rw [a0l]
    split
    · exact b1V (hb s)
    · exact hb t
   have a:=E9 (xs:=xs) h1 hb
   have b:=E9 (xs:=xs) h2 hb2
   exact ⟨a.1,b.2.1,b.2.2.1,b.2.2.2⟩
  | vs i =>
   have a:=E9 (xs:=xs) h hb
   have b:=E9 (xs:=xs) (σ:=Opd.spend (.vs i) σ) h hb
   exact ⟨a.1,b.2.1,b.2.2.1,b.2.2.2⟩
  | t s=>exact E9 (xs:=xs) h hb
  | v s=>exact E9 (xs:=xs) h hb
  | l s=>exact E9 (xs:=xs) h hb
  | c s=>exact E9 (xs:=xs) h hb
theorem b1u {xs:List Opd} (h:b3v xs=false):∀ σ:Sig,(b7 xs σ).fr=σ.fr:=by
 induction xs with
 | nil=>intro σ; rfl
 | cons x xs ih=>intro σ; cases x <;> first|exact ih h _|cases h

def d3r (nv dep:Nat) (sc:Scope) (o:AOper) (cf:CF):Prop:=∀ c env fr st σ,Ag nv dep sc env fr σ→σ.st=st→∀ (K:AV→Fr→St→RO) out,cf c env fr st K=some out →
 ∃ r b st' fr',sem o.kind c (o.args.map (·.read σ)) (match o.box with|some i=>σ.fr.getD i .undef|none=>.undef) st=some (r,b,st')∧K r fr' st'=some out ∧
  (match o.box with|some i=>(b7 o.args σ).fr.set i b|none=>(b7 o.args σ).fr)=toL nv fr'
theorem a24 {α γ:Type} {x:Option α} {f:α→Option γ} {r:γ} (h:obind x f=some r):∃ a,x=some a∧f a=some r:=by
 cases x with
 | none=>cases h
 | some a=>exact ⟨a,rfl,h⟩
theorem b3m {G:β→Prop} {nv dep:Nat} {sc:Scope} {o:AOper} {rs:List Rd} {kf:KF} {e:β} {Q:CF→β} (hn:nv≤64) (hrs:a8Z nv dep sc o.args rs) (hkf:b7E o.kind rs kf) (he:G e) (h:∀ cf,d3r nv dep sc o cf→G (Q cf)) :
 G (b3h nv o.kind o.args o.box kf e Q):=by
 unfold b3h
 split
 · rename_i hv hb
   refine h _ fun c env fr st σ ha hst K out hout=>?_
   rw [hkf,a0u ha hrs] at hout
   obtain ⟨⟨r,b,st'⟩,h1,h2⟩:=a24 hout
   exact ⟨r,b,st',fr,by rw [hb]; exact h1,h2,by rw [hb]; dsimp only; rw [b1u hv,ha.f]⟩
 · rename_i hv hb
   refine F7 hn o.args he fun sp hsp=>h _ fun c env fr st σ ha hst K out hout=>?_
   rw [hkf,a0u ha hrs] at hout
   obtain ⟨⟨r,b,st'⟩,h1,h2⟩:=a24 hout
   obtain ⟨fr',h3,h4⟩:=hsp fr σ ha.f
   dsimp only at h2
   rw [h3] at h2
   exact ⟨r,b,st',fr',by rw [hb]; exact h1,h2,by rw [hb]; exact h4⟩
 · rename_i i hb
   cases hbi:Nat.blt i nv with
   | false=>exact he
   | true =>
    have hi:=P5 hbi
    refine J4 (by omega) he fun g hg=>?_
    split
    · rename_i hal
      simp only [Bool.or_eq_false_iff] at hal
      refine h _ fun c env fr st σ ha hst K out hout=>?_
      rw [hg,hkf,a0u ha hrs] at hout
      obtain ⟨⟨r,b,st'⟩,h1,h2⟩:=a24 hout
      refine ⟨r,b,st',fr,by rw [hb]; dsimp only; rw [ha.f,L6 hi]; exact h1,h2,?_⟩
      rw [hb]
      have:=a1k hal.1 h1
      subst this
      dsimp only
      rw [b1u hal.2,ha.f,← L6 hi fr]
      exact a2e _ _
    · refine F7 hn o.args he fun sp hsp=>a0I (by omega) he fun p hp=>h _ fun c env fr st σ ha hst K out hout=>?_
      rw [hg,hkf,a0u ha hrs] at hout
      obtain ⟨⟨r,b,st'⟩,h1,h2⟩:=a24 hout
      obtain ⟨fr',h3,h4⟩:=hsp fr σ ha.f
      dsimp only at h2
      rw [h3,hp] at h2
      refine ⟨r,b,st',_,by rw [hb]; dsimp only; rw [ha.f,L6 hi]; exact h1,h2,?_⟩
      rw [hb]
      dsimp only
      rw [h4,a1l hi hn]

def d4V (nv dep:Nat) (o:AOper) (sc:Scope) (pf:PF) (dep':Nat) (sc':Scope):Prop:=∀ r env fr s (k:List AV→Fr→St→RO) out,pf r env fr s k=some out→∀ σ:Sig,σ.fr=toL nv fr→env.length=dep→(∀ t,(σ.τ t).stripB=σ.τ t)→a2p sc env σ.τ→σ.st=s →
 ∃ env' fr',k env' fr' s=some out∧Ag nv dep' sc' env' fr' (o.dst.put r σ)∧(o.dst.put r σ).st=s
theorem b5E {G:β→Prop} {nv dep:Nat} {tss:List Nat} {o:AOper} {sc:Scope} {e:β} {Q:PF→Nat→Scope→β} (hn:nv≤64) (he:G e) (h:∀ pf dep' sc',d4V nv dep o sc pf dep' sc'→G (Q pf dep' sc')):G (b8c nv dep tss o.dst sc e Q):=by
 unfold b8c
 cases hd:o.dst with
 | t s =>
  dsimp only
  have nb':∀ (σ:Sig) (r:AV),(∀ t,(σ.τ t).stripB=σ.τ t)→∀ t,(r5 σ.τ s r.stripB t).stripB=r5 σ.τ s r.stripB t:=fun σ r hb t=>by
   rw [a0l]; split
   · exact a3x r
   · exact hb t
  have sc1:∀ (σ:Sig) (r:AV) (env:List AV) (y:Src) (v:AV),env.length=dep→a2p sc env σ.τ→SrcOK (v::env) r.stripB y→a2p ((s,y)::sc) (v::env) (r5 σ.τ s r.stripB):=fun σ r env y v hl hsc hy t x hx=>by
   rw [a1h] at hx
   rw [a0l]
   split at hx
   · rename_i e; cases hx; rw [if_pos e.symm]; exact hy
   · rename_i e; rw [if_neg (fun q=>e q.symm)]; exact (hsc _ _ hx).push v
  cases b8I s tss with
  | true =>
   refine h _ _ _ fun r env fr s' k out hout σ hf hl hb hsc hst=>?_
   rw [b6i] at hout
   refine ⟨_,_,hout,?_,by rw [hd]; exact hst⟩
   rw [hd]
   exact ⟨hf,by simp [hl],nb' σ r hb,sc1 σ r env _ _ hl hsc ⟨_,by rw [← hl]; exact b4C _ _,rfl⟩⟩
  | false =>
   refine h _ _ _ fun r env fr s' k out hout σ hf hl hb hsc hst=>?_
   rw [b6i] at hout
   refine ⟨_,_,hout,?_,by rw [hd]; exact hst⟩
   rw [hd]
   exact ⟨hf,by simp [hl],nb' σ r hb,sc1 σ r env _ _ hl hsc ⟨_,by rw [← hl]; exact b4C _ _,rfl⟩⟩
 | v i =>
  dsimp only
  cases hbi:Nat.blt i nv with
  | false=>exact he
  | true =>
   have hi:=P5 hbi
   refine a0I (by omega) he fun p hp=>h _ _ _ fun r env fr s' k out hout σ hf hl hb hsc hst=>?_
   rw [c4l,hp] at hout
   refine ⟨_,_,hout,?_,by rw [hd]; exact hst⟩
   rw [hd]
   exact ⟨by show σ.fr.set i r.strip=_; rw [hf,a1l hi hn],hl,hb,hsc⟩
 | none =>
  refine h _ _ _ fun r env fr s' k out hout σ hf hl hb hsc hst=>?_
  refine ⟨_,_,hout,?_,by rw [hd]; exact hst⟩
  rw [hd]
  exact ⟨hf,hl,hb,hsc⟩
 | bx =>
  refine h _ _ _ fun r env fr s' k out hout σ hf hl hb hsc hst=>?_
  refine ⟨_,_,hout,?_,by rw [hd]; exact hst⟩
  rw [hd]
  exact ⟨hf,hl,hb,hsc⟩

def d3y (nv dep:Nat) (sc:Scope) (o:AOper) (opf:OpF) (dep':Nat) (sc':Scope):Prop:=∀ c env fr st σ,Ag nv dep sc env fr σ→σ.st=st→∀ (k:List AV→Fr→St→RO) out,opf c env fr st k=some out →
 ∃ σ' env' fr',j2 c o σ=some σ'∧Ag nv dep' sc' env' fr' σ'∧k env' fr' σ'.st=some out
def c3r (nv dep:Nat) (sc:Scope) (o:AOper) (sc':Scope):Prop:=∀ c env fr σ,Ag nv dep sc env fr σ→∃ σ',j2 c o σ=some σ'∧Ag nv dep sc' env fr σ'∧σ'.st=σ.st
theorem a8A {nv dep:Nat} {sc:Scope} {env:List AV} {fr:Fr} {σ:Sig} (ha:Ag nv dep sc env fr σ) (s:Nat) (v:AV) (y:Src) (hy:SrcOK env v.stripB y):Ag nv dep ((s,y)::sc) env fr ({ σ with τ:=r5 σ.τ s v.stripB }) :=
 ⟨ha.f,ha.d,fun t=>by
  show (r5 σ.τ s v.stripB t).stripB=r5 σ.τ s v.stripB t
  rw [a0l]; split
  · exact a3x v
  · exact ha.nb t,fun t x hx=>by
  show SrcOK env (r5 σ.τ s v.stripB t) x
  rw [a1h] at hx
  rw [a0l]
  split at hx
  · rename_i e; cases hx; rw [if_pos e.symm]; exact hy
  · rename_i e; rw [if_neg (fun q=>e q.symm)]; exact ha.t _ _ hx⟩
theorem a5M (c:b6) (s:Nat) (x:Opd) (hx:x.steals=false) (σ:Sig):j2 c ⟨.t s,.mv,[x],none,none⟩ σ=some { σ with τ:=r5 σ.τ s (x.read σ).stripB }:=by
 have e:b7 [x] σ=σ:=Q3 (by simp [d9,hx])
 show C8 c _ σ=_
 rw [L4]
 show some (Dst.put (.t s) (x.read σ) { b7 [x] σ with st:=σ.st })=_
 rw [e]
 rfl
theorem b7B {G:β→Prop} {nv dep:Nat} {sc:Scope} {tss:List Nat} {o:AOper} {e:β} {Q0:Scope→β} {Q:OpF→Nat→Scope→β} (hn:nv≤64) (he:G e) (h0:∀ sc',c3r nv dep sc o sc'→G (Q0 sc'))
 (h:∀ opf dep' sc',d3y nv dep sc o opf dep' sc'→G (Q opf dep' sc')):G (opK nv dep sc tss o e Q0 Q):=by
 unfold opK
 split
 · rename_i s s' hal
   have ho:o=⟨.t s,.mv,[.t s'],none,none⟩:=by
    unfold a6D at hal
    split at hal <;> first|(cases hal; rfl)|cases hal
   subst ho
   have go:∀ y,(∀ env fr σ,Ag nv dep sc env fr σ→SrcOK env (σ.τ s').weak y)→c3r nv dep sc ⟨.t s,.mv,[.t s'],none,none⟩ ((s,y)::sc):=fun y hy c env fr σ ha=>by
    refine ⟨_,a5M c s (.t s') rfl σ,a8A ha s _ y ?_,rfl⟩
    show SrcOK env ((σ.τ s').weak).stripB y
    rw [b1V (ha.nb s')]
    exact hy env fr σ ha
   split
   · rename_i l hs
     exact h0 _ (go _ fun env fr σ ha=>by obtain ⟨a,h1,h2⟩:=ha.t _ _ hs; exact ⟨a,h1,by rw [E8,h2]⟩)
   · rename_i l hs
     exact h0 _ (go _ fun env fr σ ha=>by obtain ⟨a,h1,h2⟩:=ha.t _ _ hs; exact ⟨a,h1,by rw [E8,h2]⟩)
   · rename_i l hs
     exact h0 _ (go _ fun env fr σ ha=>by obtain ⟨a,h1,h2⟩:=ha.t _ _ hs; exact ⟨a,h1,by rw [E8,h2]⟩)
   · rename_i a hs
     exact h0 _ (go _ fun env fr σ ha=>by
      have:=ha.t _ _ hs
      show (σ.τ s').weak.weak=a.weak
      rw [E8,show σ.τ s'=a from this])
   · rename_i a hs
     exact h0 _ (go _ fun env fr σ ha=>by
      have:=ha.t _ _ hs
      show (σ.τ s').weak.weak=a
      rw [E8]
      exact this)
   · exact he
 · rename_i s a hal
   have ho:o=⟨.t s,.mv,[.c a],none,none⟩:=by
    unfold a6D at hal
    split at hal <;> first|(cases hal; rfl)|cases hal
   subst ho
   exact h0 _ fun c env fr σ ha=>⟨_,a5M c s (.c a) rfl σ,a8A ha s _ _ rfl,rfl⟩
 · refine b1r hn he fun rs hrs=>b3Z fun kf hkf=>b3m hn hrs hkf he fun cf hcf=>b5E hn he fun pf dep' sc' hpf=>?_
   have body:∀ c env fr st σ,Ag nv dep sc env fr σ→σ.st=st→∀ (k:List AV→Fr→St→RO) out,(cf c env fr st fun r fr s=>pf r env fr s k)=some out →
    ∃ σ' env' fr',C8 c o σ=some σ'∧Ag nv dep' sc' env' fr' σ'∧k env' fr' σ'.st=some out:=fun c env fr st σ ha hst k out hout=>by
    obtain ⟨r,b,st',fr',h1,h2,h3⟩:=hcf c env fr st σ ha hst _ out hout
    obtain ⟨e1,e2,e3,e4⟩:=E9 (xs:=o.args) (σ:=σ) ha.t ha.nb
    let σ1:Sig:=match o.box with
     | some i=>{ b7 o.args σ with fr:=(b7 o.args σ).fr.set i b,st:=st' }
     | none=>{ b7 o.args σ with st:=st' }
    have hfr:σ1.fr=toL nv fr':=by
     rw [← h3]; simp only [σ1]; cases o.box <;> rfl
    have hτ:σ1.τ=(b7 o.args σ).τ:=by simp only [σ1]; cases o.box <;> rfl
    have hs1:σ1.st=st':=by simp only [σ1]; cases o.box <;> rfl
    obtain ⟨env2,fr2,g1,g2,g3⟩:=hpf r env fr' st' k out h2 σ1 hfr ha.d (by rw [hτ]; exact e3) (by rw [hτ]; exact e2) hs1
    refine ⟨_,env2,fr2,?_,g2,by rw [g3]; exact g1⟩
    rw [L4,hst]
    simp only [σ1]
    cases hb:o.box <;> rw [hb] at h1 <;> dsimp only at h1 ⊢ <;> rw [h1]
   split
   · rename_i hg
     refine h _ _ _ fun c env fr st σ ha hst k out hout=>?_
     unfold j2
     rw [hg]
     exact body c env fr st σ ha hst k out hout
   · rename_i x w hg
     refine a4j hn he fun g hgr=>h _ _ _ fun c env fr st σ ha hst k out hout=>?_
     rw [hgr env fr σ ha,c4Q] at hout
     unfold j2
     rw [hg]
     dsimp only
     have skip:pf (.tuple []) env fr st k=some out→∃ σ' env' fr',some (o.dst.put (.tuple []) σ)=some σ'∧Ag nv dep' sc' env' fr' σ'∧k env' fr' σ'.st=some out:=fun hout=>by
      obtain ⟨env2,fr2,g1,g2,g3⟩:=hpf _ env fr st k out hout σ ha.f ha.d ha.nb (E9 (xs:=o.args) (σ:=σ) ha.t ha.nb).1 hst
      exact ⟨_,env2,fr2,rfl,g2,by rw [g3]; exact g1⟩
     cases hx:x.read σ <;> rw [hx] at hout <;> (try dsimp only at hout ⊢) <;> try cases hout
     · rename_i b
       split at hout
       · rename_i hbw; rw [if_pos hbw]; exact body c env fr st σ ha hst k out hout
       · rename_i hbw; rw [if_neg hbw]; exact skip hout
     · rename_i vs
       cases vs with
       | nil=>exact skip hout
       | cons=>cases hout
end

noncomputable def a2Q (nv:Nat) (tss:List Nat) (cond:Opd) (ops:List AOper):Nat→Scope→Clo:=List.rec (motive:=fun _=>Nat→Scope→Clo)
 (fun dep sc=>rdK nv dep sc cond X9 fun r=>.mk fun c env fr st=>r env fr fun x=>some (x,fr,st))
 (fun o _ ih dep sc=>opK nv dep sc tss o X9 (fun sc'=>ih dep sc') fun opf dep' sc'=>.mk fun c env fr st=>opf c env fr st fun env fr st=>(ih dep' sc').run c env fr st) ops
def a2M (nv dep:Nat) (sc:Scope) (cond:Opd) (ops:List AOper) (x:Clo):Prop:=∀ c env fr st σ v fr' st',Ag nv dep sc env fr σ→σ.st=st→x.run c env fr st=some (v,fr',st') →
 ∃ σ',l8 c ops σ=some σ'∧σ'.fr=toL nv fr'∧σ'.st=st'∧cond.read σ'=v
theorem a9o {nv dep:Nat} {sc:Scope} {cond:Opd} {ops:List AOper}:a2M nv dep sc cond ops X9:=fun c env fr st σ v fr' st' ha hst h=>by cases (show (none:RO)=some _ from h)
theorem a1P {nv:Nat} (hn:nv≤64) {tss:List Nat} {cond:Opd}:∀ (ops:List AOper) (dep:Nat) (sc:Scope),a2M nv dep sc cond ops (a2Q nv tss cond ops dep sc)
 | [],dep,sc=>by
  show a2M nv dep sc cond [] (rdK nv dep sc cond X9 fun r=>.mk fun c env fr st=>r env fr fun x=>some (x,fr,st))
  refine a4j (G:=a2M nv dep sc cond []) hn a9o fun r hr c env fr st σ v fr' st' ha hst h=>?_
  have h:r env fr (fun x=>some (x,fr,st))=some (v,fr',st'):=h
  rw [hr env fr σ ha] at h
  cases h
  exact ⟨σ,rfl,ha.f,hst,rfl⟩
 | o::ops,dep,sc=>by
  show a2M nv dep sc cond (o::ops) (opK nv dep sc tss o X9 (fun sc'=>a2Q nv tss cond ops dep sc') fun opf dep' sc'=>.mk fun c env fr st=>opf c env fr st fun env fr st=>(a2Q nv tss cond ops dep' sc').run c env fr st)
  refine b7B (G:=a2M nv dep sc cond (o::ops)) hn a9o (fun sc' hal c env fr st σ v fr' st' ha hst h=>?_) fun opf dep' sc' ho c env fr st σ v fr' st' ha hst h=>?_
  · obtain ⟨σ1,h1,h2,h3⟩:=hal c env fr σ ha
    obtain ⟨σ2,g1,g2⟩:=a1P hn ops dep sc' c env fr st σ1 v fr' st' h2 (h3.trans hst) h
    exact ⟨σ2,by rw [l8,h1]; exact g1,g2⟩
  · obtain ⟨σ1,env1,fr1,h1,h2,h3⟩:=ho c env fr st σ ha hst _ _ h
    obtain ⟨σ2,g1,g2⟩:=a1P hn ops dep' sc' c env1 fr1 σ1.st σ1 v fr' st' h2 rfl h3
    exact ⟨σ2,by rw [l8,h1]; exact g1,g2⟩
end Go.Cb.G
/-
 THE ABSTRACT MACHINE, part 46: code and functions, made ready once; what they answer is the machine's answer.
-/
set_option maxRecDepth 4000
set_option linter.unusedVariables false
namespace Go.Cb.G
open Go Go.Cb
/-! regions -/
noncomputable def a9g (nv:Nat) (kill:List Nat) (Q:(Fr→(Fr→RO)→RO)→Clo):Clo:=List.rec (motive:=fun _=>((Fr→(Fr→RO)→RO)→Clo)→Clo) (fun Q=>Q fun fr k=>k fr)
 (fun i _ ih Q=>Bool.rec (motive:=fun _=>Clo) (ih Q) (a7f i X9 fun p=>ih fun r=>Q fun fr k=>p .undef fr fun fr=>r fr k) (Nat.blt i nv)) kill Q
def tsL:List Opd→List Nat
 | []=>[]
 | .ts s::xs=>s::tsL xs
 | _::xs=>tsL xs
def b34:List AOper→List Nat
 | []=>[]
 | o::os=>match tsL o.args with
  | []=>b34 os
  | l=>l++b34 os
noncomputable def a5A (nv:Nat) (kill:List Nat) (ops:List AOper) (cond:Opd):Clo :=
 a9g nv kill fun kf=>.mk fun c _ fr st=>kf fr fun fr=>(a2Q nv (tsL [cond]++b34 ops) cond ops 0 []).run c [] fr st
theorem a1B {G:Clo→Prop} {nv:Nat} (hn:nv≤64) (hs:G X9):∀ {kill:List Nat} {Q:(Fr→(Fr→RO)→RO)→Clo},(∀ r:Fr→(Fr→RO)→RO,(∀ fr,∃ fr',(∀ k,r fr k=k fr')∧k7 kill (toL nv fr)=toL nv fr')→G (Q r))→G (a9g nv kill Q)
 | [],Q,h=>h _ fun fr=>⟨fr,fun _=>rfl,rfl⟩
 | i::is,Q,h=>by
  show G (Bool.rec (motive:=fun _=>Clo) (a9g nv is Q) (a7f i X9 fun p=>a9g nv is fun r=>Q fun fr k=>p .undef fr fun fr=>r fr k) (Nat.blt i nv))
  cases hb:Nat.blt i nv with
  | false =>
   have hi:¬ i < nv:=fun q=>by rw [show Nat.blt i nv=true by simpa using q] at hb; cases hb
   exact a1B hn hs (kill:=is) fun r hr=>h r fun fr=>by
    obtain ⟨fr',h1,h2⟩:=hr fr
    exact ⟨fr',h1,by rw [k7,a3n hi]; exact h2⟩
  | true =>
   have hi:=P5 hb
   exact a0I (by omega) hs fun p hp=>a1B hn hs (kill:=is) fun r hr=>h _ fun fr=>by
    obtain ⟨fr',h1,h2⟩:=hr (a0M i .undef fr)
    exact ⟨fr',fun k=>by show p .undef fr _=_; rw [hp,h1],by rw [k7,a1l hi hn]; exact h2⟩
def b1X (nv:Nat) (kill:List Nat) (ops:List AOper) (cond:Opd) (x:Clo):Prop:=∀ c env fr st v fr' st',x.run c env fr st=some (v,fr',st') →
 ∃ σ',l8 c ops ⟨k7 kill (toL nv fr),fun _=>.undef,st⟩=some σ'∧σ'.fr=toL nv fr'∧σ'.st=st'∧cond.read σ'=v
theorem a9z {nv:Nat} (hn:nv≤64) {kill:List Nat} {ops:List AOper} {cond:Opd}:b1X nv kill ops cond (a5A nv kill ops cond):=by
 refine a1B (G:=b1X nv kill ops cond) hn (fun c env fr st v fr' st' h=>by cases (show (none:RO)=some _ from h)) fun r hr c env fr st v fr' st' h=>?_
 obtain ⟨fr1,h1,h2⟩:=hr fr
 have h:r fr _=_:=h
 rw [h1] at h
 exact a1P hn ops 0 [] c [] fr1 st ⟨k7 kill (toL nv fr),fun _=>.undef,st⟩ v fr' st' ⟨h2,rfl,fun _=>rfl,fun s x hx=>by cases (show (none:Option Src)=some x from hx)⟩ rfl h

/-! code -/
abbrev CO:=Option (Ex×Fr×St)
inductive CloC where
 | mk (f:b6→Nat→Fr→St→CO)
noncomputable def CloC.run (x:CloC):b6→Nat→Fr→St→CO:=CloC.rec (motive:=fun _=>b6→Nat→Fr→St→CO) (fun f=>f) x
section
variable {ρ:Type}
noncomputable def b1m (x:RO) (k:AV→Fr→St→Option ρ):Option ρ:=Option.rec (motive:=fun _=>Option ρ) none (fun p=>Prod.rec (motive:=fun _=>Option ρ) (fun v q=>Prod.rec (motive:=fun _=>Option ρ) (fun fr st=>k v fr st) q) p) x
noncomputable def a0z (x:CO) (k:Ex→Fr→St→Option ρ):Option ρ:=Option.rec (motive:=fun _=>Option ρ) none (fun p=>Prod.rec (motive:=fun _=>Option ρ) (fun v q=>Prod.rec (motive:=fun _=>Option ρ) (fun fr st=>k v fr st) q) p) x
noncomputable def a0Q (e:Ex) (n:Option ρ) (x:Nat→Option ρ) (r:Option ρ):Option ρ:=Ex.rec (motive:=fun _=>Option ρ) n x r e
theorem a7W {x:RO} {k:AV→Fr→St→Option ρ} {r:ρ} (h:b1m x k=some r):∃ v fr st,x=some (v,fr,st)∧k v fr st=some r:=by
 cases x with
 | none=>cases h
 | some p=>obtain ⟨v,fr,st⟩:=p; exact ⟨v,fr,st,rfl,h⟩
theorem Q9 {x:CO} {k:Ex→Fr→St→Option ρ} {r:ρ} (h:a0z x k=some r):∃ v fr st,x=some (v,fr,st)∧k v fr st=some r:=by
 cases x with
 | none=>cases h
 | some p=>obtain ⟨v,fr,st⟩:=p; exact ⟨v,fr,st,rfl,h⟩
end
noncomputable def b4g (b:b6→Nat→Fr→St→CO) (c:b6) (n m:Nat):Fr→St→CO:=Nat.rec (motive:=fun _=>Fr→St→CO) (fun _ _=>none) (fun _ ih fr st=>a0z (b c n fr st) fun e fr st=>a0Q e (ih fr st) (fun i=>some (.exit i,fr,st)) (some (.ret,fr,st))) m
def a6o (nv:Nat):List Nat→Fr→Fr
 | [],fr=>fr
 | i::is,fr=>a6o nv is (if i < nv then a0M i .undef fr else fr)
theorem a2v {nv:Nat} (hn:nv≤64):∀ {is:List Nat} {fr:Fr},k7 is (toL nv fr)=toL nv (a6o nv is fr)
 | [],fr=>rfl
 | i::is,fr=>by
  rw [k7,a6o]
  split
  · rename_i h; rw [a1l h hn]; exact a2v hn
  · rename_i h; rw [a3n h]; exact a2v hn
noncomputable def b4H (nv:Nat) (kill:List Nat) (x y:CO):CO:=a0z x fun e fr st=>a0z y fun e' fr' st' =>
 if a9f (I3 kill (e,toL nv fr,st)) (I3 kill (e',toL nv fr',st')) then some (e,a6o nv kill fr,st) else none
noncomputable def S4 (nv:Nat) (x:ACode):CloC:=ACode.rec (motive:=fun _=>CloC)
 (.mk fun _ _ fr st=>some (.normal,fr,st))
 (fun kill ops=>.mk fun c _ fr st=>b1m ((a5A nv kill ops (.c .undef)).run c [] fr st) fun _ fr st=>some (.normal,fr,st))
 (fun kill ops x _ _ a b=>.mk fun c n fr st=>b1m ((a5A nv kill ops x).run c [] fr st) fun v fr st=>onB v none fun y=>Bool.rec (motive:=fun _=>CO) (b.run c n fr st) (a.run c n fr st) y)
 (fun _ _ a b=>.mk fun c n fr st=>a0z (a.run c n fr st) fun e fr st=>a0Q e (b.run c n fr st) (fun i=>some (.exit i,fr,st)) (some (.ret,fr,st)))
 (fun id _ a=>.mk fun c n fr st=>a0z (a.run c n fr st) fun e fr st=>a0Q e (some (.normal,fr,st)) (fun i=>Bool.rec (motive:=fun _=>CO) (some (.exit i,fr,st)) (some (.normal,fr,st)) (Nat.beq i id)) (some (.ret,fr,st)))
 (fun _ a=>.mk fun c n fr st=>b4g (fun c n fr st=>a.run c n fr st) c n n fr st)
 (fun kill _ _ a b=>.mk fun c n fr st=>b4H nv kill (a.run c n fr st) (b.run c n fr st))
 (fun id=>.mk fun _ _ fr st=>some (.exit id,fr,st))
 (.mk fun _ _ fr st=>some (.ret,fr,st)) x
def c1A (nv:Nat) (x:ACode) (y:CloC):Prop:=∀ c n fr st e fr' st',y.run c n fr st=some (e,fr',st')→e8 c n x (toL nv fr) st=some (e,toL nv fr',st')
theorem a9C {nv:Nat} {a:ACode} {b:b6→Nat→Fr→St→CO} {c:b6} {n:Nat} (h:∀ fr st e fr' st',b c n fr st=some (e,fr',st')→e8 c n a (toL nv fr) st=some (e,toL nv fr',st')):∀ (m:Nat) (fr:Fr) (st:St) (e:Ex) (fr':Fr) (st':St),b4g b c n m fr st=some (e,fr',st')→S1 (e8 c n a) m (toL nv fr) st=some (e,toL nv fr',st')
 | 0,fr,st,e,fr',st',hs=>by cases (show (none:CO)=some _ from hs)
 | m+1,fr,st,e,fr',st',hs=>by
  obtain ⟨e1,fr1,st1,h1,h2⟩:=Q9 (show a0z (b c n fr st) (fun e fr st=>a0Q e (b4g b c n m fr st) (fun i=>some (.exit i,fr,st)) (some (.ret,fr,st)))=some (e,fr',st') from hs)
  rw [S1,h _ _ _ _ _ h1]
  cases e1 with
  | normal=>exact a9C h m fr1 st1 e fr' st' h2
  | exit i=>cases (show some (Ex.exit i,fr1,st1)=some (e,fr',st') from h2); rfl
  | ret=>cases (show some (Ex.ret,fr1,st1)=some (e,fr',st') from h2); rfl
theorem K5 {nv:Nat} (hn:nv≤64):∀ x:ACode,c1A nv x (S4 nv x)
 | .skip,c,n,fr,st,e,fr',st',h=>by cases (show some (Ex.normal,fr,st)=some (e,fr',st') from h); rfl
 | .ret,c,n,fr,st,e,fr',st',h=>by cases (show some (Ex.ret,fr,st)=some (e,fr',st') from h); rfl
 | .exit id,c,n,fr,st,e,fr',st',h=>by cases (show some (Ex.exit id,fr,st)=some (e,fr',st') from h); rfl
 | .reg kill ops,c,n,fr,st,e,fr',st',h=>by
  obtain ⟨v,fr1,st1,h1,h2⟩:=a7W (show b1m ((a5A nv kill ops (.c .undef)).run c [] fr st) (fun _ fr st=>some (Ex.normal,fr,st))=some (e,fr',st') from h)
  cases h2
  obtain ⟨σ,g1,g2,g3,g4⟩:=a9z hn _ _ _ _ _ _ _ h1
  rw [e8,g1]
  simp only [fL_eq,g2,g3]
 | .test kill ops x a b,c,n,fr,st,e,fr',st',h=>by
  obtain ⟨v,fr1,st1,h1,h2⟩:=a7W (show b1m ((a5A nv kill ops x).run c [] fr st) (fun v fr st=>onB v none fun y=>Bool.rec (motive:=fun _=>CO) ((S4 nv b).run c n fr st) ((S4 nv a).run c n fr st) y)=some (e,fr',st') from h)
  obtain ⟨σ,g1,g2,g3,g4⟩:=a9z hn _ _ _ _ _ _ _ h1
  rw [a9j] at h2
  rw [e8,g1]
  dsimp only
  rw [g4]
  cases v <;> try (cases h2; done)
  rename_i y
  cases y
  · simp only [fL_eq,g2,g3]; exact K5 hn b _ _ _ _ _ _ _ h2
  · simp only [fL_eq,g2,g3]; exact K5 hn a _ _ _ _ _ _ _ h2
 | .seq a b,c,n,fr,st,e,fr',st',h=>by
  obtain ⟨e1,fr1,st1,h1,h2⟩:=Q9 (show a0z ((S4 nv a).run c n fr st) (fun e fr st=>a0Q e ((S4 nv b).run c n fr st) (fun i=>some (.exit i,fr,st)) (some (.ret,fr,st)))=some (e,fr',st') from h)
  rw [e8,K5 hn a _ _ _ _ _ _ _ h1]
  cases e1 with
  | normal=>exact K5 hn b _ _ _ _ _ _ _ h2
  | exit i=>cases (show some (Ex.exit i,fr1,st1)=some (e,fr',st') from h2); rfl
  | ret=>cases (show some (Ex.ret,fr1,st1)=some (e,fr',st') from h2); rfl
 | .blk id a,c,n,fr,st,e,fr',st',h=>by
  obtain ⟨e1,fr1,st1,h1,h2⟩:=Q9 (show a0z ((S4 nv a).run c n fr st) (fun e fr st=>a0Q e (some (.normal,fr,st)) (fun i=>Bool.rec (motive:=fun _=>CO) (some (.exit i,fr,st)) (some (.normal,fr,st)) (Nat.beq i id)) (some (.ret,fr,st)))=some (e,fr',st') from h)
  rw [e8,K5 hn a _ _ _ _ _ _ _ h1]
  cases e1 with
  | normal=>cases (show some (Ex.normal,fr1,st1)=some (e,fr',st') from h2); rfl
  | exit i =>
   have h2:Bool.rec (motive:=fun _=>CO) (some (.exit i,fr1,st1)) (some (.normal,fr1,st1)) (Nat.beq i id)=some (e,fr',st'):=h2
   dsimp only
   cases hb:Nat.beq i id with
   | true=>rw [hb] at h2; cases h2; rw [if_pos (Nat.eq_of_beq_eq_true hb)]
   | false=>rw [hb] at h2; cases h2; rw [if_neg (Nat.ne_of_beq_eq_false hb)]
  | ret=>cases (show some (Ex.ret,fr1,st1)=some (e,fr',st') from h2); rfl
 | .loop a,c,n,fr,st,e,fr',st',h=>by
  rw [e8]
  exact a9C (b:=fun c n fr st=>(S4 nv a).run c n fr st) (fun fr st e fr' st' h=>K5 hn a _ _ _ _ _ _ _ h) n fr st e fr' st' h
 | .either kill a b,c,n,fr,st,e,fr',st',h=>by
  have h:b4H nv kill ((S4 nv a).run c n fr st) ((S4 nv b).run c n fr st)=some (e,fr',st'):=h
  obtain ⟨e1,fr1,st1,h1,h2⟩:=Q9 h
  obtain ⟨e2,fr2,st2,h3,h4⟩:=Q9 h2
  rw [e8,K5 hn a _ _ _ _ _ _ _ h1,K5 hn b _ _ _ _ _ _ _ h3]
  unfold a1y
  split at h4
  · rename_i hq
    cases h4
    dsimp only
    rw [if_pos hq]
    show some (_,k7 kill (toL nv fr1),_)=_
    rw [a2v hn]
  · cases h4

/-! functions -/
inductive FnC where
 | mk (f:b6→Nat→List AV→St→Option (AV×St))
noncomputable def FnC.run (x:FnC):b6→Nat→List AV→St→Option (AV×St):=FnC.rec (motive:=fun _=>b6→Nat→List AV→St→Option (AV×St)) (fun f=>f) x
noncomputable def M5:FnC:=.mk fun _ _ _ _=>none
noncomputable def b7t (nv:Nat) (r:ResK) (Q:Gt (AV×St)→FnC):FnC :=
 match r with
 | .v i=>match Nat.blt i nv with
  | true=>a1Q i M5 fun g=>Q fun fr k=>g fr fun x=>qWk x k
  | false=>M5
 | .vs i=>match Nat.blt i nv with
  | true=>a1Q i M5 fun g=>Q g
  | false=>M5
 | .bx i agg n=>match Nat.blt i nv with
  | true=>a1Q i M5 fun g=>Q fun fr k=>g fr fun x=>b39 x none fun cs=>a2X k agg n cs
  | false=>M5
theorem b4B {G:FnC→Prop} {nv:Nat} (hn:nv≤64) (hs:G M5) {r:ResK} {Q:Gt (AV×St)→FnC} (h:∀ g:Gt (AV×St),(∀ fr k out,g fr k=some out→∃ v,r.get (toL nv fr)=some v∧k v=some out)→G (Q g)):G (b7t nv r Q):=by
 unfold b7t
 cases r with
 | v i =>
  dsimp only
  cases hb:Nat.blt i nv with
  | false=>exact hs
  | true =>
   have hi:=P5 hb
   refine J4 (by omega) hs fun g hg=>h _ fun fr k out ho=>?_
   rw [hg,a0A] at ho
   exact ⟨_,by rw [ResK.get,L6 hi],ho⟩
 | vs i =>
  dsimp only
  cases hb:Nat.blt i nv with
  | false=>exact hs
  | true =>
   have hi:=P5 hb
   refine J4 (by omega) hs fun g hg=>h _ fun fr k out ho=>?_
   rw [hg] at ho
   exact ⟨_,by rw [ResK.get,L6 hi],ho⟩
 | bx i agg n =>
  dsimp only
  cases hb:Nat.blt i nv with
  | false=>exact hs
  | true =>
   have hi:=P5 hb
   refine J4 (by omega) hs fun g hg=>h _ fun fr k out ho=>?_
   rw [hg,a7e] at ho
   rw [ResK.get,L6 hi]
   cases hx:S9 i fr <;> rw [hx] at ho <;> try (cases ho; done)
   rename_i cs
   dsimp only at ho ⊢
   rw [a1G] at ho
   cases ht:j3 agg n cs with
   | none=>rw [ht] at ho; cases ho
   | some v=>rw [ht] at ho; exact ⟨v,rfl,ho⟩
noncomputable def b3D (nv:Nat):List ResK→((Fr→(List AV→Option (AV×St))→Option (AV×St))→FnC)→FnC
 | [],Q=>Q fun _ k=>k []
 | r::rs,Q=>b7t nv r fun g=>b3D nv rs fun gs=>Q fun fr k=>g fr fun v=>gs fr fun vs=>k (v::vs)
theorem a7K {G:FnC→Prop} {nv:Nat} (hn:nv≤64) (hs:G M5):∀ {rs:List ResK} {Q:(Fr→(List AV→Option (AV×St))→Option (AV×St))→FnC},(∀ g:Fr→(List AV→Option (AV×St))→Option (AV×St),(∀ fr k out,g fr k=some out→∃ vs,L1 rs (toL nv fr)=some vs∧k vs=some out)→G (Q g))→G (b3D nv rs Q)
 | [],Q,h=>h _ fun fr k out ho=>⟨[],rfl,ho⟩
 | r::rs,Q,h=>by
  unfold b3D
  exact b4B hn hs fun g hg=>a7K hn hs fun gs hgs=>h _ fun fr k out ho=>by
   obtain ⟨v,h1,h2⟩:=hg fr _ _ ho
   obtain ⟨vs,h3,h4⟩:=hgs fr _ _ h2
   exact ⟨v::vs,by rw [L1,h1,h3],h4⟩
noncomputable def a7b (vs:List AV) (st:St):Option (AV×St):=List.rec (motive:=fun _=>Option (AV×St)) (some (.tuple [],st)) (fun v ws _=>List.rec (motive:=fun _=>Option (AV×St)) (some (v,st)) (fun _ _ _=>some (.tuple vs,st)) ws) vs
noncomputable def b3Y (fn:AFn):FnC:=match Nat.ble fn.nv 64 && Nat.ble fn.np fn.nv with
 | true=>b3D fn.nv fn.results fun g=>.mk fun c n as st=>Bool.rec (motive:=fun _=>Option (AV×St)) none (b8H as fun w=>a0z ((S4 fn.nv fn.code).run c n (fr0 w) st) fun e fr st=>a0Q e (g fr fun vs=>a7b vs st) (fun _=>none) (g fr fun vs=>a7b vs st)) (Nat.beq (L0 as) fn.np)
 | false=>M5
noncomputable def fnC (x:Option AFn):FnC:=match x with
 | none=>M5
 | some fn=>match fn.ext with
  | some e=>.mk fun _ _ as st=>e as st
  | none=>b3Y fn
theorem c1P {vs:List AV} {st:St}:a7b vs st=(match (some vs:Option (List AV)) with|some [v]=>some (v,st)|some vs=>some (.tuple vs,st)|none=>none):=by
 match vs with
 | []=>rfl
 | [_]=>rfl
 | _::_::_=>rfl
def b6x (fn:AFn) (x:FnC):Prop:=∀ c n as st out,x.run c n as st=some out→fn.run c n as st=some out
theorem b7s (fn:AFn):b6x fn (b3Y fn):=by
 have hs:b6x fn M5:=fun c n as st out h=>by cases (show (none:Option (AV×St))=some _ from h)
 unfold b3Y
 cases hb:Nat.ble fn.nv 64 && Nat.ble fn.np fn.nv with
 | false=>exact hs
 | true =>
  simp only [Bool.and_eq_true,Nat.ble_eq] at hb
  refine a7K hb.1 hs fun g hg c n as st out h=>?_
  have h:Bool.rec (motive:=fun _=>Option (AV×St)) none (b8H as fun w=>a0z ((S4 fn.nv fn.code).run c n (fr0 w) st) fun e fr st=>a0Q e (g fr fun vs=>a7b vs st) (fun _=>none) (g fr fun vs=>a7b vs st)) (Nat.beq (L0 as) fn.np)=some out:=h
  cases hl:Nat.beq (L0 as) fn.np with
  | false=>rw [hl] at h; cases h
  | true =>
   rw [hl] at h
   have hl:=Nat.eq_of_beq_eq_true hl
   rw [G5] at hl
   obtain ⟨w,h1,h2,h3⟩:=c1y h
   obtain ⟨e,fr',st',h4,h5⟩:=Q9 h1
   have h6:=K5 hb.1 fn.code _ _ _ _ _ _ _ h4
   rw [c2l h3 hl h2 hb.2 hb.1] at h6
   unfold AFn.run
   rw [if_pos hl,h6]
   have fin:(g fr' fun vs=>a7b vs st')=some out→(match L1 fn.results (toL fn.nv fr') with|some [v]=>some (v,st')|some vs=>some (.tuple vs,st')|none=>none)=some out:=fun h=>by
    obtain ⟨vs,h7,h8⟩:=hg fr' _ _ h
    rw [h7,← h8,c1P]
   cases e with
   | normal=>exact fin h5
   | exit i=>cases (show (none:Option (AV×St))=some _ from h5)
   | ret=>exact fin h5

noncomputable def callG (tbl:Nat→Option AFn) (n:Nat):b6:=Nat.rec (motive:=fun _=>b6) (fun _ _ _=>none) (fun n ih f as st=>(fnC (tbl f)).run ih n as st) n
theorem a4z {tbl:Nat→Option AFn}:∀ n,T6 (callG tbl n) (l0 tbl n)
 | 0,f,as,st,r,h=>by cases (show (none:Option (AV×St))=some _ from h)
 | n+1,f,as,st,r,h=>by
  have h:(fnC (tbl f)).run (callG tbl n) n as st=some r:=h
  unfold l0
  cases ht:tbl f with
  | none=>rw [ht] at h; cases (show (none:Option (AV×St))=some _ from h)
  | some fn =>
   rw [ht] at h
   unfold fnC at h
   dsimp only at h ⊢
   cases he:fn.ext with
   | some e=>rw [he] at h; exact h
   | none =>
    rw [he] at h
    exact b4T (a4z n) (Nat.le_refl _) (b7s fn _ _ _ _ _ h)
theorem ev_ofG {tbl:Nat→Option AFn} {k f:Nat} {as:List AV} {st:St} {r:AV} {st':St} (h:callG tbl k f as st=some (r,st')):Ev tbl f as st r st':=⟨k,a4z k _ _ _ _ h⟩
end Go.Cb.G
/-
 THE ABSTRACT MACHINE, part 47: a law's own code, step by step, over calls of which the answers are known.
-/
set_option maxRecDepth 4000
set_option linter.unusedVariables false
namespace Go.Cb.G
open Go Go.Cb
def N:b6:=fun _ _ _=>none
theorem d2L (c:b6):T6 N c:=fun _ _ _ _ h=>by cases h
def sp (kill:List Nat) (ops:List AOper) (i:Nat) (fr:List AV) (st:St):Option (Sig×AOper×List AOper):=match l8 N (ops.take i) ⟨k7 kill fr,fun _=>.undef,st⟩,ops.drop i with
 | some σ,o::os=>some (σ,o,os)
 | _,_=>none
def after (kill:List Nat) (ops:List AOper) (i:Nat) (x:Opd) (fr:List AV) (st:St) (r:AV) (st1:St):Option (AV×List AV×St):=match sp kill ops i fr st with
 | some (σ,o,os)=>match l8 N os (o.dst.put r { b7 o.args σ with st:=st1 }) with
  | some σ=>some (x.read σ,σ.fr,σ.st)
  | none=>none
 | none=>none
section
variable {tbl:Nat→Option AFn}
theorem xc_0 {code:ACode} {k:Nat} {fr:List AV} {st:St} {out:Out} (h:e8 N k code fr st=some out):XC tbl code fr st out:=⟨k,t7 (d2L _) (Nat.le_refl _) h⟩
theorem d4c {code:ACode} {k:Nat} {fr:List AV} {st:St} {out:Out} (h:e8 (callG tbl k) k code fr st=some out):XC tbl code fr st out:=⟨k,t7 (a4z k) (Nat.le_refl _) h⟩
def fin (rs:List ResK) (o:Option Out):Option (AV×St):=match o with
 | some (.exit _,_,_)=>none
 | some (_,fr,st)=>match L1 rs fr with
  | some [v]=>some (v,st)
  | some vs=>some (.tuple vs,st)
  | none=>none
 | none=>none
def d1r (x:Option (AV×St)):Option AV:=match x with
 | some (v,_)=>some v
 | none=>none
def FX (tbl:Nat→Option AFn) (rs:List ResK) (code:ACode) (fr:List AV) (st:St) (v:AV):Prop:=∃ out st',XC tbl code fr st out∧fin rs (some out)=some (v,st')
theorem FX.seq {rs:List ResK} {a b:ACode} {fr fr1:List AV} {st st1:St} {v:AV} (h:XC tbl a fr st (.normal,fr1,st1)) (h':FX tbl rs b fr1 st1 v):FX tbl rs (.seq a b) fr st v:=by
 obtain ⟨⟨e,fr',st'⟩,s,h1,h2⟩:=h'
 exact ⟨_,s,XC.seq h h1,h2⟩
theorem FX.G {rs:List ResK} {code:ACode} {k:Nat} {fr:List AV} {st:St} {v:AV} (h:d1r (fin rs (e8 (callG tbl k) k code fr st))=some v):FX tbl rs code fr st v:=by
 cases hz:e8 (callG tbl k) k code fr st with
 | none=>rw [hz] at h; cases h
 | some o =>
  rw [hz] at h
  cases hf:fin rs (some o) with
  | none=>rw [hf] at h; cases h
  | some p =>
   obtain ⟨w,s⟩:=p
   rw [hf] at h
   cases (show some w=some v from h)
   exact ⟨o,s,d4c hz,hf⟩
theorem FX.run {rs:List ResK} {code:ACode} {fr:List AV} {st:St} {v:AV} {f:Nat} {fn:AFn} {as:List AV} (htb:tbl f=some fn) (he:fn.ext=none) (hl:as.length=fn.np) (hr:fn.results=rs) (hc:fn.code=code)
 (hfr:as++List.replicate (fn.nv - fn.np) .undef=fr) (h:FX tbl rs code fr st v):∃ n st',l0 tbl n f as st=some (v,st'):=by
 obtain ⟨⟨e,fr',st1⟩,s,⟨n,h1⟩,h2⟩:=h
 refine ⟨n+1,s,?_⟩
 unfold l0
 rw [htb]
 dsimp only
 rw [he]
 dsimp only
 unfold AFn.run
 rw [if_pos hl,hc,hfr,h1,hr]
 cases e with
 | exit i=>cases h2
 | normal=>exact h2
 | ret=>exact h2
end
end Go.Cb.G
