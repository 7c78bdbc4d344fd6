import Derived.Test.YtbibkdncfclnbaaGreatDoorXAms3
/-
 THE ABSTRACT MACHINE, part 45: regions, made ready once.
-/
set_option maxRecDepth 4000
set_option linter.unusedVariables false
namespace Go.Cb.G
open Go Go.Cb
inductive Clo where
 | mk (f:b9→List AV→Fr→St→RO)
noncomputable def Clo.run (x:Clo):b9→List AV→Fr→St→RO:=Clo.rec (motive:=fun _=>b9→List AV→Fr→St→RO) (fun f=>f) x
noncomputable def Y8:Clo:=.mk fun _ _ _ _=>none
abbrev OpF:=b9→List AV→Fr→St→(List AV→Fr→St→RO)→RO
abbrev CF:=b9→List AV→Fr→St→(AV→Fr→St→RO)→RO
section
variable {β:Type}
noncomputable def a2s:List Opd→Scope→Scope
 | [],sc=>sc
 | .ts s::xs,sc=>a2s xs (match E3 s sc with
  | some (.s l)=>(s,.d l)::sc
  | some (.k a)=>(s,.q a.weak)::sc
  | _=>sc)
 | _::xs,sc=>a2s xs sc
noncomputable def a1i (nv:Nat):List Opd→β→((Fr→(Fr→RO)→RO)→β)→β
 | [],_,Q=>Q fun fr k=>k fr
 | .vs i::xs,e,Q=>match Nat.blt i nv with
  | true=>a2c i e fun g=>a7r i e fun p=>a1i nv xs e fun r=>Q fun fr k=>g fr fun x=>qWk x fun x=>p x fr fun fr=>r fr k
  | false=>e
 | _::xs,e,Q=>a1i nv xs e Q
def b4n:List Opd→Bool
 | []=>false
 | .vs _::_=>true
 | _::xs=>b4n xs
noncomputable def b4y (nv:Nat) (kd:Kind) (args:List Opd) (box:Option Nat) (kf:KF) (e:β) (Q:CF→β):β :=
 match b4n args,box with
 | false,none=>Q fun c env fr st K=>kf c env fr .undef st fun r _ s=>K r fr s
 | true,none=>a1i nv args e fun sp=>Q fun c env fr st K=>kf c env fr .undef st fun r _ s=>sp fr fun fr=>K r fr s
 | vs,some i=>match Nat.blt i nv with
  | false=>e
  | true=>a2c i e fun g=>match kd.alters || vs with
   | false=>Q fun c env fr st K=>g fr fun b=>kf c env fr b st fun r _ s=>K r fr s
   | true=>a1i nv args e fun sp=>a7r i e fun p=>Q fun c env fr st K=>g fr fun b=>kf c env fr b st fun r b s=>sp fr fun fr=>p b fr fun fr=>K r fr s
abbrev PF:=AV→List AV→Fr→St→(List AV→Fr→St→RO)→RO
def b9C (x:Nat):List Nat→Bool
 | []=>false
 | y::ys=>Nat.beq x y || b9C x ys
noncomputable def b8j (nv dep:Nat) (tss:List Nat) (d:Dst) (sc:Scope) (e:β) (Q:PF→Nat→Scope→β):β :=
 match d with
 | .t s=>match b9C s tss with
  | true=>Q (fun r env fr s k=>qSb r fun v _=>k (v::env) fr s) (dep+1) ((s,.s dep)::sc)
  | false=>Q (fun r env fr s k=>qSb r fun _ w=>k (w::env) fr s) (dep+1) ((s,.w dep)::sc)
 | .v i=>match Nat.blt i nv with
  | true=>a7r i e fun p=>Q (fun r env fr s k=>qSv r fun v _=>p v fr fun fr=>k env fr s) dep sc
  | false=>e
 | _=>Q (fun r env fr s k=>k env fr s) dep sc
noncomputable def qGd (q:AV) (w:Bool) (x y:RO):RO:=c4i q none (fun v=>bW v w x y) (fun vs=>List.rec (motive:=fun _=>RO) y (fun _ _ _=>none) vs)
theorem c38 (q:AV) (w:Bool) (x y:RO):qGd q w x y=match q with|.bool b=>if b == w then x else y|.tuple []=>y|_=>none:=by
 simp only [qGd,c2y,c85]
 cases q <;> try rfl
 rename_i vs; cases vs <;> rfl
def a7c (o:AOper):Option (Nat×Opd):=match o with
 | ⟨.t s,.mv,[.t s'],none,none⟩=>some (s,.t s')
 | ⟨.t s,.mv,[.c a],none,none⟩=>some (s,.c a)
 | _=>none
noncomputable def opK (nv dep:Nat) (sc:Scope) (tss:List Nat) (o:AOper) (e:β) (Q0:Scope→β) (Q:OpF→Nat→Scope→β):β :=
 match a7c o with
 | some (s,.t s')=>match E3 s' sc with
  | some (.w l)=>Q0 ((s,.w l)::sc)
  | some (.s l)|some (.d l)=>Q0 ((s,.d l)::sc)
  | some (.k a)=>Q0 ((s,.q a.weak)::sc)
  | some (.q a)=>Q0 ((s,.q a)::sc)
  | none=>e
 | some (s,.c a)=>Q0 ((s,.k a.stripB)::sc)
 | _=>rdL nv dep sc (fun x e Q=>rdK nv dep sc x e Q) o.args e fun rs=>b3V o.kind rs fun kf=>b4y nv o.kind o.args o.box kf e fun cf =>
  b8j nv dep tss o.dst (a2s o.args sc) e fun pf dep' sc'=>match o.guard with
   | none=>Q (fun c env fr st k=>cf c env fr st fun r fr s=>pf r env fr s k) dep' sc'
   | some (x,w)=>rdK nv dep sc x e fun g=>Q (fun c env fr st k=>g env fr fun q=>qGd q w (cf c env fr st fun r fr s=>pf r env fr s k) (pf (.tuple []) env fr st k)) dep' sc'

/-! what is true of them -/
theorem b2S {v:AV} (h:v.stripB=v):v.weak.stripB=v.weak:=by cases v <;> first|rfl|cases h
theorem a30 (v:AV):v.stripB.stripB=v.stripB:=by cases v <;> rfl
theorem a0r (τ:Nat→AV) (s:Nat) (a:AV) (j:Nat):r8 τ s a j=if j=s then a else τ j:=by
 unfold r8
 by_cases h:j=s
 · subst h; simp
 · rw [if_neg h]; simp [h]
theorem G4 {nv:Nat} (hn:nv≤64):∀ (xs:List Opd) {G:β→Prop} {e:β} {Q:(Fr→(Fr→RO)→RO)→β},G e →
 (∀ sp:Fr→(Fr→RO)→RO,(∀ fr σ,σ.fr=toL nv fr→∃ fr',(∀ k,sp fr k=k fr')∧(c0 xs σ).fr=toL nv fr')→G (Q sp))→G (a1i nv xs e Q)
 | [],G,e,Q,he,h=>h _ fun fr σ hf=>⟨fr,fun _=>rfl,hf⟩
 | x::xs,G,e,Q,he,h=>by
  cases x with
  | vs i =>
   unfold a1i
   cases hb:Nat.blt i nv with
   | false=>exact he
   | true =>
    have hi:=P8 hb
    refine J7 (by omega) he fun g hg=>a0Q (by omega) he fun p hp=>G4 hn xs he fun sp hsp=>h _ fun fr σ hf=>?_
    obtain ⟨fr',h1,h2⟩:=hsp (a04 i (S9 i fr).weak fr) (Opd.spend (.vs i) σ) (by
     show σ.fr.set i (σ.fr.getD i .undef).weak=_
     rw [hf,M0 hi,a1A hi hn])
    refine ⟨fr',fun k=>?_,h2⟩
    show g fr (fun x=>qWk x fun x=>p x fr fun fr=>sp fr k)=_
    rw [hg,a0G,hp,h1]
  | ts s=>exact G4 hn xs he fun sp hsp=>h sp fun fr σ hf=>hsp fr (Opd.spend (.ts s) σ) hf
  | t s=>exact G4 hn xs he fun sp hsp=>h sp fun fr σ hf=>hsp fr σ hf
  | v s=>exact G4 hn xs he fun sp hsp=>h sp fun fr σ hf=>hsp fr σ hf
  | l s=>exact G4 hn xs he fun sp hsp=>h sp fun fr σ hf=>hsp fr σ hf
  | c s=>exact G4 hn xs he fun sp hsp=>h sp fun fr σ hf=>hsp fr σ hf
def a2G (sc:Scope) (env:List AV) (τ:Nat→AV):Prop:=∀ s x,E3 s sc=some x→SrcOK env (τ s) x
theorem F9 {env:List AV}:∀ {xs:List Opd} {sc:Scope} {σ:Sig},a2G sc env σ.τ→(∀ s,(σ.τ s).stripB=σ.τ s) →
 a2G (a2s xs sc) env σ.τ∧a2G (a2s xs sc) env (c0 xs σ).τ∧(∀ s,((c0 xs σ).τ s).stripB=(c0 xs σ).τ s)∧(c0 xs σ).st=σ.st
 | [],sc,σ,h,hb=>⟨h,h,hb,rfl⟩
 | x::xs,sc,σ,h,hb=>by
  cases x with
  | ts s =>
   have hw:∀ (v:AV),v=σ.τ s∨v=(σ.τ s).weak→∀ y,E3 s (match E3 s sc with|some (.s l)=>(s,.d l)::sc|some (.k a)=>(s,.q a.weak)::sc|_=>sc)=some y→SrcOK env v y:=by
    intro v hv y hy
    have hw':v.weak=(σ.τ s).weak:=by rcases hv with rfl|rfl; rfl; exact F8 _
    cases hs:E3 s sc with
    | none=>rw [hs] at hy; dsimp only at hy; rw [hs] at hy; cases hy
    | some z =>
     have hz:=h _ _ hs
     rw [hs] at hy
     cases z with
     | s l =>
      dsimp only at hy
      rw [a1F,if_pos rfl] at hy
      cases hy
      obtain ⟨a,h1,h2⟩:=hz
      exact ⟨a,h1,by rw [hw',h2]⟩
     | k a =>
      dsimp only at hy
      rw [a1F,if_pos rfl] at hy
      cases hy
      show v.weak=a.weak
      rw [hw',show σ.τ s=a from hz]
     | w l =>
      dsimp only at hy
      rw [hs] at hy
      cases hy
      obtain ⟨a,h1,h2⟩:=hz
      exact ⟨a,h1,by rw [hw',h2]⟩
     | d l =>
      dsimp only at hy
      rw [hs] at hy
      cases hy
      obtain ⟨a,h1,h2⟩:=hz
      exact ⟨a,h1,by rw [hw',h2]⟩
     | q a =>
      dsimp only at hy
      rw [hs] at hy
      cases hy
      show v.weak=a
      rw [hw']
      exact hz
   have ho:∀ t,t≠s→∀ y,E3 t (match E3 s sc with|some (.s l)=>(s,.d l)::sc|some (.k a)=>(s,.q a.weak)::sc|_=>sc)=some y→E3 t sc=some y:=by
    intro t ht y hy
    cases hs:E3 s sc with
    | none=>rw [hs] at hy; exact hy
    | some z =>
     rw [hs] at hy
     cases z <;> dsimp only at hy <;> first|exact hy|(rw [a1F,if_neg (fun q=>ht q.symm)] at hy; exact hy)
   have h1:a2G (match E3 s sc with|some (.s l)=>(s,.d l)::sc|some (.k a)=>(s,.q a.weak)::sc|_=>sc) env σ.τ:=fun t y hy=>by
    by_cases e:t=s
    · subst e; exact hw _ (.inl rfl) y hy
    · exact h _ _ (ho t e y hy)
   have h2:a2G (match E3 s sc with|some (.s l)=>(s,.d l)::sc|some (.k a)=>(s,.q a.weak)::sc|_=>sc) env (Opd.spend (.ts s) σ).τ:=fun t y hy=>by
    show SrcOK env (r8 σ.τ s (σ.τ s).weak t) y
    rw [a0r]
    by_cases e:t=s
    · subst e; rw [if_pos rfl]; exact hw _ (.inr rfl) y hy
    · rw [if_neg e]; exact h _ _ (ho t e y hy)
   have hb2:∀ t,((Opd.spend (.ts s) σ).τ t).stripB=(Opd.spend (.ts s) σ).τ t:=fun t=>by
    show (r8 σ.τ s (σ.τ s).weak t).stripB=r8 σ.τ s (σ.τ s).weak t
    rw [a0r]
    split
    · exact b2S (hb s)
    · exact hb t
   have a:=F9 (xs:=xs) h1 hb
   have b:=F9 (xs:=xs) h2 hb2
   exact ⟨a.1,b.2.1,b.2.2.1,b.2.2.2⟩
  | vs i =>
   have a:=F9 (xs:=xs) h hb
   have b:=F9 (xs:=xs) (σ:=Opd.spend (.vs i) σ) h hb
   exact ⟨a.1,b.2.1,b.2.2.1,b.2.2.2⟩
  | t s=>exact F9 (xs:=xs) h hb
  | v s=>exact F9 (xs:=xs) h hb
  | l s=>exact F9 (xs:=xs) h hb
  | c s=>exact F9 (xs:=xs) h hb
theorem a9X {xs:List Opd} (h:b4n xs=false):∀ σ:Sig,(c0 xs σ).fr=σ.fr:=by
 induction xs with
 | nil=>intro σ; rfl
 | cons x xs ih=>intro σ; cases x <;> first|exact ih h _|cases h

def d5u (nv dep:Nat) (sc:Scope) (o:AOper) (cf:CF):Prop:=∀ c env fr st σ,Ag nv dep sc env fr σ→σ.st=st→∀ (K:AV→Fr→St→RO) out,cf c env fr st K=some out →
 ∃ r b st' fr',sem o.kind c (o.args.map (·.read σ)) (match o.box with|some i=>σ.fr.getD i .undef|none=>.undef) st=some (r,b,st')∧K r fr' st'=some out ∧
  (match o.box with|some i=>(c0 o.args σ).fr.set i b|none=>(c0 o.args σ).fr)=toL nv fr'
theorem a3c {α γ:Type} {x:Option α} {f:α→Option γ} {r:γ} (h:obind x f=some r):∃ a,x=some a∧f a=some r:=by
 cases x with
 | none=>cases h
 | some a=>exact ⟨a,rfl,h⟩
theorem b4X {G:β→Prop} {nv dep:Nat} {sc:Scope} {o:AOper} {rs:List Rd} {kf:KF} {e:β} {Q:CF→β} (hn:nv≤64) (hrs:a9t nv dep sc o.args rs) (hkf:b8y o.kind rs kf) (he:G e) (h:∀ cf,d5u nv dep sc o cf→G (Q cf)) :
 G (b4y nv o.kind o.args o.box kf e Q):=by
 unfold b4y
 split
 · rename_i hv hb
   refine h _ fun c env fr st σ ha hst K out hout=>?_
   rw [hkf,a0K ha hrs] at hout
   obtain ⟨⟨r,b,st'⟩,h1,h2⟩:=a3c hout
   exact ⟨r,b,st',fr,by rw [hb]; exact h1,h2,by rw [hb]; dsimp only; rw [a9X hv,ha.f]⟩
 · rename_i hv hb
   refine G4 hn o.args he fun sp hsp=>h _ fun c env fr st σ ha hst K out hout=>?_
   rw [hkf,a0K ha hrs] at hout
   obtain ⟨⟨r,b,st'⟩,h1,h2⟩:=a3c hout
   obtain ⟨fr',h3,h4⟩:=hsp fr σ ha.f
   dsimp only at h2
   rw [h3] at h2
   exact ⟨r,b,st',fr',by rw [hb]; exact h1,h2,by rw [hb]; exact h4⟩
 · rename_i i hb
   cases hbi:Nat.blt i nv with
   | false=>exact he
   | true =>
    have hi:=P8 hbi
    refine J7 (by omega) he fun g hg=>?_
    split
    · rename_i hal
      simp only [Bool.or_eq_false_iff] at hal
      refine h _ fun c env fr st σ ha hst K out hout=>?_
      rw [hg,hkf,a0K ha hrs] at hout
      obtain ⟨⟨r,b,st'⟩,h1,h2⟩:=a3c hout
      refine ⟨r,b,st',fr,by rw [hb]; dsimp only; rw [ha.f,M0 hi]; exact h1,h2,?_⟩
      rw [hb]
      have:=a1G hal.1 h1
      subst this
      dsimp only
      rw [a9X hal.2,ha.f,← M0 hi fr]
      exact a28 _ _
    · refine G4 hn o.args he fun sp hsp=>a0Q (by omega) he fun p hp=>h _ fun c env fr st σ ha hst K out hout=>?_
      rw [hg,hkf,a0K ha hrs] at hout
      obtain ⟨⟨r,b,st'⟩,h1,h2⟩:=a3c hout
      obtain ⟨fr',h3,h4⟩:=hsp fr σ ha.f
      dsimp only at h2
      rw [h3,hp] at h2
      refine ⟨r,b,st',_,by rw [hb]; dsimp only; rw [ha.f,M0 hi]; exact h1,h2,?_⟩
      rw [hb]
      dsimp only
      rw [h4,a1A hi hn]

def d4n (nv dep:Nat) (o:AOper) (sc:Scope) (pf:PF) (dep':Nat) (sc':Scope):Prop:=∀ r env fr s (k:List AV→Fr→St→RO) out,pf r env fr s k=some out→∀ σ:Sig,σ.fr=toL nv fr→env.length=dep→(∀ t,(σ.τ t).stripB=σ.τ t)→a2G sc env σ.τ→σ.st=s →
 ∃ env' fr',k env' fr' s=some out∧Ag nv dep' sc' env' fr' (o.dst.put r σ)∧(o.dst.put r σ).st=s
theorem b7d {G:β→Prop} {nv dep:Nat} {tss:List Nat} {o:AOper} {sc:Scope} {e:β} {Q:PF→Nat→Scope→β} (hn:nv≤64) (he:G e) (h:∀ pf dep' sc',d4n nv dep o sc pf dep' sc'→G (Q pf dep' sc')):G (b8j nv dep tss o.dst sc e Q):=by
 unfold b8j
 cases hd:o.dst with
 | t s =>
  dsimp only
  have nb':∀ (σ:Sig) (r:AV),(∀ t,(σ.τ t).stripB=σ.τ t)→∀ t,(r8 σ.τ s r.stripB t).stripB=r8 σ.τ s r.stripB t:=fun σ r hb t=>by
   rw [a0r]; split
   · exact a30 r
   · exact hb t
  have sc1:∀ (σ:Sig) (r:AV) (env:List AV) (y:Src) (v:AV),env.length=dep→a2G sc env σ.τ→SrcOK (v::env) r.stripB y→a2G ((s,y)::sc) (v::env) (r8 σ.τ s r.stripB):=fun σ r env y v hl hsc hy t x hx=>by
   rw [a1F] at hx
   rw [a0r]
   split at hx
   · rename_i e; cases hx; rw [if_pos e.symm]; exact hy
   · rename_i e; rw [if_neg (fun q=>e q.symm)]; exact (hsc _ _ hx).push v
  cases b9C s tss with
  | true =>
   refine h _ _ _ fun r env fr s' k out hout σ hf hl hb hsc hst=>?_
   rw [b6a] at hout
   refine ⟨_,_,hout,?_,by rw [hd]; exact hst⟩
   rw [hd]
   exact ⟨hf,by simp [hl],nb' σ r hb,sc1 σ r env _ _ hl hsc ⟨_,by rw [← hl]; exact b7b _ _,rfl⟩⟩
  | false =>
   refine h _ _ _ fun r env fr s' k out hout σ hf hl hb hsc hst=>?_
   rw [b6a] at hout
   refine ⟨_,_,hout,?_,by rw [hd]; exact hst⟩
   rw [hd]
   exact ⟨hf,by simp [hl],nb' σ r hb,sc1 σ r env _ _ hl hsc ⟨_,by rw [← hl]; exact b7b _ _,rfl⟩⟩
 | v i =>
  dsimp only
  cases hbi:Nat.blt i nv with
  | false=>exact he
  | true =>
   have hi:=P8 hbi
   refine a0Q (by omega) he fun p hp=>h _ _ _ fun r env fr s' k out hout σ hf hl hb hsc hst=>?_
   rw [c45,hp] at hout
   refine ⟨_,_,hout,?_,by rw [hd]; exact hst⟩
   rw [hd]
   exact ⟨by show σ.fr.set i r.strip=_; rw [hf,a1A hi hn],hl,hb,hsc⟩
 | none =>
  refine h _ _ _ fun r env fr s' k out hout σ hf hl hb hsc hst=>?_
  refine ⟨_,_,hout,?_,by rw [hd]; exact hst⟩
  rw [hd]
  exact ⟨hf,hl,hb,hsc⟩
 | bx =>
  refine h _ _ _ fun r env fr s' k out hout σ hf hl hb hsc hst=>?_
  refine ⟨_,_,hout,?_,by rw [hd]; exact hst⟩
  rw [hd]
  exact ⟨hf,hl,hb,hsc⟩

def d4a (nv dep:Nat) (sc:Scope) (o:AOper) (opf:OpF) (dep':Nat) (sc':Scope):Prop:=∀ c env fr st σ,Ag nv dep sc env fr σ→σ.st=st→∀ (k:List AV→Fr→St→RO) out,opf c env fr st k=some out →
 ∃ σ' env' fr',j2 c o σ=some σ'∧Ag nv dep' sc' env' fr' σ'∧k env' fr' σ'.st=some out
def c33 (nv dep:Nat) (sc:Scope) (o:AOper) (sc':Scope):Prop:=∀ c env fr σ,Ag nv dep sc env fr σ→∃ σ',j2 c o σ=some σ'∧Ag nv dep sc' env fr σ'∧σ'.st=σ.st
theorem a8M {nv dep:Nat} {sc:Scope} {env:List AV} {fr:Fr} {σ:Sig} (ha:Ag nv dep sc env fr σ) (s:Nat) (v:AV) (y:Src) (hy:SrcOK env v.stripB y):Ag nv dep ((s,y)::sc) env fr ({ σ with τ:=r8 σ.τ s v.stripB }) :=
 ⟨ha.f,ha.d,fun t=>by
  show (r8 σ.τ s v.stripB t).stripB=r8 σ.τ s v.stripB t
  rw [a0r]; split
  · exact a30 v
  · exact ha.nb t,fun t x hx=>by
  show SrcOK env (r8 σ.τ s v.stripB t) x
  rw [a1F] at hx
  rw [a0r]
  split at hx
  · rename_i e; cases hx; rw [if_pos e.symm]; exact hy
  · rename_i e; rw [if_neg (fun q=>e q.symm)]; exact ha.t _ _ hx⟩
theorem a6S (c:b9) (s:Nat) (x:Opd) (hx:x.steals=false) (σ:Sig):j2 c ⟨.t s,.mv,[x],none,none⟩ σ=some { σ with τ:=r8 σ.τ s (x.read σ).stripB }:=by
 have e:c0 [x] σ=σ:=Q9 (by simp [e8,hx])
 show D7 c _ σ=_
 rw [L9]
 show some (Dst.put (.t s) (x.read σ) { c0 [x] σ with st:=σ.st })=_
 rw [e]
 rfl
theorem b7U {G:β→Prop} {nv dep:Nat} {sc:Scope} {tss:List Nat} {o:AOper} {e:β} {Q0:Scope→β} {Q:OpF→Nat→Scope→β} (hn:nv≤64) (he:G e) (h0:∀ sc',c33 nv dep sc o sc'→G (Q0 sc'))
 (h:∀ opf dep' sc',d4a nv dep sc o opf dep' sc'→G (Q opf dep' sc')):G (opK nv dep sc tss o e Q0 Q):=by
 unfold opK
 split
 · rename_i s s' hal
   have ho:o=⟨.t s,.mv,[.t s'],none,none⟩:=by
    unfold a7c at hal
    split at hal <;> first|(cases hal; rfl)|cases hal
   subst ho
   have go:∀ y,(∀ env fr σ,Ag nv dep sc env fr σ→SrcOK env (σ.τ s').weak y)→c33 nv dep sc ⟨.t s,.mv,[.t s'],none,none⟩ ((s,y)::sc):=fun y hy c env fr σ ha=>by
    refine ⟨_,a6S c s (.t s') rfl σ,a8M ha s _ y ?_,rfl⟩
    show SrcOK env ((σ.τ s').weak).stripB y
    rw [b2S (ha.nb s')]
    exact hy env fr σ ha
   split
   · rename_i l hs
     exact h0 _ (go _ fun env fr σ ha=>by obtain ⟨a,h1,h2⟩:=ha.t _ _ hs; exact ⟨a,h1,by rw [F8,h2]⟩)
   · rename_i l hs
     exact h0 _ (go _ fun env fr σ ha=>by obtain ⟨a,h1,h2⟩:=ha.t _ _ hs; exact ⟨a,h1,by rw [F8,h2]⟩)
   · rename_i l hs
     exact h0 _ (go _ fun env fr σ ha=>by obtain ⟨a,h1,h2⟩:=ha.t _ _ hs; exact ⟨a,h1,by rw [F8,h2]⟩)
   · rename_i a hs
     exact h0 _ (go _ fun env fr σ ha=>by
      have:=ha.t _ _ hs
      show (σ.τ s').weak.weak=a.weak
      rw [F8,show σ.τ s'=a from this])
   · rename_i a hs
     exact h0 _ (go _ fun env fr σ ha=>by
      have:=ha.t _ _ hs
      show (σ.τ s').weak.weak=a
      rw [F8]
      exact this)
   · exact he
 · rename_i s a hal
   have ho:o=⟨.t s,.mv,[.c a],none,none⟩:=by
    unfold a7c at hal
    split at hal <;> first|(cases hal; rfl)|cases hal
   subst ho
   exact h0 _ fun c env fr σ ha=>⟨_,a6S c s (.c a) rfl σ,a8M ha s _ _ rfl,rfl⟩
 · refine a9L hn he fun rs hrs=>b4g fun kf hkf=>b4X hn hrs hkf he fun cf hcf=>b7d hn he fun pf dep' sc' hpf=>?_
   have body:∀ c env fr st σ,Ag nv dep sc env fr σ→σ.st=st→∀ (k:List AV→Fr→St→RO) out,(cf c env fr st fun r fr s=>pf r env fr s k)=some out →
    ∃ σ' env' fr',D7 c o σ=some σ'∧Ag nv dep' sc' env' fr' σ'∧k env' fr' σ'.st=some out:=fun c env fr st σ ha hst k out hout=>by
    obtain ⟨r,b,st',fr',h1,h2,h3⟩:=hcf c env fr st σ ha hst _ out hout
    obtain ⟨e1,e2,e3,e4⟩:=F9 (xs:=o.args) (σ:=σ) ha.t ha.nb
    let σ1:Sig:=match o.box with
     | some i=>{ c0 o.args σ with fr:=(c0 o.args σ).fr.set i b,st:=st' }
     | none=>{ c0 o.args σ with st:=st' }
    have hfr:σ1.fr=toL nv fr':=by
     rw [← h3]; simp only [σ1]; cases o.box <;> rfl
    have hτ:σ1.τ=(c0 o.args σ).τ:=by simp only [σ1]; cases o.box <;> rfl
    have hs1:σ1.st=st':=by simp only [σ1]; cases o.box <;> rfl
    obtain ⟨env2,fr2,g1,g2,g3⟩:=hpf r env fr' st' k out h2 σ1 hfr ha.d (by rw [hτ]; exact e3) (by rw [hτ]; exact e2) hs1
    refine ⟨_,env2,fr2,?_,g2,by rw [g3]; exact g1⟩
    rw [L9,hst]
    simp only [σ1]
    cases hb:o.box <;> rw [hb] at h1 <;> dsimp only at h1 ⊢ <;> rw [h1]
   split
   · rename_i hg
     refine h _ _ _ fun c env fr st σ ha hst k out hout=>?_
     unfold j2
     rw [hg]
     exact body c env fr st σ ha hst k out hout
   · rename_i x w hg
     refine a4P hn he fun g hgr=>h _ _ _ fun c env fr st σ ha hst k out hout=>?_
     rw [hgr env fr σ ha,c38] at hout
     unfold j2
     rw [hg]
     dsimp only
     have skip:pf (.tuple []) env fr st k=some out→∃ σ' env' fr',some (o.dst.put (.tuple []) σ)=some σ'∧Ag nv dep' sc' env' fr' σ'∧k env' fr' σ'.st=some out:=fun hout=>by
      obtain ⟨env2,fr2,g1,g2,g3⟩:=hpf _ env fr st k out hout σ ha.f ha.d ha.nb (F9 (xs:=o.args) (σ:=σ) ha.t ha.nb).1 hst
      exact ⟨_,env2,fr2,rfl,g2,by rw [g3]; exact g1⟩
     cases hx:x.read σ <;> rw [hx] at hout <;> (try dsimp only at hout ⊢) <;> try cases hout
     · rename_i b
       split at hout
       · rename_i hbw; rw [if_pos hbw]; exact body c env fr st σ ha hst k out hout
       · rename_i hbw; rw [if_neg hbw]; exact skip hout
     · rename_i vs
       cases vs with
       | nil=>exact skip hout
       | cons=>cases hout
end

noncomputable def a3p (nv:Nat) (tss:List Nat) (cond:Opd) (ops:List AOper):Nat→Scope→Clo:=List.rec (motive:=fun _=>Nat→Scope→Clo)
 (fun dep sc=>rdK nv dep sc cond Y8 fun r=>.mk fun c env fr st=>r env fr fun x=>some (x,fr,st))
 (fun o _ ih dep sc=>opK nv dep sc tss o Y8 (fun sc'=>ih dep sc') fun opf dep' sc'=>.mk fun c env fr st=>opf c env fr st fun env fr st=>(ih dep' sc').run c env fr st) ops
def a3e (nv dep:Nat) (sc:Scope) (cond:Opd) (ops:List AOper) (x:Clo):Prop:=∀ c env fr st σ v fr' st',Ag nv dep sc env fr σ→σ.st=st→x.run c env fr st=some (v,fr',st') →
 ∃ σ',m3 c ops σ=some σ'∧σ'.fr=toL nv fr'∧σ'.st=st'∧cond.read σ'=v
theorem b0t {nv dep:Nat} {sc:Scope} {cond:Opd} {ops:List AOper}:a3e nv dep sc cond ops Y8:=fun c env fr st σ v fr' st' ha hst h=>by cases (show (none:RO)=some _ from h)
theorem a14 {nv:Nat} (hn:nv≤64) {tss:List Nat} {cond:Opd}:∀ (ops:List AOper) (dep:Nat) (sc:Scope),a3e nv dep sc cond ops (a3p nv tss cond ops dep sc)
 | [],dep,sc=>by
  show a3e nv dep sc cond [] (rdK nv dep sc cond Y8 fun r=>.mk fun c env fr st=>r env fr fun x=>some (x,fr,st))
  refine a4P (G:=a3e nv dep sc cond []) hn b0t fun r hr c env fr st σ v fr' st' ha hst h=>?_
  have h:r env fr (fun x=>some (x,fr,st))=some (v,fr',st'):=h
  rw [hr env fr σ ha] at h
  cases h
  exact ⟨σ,rfl,ha.f,hst,rfl⟩
 | o::ops,dep,sc=>by
  show a3e nv dep sc cond (o::ops) (opK nv dep sc tss o Y8 (fun sc'=>a3p nv tss cond ops dep sc') fun opf dep' sc'=>.mk fun c env fr st=>opf c env fr st fun env fr st=>(a3p nv tss cond ops dep' sc').run c env fr st)
  refine b7U (G:=a3e nv dep sc cond (o::ops)) hn b0t (fun sc' hal c env fr st σ v fr' st' ha hst h=>?_) fun opf dep' sc' ho c env fr st σ v fr' st' ha hst h=>?_
  · obtain ⟨σ1,h1,h2,h3⟩:=hal c env fr σ ha
    obtain ⟨σ2,g1,g2⟩:=a14 hn ops dep sc' c env fr st σ1 v fr' st' h2 (h3.trans hst) h
    exact ⟨σ2,by rw [m3,h1]; exact g1,g2⟩
  · obtain ⟨σ1,env1,fr1,h1,h2,h3⟩:=ho c env fr st σ ha hst _ _ h
    obtain ⟨σ2,g1,g2⟩:=a14 hn ops dep' sc' c env1 fr1 σ1.st σ1 v fr' st' h2 rfl h3
    exact ⟨σ2,by rw [m3,h1]; exact g1,g2⟩
end Go.Cb.G
/-
 THE ABSTRACT MACHINE, part 46: code and functions, made ready once; what they answer is the machine's answer.
-/
set_option maxRecDepth 4000
set_option linter.unusedVariables false
namespace Go.Cb.G
open Go Go.Cb
/-! regions -/
noncomputable def a9A (nv:Nat) (kill:List Nat) (Q:(Fr→(Fr→RO)→RO)→Clo):Clo:=List.rec (motive:=fun _=>((Fr→(Fr→RO)→RO)→Clo)→Clo) (fun Q=>Q fun fr k=>k fr)
 (fun i _ ih Q=>Bool.rec (motive:=fun _=>Clo) (ih Q) (a7r i Y8 fun p=>ih fun r=>Q fun fr k=>p .undef fr fun fr=>r fr k) (Nat.blt i nv)) kill Q
def tsL:List Opd→List Nat
 | []=>[]
 | .ts s::xs=>s::tsL xs
 | _::xs=>tsL xs
def b3O:List AOper→List Nat
 | []=>[]
 | o::os=>match tsL o.args with
  | []=>b3O os
  | l=>l++b3O os
noncomputable def a6p (nv:Nat) (kill:List Nat) (ops:List AOper) (cond:Opd):Clo :=
 a9A nv kill fun kf=>.mk fun c _ fr st=>kf fr fun fr=>(a3p nv (tsL [cond]++b3O ops) cond ops 0 []).run c [] fr st
theorem a1I {G:Clo→Prop} {nv:Nat} (hn:nv≤64) (hs:G Y8):∀ {kill:List Nat} {Q:(Fr→(Fr→RO)→RO)→Clo},(∀ r:Fr→(Fr→RO)→RO,(∀ fr,∃ fr',(∀ k,r fr k=k fr')∧k7 kill (toL nv fr)=toL nv fr')→G (Q r))→G (a9A nv kill Q)
 | [],Q,h=>h _ fun fr=>⟨fr,fun _=>rfl,rfl⟩
 | i::is,Q,h=>by
  show G (Bool.rec (motive:=fun _=>Clo) (a9A nv is Q) (a7r i Y8 fun p=>a9A nv is fun r=>Q fun fr k=>p .undef fr fun fr=>r fr k) (Nat.blt i nv))
  cases hb:Nat.blt i nv with
  | false =>
   have hi:¬ i < nv:=fun q=>by rw [show Nat.blt i nv=true by simpa using q] at hb; cases hb
   exact a1I hn hs (kill:=is) fun r hr=>h r fun fr=>by
    obtain ⟨fr',h1,h2⟩:=hr fr
    exact ⟨fr',h1,by rw [k7,a4j hi]; exact h2⟩
  | true =>
   have hi:=P8 hb
   exact a0Q (by omega) hs fun p hp=>a1I hn hs (kill:=is) fun r hr=>h _ fun fr=>by
    obtain ⟨fr',h1,h2⟩:=hr (a04 i .undef fr)
    exact ⟨fr',fun k=>by show p .undef fr _=_; rw [hp,h1],by rw [k7,a1A hi hn]; exact h2⟩
def b3w (nv:Nat) (kill:List Nat) (ops:List AOper) (cond:Opd) (x:Clo):Prop:=∀ c env fr st v fr' st',x.run c env fr st=some (v,fr',st') →
 ∃ σ',m3 c ops ⟨k7 kill (toL nv fr),fun _=>.undef,st⟩=some σ'∧σ'.fr=toL nv fr'∧σ'.st=st'∧cond.read σ'=v
theorem a9G {nv:Nat} (hn:nv≤64) {kill:List Nat} {ops:List AOper} {cond:Opd}:b3w nv kill ops cond (a6p nv kill ops cond):=by
 refine a1I (G:=b3w nv kill ops cond) hn (fun c env fr st v fr' st' h=>by cases (show (none:RO)=some _ from h)) fun r hr c env fr st v fr' st' h=>?_
 obtain ⟨fr1,h1,h2⟩:=hr fr
 have h:r fr _=_:=h
 rw [h1] at h
 exact a14 hn ops 0 [] c [] fr1 st ⟨k7 kill (toL nv fr),fun _=>.undef,st⟩ v fr' st' ⟨h2,rfl,fun _=>rfl,fun s x hx=>by cases (show (none:Option Src)=some x from hx)⟩ rfl h

/-! code -/
abbrev CO:=Option (Ex×Fr×St)
inductive CloC where
 | mk (f:b9→Nat→Fr→St→CO)
noncomputable def CloC.run (x:CloC):b9→Nat→Fr→St→CO:=CloC.rec (motive:=fun _=>b9→Nat→Fr→St→CO) (fun f=>f) x
section
variable {ρ:Type}
noncomputable def b07 (x:RO) (k:AV→Fr→St→Option ρ):Option ρ:=Option.rec (motive:=fun _=>Option ρ) none (fun p=>Prod.rec (motive:=fun _=>Option ρ) (fun v q=>Prod.rec (motive:=fun _=>Option ρ) (fun fr st=>k v fr st) q) p) x
noncomputable def a0L (x:CO) (k:Ex→Fr→St→Option ρ):Option ρ:=Option.rec (motive:=fun _=>Option ρ) none (fun p=>Prod.rec (motive:=fun _=>Option ρ) (fun v q=>Prod.rec (motive:=fun _=>Option ρ) (fun fr st=>k v fr st) q) p) x
noncomputable def a0P (e:Ex) (n:Option ρ) (x:Nat→Option ρ) (r:Option ρ):Option ρ:=Ex.rec (motive:=fun _=>Option ρ) n x r e
theorem a8J {x:RO} {k:AV→Fr→St→Option ρ} {r:ρ} (h:b07 x k=some r):∃ v fr st,x=some (v,fr,st)∧k v fr st=some r:=by
 cases x with
 | none=>cases h
 | some p=>obtain ⟨v,fr,st⟩:=p; exact ⟨v,fr,st,rfl,h⟩
theorem R3 {x:CO} {k:Ex→Fr→St→Option ρ} {r:ρ} (h:a0L x k=some r):∃ v fr st,x=some (v,fr,st)∧k v fr st=some r:=by
 cases x with
 | none=>cases h
 | some p=>obtain ⟨v,fr,st⟩:=p; exact ⟨v,fr,st,rfl,h⟩
end
noncomputable def b4a (b:b9→Nat→Fr→St→CO) (c:b9) (n m:Nat):Fr→St→CO:=Nat.rec (motive:=fun _=>Fr→St→CO) (fun _ _=>none) (fun _ ih fr st=>a0L (b c n fr st) fun e fr st=>a0P e (ih fr st) (fun i=>some (.exit i,fr,st)) (some (.ret,fr,st))) m
def a4Z (nv:Nat):List Nat→Fr→Fr
 | [],fr=>fr
 | i::is,fr=>a4Z nv is (if i < nv then a04 i .undef fr else fr)
theorem a24 {nv:Nat} (hn:nv≤64):∀ {is:List Nat} {fr:Fr},k7 is (toL nv fr)=toL nv (a4Z nv is fr)
 | [],fr=>rfl
 | i::is,fr=>by
  rw [k7,a4Z]
  split
  · rename_i h; rw [a1A h hn]; exact a24 hn
  · rename_i h; rw [a4j h]; exact a24 hn
noncomputable def b6T (nv:Nat) (kill:List Nat) (x y:CO):CO:=a0L x fun e fr st=>a0L y fun e' fr' st' =>
 if a9w (I4 kill (e,toL nv fr,st)) (I4 kill (e',toL nv fr',st')) then some (e,a4Z nv kill fr,st) else none
noncomputable def S6 (nv:Nat) (x:ACode):CloC:=ACode.rec (motive:=fun _=>CloC)
 (.mk fun _ _ fr st=>some (.normal,fr,st))
 (fun kill ops=>.mk fun c _ fr st=>b07 ((a6p nv kill ops (.c .undef)).run c [] fr st) fun _ fr st=>some (.normal,fr,st))
 (fun kill ops x _ _ a b=>.mk fun c n fr st=>b07 ((a6p nv kill ops x).run c [] fr st) fun v fr st=>onB v none fun y=>Bool.rec (motive:=fun _=>CO) (b.run c n fr st) (a.run c n fr st) y)
 (fun _ _ a b=>.mk fun c n fr st=>a0L (a.run c n fr st) fun e fr st=>a0P e (b.run c n fr st) (fun i=>some (.exit i,fr,st)) (some (.ret,fr,st)))
 (fun id _ a=>.mk fun c n fr st=>a0L (a.run c n fr st) fun e fr st=>a0P e (some (.normal,fr,st)) (fun i=>Bool.rec (motive:=fun _=>CO) (some (.exit i,fr,st)) (some (.normal,fr,st)) (Nat.beq i id)) (some (.ret,fr,st)))
 (fun _ a=>.mk fun c n fr st=>b4a (fun c n fr st=>a.run c n fr st) c n n fr st)
 (fun kill _ _ a b=>.mk fun c n fr st=>b6T nv kill (a.run c n fr st) (b.run c n fr st))
 (fun id=>.mk fun _ _ fr st=>some (.exit id,fr,st))
 (.mk fun _ _ fr st=>some (.ret,fr,st)) x
def c2s (nv:Nat) (x:ACode) (y:CloC):Prop:=∀ c n fr st e fr' st',y.run c n fr st=some (e,fr',st')→e9 c n x (toL nv fr) st=some (e,toL nv fr',st')
theorem b0w {nv:Nat} {a:ACode} {b:b9→Nat→Fr→St→CO} {c:b9} {n:Nat} (h:∀ fr st e fr' st',b c n fr st=some (e,fr',st')→e9 c n a (toL nv fr) st=some (e,toL nv fr',st')):∀ (m:Nat) (fr:Fr) (st:St) (e:Ex) (fr':Fr) (st':St),b4a b c n m fr st=some (e,fr',st')→S8 (e9 c n a) m (toL nv fr) st=some (e,toL nv fr',st')
 | 0,fr,st,e,fr',st',hs=>by cases (show (none:CO)=some _ from hs)
 | m+1,fr,st,e,fr',st',hs=>by
  obtain ⟨e1,fr1,st1,h1,h2⟩:=R3 (show a0L (b c n fr st) (fun e fr st=>a0P e (b4a b c n m fr st) (fun i=>some (.exit i,fr,st)) (some (.ret,fr,st)))=some (e,fr',st') from hs)
  rw [S8,h _ _ _ _ _ h1]
  cases e1 with
  | normal=>exact b0w h m fr1 st1 e fr' st' h2
  | exit i=>cases (show some (Ex.exit i,fr1,st1)=some (e,fr',st') from h2); rfl
  | ret=>cases (show some (Ex.ret,fr1,st1)=some (e,fr',st') from h2); rfl
theorem J8 {nv:Nat} (hn:nv≤64):∀ x:ACode,c2s nv x (S6 nv x)
 | .skip,c,n,fr,st,e,fr',st',h=>by cases (show some (Ex.normal,fr,st)=some (e,fr',st') from h); rfl
 | .ret,c,n,fr,st,e,fr',st',h=>by cases (show some (Ex.ret,fr,st)=some (e,fr',st') from h); rfl
 | .exit id,c,n,fr,st,e,fr',st',h=>by cases (show some (Ex.exit id,fr,st)=some (e,fr',st') from h); rfl
 | .reg kill ops,c,n,fr,st,e,fr',st',h=>by
  obtain ⟨v,fr1,st1,h1,h2⟩:=a8J (show b07 ((a6p nv kill ops (.c .undef)).run c [] fr st) (fun _ fr st=>some (Ex.normal,fr,st))=some (e,fr',st') from h)
  cases h2
  obtain ⟨σ,g1,g2,g3,g4⟩:=a9G hn _ _ _ _ _ _ _ h1
  rw [e9,g1]
  simp only [fL_eq,g2,g3]
 | .test kill ops x a b,c,n,fr,st,e,fr',st',h=>by
  obtain ⟨v,fr1,st1,h1,h2⟩:=a8J (show b07 ((a6p nv kill ops x).run c [] fr st) (fun v fr st=>onB v none fun y=>Bool.rec (motive:=fun _=>CO) ((S6 nv b).run c n fr st) ((S6 nv a).run c n fr st) y)=some (e,fr',st') from h)
  obtain ⟨σ,g1,g2,g3,g4⟩:=a9G hn _ _ _ _ _ _ _ h1
  rw [b1U] at h2
  rw [e9,g1]
  dsimp only
  rw [g4]
  cases v <;> try (cases h2; done)
  rename_i y
  cases y
  · simp only [fL_eq,g2,g3]; exact J8 hn b _ _ _ _ _ _ _ h2
  · simp only [fL_eq,g2,g3]; exact J8 hn a _ _ _ _ _ _ _ h2
 | .seq a b,c,n,fr,st,e,fr',st',h=>by
  obtain ⟨e1,fr1,st1,h1,h2⟩:=R3 (show a0L ((S6 nv a).run c n fr st) (fun e fr st=>a0P e ((S6 nv b).run c n fr st) (fun i=>some (.exit i,fr,st)) (some (.ret,fr,st)))=some (e,fr',st') from h)
  rw [e9,J8 hn a _ _ _ _ _ _ _ h1]
  cases e1 with
  | normal=>exact J8 hn b _ _ _ _ _ _ _ h2
  | exit i=>cases (show some (Ex.exit i,fr1,st1)=some (e,fr',st') from h2); rfl
  | ret=>cases (show some (Ex.ret,fr1,st1)=some (e,fr',st') from h2); rfl
 | .blk id a,c,n,fr,st,e,fr',st',h=>by
  obtain ⟨e1,fr1,st1,h1,h2⟩:=R3 (show a0L ((S6 nv a).run c n fr st) (fun e fr st=>a0P e (some (.normal,fr,st)) (fun i=>Bool.rec (motive:=fun _=>CO) (some (.exit i,fr,st)) (some (.normal,fr,st)) (Nat.beq i id)) (some (.ret,fr,st)))=some (e,fr',st') from h)
  rw [e9,J8 hn a _ _ _ _ _ _ _ h1]
  cases e1 with
  | normal=>cases (show some (Ex.normal,fr1,st1)=some (e,fr',st') from h2); rfl
  | exit i =>
   have h2:Bool.rec (motive:=fun _=>CO) (some (.exit i,fr1,st1)) (some (.normal,fr1,st1)) (Nat.beq i id)=some (e,fr',st'):=h2
   dsimp only
   cases hb:Nat.beq i id with
   | true=>rw [hb] at h2; cases h2; rw [if_pos (Nat.eq_of_beq_eq_true hb)]
   | false=>rw [hb] at h2; cases h2; rw [if_neg (Nat.ne_of_beq_eq_false hb)]
  | ret=>cases (show some (Ex.ret,fr1,st1)=some (e,fr',st') from h2); rfl
 | .loop a,c,n,fr,st,e,fr',st',h=>by
  rw [e9]
  exact b0w (b:=fun c n fr st=>(S6 nv a).run c n fr st) (fun fr st e fr' st' h=>J8 hn a _ _ _ _ _ _ _ h) n fr st e fr' st' h
 | .either kill a b,c,n,fr,st,e,fr',st',h=>by
  have h:b6T nv kill ((S6 nv a).run c n fr st) ((S6 nv b).run c n fr st)=some (e,fr',st'):=h
  obtain ⟨e1,fr1,st1,h1,h2⟩:=R3 h
  obtain ⟨e2,fr2,st2,h3,h4⟩:=R3 h2
  rw [e9,J8 hn a _ _ _ _ _ _ _ h1,J8 hn b _ _ _ _ _ _ _ h3]
  unfold a1X
  split at h4
  · rename_i hq
    cases h4
    dsimp only
    rw [if_pos hq]
    show some (_,k7 kill (toL nv fr1),_)=_
    rw [a24 hn]
  · cases h4

/-! functions -/
inductive FnC where
 | mk (f:b9→Nat→List AV→St→Option (AV×St))
noncomputable def FnC.run (x:FnC):b9→Nat→List AV→St→Option (AV×St):=FnC.rec (motive:=fun _=>b9→Nat→List AV→St→Option (AV×St)) (fun f=>f) x
noncomputable def N0:FnC:=.mk fun _ _ _ _=>none
noncomputable def b80 (nv:Nat) (r:ResK) (Q:Gt (AV×St)→FnC):FnC :=
 match r with
 | .v i=>match Nat.blt i nv with
  | true=>a2c i N0 fun g=>Q fun fr k=>g fr fun x=>qWk x k
  | false=>N0
 | .vs i=>match Nat.blt i nv with
  | true=>a2c i N0 fun g=>Q g
  | false=>N0
 | .bx i agg n=>match Nat.blt i nv with
  | true=>a2c i N0 fun g=>Q fun fr k=>g fr fun x=>b4W x none fun cs=>a3h k agg n cs
  | false=>N0
theorem b5e {G:FnC→Prop} {nv:Nat} (hn:nv≤64) (hs:G N0) {r:ResK} {Q:Gt (AV×St)→FnC} (h:∀ g:Gt (AV×St),(∀ fr k out,g fr k=some out→∃ v,r.get (toL nv fr)=some v∧k v=some out)→G (Q g)):G (b80 nv r Q):=by
 unfold b80
 cases r with
 | v i =>
  dsimp only
  cases hb:Nat.blt i nv with
  | false=>exact hs
  | true =>
   have hi:=P8 hb
   refine J7 (by omega) hs fun g hg=>h _ fun fr k out ho=>?_
   rw [hg,a0G] at ho
   exact ⟨_,by rw [ResK.get,M0 hi],ho⟩
 | vs i =>
  dsimp only
  cases hb:Nat.blt i nv with
  | false=>exact hs
  | true =>
   have hi:=P8 hb
   refine J7 (by omega) hs fun g hg=>h _ fun fr k out ho=>?_
   rw [hg] at ho
   exact ⟨_,by rw [ResK.get,M0 hi],ho⟩
 | bx i agg n =>
  dsimp only
  cases hb:Nat.blt i nv with
  | false=>exact hs
  | true =>
   have hi:=P8 hb
   refine J7 (by omega) hs fun g hg=>h _ fun fr k out ho=>?_
   rw [hg,a7x] at ho
   rw [ResK.get,M0 hi]
   cases hx:S9 i fr <;> rw [hx] at ho <;> try (cases ho; done)
   rename_i cs
   dsimp only at ho ⊢
   rw [a1L] at ho
   cases ht:j3 agg n cs with
   | none=>rw [ht] at ho; cases ho
   | some v=>rw [ht] at ho; exact ⟨v,rfl,ho⟩
noncomputable def b3M (nv:Nat):List ResK→((Fr→(List AV→Option (AV×St))→Option (AV×St))→FnC)→FnC
 | [],Q=>Q fun _ k=>k []
 | r::rs,Q=>b80 nv r fun g=>b3M nv rs fun gs=>Q fun fr k=>g fr fun v=>gs fr fun vs=>k (v::vs)
theorem a8w {G:FnC→Prop} {nv:Nat} (hn:nv≤64) (hs:G N0):∀ {rs:List ResK} {Q:(Fr→(List AV→Option (AV×St))→Option (AV×St))→FnC},(∀ g:Fr→(List AV→Option (AV×St))→Option (AV×St),(∀ fr k out,g fr k=some out→∃ vs,O0 rs (toL nv fr)=some vs∧k vs=some out)→G (Q g))→G (b3M nv rs Q)
 | [],Q,h=>h _ fun fr k out ho=>⟨[],rfl,ho⟩
 | r::rs,Q,h=>by
  unfold b3M
  exact b5e hn hs fun g hg=>a8w hn hs fun gs hgs=>h _ fun fr k out ho=>by
   obtain ⟨v,h1,h2⟩:=hg fr _ _ ho
   obtain ⟨vs,h3,h4⟩:=hgs fr _ _ h2
   exact ⟨v::vs,by rw [O0,h1,h3],h4⟩
noncomputable def a7t (vs:List AV) (st:St):Option (AV×St):=List.rec (motive:=fun _=>Option (AV×St)) (some (.tuple [],st)) (fun v ws _=>List.rec (motive:=fun _=>Option (AV×St)) (some (v,st)) (fun _ _ _=>some (.tuple vs,st)) ws) vs
noncomputable def b3Y (fn:AFn):FnC:=match Nat.ble fn.nv 64 && Nat.ble fn.np fn.nv with
 | true=>b3M fn.nv fn.results fun g=>.mk fun c n as st=>Bool.rec (motive:=fun _=>Option (AV×St)) none (b9z as fun w=>a0L ((S6 fn.nv fn.code).run c n (fr0 w) st) fun e fr st=>a0P e (g fr fun vs=>a7t vs st) (fun _=>none) (g fr fun vs=>a7t vs st)) (Nat.beq (K7 as) fn.np)
 | false=>N0
noncomputable def fnC (x:Option AFn):FnC:=match x with
 | none=>N0
 | some fn=>match fn.ext with
  | some e=>.mk fun _ _ as st=>e as st
  | none=>b3Y fn
theorem c2D {vs:List AV} {st:St}:a7t vs st=(match (some vs:Option (List AV)) with|some [v]=>some (v,st)|some vs=>some (.tuple vs,st)|none=>none):=by
 match vs with
 | []=>rfl
 | [_]=>rfl
 | _::_::_=>rfl
def b5m (fn:AFn) (x:FnC):Prop:=∀ c n as st out,x.run c n as st=some out→fn.run c n as st=some out
theorem b8G (fn:AFn):b5m fn (b3Y fn):=by
 have hs:b5m fn N0:=fun c n as st out h=>by cases (show (none:Option (AV×St))=some _ from h)
 unfold b3Y
 cases hb:Nat.ble fn.nv 64 && Nat.ble fn.np fn.nv with
 | false=>exact hs
 | true =>
  simp only [Bool.and_eq_true,Nat.ble_eq] at hb
  refine a8w hb.1 hs fun g hg c n as st out h=>?_
  have h:Bool.rec (motive:=fun _=>Option (AV×St)) none (b9z as fun w=>a0L ((S6 fn.nv fn.code).run c n (fr0 w) st) fun e fr st=>a0P e (g fr fun vs=>a7t vs st) (fun _=>none) (g fr fun vs=>a7t vs st)) (Nat.beq (K7 as) fn.np)=some out:=h
  cases hl:Nat.beq (K7 as) fn.np with
  | false=>rw [hl] at h; cases h
  | true =>
   rw [hl] at h
   have hl:=Nat.eq_of_beq_eq_true hl
   rw [H5] at hl
   obtain ⟨w,h1,h2,h3⟩:=c2F h
   obtain ⟨e,fr',st',h4,h5⟩:=R3 h1
   have h6:=J8 hb.1 fn.code _ _ _ _ _ _ _ h4
   rw [c4h h3 hl h2 hb.2 hb.1] at h6
   unfold AFn.run
   rw [if_pos hl,h6]
   have fin:(g fr' fun vs=>a7t vs st')=some out→(match O0 fn.results (toL fn.nv fr') with|some [v]=>some (v,st')|some vs=>some (.tuple vs,st')|none=>none)=some out:=fun h=>by
    obtain ⟨vs,h7,h8⟩:=hg fr' _ _ h
    rw [h7,← h8,c2D]
   cases e with
   | normal=>exact fin h5
   | exit i=>cases (show (none:Option (AV×St))=some _ from h5)
   | ret=>exact fin h5

noncomputable def callG (tbl:Nat→Option AFn) (n:Nat):b9:=Nat.rec (motive:=fun _=>b9) (fun _ _ _=>none) (fun n ih f as st=>(fnC (tbl f)).run ih n as st) n
theorem b0N {tbl:Nat→Option AFn}:∀ n,Y6 (callG tbl n) (l3 tbl n)
 | 0,f,as,st,r,h=>by cases (show (none:Option (AV×St))=some _ from h)
 | n+1,f,as,st,r,h=>by
  have h:(fnC (tbl f)).run (callG tbl n) n as st=some r:=h
  unfold l3
  cases ht:tbl f with
  | none=>rw [ht] at h; cases (show (none:Option (AV×St))=some _ from h)
  | some fn =>
   rw [ht] at h
   unfold fnC at h
   dsimp only at h ⊢
   cases he:fn.ext with
   | some e=>rw [he] at h; exact h
   | none =>
    rw [he] at h
    exact b7s (b0N n) (Nat.le_refl _) (b8G fn _ _ _ _ _ h)
theorem ev_ofG {tbl:Nat→Option AFn} {k f:Nat} {as:List AV} {st:St} {r:AV} {st':St} (h:callG tbl k f as st=some (r,st')):Ev tbl f as st r st':=⟨k,b0N k _ _ _ _ h⟩
end Go.Cb.G
