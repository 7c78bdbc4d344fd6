import Derived.Test.YtbibkdncfclnbaaGreatDoorXAms3
/-
 THE ABSTRACT MACHINE, part 45: regions, made ready once.
-/
set_option maxRecDepth 4000
set_option linter.unusedVariables false
namespace Go.Cb.G
open Go Go.Cb
inductive Clo where
 | mk (f:b9→List AV→Fr→St→RO)
noncomputable def Clo.run (x:Clo):b9→List AV→Fr→St→RO:=Clo.rec (motive:=fun _=>b9→List AV→Fr→St→RO) (fun f=>f) x
noncomputable def Y9:Clo:=.mk fun _ _ _ _=>none
abbrev OpF:=b9→List AV→Fr→St→(List AV→Fr→St→RO)→RO
abbrev CF:=b9→List AV→Fr→St→(AV→Fr→St→RO)→RO
section
variable {β:Type}
noncomputable def a2O:List Opd→Scope→Scope
 | [],sc=>sc
 | .ts s::xs,sc=>a2O xs (match E9 s sc with
  | some (.s l)=>(s,.d l)::sc
  | some (.k a)=>(s,.q a.weak)::sc
  | _=>sc)
 | _::xs,sc=>a2O xs sc
noncomputable def a1u (nv:Nat):List Opd→β→((Fr→(Fr→RO)→RO)→β)→β
 | [],_,Q=>Q fun fr k=>k fr
 | .vs i::xs,e,Q=>match Nat.blt i nv with
  | true=>a2e i e fun g=>a7q i e fun p=>a1u nv xs e fun r=>Q fun fr k=>g fr fun x=>qWk x fun x=>p x fr fun fr=>r fr k
  | false=>e
 | _::xs,e,Q=>a1u nv xs e Q
def b33:List Opd→Bool
 | []=>false
 | .vs _::_=>true
 | _::xs=>b33 xs
noncomputable def b3Y (nv:Nat) (kd:Kind) (args:List Opd) (box:Option Nat) (kf:KF) (e:β) (Q:CF→β):β :=
 match b33 args,box with
 | false,none=>Q fun c env fr st K=>kf c env fr .undef st fun r _ s=>K r fr s
 | true,none=>a1u nv args e fun sp=>Q fun c env fr st K=>kf c env fr .undef st fun r _ s=>sp fr fun fr=>K r fr s
 | vs,some i=>match Nat.blt i nv with
  | false=>e
  | true=>a2e i e fun g=>match kd.alters || vs with
   | false=>Q fun c env fr st K=>g fr fun b=>kf c env fr b st fun r _ s=>K r fr s
   | true=>a1u nv args e fun sp=>a7q i e fun p=>Q fun c env fr st K=>g fr fun b=>kf c env fr b st fun r b s=>sp fr fun fr=>p b fr fun fr=>K r fr s
abbrev PF:=AV→List AV→Fr→St→(List AV→Fr→St→RO)→RO
def b9k (x:Nat):List Nat→Bool
 | []=>false
 | y::ys=>Nat.beq x y || b9k x ys
noncomputable def b8D (nv dep:Nat) (tss:List Nat) (d:Dst) (sc:Scope) (e:β) (Q:PF→Nat→Scope→β):β :=
 match d with
 | .t s=>match b9k s tss with
  | true=>Q (fun r env fr s k=>qSb r fun v _=>k (v::env) fr s) (dep+1) ((s,.s dep)::sc)
  | false=>Q (fun r env fr s k=>qSb r fun _ w=>k (w::env) fr s) (dep+1) ((s,.w dep)::sc)
 | .v i=>match Nat.blt i nv with
  | true=>a7q i e fun p=>Q (fun r env fr s k=>qSv r fun v _=>p v fr fun fr=>k env fr s) dep sc
  | false=>e
 | _=>Q (fun r env fr s k=>k env fr s) dep sc
noncomputable def qGd (q:AV) (w:Bool) (x y:RO):RO:=c3V q none (fun v=>bW v w x y) (fun vs=>List.rec (motive:=fun _=>RO) y (fun _ _ _=>none) vs)
theorem c4V (q:AV) (w:Bool) (x y:RO):qGd q w x y=match q with|.bool b=>if b == w then x else y|.tuple []=>y|_=>none:=by
 simp only [qGd,c1y,c9q]
 cases q <;> try rfl
 rename_i vs; cases vs <;> rfl
def a7o (o:AOper):Option (Nat×Opd):=match o with
 | ⟨.t s,.mv,[.t s'],none,none⟩=>some (s,.t s')
 | ⟨.t s,.mv,[.c a],none,none⟩=>some (s,.c a)
 | _=>none
noncomputable def opK (nv dep:Nat) (sc:Scope) (tss:List Nat) (o:AOper) (e:β) (Q0:Scope→β) (Q:OpF→Nat→Scope→β):β :=
 match a7o o with
 | some (s,.t s')=>match E9 s' sc with
  | some (.w l)=>Q0 ((s,.w l)::sc)
  | some (.s l)|some (.d l)=>Q0 ((s,.d l)::sc)
  | some (.k a)=>Q0 ((s,.q a.weak)::sc)
  | some (.q a)=>Q0 ((s,.q a)::sc)
  | none=>e
 | some (s,.c a)=>Q0 ((s,.k a.stripB)::sc)
 | _=>rdL nv dep sc (fun x e Q=>rdK nv dep sc x e Q) o.args e fun rs=>b4C o.kind rs fun kf=>b3Y nv o.kind o.args o.box kf e fun cf =>
  b8D nv dep tss o.dst (a2O o.args sc) e fun pf dep' sc'=>match o.guard with
   | none=>Q (fun c env fr st k=>cf c env fr st fun r fr s=>pf r env fr s k) dep' sc'
   | some (x,w)=>rdK nv dep sc x e fun g=>Q (fun c env fr st k=>g env fr fun q=>qGd q w (cf c env fr st fun r fr s=>pf r env fr s k) (pf (.tuple []) env fr st k)) dep' sc'

/-! what is true of them -/
theorem b3t {v:AV} (h:v.stripB=v):v.weak.stripB=v.weak:=by cases v <;> first|rfl|cases h
theorem a3G (v:AV):v.stripB.stripB=v.stripB:=by cases v <;> rfl
theorem a0A (τ:Nat→AV) (s:Nat) (a:AV) (j:Nat):s5 τ s a j=if j=s then a else τ j:=by
 unfold s5
 by_cases h:j=s
 · subst h; simp
 · rw [if_neg h]; simp [h]
theorem H5 {nv:Nat} (hn:nv≤64):∀ (xs:List Opd) {G:β→Prop} {e:β} {Q:(Fr→(Fr→RO)→RO)→β},G e →
 (∀ sp:Fr→(Fr→RO)→RO,(∀ fr σ,σ.fr=toL nv fr→∃ fr',(∀ k,sp fr k=k fr')∧(c0 xs σ).fr=toL nv fr')→G (Q sp))→G (a1u nv xs e Q)
 | [],G,e,Q,he,h=>h _ fun fr σ hf=>⟨fr,fun _=>rfl,hf⟩
 | x::xs,G,e,Q,he,h=>by
  cases x with
  | vs i =>
   unfold a1u
   cases hb:Nat.blt i nv with
   | false=>exact he
   | true =>
    have hi:=R3 hb
    refine K5 (by omega) he fun g hg=>a0X (by omega) he fun p hp=>H5 hn xs he fun sp hsp=>h _ fun fr σ hf=>?_
    obtain ⟨fr',h1,h2⟩:=hsp (a0V i (T7 i fr).weak fr) (Opd.spend (.vs i) σ) (by
     show σ.fr.set i (σ.fr.getD i .undef).weak=_
     rw [hf,M7 hi,a1r hi hn])
    refine ⟨fr',fun k=>?_,h2⟩
    show g fr (fun x=>qWk x fun x=>p x fr fun fr=>sp fr k)=_
    rw [hg,a0E,hp,h1]
  | ts s=>exact H5 hn xs he fun sp hsp=>h sp fun fr σ hf=>hsp fr (Opd.spend (.ts s) σ) hf
  | t s=>exact H5 hn xs he fun sp hsp=>h sp fun fr σ hf=>hsp fr σ hf
  | v s=>exact H5 hn xs he fun sp hsp=>h sp fun fr σ hf=>hsp fr σ hf
  | l s=>exact H5 hn xs he fun sp hsp=>h sp fun fr σ hf=>hsp fr σ hf
  | c s=>exact H5 hn xs he fun sp hsp=>h sp fun fr σ hf=>hsp fr σ hf
def a2X (sc:Scope) (env:List AV) (τ:Nat→AV):Prop:=∀ s x,E9 s sc=some x→SrcOK env (τ s) x
theorem G9 {env:List AV}:∀ {xs:List Opd} {sc:Scope} {σ:Sig},a2X sc env σ.τ→(∀ s,(σ.τ s).stripB=σ.τ s) →
 a2X (a2O xs sc) env σ.τ∧a2X (a2O xs sc) env (c0 xs σ).τ∧(∀ s,((c0 xs σ).τ s).stripB=(c0 xs σ).τ s)∧(c0 xs σ).st=σ.st
 | [],sc,σ,h,hb=>⟨h,h,hb,rfl⟩
 | x::xs,sc,σ,h,hb=>by
  cases x with
  | ts s =>
   have hw:∀ (v:AV),v=σ.τ s∨v=(σ.τ s).weak→∀ y,E9 s (match E9 s sc with|some (.s l)=>(s,.d l)::sc|some (.k a)=>(s,.q a.weak)::sc|_=>sc)=some y→SrcOK env v y:=by
    intro v hv y hy
    have hw':v.weak=(σ.τ s).weak:=by rcases hv with rfl|rfl; rfl; exact G8 _
    cases hs:E9 s sc with
    | none=>rw [hs] at hy; dsimp only at hy; rw [hs] at hy; cases hy
    | some z =>
     have hz:=h _ _ hs
     rw [hs] at hy
     cases z with
     | s l =>
      dsimp only at hy
      rw [a1C,if_pos rfl] at hy
      cases hy
      obtain ⟨a,h1,h2⟩:=hz
      exact ⟨a,h1,by rw [hw',h2]⟩
     | k a =>
      dsimp only at hy
      rw [a1C,if_pos rfl] at hy
      cases hy
      show v.weak=a.weak
      rw [hw',show σ.τ s=a from hz]
     | w l =>
      dsimp only at hy
      rw [hs] at hy
      cases hy
      obtain ⟨a,h1,h2⟩:=hz
      exact ⟨a,h1,by rw [hw',h2]⟩
     | d l =>
      dsimp only at hy
      rw [hs] at hy
      cases hy
      obtain ⟨a,h1,h2⟩:=hz
      exact ⟨a,h1,by rw [hw',h2]⟩
     | q a =>
      dsimp only at hy
      rw [hs] at hy
      cases hy
      show v.weak=a
      rw [hw']
      exact hz
   have ho:∀ t,t≠s→∀ y,E9 t (match E9 s sc with|some (.s l)=>(s,.d l)::sc|some (.k a)=>(s,.q a.weak)::sc|_=>sc)=some y→E9 t sc=some y:=by
    intro t ht y hy
    cases hs:E9 s sc with
    | none=>rw [hs] at hy; exact hy
    | some z =>
     rw [hs] at hy
     cases z <;> dsimp only at hy <;> first|exact hy|(rw [a1C,if_neg (fun q=>ht q.symm)] at hy; exact hy)
   have h1:a2X (match E9 s sc with|some (.s l)=>(s,.d l)::sc|some (.k a)=>(s,.q a.weak)::sc|_=>sc) env σ.τ:=fun t y hy=>by
    by_cases e:t=s
    · subst e; exact hw _ (.inl rfl) y hy
    · exact h _ _ (ho t e y hy)
   have h2:a2X (match E9 s sc with|some (.s l)=>(s,.d l)::sc|some (.k a)=>(s,.q a.weak)::sc|_=>sc) env (Opd.spend (.ts s) σ).τ:=fun t y hy=>by
    show SrcOK env (s5 σ.τ s (σ.τ s).weak t) y
    rw [a0A]
    by_cases e:t=s
    · subst e; rw [if_pos rfl]; exact hw _ (.inr rfl) y hy
    · rw [if_neg e]; exact h _ _ (ho t e y hy)
   have hb2:∀ t,((Opd.spend (.ts s) σ).τ t).stripB=(Opd.spend (.ts s) σ).τ t:=fun t=>by
    show (s5 σ.τ s (σ.τ s).weak t).stripB=s5 σ.τ s (σ.τ s).weak t
    rw [a0A]
    split
    · exact b3t (hb s)
    · exact hb t
   have a:=G9 (xs:=xs) h1 hb
   have b:=G9 (xs:=xs) h2 hb2
   exact ⟨a.1,b.2.1,b.2.2.1,b.2.2.2⟩
  | vs i =>
   have a:=G9 (xs:=xs) h hb
   have b:=G9 (xs:=xs) (σ:=Opd.spend (.vs i) σ) h hb
   exact ⟨a.1,b.2.1,b.2.2.1,b.2.2.2⟩
  | t s=>exact G9 (xs:=xs) h hb
  | v s=>exact G9 (xs:=xs) h hb
  | l s=>exact G9 (xs:=xs) h hb
  | c s=>exact G9 (xs:=xs) h hb
theorem b1n {xs:List Opd} (h:b33 xs=false):∀ σ:Sig,(c0 xs σ).fr=σ.fr:=by
 induction xs with
 | nil=>intro σ; rfl
 | cons x xs ih=>intro σ; cases x <;> first|exact ih h _|cases h

def d5I (nv dep:Nat) (sc:Scope) (o:AOper) (cf:CF):Prop:=∀ c env fr st σ,Ag nv dep sc env fr σ→σ.st=st→∀ (K:AV→Fr→St→RO) out,cf c env fr st K=some out →
 ∃ r b st' fr',sem o.kind c (o.args.map (·.read σ)) (match o.box with|some i=>σ.fr.getD i .undef|none=>.undef) st=some (r,b,st')∧K r fr' st'=some out ∧
  (match o.box with|some i=>(c0 o.args σ).fr.set i b|none=>(c0 o.args σ).fr)=toL nv fr'
theorem a3i {α γ:Type} {x:Option α} {f:α→Option γ} {r:γ} (h:obind x f=some r):∃ a,x=some a∧f a=some r:=by
 cases x with
 | none=>cases h
 | some a=>exact ⟨a,rfl,h⟩
theorem b4t {G:β→Prop} {nv dep:Nat} {sc:Scope} {o:AOper} {rs:List Rd} {kf:KF} {e:β} {Q:CF→β} (hn:nv≤64) (hrs:a9D nv dep sc o.args rs) (hkf:b71 o.kind rs kf) (he:G e) (h:∀ cf,d5I nv dep sc o cf→G (Q cf)) :
 G (b3Y nv o.kind o.args o.box kf e Q):=by
 unfold b3Y
 split
 · rename_i hv hb
   refine h _ fun c env fr st σ ha hst K out hout=>?_
   rw [hkf,a0K ha hrs] at hout
   obtain ⟨⟨r,b,st'⟩,h1,h2⟩:=a3i hout
   exact ⟨r,b,st',fr,by rw [hb]; exact h1,h2,by rw [hb]; dsimp only; rw [b1n hv,ha.f]⟩
 · rename_i hv hb
   refine H5 hn o.args he fun sp hsp=>h _ fun c env fr st σ ha hst K out hout=>?_
   rw [hkf,a0K ha hrs] at hout
   obtain ⟨⟨r,b,st'⟩,h1,h2⟩:=a3i hout
   obtain ⟨fr',h3,h4⟩:=hsp fr σ ha.f
   dsimp only at h2
   rw [h3] at h2
   exact ⟨r,b,st',fr',by rw [hb]; exact h1,h2,by rw [hb]; exact h4⟩
 · rename_i i hb
   cases hbi:Nat.blt i nv with
   | false=>exact he
   | true =>
    have hi:=R3 hbi
    refine K5 (by omega) he fun g hg=>?_
    split
    · rename_i hal
      simp only [Bool.or_eq_false_iff] at hal
      refine h _ fun c env fr st σ ha hst K out hout=>?_
      rw [hg,hkf,a0K ha hrs] at hout
      obtain ⟨⟨r,b,st'⟩,h1,h2⟩:=a3i hout
      refine ⟨r,b,st',fr,by rw [hb]; dsimp only; rw [ha.f,M7 hi]; exact h1,h2,?_⟩
      rw [hb]
      have:=a1y hal.1 h1
      subst this
      dsimp only
      rw [b1n hal.2,ha.f,← M7 hi fr]
      exact a2r _ _
    · refine H5 hn o.args he fun sp hsp=>a0X (by omega) he fun p hp=>h _ fun c env fr st σ ha hst K out hout=>?_
      rw [hg,hkf,a0K ha hrs] at hout
      obtain ⟨⟨r,b,st'⟩,h1,h2⟩:=a3i hout
      obtain ⟨fr',h3,h4⟩:=hsp fr σ ha.f
      dsimp only at h2
      rw [h3,hp] at h2
      refine ⟨r,b,st',_,by rw [hb]; dsimp only; rw [ha.f,M7 hi]; exact h1,h2,?_⟩
      rw [hb]
      dsimp only
      rw [h4,a1r hi hn]

def d3V (nv dep:Nat) (o:AOper) (sc:Scope) (pf:PF) (dep':Nat) (sc':Scope):Prop:=∀ r env fr s (k:List AV→Fr→St→RO) out,pf r env fr s k=some out→∀ σ:Sig,σ.fr=toL nv fr→env.length=dep→(∀ t,(σ.τ t).stripB=σ.τ t)→a2X sc env σ.τ→σ.st=s →
 ∃ env' fr',k env' fr' s=some out∧Ag nv dep' sc' env' fr' (o.dst.put r σ)∧(o.dst.put r σ).st=s
theorem b7h {G:β→Prop} {nv dep:Nat} {tss:List Nat} {o:AOper} {sc:Scope} {e:β} {Q:PF→Nat→Scope→β} (hn:nv≤64) (he:G e) (h:∀ pf dep' sc',d3V nv dep o sc pf dep' sc'→G (Q pf dep' sc')):G (b8D nv dep tss o.dst sc e Q):=by
 unfold b8D
 cases hd:o.dst with
 | t s =>
  dsimp only
  have nb':∀ (σ:Sig) (r:AV),(∀ t,(σ.τ t).stripB=σ.τ t)→∀ t,(s5 σ.τ s r.stripB t).stripB=s5 σ.τ s r.stripB t:=fun σ r hb t=>by
   rw [a0A]; split
   · exact a3G r
   · exact hb t
  have sc1:∀ (σ:Sig) (r:AV) (env:List AV) (y:Src) (v:AV),env.length=dep→a2X sc env σ.τ→SrcOK (v::env) r.stripB y→a2X ((s,y)::sc) (v::env) (s5 σ.τ s r.stripB):=fun σ r env y v hl hsc hy t x hx=>by
   rw [a1C] at hx
   rw [a0A]
   split at hx
   · rename_i e; cases hx; rw [if_pos e.symm]; exact hy
   · rename_i e; rw [if_neg (fun q=>e q.symm)]; exact (hsc _ _ hx).push v
  cases b9k s tss with
  | true =>
   refine h _ _ _ fun r env fr s' k out hout σ hf hl hb hsc hst=>?_
   rw [b5w] at hout
   refine ⟨_,_,hout,?_,by rw [hd]; exact hst⟩
   rw [hd]
   exact ⟨hf,by simp [hl],nb' σ r hb,sc1 σ r env _ _ hl hsc ⟨_,by rw [← hl]; exact b6p _ _,rfl⟩⟩
  | false =>
   refine h _ _ _ fun r env fr s' k out hout σ hf hl hb hsc hst=>?_
   rw [b5w] at hout
   refine ⟨_,_,hout,?_,by rw [hd]; exact hst⟩
   rw [hd]
   exact ⟨hf,by simp [hl],nb' σ r hb,sc1 σ r env _ _ hl hsc ⟨_,by rw [← hl]; exact b6p _ _,rfl⟩⟩
 | v i =>
  dsimp only
  cases hbi:Nat.blt i nv with
  | false=>exact he
  | true =>
   have hi:=R3 hbi
   refine a0X (by omega) he fun p hp=>h _ _ _ fun r env fr s' k out hout σ hf hl hb hsc hst=>?_
   rw [c3Y,hp] at hout
   refine ⟨_,_,hout,?_,by rw [hd]; exact hst⟩
   rw [hd]
   exact ⟨by show σ.fr.set i r.strip=_; rw [hf,a1r hi hn],hl,hb,hsc⟩
 | none =>
  refine h _ _ _ fun r env fr s' k out hout σ hf hl hb hsc hst=>?_
  refine ⟨_,_,hout,?_,by rw [hd]; exact hst⟩
  rw [hd]
  exact ⟨hf,hl,hb,hsc⟩
 | bx =>
  refine h _ _ _ fun r env fr s' k out hout σ hf hl hb hsc hst=>?_
  refine ⟨_,_,hout,?_,by rw [hd]; exact hst⟩
  rw [hd]
  exact ⟨hf,hl,hb,hsc⟩

def d4M (nv dep:Nat) (sc:Scope) (o:AOper) (opf:OpF) (dep':Nat) (sc':Scope):Prop:=∀ c env fr st σ,Ag nv dep sc env fr σ→σ.st=st→∀ (k:List AV→Fr→St→RO) out,opf c env fr st k=some out →
 ∃ σ' env' fr',j2 c o σ=some σ'∧Ag nv dep' sc' env' fr' σ'∧k env' fr' σ'.st=some out
def c6e (nv dep:Nat) (sc:Scope) (o:AOper) (sc':Scope):Prop:=∀ c env fr σ,Ag nv dep sc env fr σ→∃ σ',j2 c o σ=some σ'∧Ag nv dep sc' env fr σ'∧σ'.st=σ.st
theorem a9i {nv dep:Nat} {sc:Scope} {env:List AV} {fr:Fr} {σ:Sig} (ha:Ag nv dep sc env fr σ) (s:Nat) (v:AV) (y:Src) (hy:SrcOK env v.stripB y):Ag nv dep ((s,y)::sc) env fr ({ σ with τ:=s5 σ.τ s v.stripB }) :=
 ⟨ha.f,ha.d,fun t=>by
  show (s5 σ.τ s v.stripB t).stripB=s5 σ.τ s v.stripB t
  rw [a0A]; split
  · exact a3G v
  · exact ha.nb t,fun t x hx=>by
  show SrcOK env (s5 σ.τ s v.stripB t) x
  rw [a1C] at hx
  rw [a0A]
  split at hx
  · rename_i e; cases hx; rw [if_pos e.symm]; exact hy
  · rename_i e; rw [if_neg (fun q=>e q.symm)]; exact ha.t _ _ hx⟩
theorem a5f (c:b9) (s:Nat) (x:Opd) (hx:x.steals=false) (σ:Sig):j2 c ⟨.t s,.mv,[x],none,none⟩ σ=some { σ with τ:=s5 σ.τ s (x.read σ).stripB }:=by
 have e:c0 [x] σ=σ:=R6 (by simp [e8,hx])
 show E7 c _ σ=_
 rw [M6]
 show some (Dst.put (.t s) (x.read σ) { c0 [x] σ with st:=σ.st })=_
 rw [e]
 rfl
theorem b8r {G:β→Prop} {nv dep:Nat} {sc:Scope} {tss:List Nat} {o:AOper} {e:β} {Q0:Scope→β} {Q:OpF→Nat→Scope→β} (hn:nv≤64) (he:G e) (h0:∀ sc',c6e nv dep sc o sc'→G (Q0 sc'))
 (h:∀ opf dep' sc',d4M nv dep sc o opf dep' sc'→G (Q opf dep' sc')):G (opK nv dep sc tss o e Q0 Q):=by
 unfold opK
 split
 · rename_i s s' hal
   have ho:o=⟨.t s,.mv,[.t s'],none,none⟩:=by
    unfold a7o at hal
    split at hal <;> first|(cases hal; rfl)|cases hal
   subst ho
   have go:∀ y,(∀ env fr σ,Ag nv dep sc env fr σ→SrcOK env (σ.τ s').weak y)→c6e nv dep sc ⟨.t s,.mv,[.t s'],none,none⟩ ((s,y)::sc):=fun y hy c env fr σ ha=>by
    refine ⟨_,a5f c s (.t s') rfl σ,a9i ha s _ y ?_,rfl⟩
    show SrcOK env ((σ.τ s').weak).stripB y
    rw [b3t (ha.nb s')]
    exact hy env fr σ ha
   split
   · rename_i l hs
     exact h0 _ (go _ fun env fr σ ha=>by obtain ⟨a,h1,h2⟩:=ha.t _ _ hs; exact ⟨a,h1,by rw [G8,h2]⟩)
   · rename_i l hs
     exact h0 _ (go _ fun env fr σ ha=>by obtain ⟨a,h1,h2⟩:=ha.t _ _ hs; exact ⟨a,h1,by rw [G8,h2]⟩)
   · rename_i l hs
     exact h0 _ (go _ fun env fr σ ha=>by obtain ⟨a,h1,h2⟩:=ha.t _ _ hs; exact ⟨a,h1,by rw [G8,h2]⟩)
   · rename_i a hs
     exact h0 _ (go _ fun env fr σ ha=>by
      have:=ha.t _ _ hs
      show (σ.τ s').weak.weak=a.weak
      rw [G8,show σ.τ s'=a from this])
   · rename_i a hs
     exact h0 _ (go _ fun env fr σ ha=>by
      have:=ha.t _ _ hs
      show (σ.τ s').weak.weak=a
      rw [G8]
      exact this)
   · exact he
 · rename_i s a hal
   have ho:o=⟨.t s,.mv,[.c a],none,none⟩:=by
    unfold a7o at hal
    split at hal <;> first|(cases hal; rfl)|cases hal
   subst ho
   exact h0 _ fun c env fr σ ha=>⟨_,a5f c s (.c a) rfl σ,a9i ha s _ _ rfl,rfl⟩
 · refine b0w hn he fun rs hrs=>b4M fun kf hkf=>b4t hn hrs hkf he fun cf hcf=>b7h hn he fun pf dep' sc' hpf=>?_
   have body:∀ c env fr st σ,Ag nv dep sc env fr σ→σ.st=st→∀ (k:List AV→Fr→St→RO) out,(cf c env fr st fun r fr s=>pf r env fr s k)=some out →
    ∃ σ' env' fr',E7 c o σ=some σ'∧Ag nv dep' sc' env' fr' σ'∧k env' fr' σ'.st=some out:=fun c env fr st σ ha hst k out hout=>by
    obtain ⟨r,b,st',fr',h1,h2,h3⟩:=hcf c env fr st σ ha hst _ out hout
    obtain ⟨e1,e2,e3,e4⟩:=G9 (xs:=o.args) (σ:=σ) ha.t ha.nb
    let σ1:Sig:=match o.box with
     | some i=>{ c0 o.args σ with fr:=(c0 o.args σ).fr.set i b,st:=st' }
     | none=>{ c0 o.args σ with st:=st' }
    have hfr:σ1.fr=toL nv fr':=by
     rw [← h3]; simp only [σ1]; cases o.box <;> rfl
    have hτ:σ1.τ=(c0 o.args σ).τ:=by simp only [σ1]; cases o.box <;> rfl
    have hs1:σ1.st=st':=by simp only [σ1]; cases o.box <;> rfl
    obtain ⟨env2,fr2,g1,g2,g3⟩:=hpf r env fr' st' k out h2 σ1 hfr ha.d (by rw [hτ]; exact e3) (by rw [hτ]; exact e2) hs1
    refine ⟨_,env2,fr2,?_,g2,by rw [g3]; exact g1⟩
    rw [M6,hst]
    simp only [σ1]
    cases hb:o.box <;> rw [hb] at h1 <;> dsimp only at h1 ⊢ <;> rw [h1]
   split
   · rename_i hg
     refine h _ _ _ fun c env fr st σ ha hst k out hout=>?_
     unfold j2
     rw [hg]
     exact body c env fr st σ ha hst k out hout
   · rename_i x w hg
     refine a4C hn he fun g hgr=>h _ _ _ fun c env fr st σ ha hst k out hout=>?_
     rw [hgr env fr σ ha,c4V] at hout
     unfold j2
     rw [hg]
     dsimp only
     have skip:pf (.tuple []) env fr st k=some out→∃ σ' env' fr',some (o.dst.put (.tuple []) σ)=some σ'∧Ag nv dep' sc' env' fr' σ'∧k env' fr' σ'.st=some out:=fun hout=>by
      obtain ⟨env2,fr2,g1,g2,g3⟩:=hpf _ env fr st k out hout σ ha.f ha.d ha.nb (G9 (xs:=o.args) (σ:=σ) ha.t ha.nb).1 hst
      exact ⟨_,env2,fr2,rfl,g2,by rw [g3]; exact g1⟩
     cases hx:x.read σ <;> rw [hx] at hout <;> (try dsimp only at hout ⊢) <;> try cases hout
     · rename_i b
       split at hout
       · rename_i hbw; rw [if_pos hbw]; exact body c env fr st σ ha hst k out hout
       · rename_i hbw; rw [if_neg hbw]; exact skip hout
     · rename_i vs
       cases vs with
       | nil=>exact skip hout
       | cons=>cases hout
end

noncomputable def a3a (nv:Nat) (tss:List Nat) (cond:Opd) (ops:List AOper):Nat→Scope→Clo:=List.rec (motive:=fun _=>Nat→Scope→Clo)
 (fun dep sc=>rdK nv dep sc cond Y9 fun r=>.mk fun c env fr st=>r env fr fun x=>some (x,fr,st))
 (fun o _ ih dep sc=>opK nv dep sc tss o Y9 (fun sc'=>ih dep sc') fun opf dep' sc'=>.mk fun c env fr st=>opf c env fr st fun env fr st=>(ih dep' sc').run c env fr st) ops
def a3m (nv dep:Nat) (sc:Scope) (cond:Opd) (ops:List AOper) (x:Clo):Prop:=∀ c env fr st σ v fr' st',Ag nv dep sc env fr σ→σ.st=st→x.run c env fr st=some (v,fr',st') →
 ∃ σ',m2 c ops σ=some σ'∧σ'.fr=toL nv fr'∧σ'.st=st'∧cond.read σ'=v
theorem b1t {nv dep:Nat} {sc:Scope} {cond:Opd} {ops:List AOper}:a3m nv dep sc cond ops Y9:=fun c env fr st σ v fr' st' ha hst h=>by cases (show (none:RO)=some _ from h)
theorem a1Z {nv:Nat} (hn:nv≤64) {tss:List Nat} {cond:Opd}:∀ (ops:List AOper) (dep:Nat) (sc:Scope),a3m nv dep sc cond ops (a3a nv tss cond ops dep sc)
 | [],dep,sc=>by
  show a3m nv dep sc cond [] (rdK nv dep sc cond Y9 fun r=>.mk fun c env fr st=>r env fr fun x=>some (x,fr,st))
  refine a4C (G:=a3m nv dep sc cond []) hn b1t fun r hr c env fr st σ v fr' st' ha hst h=>?_
  have h:r env fr (fun x=>some (x,fr,st))=some (v,fr',st'):=h
  rw [hr env fr σ ha] at h
  cases h
  exact ⟨σ,rfl,ha.f,hst,rfl⟩
 | o::ops,dep,sc=>by
  show a3m nv dep sc cond (o::ops) (opK nv dep sc tss o Y9 (fun sc'=>a3a nv tss cond ops dep sc') fun opf dep' sc'=>.mk fun c env fr st=>opf c env fr st fun env fr st=>(a3a nv tss cond ops dep' sc').run c env fr st)
  refine b8r (G:=a3m nv dep sc cond (o::ops)) hn b1t (fun sc' hal c env fr st σ v fr' st' ha hst h=>?_) fun opf dep' sc' ho c env fr st σ v fr' st' ha hst h=>?_
  · obtain ⟨σ1,h1,h2,h3⟩:=hal c env fr σ ha
    obtain ⟨σ2,g1,g2⟩:=a1Z hn ops dep sc' c env fr st σ1 v fr' st' h2 (h3.trans hst) h
    exact ⟨σ2,by rw [m2,h1]; exact g1,g2⟩
  · obtain ⟨σ1,env1,fr1,h1,h2,h3⟩:=ho c env fr st σ ha hst _ _ h
    obtain ⟨σ2,g1,g2⟩:=a1Z hn ops dep' sc' c env1 fr1 σ1.st σ1 v fr' st' h2 rfl h3
    exact ⟨σ2,by rw [m2,h1]; exact g1,g2⟩
end Go.Cb.G
/-
 THE ABSTRACT MACHINE, part 46: code and functions, made ready once; what they answer is the machine's answer.
-/
set_option maxRecDepth 4000
set_option linter.unusedVariables false
namespace Go.Cb.G
open Go Go.Cb
/-! regions -/
noncomputable def a9B (nv:Nat) (kill:List Nat) (Q:(Fr→(Fr→RO)→RO)→Clo):Clo:=List.rec (motive:=fun _=>((Fr→(Fr→RO)→RO)→Clo)→Clo) (fun Q=>Q fun fr k=>k fr)
 (fun i _ ih Q=>Bool.rec (motive:=fun _=>Clo) (ih Q) (a7q i Y9 fun p=>ih fun r=>Q fun fr k=>p .undef fr fun fr=>r fr k) (Nat.blt i nv)) kill Q
def tsL:List Opd→List Nat
 | []=>[]
 | .ts s::xs=>s::tsL xs
 | _::xs=>tsL xs
def b4Y:List AOper→List Nat
 | []=>[]
 | o::os=>match tsL o.args with
  | []=>b4Y os
  | l=>l++b4Y os
noncomputable def a5s (nv:Nat) (kill:List Nat) (ops:List AOper) (cond:Opd):Clo :=
 a9B nv kill fun kf=>.mk fun c _ fr st=>kf fr fun fr=>(a3a nv (tsL [cond]++b4Y ops) cond ops 0 []).run c [] fr st
theorem a2j {G:Clo→Prop} {nv:Nat} (hn:nv≤64) (hs:G Y9):∀ {kill:List Nat} {Q:(Fr→(Fr→RO)→RO)→Clo},(∀ r:Fr→(Fr→RO)→RO,(∀ fr,∃ fr',(∀ k,r fr k=k fr')∧k7 kill (toL nv fr)=toL nv fr')→G (Q r))→G (a9B nv kill Q)
 | [],Q,h=>h _ fun fr=>⟨fr,fun _=>rfl,rfl⟩
 | i::is,Q,h=>by
  show G (Bool.rec (motive:=fun _=>Clo) (a9B nv is Q) (a7q i Y9 fun p=>a9B nv is fun r=>Q fun fr k=>p .undef fr fun fr=>r fr k) (Nat.blt i nv))
  cases hb:Nat.blt i nv with
  | false =>
   have hi:¬ i < nv:=fun q=>by rw [show Nat.blt i nv=true by simpa using q] at hb; cases hb
   exact a2j hn hs (kill:=is) fun r hr=>h r fun fr=>by
    obtain ⟨fr',h1,h2⟩:=hr fr
    exact ⟨fr',h1,by rw [k7,a4b hi]; exact h2⟩
  | true =>
   have hi:=R3 hb
   exact a0X (by omega) hs fun p hp=>a2j hn hs (kill:=is) fun r hr=>h _ fun fr=>by
    obtain ⟨fr',h1,h2⟩:=hr (a0V i .undef fr)
    exact ⟨fr',fun k=>by show p .undef fr _=_; rw [hp,h1],by rw [k7,a1r hi hn]; exact h2⟩
def b2W (nv:Nat) (kill:List Nat) (ops:List AOper) (cond:Opd) (x:Clo):Prop:=∀ c env fr st v fr' st',x.run c env fr st=some (v,fr',st') →
 ∃ σ',m2 c ops ⟨k7 kill (toL nv fr),fun _=>.undef,st⟩=some σ'∧σ'.fr=toL nv fr'∧σ'.st=st'∧cond.read σ'=v
theorem b1O {nv:Nat} (hn:nv≤64) {kill:List Nat} {ops:List AOper} {cond:Opd}:b2W nv kill ops cond (a5s nv kill ops cond):=by
 refine a2j (G:=b2W nv kill ops cond) hn (fun c env fr st v fr' st' h=>by cases (show (none:RO)=some _ from h)) fun r hr c env fr st v fr' st' h=>?_
 obtain ⟨fr1,h1,h2⟩:=hr fr
 have h:r fr _=_:=h
 rw [h1] at h
 exact a1Z hn ops 0 [] c [] fr1 st ⟨k7 kill (toL nv fr),fun _=>.undef,st⟩ v fr' st' ⟨h2,rfl,fun _=>rfl,fun s x hx=>by cases (show (none:Option Src)=some x from hx)⟩ rfl h

/-! code -/
abbrev CO:=Option (Ex×Fr×St)
inductive CloC where
 | mk (f:b9→Nat→Fr→St→CO)
noncomputable def CloC.run (x:CloC):b9→Nat→Fr→St→CO:=CloC.rec (motive:=fun _=>b9→Nat→Fr→St→CO) (fun f=>f) x
section
variable {ρ:Type}
noncomputable def b1N (x:RO) (k:AV→Fr→St→Option ρ):Option ρ:=Option.rec (motive:=fun _=>Option ρ) none (fun p=>Prod.rec (motive:=fun _=>Option ρ) (fun v q=>Prod.rec (motive:=fun _=>Option ρ) (fun fr st=>k v fr st) q) p) x
noncomputable def a0D (x:CO) (k:Ex→Fr→St→Option ρ):Option ρ:=Option.rec (motive:=fun _=>Option ρ) none (fun p=>Prod.rec (motive:=fun _=>Option ρ) (fun v q=>Prod.rec (motive:=fun _=>Option ρ) (fun fr st=>k v fr st) q) p) x
noncomputable def a0T (e:Ex) (n:Option ρ) (x:Nat→Option ρ) (r:Option ρ):Option ρ:=Ex.rec (motive:=fun _=>Option ρ) n x r e
theorem a8u {x:RO} {k:AV→Fr→St→Option ρ} {r:ρ} (h:b1N x k=some r):∃ v fr st,x=some (v,fr,st)∧k v fr st=some r:=by
 cases x with
 | none=>cases h
 | some p=>obtain ⟨v,fr,st⟩:=p; exact ⟨v,fr,st,rfl,h⟩
theorem S1 {x:CO} {k:Ex→Fr→St→Option ρ} {r:ρ} (h:a0D x k=some r):∃ v fr st,x=some (v,fr,st)∧k v fr st=some r:=by
 cases x with
 | none=>cases h
 | some p=>obtain ⟨v,fr,st⟩:=p; exact ⟨v,fr,st,rfl,h⟩
end
noncomputable def b3O (b:b9→Nat→Fr→St→CO) (c:b9) (n m:Nat):Fr→St→CO:=Nat.rec (motive:=fun _=>Fr→St→CO) (fun _ _=>none) (fun _ ih fr st=>a0D (b c n fr st) fun e fr st=>a0T e (ih fr st) (fun i=>some (.exit i,fr,st)) (some (.ret,fr,st))) m
def a5D (nv:Nat):List Nat→Fr→Fr
 | [],fr=>fr
 | i::is,fr=>a5D nv is (if i < nv then a0V i .undef fr else fr)
theorem a27 {nv:Nat} (hn:nv≤64):∀ {is:List Nat} {fr:Fr},k7 is (toL nv fr)=toL nv (a5D nv is fr)
 | [],fr=>rfl
 | i::is,fr=>by
  rw [k7,a5D]
  split
  · rename_i h; rw [a1r h hn]; exact a27 hn
  · rename_i h; rw [a4b h]; exact a27 hn
noncomputable def b5m (nv:Nat) (kill:List Nat) (x y:CO):CO:=a0D x fun e fr st=>a0D y fun e' fr' st' =>
 if a9s (J7 kill (e,toL nv fr,st)) (J7 kill (e',toL nv fr',st')) then some (e,a5D nv kill fr,st) else none
noncomputable def U3 (nv:Nat) (x:ACode):CloC:=ACode.rec (motive:=fun _=>CloC)
 (.mk fun _ _ fr st=>some (.normal,fr,st))
 (fun kill ops=>.mk fun c _ fr st=>b1N ((a5s nv kill ops (.c .undef)).run c [] fr st) fun _ fr st=>some (.normal,fr,st))
 (fun kill ops x _ _ a b=>.mk fun c n fr st=>b1N ((a5s nv kill ops x).run c [] fr st) fun v fr st=>onB v none fun y=>Bool.rec (motive:=fun _=>CO) (b.run c n fr st) (a.run c n fr st) y)
 (fun _ _ a b=>.mk fun c n fr st=>a0D (a.run c n fr st) fun e fr st=>a0T e (b.run c n fr st) (fun i=>some (.exit i,fr,st)) (some (.ret,fr,st)))
 (fun id _ a=>.mk fun c n fr st=>a0D (a.run c n fr st) fun e fr st=>a0T e (some (.normal,fr,st)) (fun i=>Bool.rec (motive:=fun _=>CO) (some (.exit i,fr,st)) (some (.normal,fr,st)) (Nat.beq i id)) (some (.ret,fr,st)))
 (fun _ a=>.mk fun c n fr st=>b3O (fun c n fr st=>a.run c n fr st) c n n fr st)
 (fun kill _ _ a b=>.mk fun c n fr st=>b5m nv kill (a.run c n fr st) (b.run c n fr st))
 (fun id=>.mk fun _ _ fr st=>some (.exit id,fr,st))
 (.mk fun _ _ fr st=>some (.ret,fr,st)) x
def c1O (nv:Nat) (x:ACode) (y:CloC):Prop:=∀ c n fr st e fr' st',y.run c n fr st=some (e,fr',st')→e9 c n x (toL nv fr) st=some (e,toL nv fr',st')
theorem b1Z {nv:Nat} {a:ACode} {b:b9→Nat→Fr→St→CO} {c:b9} {n:Nat} (h:∀ fr st e fr' st',b c n fr st=some (e,fr',st')→e9 c n a (toL nv fr) st=some (e,toL nv fr',st')):∀ (m:Nat) (fr:Fr) (st:St) (e:Ex) (fr':Fr) (st':St),b3O b c n m fr st=some (e,fr',st')→U2 (e9 c n a) m (toL nv fr) st=some (e,toL nv fr',st')
 | 0,fr,st,e,fr',st',hs=>by cases (show (none:CO)=some _ from hs)
 | m+1,fr,st,e,fr',st',hs=>by
  obtain ⟨e1,fr1,st1,h1,h2⟩:=S1 (show a0D (b c n fr st) (fun e fr st=>a0T e (b3O b c n m fr st) (fun i=>some (.exit i,fr,st)) (some (.ret,fr,st)))=some (e,fr',st') from hs)
  rw [U2,h _ _ _ _ _ h1]
  cases e1 with
  | normal=>exact b1Z h m fr1 st1 e fr' st' h2
  | exit i=>cases (show some (Ex.exit i,fr1,st1)=some (e,fr',st') from h2); rfl
  | ret=>cases (show some (Ex.ret,fr1,st1)=some (e,fr',st') from h2); rfl
theorem K9 {nv:Nat} (hn:nv≤64):∀ x:ACode,c1O nv x (U3 nv x)
 | .skip,c,n,fr,st,e,fr',st',h=>by cases (show some (Ex.normal,fr,st)=some (e,fr',st') from h); rfl
 | .ret,c,n,fr,st,e,fr',st',h=>by cases (show some (Ex.ret,fr,st)=some (e,fr',st') from h); rfl
 | .exit id,c,n,fr,st,e,fr',st',h=>by cases (show some (Ex.exit id,fr,st)=some (e,fr',st') from h); rfl
 | .reg kill ops,c,n,fr,st,e,fr',st',h=>by
  obtain ⟨v,fr1,st1,h1,h2⟩:=a8u (show b1N ((a5s nv kill ops (.c .undef)).run c [] fr st) (fun _ fr st=>some (Ex.normal,fr,st))=some (e,fr',st') from h)
  cases h2
  obtain ⟨σ,g1,g2,g3,g4⟩:=b1O hn _ _ _ _ _ _ _ h1
  rw [e9,g1]
  simp only [fL_eq,g2,g3]
 | .test kill ops x a b,c,n,fr,st,e,fr',st',h=>by
  obtain ⟨v,fr1,st1,h1,h2⟩:=a8u (show b1N ((a5s nv kill ops x).run c [] fr st) (fun v fr st=>onB v none fun y=>Bool.rec (motive:=fun _=>CO) ((U3 nv b).run c n fr st) ((U3 nv a).run c n fr st) y)=some (e,fr',st') from h)
  obtain ⟨σ,g1,g2,g3,g4⟩:=b1O hn _ _ _ _ _ _ _ h1
  rw [b0m] at h2
  rw [e9,g1]
  dsimp only
  rw [g4]
  cases v <;> try (cases h2; done)
  rename_i y
  cases y
  · simp only [fL_eq,g2,g3]; exact K9 hn b _ _ _ _ _ _ _ h2
  · simp only [fL_eq,g2,g3]; exact K9 hn a _ _ _ _ _ _ _ h2
 | .seq a b,c,n,fr,st,e,fr',st',h=>by
  obtain ⟨e1,fr1,st1,h1,h2⟩:=S1 (show a0D ((U3 nv a).run c n fr st) (fun e fr st=>a0T e ((U3 nv b).run c n fr st) (fun i=>some (.exit i,fr,st)) (some (.ret,fr,st)))=some (e,fr',st') from h)
  rw [e9,K9 hn a _ _ _ _ _ _ _ h1]
  cases e1 with
  | normal=>exact K9 hn b _ _ _ _ _ _ _ h2
  | exit i=>cases (show some (Ex.exit i,fr1,st1)=some (e,fr',st') from h2); rfl
  | ret=>cases (show some (Ex.ret,fr1,st1)=some (e,fr',st') from h2); rfl
 | .blk id a,c,n,fr,st,e,fr',st',h=>by
  obtain ⟨e1,fr1,st1,h1,h2⟩:=S1 (show a0D ((U3 nv a).run c n fr st) (fun e fr st=>a0T e (some (.normal,fr,st)) (fun i=>Bool.rec (motive:=fun _=>CO) (some (.exit i,fr,st)) (some (.normal,fr,st)) (Nat.beq i id)) (some (.ret,fr,st)))=some (e,fr',st') from h)
  rw [e9,K9 hn a _ _ _ _ _ _ _ h1]
  cases e1 with
  | normal=>cases (show some (Ex.normal,fr1,st1)=some (e,fr',st') from h2); rfl
  | exit i =>
   have h2:Bool.rec (motive:=fun _=>CO) (some (.exit i,fr1,st1)) (some (.normal,fr1,st1)) (Nat.beq i id)=some (e,fr',st'):=h2
   dsimp only
   cases hb:Nat.beq i id with
   | true=>rw [hb] at h2; cases h2; rw [if_pos (Nat.eq_of_beq_eq_true hb)]
   | false=>rw [hb] at h2; cases h2; rw [if_neg (Nat.ne_of_beq_eq_false hb)]
  | ret=>cases (show some (Ex.ret,fr1,st1)=some (e,fr',st') from h2); rfl
 | .loop a,c,n,fr,st,e,fr',st',h=>by
  rw [e9]
  exact b1Z (b:=fun c n fr st=>(U3 nv a).run c n fr st) (fun fr st e fr' st' h=>K9 hn a _ _ _ _ _ _ _ h) n fr st e fr' st' h
 | .either kill a b,c,n,fr,st,e,fr',st',h=>by
  have h:b5m nv kill ((U3 nv a).run c n fr st) ((U3 nv b).run c n fr st)=some (e,fr',st'):=h
  obtain ⟨e1,fr1,st1,h1,h2⟩:=S1 h
  obtain ⟨e2,fr2,st2,h3,h4⟩:=S1 h2
  rw [e9,K9 hn a _ _ _ _ _ _ _ h1,K9 hn b _ _ _ _ _ _ _ h3]
  unfold a1K
  split at h4
  · rename_i hq
    cases h4
    dsimp only
    rw [if_pos hq]
    show some (_,k7 kill (toL nv fr1),_)=_
    rw [a27 hn]
  · cases h4

/-! functions -/
inductive FnC where
 | mk (f:b9→Nat→List AV→St→Option (AV×St))
noncomputable def FnC.run (x:FnC):b9→Nat→List AV→St→Option (AV×St):=FnC.rec (motive:=fun _=>b9→Nat→List AV→St→Option (AV×St)) (fun f=>f) x
noncomputable def O7:FnC:=.mk fun _ _ _ _=>none
noncomputable def b7N (nv:Nat) (r:ResK) (Q:Gt (AV×St)→FnC):FnC :=
 match r with
 | .v i=>match Nat.blt i nv with
  | true=>a2e i O7 fun g=>Q fun fr k=>g fr fun x=>qWk x k
  | false=>O7
 | .vs i=>match Nat.blt i nv with
  | true=>a2e i O7 fun g=>Q g
  | false=>O7
 | .bx i agg n=>match Nat.blt i nv with
  | true=>a2e i O7 fun g=>Q fun fr k=>g fr fun x=>b4N x none fun cs=>a3k k agg n cs
  | false=>O7
theorem b5z {G:FnC→Prop} {nv:Nat} (hn:nv≤64) (hs:G O7) {r:ResK} {Q:Gt (AV×St)→FnC} (h:∀ g:Gt (AV×St),(∀ fr k out,g fr k=some out→∃ v,r.get (toL nv fr)=some v∧k v=some out)→G (Q g)):G (b7N nv r Q):=by
 unfold b7N
 cases r with
 | v i =>
  dsimp only
  cases hb:Nat.blt i nv with
  | false=>exact hs
  | true =>
   have hi:=R3 hb
   refine K5 (by omega) hs fun g hg=>h _ fun fr k out ho=>?_
   rw [hg,a0E] at ho
   exact ⟨_,by rw [ResK.get,M7 hi],ho⟩
 | vs i =>
  dsimp only
  cases hb:Nat.blt i nv with
  | false=>exact hs
  | true =>
   have hi:=R3 hb
   refine K5 (by omega) hs fun g hg=>h _ fun fr k out ho=>?_
   rw [hg] at ho
   exact ⟨_,by rw [ResK.get,M7 hi],ho⟩
 | bx i agg n =>
  dsimp only
  cases hb:Nat.blt i nv with
  | false=>exact hs
  | true =>
   have hi:=R3 hb
   refine K5 (by omega) hs fun g hg=>h _ fun fr k out ho=>?_
   rw [hg,a6T] at ho
   rw [ResK.get,M7 hi]
   cases hx:T7 i fr <;> rw [hx] at ho <;> try (cases ho; done)
   rename_i cs
   dsimp only at ho ⊢
   rw [a2d] at ho
   cases ht:j3 agg n cs with
   | none=>rw [ht] at ho; cases ho
   | some v=>rw [ht] at ho; exact ⟨v,rfl,ho⟩
noncomputable def b4V (nv:Nat):List ResK→((Fr→(List AV→Option (AV×St))→Option (AV×St))→FnC)→FnC
 | [],Q=>Q fun _ k=>k []
 | r::rs,Q=>b7N nv r fun g=>b4V nv rs fun gs=>Q fun fr k=>g fr fun v=>gs fr fun vs=>k (v::vs)
theorem a9j {G:FnC→Prop} {nv:Nat} (hn:nv≤64) (hs:G O7):∀ {rs:List ResK} {Q:(Fr→(List AV→Option (AV×St))→Option (AV×St))→FnC},(∀ g:Fr→(List AV→Option (AV×St))→Option (AV×St),(∀ fr k out,g fr k=some out→∃ vs,O2 rs (toL nv fr)=some vs∧k vs=some out)→G (Q g))→G (b4V nv rs Q)
 | [],Q,h=>h _ fun fr k out ho=>⟨[],rfl,ho⟩
 | r::rs,Q,h=>by
  unfold b4V
  exact b5z hn hs fun g hg=>a9j hn hs fun gs hgs=>h _ fun fr k out ho=>by
   obtain ⟨v,h1,h2⟩:=hg fr _ _ ho
   obtain ⟨vs,h3,h4⟩:=hgs fr _ _ h2
   exact ⟨v::vs,by rw [O2,h1,h3],h4⟩
noncomputable def a7g (vs:List AV) (st:St):Option (AV×St):=List.rec (motive:=fun _=>Option (AV×St)) (some (.tuple [],st)) (fun v ws _=>List.rec (motive:=fun _=>Option (AV×St)) (some (v,st)) (fun _ _ _=>some (.tuple vs,st)) ws) vs
noncomputable def b3N (fn:AFn):FnC:=match Nat.ble fn.nv 64 && Nat.ble fn.np fn.nv with
 | true=>b4V fn.nv fn.results fun g=>.mk fun c n as st=>Bool.rec (motive:=fun _=>Option (AV×St)) none (b9G as fun w=>a0D ((U3 fn.nv fn.code).run c n (fr0 w) st) fun e fr st=>a0T e (g fr fun vs=>a7g vs st) (fun _=>none) (g fr fun vs=>a7g vs st)) (Nat.beq (L8 as) fn.np)
 | false=>O7
noncomputable def fnC (x:Option AFn):FnC:=match x with
 | none=>O7
 | some fn=>match fn.ext with
  | some e=>.mk fun _ _ as st=>e as st
  | none=>b3N fn
theorem c1W {vs:List AV} {st:St}:a7g vs st=(match (some vs:Option (List AV)) with|some [v]=>some (v,st)|some vs=>some (.tuple vs,st)|none=>none):=by
 match vs with
 | []=>rfl
 | [_]=>rfl
 | _::_::_=>rfl
def b7a (fn:AFn) (x:FnC):Prop:=∀ c n as st out,x.run c n as st=some out→fn.run c n as st=some out
theorem b80 (fn:AFn):b7a fn (b3N fn):=by
 have hs:b7a fn O7:=fun c n as st out h=>by cases (show (none:Option (AV×St))=some _ from h)
 unfold b3N
 cases hb:Nat.ble fn.nv 64 && Nat.ble fn.np fn.nv with
 | false=>exact hs
 | true =>
  simp only [Bool.and_eq_true,Nat.ble_eq] at hb
  refine a9j hb.1 hs fun g hg c n as st out h=>?_
  have h:Bool.rec (motive:=fun _=>Option (AV×St)) none (b9G as fun w=>a0D ((U3 fn.nv fn.code).run c n (fr0 w) st) fun e fr st=>a0T e (g fr fun vs=>a7g vs st) (fun _=>none) (g fr fun vs=>a7g vs st)) (Nat.beq (L8 as) fn.np)=some out:=h
  cases hl:Nat.beq (L8 as) fn.np with
  | false=>rw [hl] at h; cases h
  | true =>
   rw [hl] at h
   have hl:=Nat.eq_of_beq_eq_true hl
   rw [H9] at hl
   obtain ⟨w,h1,h2,h3⟩:=c3c h
   obtain ⟨e,fr',st',h4,h5⟩:=S1 h1
   have h6:=K9 hb.1 fn.code _ _ _ _ _ _ _ h4
   rw [c5p h3 hl h2 hb.2 hb.1] at h6
   unfold AFn.run
   rw [if_pos hl,h6]
   have fin:(g fr' fun vs=>a7g vs st')=some out→(match O2 fn.results (toL fn.nv fr') with|some [v]=>some (v,st')|some vs=>some (.tuple vs,st')|none=>none)=some out:=fun h=>by
    obtain ⟨vs,h7,h8⟩:=hg fr' _ _ h
    rw [h7,← h8,c1W]
   cases e with
   | normal=>exact fin h5
   | exit i=>cases (show (none:Option (AV×St))=some _ from h5)
   | ret=>exact fin h5

noncomputable def callG (tbl:Nat→Option AFn) (n:Nat):b9:=Nat.rec (motive:=fun _=>b9) (fun _ _ _=>none) (fun n ih f as st=>(fnC (tbl f)).run ih n as st) n
theorem a9Z {tbl:Nat→Option AFn}:∀ n,Y4 (callG tbl n) (k9 tbl n)
 | 0,f,as,st,r,h=>by cases (show (none:Option (AV×St))=some _ from h)
 | n+1,f,as,st,r,h=>by
  have h:(fnC (tbl f)).run (callG tbl n) n as st=some r:=h
  unfold k9
  cases ht:tbl f with
  | none=>rw [ht] at h; cases (show (none:Option (AV×St))=some _ from h)
  | some fn =>
   rw [ht] at h
   unfold fnC at h
   dsimp only at h ⊢
   cases he:fn.ext with
   | some e=>rw [he] at h; exact h
   | none =>
    rw [he] at h
    exact b7u (a9Z n) (Nat.le_refl _) (b80 fn _ _ _ _ _ h)
theorem ev_ofG {tbl:Nat→Option AFn} {k f:Nat} {as:List AV} {st:St} {r:AV} {st':St} (h:callG tbl k f as st=some (r,st')):Ev tbl f as st r st':=⟨k,a9Z k _ _ _ _ h⟩
end Go.Cb.G
