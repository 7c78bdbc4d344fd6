import Derived.Test.YtendfdoplhhjbaaGreatDoorXAms3
/-
 THE ABSTRACT MACHINE, part 44: operations, made ready once, run over fast frames.
-/
set_option maxRecDepth 4000
set_option linter.unusedVariables false
namespace Go.Cb.G
open Go Go.Cb
abbrev RO:=Option (AV×Fr×St)
abbrev Rd:=List AV→Fr→(AV→RO)→RO
inductive Src where
 | w (l:Nat)|s (l:Nat)|d (l:Nat)|k (a:AV)|q (a:AV)
abbrev Scope:=List (Nat×Src)
noncomputable def q9 (s:Nat) (sc:Scope):Option Src:=List.rec (motive:=fun _=>Option Src) none (fun p _ ih=>Prod.rec (motive:=fun _=>Option Src) (fun t x=>Bool.rec (motive:=fun _=>Option Src) ih (some x) (Nat.beq t s)) p) sc
theorem W7 (s t:Nat) (x:Src) (sc:Scope):q9 s ((t,x)::sc)=if t=s then some x else q9 s sc:=by
 show Bool.rec (motive:=fun _=>Option Src) (q9 s sc) (some x) (Nat.beq t s)=_
 by_cases h:t=s
 · rw [if_pos h,show Nat.beq t s=true by simpa using h]
 · rw [if_neg h,show Nat.beq t s=false from Bool.eq_false_iff.2 fun q=>h (Nat.eq_of_beq_eq_true q)]
def lv (env:List AV) (l:Nat):Option AV:=env.reverse[l]?
theorem f7R {env:List AV} {l:Nat} {a:AV} (x:AV) (h:lv env l=some a):lv (x::env) l=some a:=by
 unfold lv at *
 rw [List.reverse_cons,List.getElem?_append_left (by
  rcases Nat.lt_or_ge l env.reverse.length with q|q
  · exact q
  · rw [List.getElem?_eq_none q] at h; cases h)]
 exact h
theorem b28 (x:AV) (env:List AV):lv (x::env) env.length=some x:=by
 unfold lv
 rw [List.reverse_cons,List.getElem?_append_right (by simp)]
 simp
theorem a6f {env:List AV} {l d:Nat} {a:AV} (hd:env.length=d) (h:lv env l=some a):env[d - 1 - l]?=some a:=by
 unfold lv at h
 have hl:l < env.length:=by
  rcases Nat.lt_or_ge l env.reverse.length with q|q
  · simpa using q
  · rw [List.getElem?_eq_none q] at h; cases h
 rw [List.getElem?_reverse hl,hd] at h
 exact h
def SrcOK (env:List AV) (v:AV):Src→Prop
 | .w l=>∃ a,lv env l=some a∧v.weak=a
 | .s l=>∃ a,lv env l=some a∧v=a
 | .d l=>∃ a,lv env l=some a∧v.weak=a.weak
 | .k a=>v=a
 | .q a=>v.weak=a
theorem SrcOK.push {env:List AV} {v:AV} {x:Src} (y:AV) (h:SrcOK env v x):SrcOK (y::env) v x:=by
 cases x <;> simp only [SrcOK] at*<;> first|exact h|(obtain ⟨a,h1,h2⟩:=h; exact ⟨a,f7R y h1,h2⟩)
structure Ag (nv dep:Nat) (sc:Scope) (env:List AV) (fr:Fr) (σ:Sig):Prop where
 f:σ.fr=toL nv fr
 d:env.length=dep
 nb:∀ s,(σ.τ s).stripB=σ.τ s
 t:∀ s x,q9 s sc=some x→SrcOK env (σ.τ s) x

noncomputable def e1t (x:AV) (y z:RO):RO:=AV.rec (motive_1:=fun _=>RO) (motive_2:=fun _=>Unit) (motive_3:=fun _=>Unit)
 z (fun _=>z) (fun _ _=>z) (fun _=>z) (fun _ _ _=>z) (fun _ _=>z) z (fun _ _=>z) (fun _ _=>z) (fun _ _=>y) (fun _=>z) z (fun _ _ _ _ _=>z) z (fun _ _=>z) (fun _ _=>z) (fun _ _ _=>z) z (fun _ _ _ _=>z) (fun _ _=>z) z
 () (fun _ _ _ _=>()) () (fun _ _ _ _=>()) x
noncomputable def b3U (i:Nat) (x:AV) (k:AV→RO):RO:=e1t x (k (.loc i 0)) (k .undef)
theorem c0D (i:Nat) (x:AV) (k:AV→RO):b3U i x k=k (match x with|.box _=>.loc i 0|_=>.undef):=by cases x <;> rfl

section
variable {β:Type}
noncomputable def rdK (nv dep:Nat) (sc:Scope) (x:Opd) (e:β) (Q:Rd→β):β :=
 match x with
 | .t s=>match q9 s sc with
  | some (.w l)=>b0C (dep - 1 - l) fun r=>Q fun env _ k=>r env k
  | some (.s l)|some (.d l)=>b0C (dep - 1 - l) fun r=>Q fun env _ k=>r env fun x=>qWk x k
  | some (.k a)=>Q fun _ _ k=>k a.weak
  | some (.q a)=>Q fun _ _ k=>k a
  | none=>e
 | .ts s=>match q9 s sc with
  | some (.s l)=>b0C (dep - 1 - l) fun r=>Q fun env _ k=>r env k
  | some (.k a)=>Q fun _ _ k=>k a
  | _=>e
 | .v i=>match Nat.blt i nv with
  | true=>Y6 i e fun g=>Q fun _ fr k=>g fr fun x=>qWk x k
  | false=>e
 | .vs i=>match Nat.blt i nv with
  | true=>Y6 i e fun g=>Q fun _ fr k=>g fr k
  | false=>e
 | .l i=>match Nat.blt i nv with
  | true=>Y6 i e fun g=>Q fun _ fr k=>g fr fun x=>b3U i x k
  | false=>e
 | .c a=>Q fun _ _ k=>k a
def d3P (nv dep:Nat) (sc:Scope) (x:Opd) (r:Rd):Prop:=∀ env fr σ,Ag nv dep sc env fr σ→∀ k,r env fr k=k (x.read σ)
theorem G9 {i n:Nat} (h:Nat.blt i n=true):i < n:=by simpa using h
theorem a2f {G:β→Prop} {nv dep:Nat} {sc:Scope} {x:Opd} {e:β} {Q:Rd→β} (hn:nv≤64) (he:G e) (h:∀ r,d3P nv dep sc x r→G (Q r)):G (rdK nv dep sc x e Q):=by
 unfold rdK
 cases x with
 | t s =>
  dsimp only
  cases hs:q9 s sc with
  | none=>exact he
  | some y =>
   cases y with
   | w l =>
    refine M5 _ fun r hr=>h _ fun env fr σ ha k=>?_
    obtain ⟨a,h1,h2⟩:=ha.t _ _ hs
    show r env k=_
    rw [hr,a6f ha.d h1,← h2]; rfl
   | s l =>
    refine M5 _ fun r hr=>h _ fun env fr σ ha k=>?_
    obtain ⟨a,h1,h2⟩:=ha.t _ _ hs
    show r env _=_
    rw [hr,a6f ha.d h1]
    show qWk a k=_
    rw [Q2,← h2]; rfl
   | d l =>
    refine M5 _ fun r hr=>h _ fun env fr σ ha k=>?_
    obtain ⟨a,h1,h2⟩:=ha.t _ _ hs
    show r env _=_
    rw [hr,a6f ha.d h1]
    show qWk a k=_
    rw [Q2,← h2]; rfl
   | k a =>
    refine h _ fun env fr σ ha k=>?_
    have:=ha.t _ _ hs
    show k a.weak=k (σ.τ s).weak
    rw [show σ.τ s=a from this]
   | q a =>
    refine h _ fun env fr σ ha k=>?_
    have:=ha.t _ _ hs
    show k a=k (σ.τ s).weak
    rw [show (σ.τ s).weak=a from this]
 | ts s =>
  dsimp only
  cases hs:q9 s sc with
  | none=>exact he
  | some y =>
   cases y with
   | s l =>
    refine M5 _ fun r hr=>h _ fun env fr σ ha k=>?_
    obtain ⟨a,h1,h2⟩:=ha.t _ _ hs
    show r env k=_
    rw [hr,a6f ha.d h1,← h2]; rfl
   | k a =>
    refine h _ fun env fr σ ha k=>?_
    have:=ha.t _ _ hs
    show k a=k (σ.τ s)
    rw [show σ.τ s=a from this]
   | _=>exact he
 | v i =>
  dsimp only
  cases hb:Nat.blt i nv with
  | false=>exact he
  | true =>
   have hi:=G9 hb
   refine C2 (by omega) he fun g hg=>h _ fun env fr σ ha k=>?_
   show g fr (fun x=>qWk x k)=k (σ.fr.getD i .undef).weak
   rw [hg,Q2,ha.f,D6 hi]
 | vs i =>
  dsimp only
  cases hb:Nat.blt i nv with
  | false=>exact he
  | true =>
   have hi:=G9 hb
   refine C2 (by omega) he fun g hg=>h _ fun env fr σ ha k=>?_
   show g fr k=k (σ.fr.getD i .undef)
   rw [hg,ha.f,D6 hi]
 | l i =>
  dsimp only
  cases hb:Nat.blt i nv with
  | false=>exact he
  | true =>
   have hi:=G9 hb
   refine C2 (by omega) he fun g hg=>h _ fun env fr σ ha k=>?_
   show g fr (fun x=>b3U i x k)=_
   rw [hg,c0D]
   show _=k (match σ.fr.getD i .undef with|.box _=>.loc i 0|_=>.undef)
   rw [ha.f,D6 hi]
 | c a=>exact h _ fun _ _ _ _ _=>rfl

def rdL (nv dep:Nat) (sc:Scope) (rd:Opd→β→(Rd→β)→β):List Opd→β→(List Rd→β)→β
 | [],_,Q=>Q []
 | x::xs,e,Q=>rd x e fun r=>rdL nv dep sc rd xs e fun rs=>Q (r::rs)
def a6a (nv dep:Nat) (sc:Scope):List Opd→List Rd→Prop
 | [],[]=>True
 | x::xs,r::rs=>d3P nv dep sc x r∧a6a nv dep sc xs rs
 | _,_=>False
theorem a8t {G:β→Prop} {nv dep:Nat} {sc:Scope} (hn:nv≤64):∀ {xs:List Opd} {e:β} {Q:List Rd→β},G e→(∀ rs,a6a nv dep sc xs rs→G (Q rs))→G (rdL nv dep sc (fun x e Q=>rdK nv dep sc x e Q) xs e Q)
 | [],e,Q,he,h=>h [] trivial
 | x::xs,e,Q,he,h=>by
  unfold rdL
  exact a2f hn he fun r hr=>a8t hn he fun rs hrs=>h _ ⟨hr,hrs⟩
end
def S8:List Rd→List AV→Fr→(List AV→RO)→RO
 | [],_,_,k=>k []
 | r::rs,env,fr,k=>r env fr fun x=>S8 rs env fr fun xs=>k (x::xs)
theorem Q1 {nv dep:Nat} {sc:Scope} {env:List AV} {fr:Fr} {σ:Sig} (ha:Ag nv dep sc env fr σ):∀ {xs:List Opd} {rs:List Rd} {k:List AV→RO},a6a nv dep sc xs rs→S8 rs env fr k=k (xs.map (·.read σ))
 | [],[],k,_=>rfl
 | x::xs,r::rs,k,h=>by
  show r env fr _=_
  rw [h.1 env fr σ ha,Q1 ha h.2]
  rfl
 | [],_::_,_,h=>h.elim
 | _::_,[],_,h=>h.elim
section
variable {β:Type}
abbrev RdA:=List AV→Fr→(List AV→RO)→RO
noncomputable def b0y (rs:List Rd) (Q:RdA→β):β:=List.rec (motive:=fun _=>(RdA→β)→β) (fun Q=>Q fun _ _ k=>k []) (fun r _ ih Q=>ih fun ra=>Q fun env fr k=>r env fr fun x=>ra env fr fun xs=>k (x::xs)) rs Q
theorem R7 {G:β→Prop}:∀ {rs:List Rd} {Q:RdA→β},(∀ ra:RdA,(∀ env fr k,ra env fr k=S8 rs env fr k)→G (Q ra))→G (b0y rs Q)
 | [],Q,h=>h _ fun _ _ _=>rfl
 | r::rs,Q,h=>R7 (rs:=rs) fun ra hra=>h _ fun env fr k=>by
  show r env fr _=r env fr _
  congr
  funext x
  exact hra _ _ _

/-! kinds -/
abbrev KF:=b7→List AV→Fr→AV→St→(AV→AV→St→RO)→RO
def b44 (kd:Kind) (rs:List Rd) (kf:KF):Prop:=∀ c env fr b s K,kf c env fr b s K=S8 rs env fr fun as=>obind (sem kd c as b s) fun p=>K p.1 p.2.1 p.2.2
theorem k6 {kd:Kind} (h1:kd.setSt=false) (h2:kd.alters=false) (c:b7) (as:List AV) (b:AV) (s:St) (K:AV→AV→St→RO):obind (p1 (sem kd c as b s)) (fun r=>K r b s)=obind (sem kd c as b s) fun p=>K p.1 p.2.1 p.2.2:=by
 cases hs:sem kd c as b s with
 | none=>rfl
 | some p =>
  obtain ⟨r,b',s'⟩:=p
  have e1:=a0g h1 hs
  have e2:=U1 h2 hs
  subst e1 e2
  rfl
theorem Z2 {kd:Kind} (h2:kd.alters=false) (c:b7) (as:List AV) (b:AV) (s:St) (K:AV→AV→St→RO):obind (p2 (sem kd c as b s)) (fun r=>K r.1 b r.2)=obind (sem kd c as b s) fun p=>K p.1 p.2.1 p.2.2:=by
 cases hs:sem kd c as b s with
 | none=>rfl
 | some p =>
  obtain ⟨r,b',s'⟩:=p
  have e2:=U1 h2 hs
  subst e2
  rfl
noncomputable def a7A (c:b7) (s:St) (K:AV→St→RO) (i:Nat) (xs:List AV):RO:=a2j xs fun ws=>b31 (c i ws s) fun v s=>K v s
noncomputable def b0U (c:b7) (b:AV) (s:St) (f:AV→RO) (g:Bool) (d:Nat) (x:AV):RO:=a6e x (obind (p1 (sem (.ldAn g d) c [x] b s)) f) (fun o i=>a2J s f g d (.ptr o i)) (fun cs=>a2H f g d (.ro cs)) (fun _ _=>obind (p1 (sem (.ldAn g d) c [x] b s)) f)
theorem b3R (c:b7) (b:AV) (s:St) (f:AV→RO) (g:Bool) (d:Nat) (x:AV):b0U c b s f g d x=obind (p1 (sem (.ldAn g d) c [x] b s)) f:=by
 unfold b0U
 rw [a1X]
 cases x <;> try rfl
 · rename_i o i
   show a2J s f g d (.ptr o i)=_
   rw [a8H c b s]; rfl
 · rename_i cs
   show a2H f g d (.ro cs)=_
   rw [a8p c b s]; rfl
noncomputable def b3S {β:Type} (l:List β) (x:β) (k:List β→RO):RO:=Nat.rec (motive:=fun _=>List β→(List β→RO)→RO) (fun l k=>T5 l [x] k) (fun _ ih l k=>K0 l (k (l++[x])) ih k) (Nat.div (u7 l) 8) l k
theorem a9U {β:Type} (x:β):∀ (q:Nat) (l:List β) (k:List β→RO),Nat.rec (motive:=fun _=>List β→(List β→RO)→RO) (fun l k=>T5 l [x] k) (fun _ ih l k=>K0 l (k (l++[x])) ih k) q l k=k (l++[x])
 | 0,l,k=>U4 [x] l k
 | q+1,l,k=>by
  show K0 l (k (l++[x])) (fun l k=>Nat.rec (motive:=fun _=>List β→(List β→RO)→RO) (fun l k=>T5 l [x] k) (fun _ ih l k=>K0 l (k (l++[x])) ih k) q l k) k=_
  rw [a4e]
  split
  · rw [a9U x q (l.drop 8),← List.append_assoc,List.take_append_drop]
  · rfl
theorem b0d {β:Type} (l:List β) (x:β) (k:List β→RO):b3S l x k=k (l++[x]):=a9U x _ l k
noncomputable def b1m (s:St) (f:AV×St→RO) (x:AV):RO:=plB x (fL x.cellsW fun cs=>Z0 (u7 s) fun n=>b3S s (.cells cs) fun s'=>f (.ptr n 0,s'))
theorem b47 (c:b7) (b:AV) (s:St) (f:AV×St→RO) (x:AV):b1m s f x=obind (p2 (sem .boxO c [x] b s)) f:=by
 simp only [b1m,a2T,fL_eq,K6,r6,b0d,sem,F6]
 by_cases h:x.plain=true <;> simp [h,obind,p2]
noncomputable def a0Y (s:St) (f:AV×St→RO) (z:List AV):RO:=Z0 (u7 s) fun n=>b3S s (.cells z) fun s'=>f (.ptr n 0,s')
theorem b1p (c:b7) (b:AV) (s:St) (f:AV×St→RO) (z:List AV):a0Y s f z=obind (p2 (sem (.allocO z) c [] b s)) f:=by
 simp only [a0Y,K6,r6,b0d,sem,w9]
 rfl
noncomputable def a7m (c:b7) (s:St) (K:AV→St→RO) (as:List AV):RO:=match as with
 | .func f a cs::xs=>a2j xs fun _=>b31 (c f ((a++xs++cs).map AV.weak) s) fun v s=>K v s
 | _=>none
noncomputable def b4R (kd:Kind) (ra:RdA) (Q:KF→β):β:=match kd.alters with
 | true=>Q fun c env fr b s K=>ra env fr fun as=>obind (sem kd c as b s) fun p=>Q7 p.1 fun r=>Q7 p.2.1 fun b=>fL p.2.2 fun s=>K r b s
 | false=>match kd.setSt with
  | true=>Q fun c env fr b s K=>ra env fr fun as=>obind (p2 (sem kd c as b s)) fun p=>Q7 p.1 fun r=>fL p.2 fun s=>K r b s
  | false=>Q fun c env fr b s K=>ra env fr fun as=>obind (p1 (sem kd c as b s)) fun x=>Q7 x fun r=>K r b s
noncomputable def b0X (kd:Kind) (rs:List Rd) (Q:KF→β):β :=
 match kd,rs with
 | .mv,[x]=>Q fun c env fr b s K=>x env fr fun x=>K x b s
 | .bin .eql,[x,y]=>Q fun c env fr b s K=>x env fr fun x=>y env fr fun y=>b4p (fun r=>K r b s) x y
 | .bin .neq,[x,y]=>Q fun c env fr b s K=>x env fr fun x=>y env fr fun y=>b4N (fun r=>K r b s) x y
 | .bin .lss,[x,y]=>Q fun c env fr b s K=>x env fr fun x=>y env fr fun y=>T7 c b s (fun r=>K r b s) .lss Nat.blt x y
 | .bin .leq,[x,y]=>Q fun c env fr b s K=>x env fr fun x=>y env fr fun y=>T7 c b s (fun r=>K r b s) .leq Nat.ble x y
 | .bin .gtr,[x,y]=>Q fun c env fr b s K=>x env fr fun x=>y env fr fun y=>T7 c b s (fun r=>K r b s) .gtr (fun i j=>Nat.blt j i) x y
 | .bin .geq,[x,y]=>Q fun c env fr b s K=>x env fr fun x=>y env fr fun y=>T7 c b s (fun r=>K r b s) .geq (fun i j=>Nat.ble j i) x y
 | .bin .add,[x,y]=>Q fun c env fr b s K=>x env fr fun x=>y env fr fun y=>b5q c b s (fun r=>K r b s) x y
 | .bin .sub,[x,y]=>Q fun c env fr b s K=>x env fr fun x=>y env fr fun y=>b43 c b s (fun r=>K r b s) x y
 | .un .not,[x]=>Q fun c env fr b s K=>x env fr fun x=>b4r (fun r=>K r b s) x
 | .nilchk,[x]=>Q fun c env fr b s K=>x env fr fun x=>b37 c b s (fun r=>K r b s) x
 | .lenS,[x]=>Q fun c env fr b s K=>x env fr fun x=>b0O (fun r=>K r b s) x
 | .lenL,[x]=>Q fun c env fr b s K=>x env fr fun x=>b0N c b s (fun r=>K r b s) x
 | .idxS,[x,y]=>Q fun c env fr b s K=>x env fr fun x=>y env fr fun y=>b5g (fun r=>K r b s) x y
 | .pick,[x,y,z]=>Q fun c env fr b s K=>x env fr fun x=>y env fr fun y=>z env fr fun z=>b1k (fun r=>K r b s) x y z
 | .fad d,[x]=>Q fun c env fr b s K=>x env fr fun x=>b36 (fun r=>K r b s) d x
 | .iad d,[x,y]=>Q fun c env fr b s K=>x env fr fun x=>y env fr fun y=>b5m c b s (fun r=>K r b s) d x y
 | .ldSt g d,[x]=>Q fun c env fr b s K=>x env fr fun x=>a2J s (fun r=>K r b s) g d x
 | .ldRo g d,[x]=>Q fun c env fr b s K=>x env fr fun x=>a2H (fun r=>K r b s) g d x
 | .ldAn g d,[x]=>Q fun c env fr b s K=>x env fr fun x=>b0U c b s (fun r=>K r b s) g d x
 | .ldLc i g d,[x]=>Q fun c env fr b s K=>x env fr fun x=>b0L b (fun r=>K r b s) i g d x
 | .ext d,[x]=>Q fun c env fr b s K=>x env fr fun x=>b4v (fun r=>K r b s) d x
 | .slS true true,[x,y,z]=>Q fun c env fr b s K=>x env fr fun x=>y env fr fun y=>z env fr fun z=>b4F c b s (fun r=>K r b s) x y z
 | .app d e,[x,y]=>Q fun c env fr b s K=>x env fr fun x=>y env fr fun y=>b5n b s (fun p=>K p.1 p.2.1 p.2.2) d e x y
 | .alloc d,[]=>Q fun c env fr b s K=>a7w b s (fun p=>K p.1 p.2.1 p.2.2) d
 | .stLc i d,[x,y]=>Q fun c env fr b s K=>x env fr fun x=>y env fr fun y=>b1o b s (fun p=>K p.1 p.2.1 p.2.2) i d x y
 | .stSt d,[x,y]=>Q fun c env fr b s K=>x env fr fun x=>y env fr fun y=>b07 s (fun p=>K p.1 b p.2) d x y
 | .boxO,[x]=>Q fun c env fr b s K=>x env fr fun x=>b1m s (fun p=>K p.1 b p.2) x
 | .allocO z,[]=>Q fun c env fr b s K=>a0Y s (fun p=>K p.1 b p.2) z
 | .callV,rs=>b0y rs fun ra=>Q fun c env fr b s K=>ra env fr fun as=>a7m c s (fun v s=>K v b s) as
 | .call f,rs=>b0y rs fun ra=>Q fun c env fr b s K=>ra env fr fun as=>a7A c s (fun v s=>K v b s) f as
 | kd,rs=>b0y rs fun ra=>b4R kd ra Q
theorem b25 {G:β→Prop} {kd:Kind} {rs:List Rd} {ra:RdA} {Q:KF→β} (hra:∀ env fr k,ra env fr k=S8 rs env fr k) (h:∀ kf,b44 kd rs kf→G (Q kf)):G (b4R kd ra Q):=by
 unfold b4R
 cases h2:kd.alters with
 | true=>exact h _ fun c env fr b s K=>by rw [hra]; simp only [fNew_eq,fL_eq]
 | false =>
  cases h1:kd.setSt with
  | true =>
   refine h _ fun c env fr b s K=>?_
   rw [hra]; simp only [fNew_eq,fL_eq]
   congr; funext as
   exact Z2 h2 c as b s K
  | false =>
   refine h _ fun c env fr b s K=>?_
   rw [hra]; simp only [fNew_eq]
   congr; funext as
   exact k6 h1 h2 c as b s K
theorem E7 (x:Rd) (env:List AV) (fr:Fr) (k:List AV→RO):S8 [x] env fr k=x env fr fun x=>k [x]:=rfl
theorem C1 (x y:Rd) (env:List AV) (fr:Fr) (k:List AV→RO):S8 [x,y] env fr k=x env fr fun x=>y env fr fun y=>k [x,y]:=rfl
theorem b3F (x y z:Rd) (env:List AV) (fr:Fr) (k:List AV→RO):S8 [x,y,z] env fr k=x env fr fun x=>y env fr fun y=>z env fr fun z=>k [x,y,z]:=rfl
theorem b0G {G:β→Prop} {kd:Kind} {rs:List Rd} {Q:KF→β} (h:∀ kf,b44 kd rs kf→G (Q kf)):G (b0X kd rs Q):=by
 unfold b0X
 split
 · exact h _ fun c env fr b s K=>rfl
 · exact h _ fun c env fr b s K=>by rw [C1]; congr; funext x; congr; funext y; rw [c2f c b s]; exact k6 rfl rfl ..
 · exact h _ fun c env fr b s K=>by rw [C1]; congr; funext x; congr; funext y; rw [b9t c b s]; exact k6 rfl rfl ..
 · exact h _ fun c env fr b s K=>by rw [C1]; congr; funext x; congr; funext y; rw [d1V c b s]; exact k6 rfl rfl ..
 · exact h _ fun c env fr b s K=>by rw [C1]; congr; funext x; congr; funext y; rw [d1W c b s]; exact k6 rfl rfl ..
 · exact h _ fun c env fr b s K=>by rw [C1]; congr; funext x; congr; funext y; rw [d2G c b s]; exact k6 rfl rfl ..
 · exact h _ fun c env fr b s K=>by rw [C1]; congr; funext x; congr; funext y; rw [d55 c b s]; exact k6 rfl rfl ..
 · exact h _ fun c env fr b s K=>by rw [C1]; congr; funext x; congr; funext y; rw [b9H c b s]; exact k6 rfl rfl ..
 · exact h _ fun c env fr b s K=>by rw [C1]; congr; funext x; congr; funext y; rw [b9B c b s]; exact k6 rfl rfl ..
 · exact h _ fun c env fr b s K=>by rw [E7]; congr; funext x; rw [c0j c b s]; exact k6 rfl rfl ..
 · exact h _ fun c env fr b s K=>by rw [E7]; congr; funext x; rw [c0r c b s]; exact k6 rfl rfl ..
 · exact h _ fun c env fr b s K=>by rw [E7]; congr; funext x; rw [b33 c b s]; exact k6 rfl rfl ..
 · exact h _ fun c env fr b s K=>by rw [E7]; congr; funext x; rw [b38 c b s]; exact k6 rfl rfl ..
 · exact h _ fun c env fr b s K=>by rw [C1]; congr; funext x; congr; funext y; rw [b9X c b s]; exact k6 rfl rfl ..
 · exact h _ fun c env fr b s K=>by rw [b3F]; congr; funext x; congr; funext y; congr; funext z; rw [b46 c b s]; exact k6 rfl rfl ..
 · exact h _ fun c env fr b s K=>by rw [E7]; congr; funext x; rw [c1F c b s]; exact k6 rfl rfl ..
 · exact h _ fun c env fr b s K=>by rw [C1]; congr; funext x; congr; funext y; rw [c2a c b s]; exact k6 rfl rfl ..
 · exact h _ fun c env fr b s K=>by rw [E7]; congr; funext x; rw [a8H c b s]; exact k6 rfl rfl ..
 · exact h _ fun c env fr b s K=>by rw [E7]; congr; funext x; rw [a8p c b s]; exact k6 rfl rfl ..
 · exact h _ fun c env fr b s K=>by rw [E7]; congr; funext x; rw [b3R c b s]; exact k6 rfl rfl ..
 · exact h _ fun c env fr b s K=>by rw [E7]; congr; funext x; rw [b3O c b s]; exact k6 rfl rfl ..
 · exact h _ fun c env fr b s K=>by rw [E7]; congr; funext x; rw [b7t c b s]; exact k6 rfl rfl ..
 · exact h _ fun c env fr b s K=>by rw [b3F]; congr; funext x; congr; funext y; congr; funext z; rw [c08 c b s]; exact k6 rfl rfl ..
 · exact h _ fun c env fr b s K=>by rw [C1]; congr; funext x; congr; funext y; exact c1I c b s ..
 · exact h _ fun c env fr b s K=>b1w c b s ..
 · exact h _ fun c env fr b s K=>by rw [C1]; congr; funext x; congr; funext y; exact b34 c b s ..
 · exact h _ fun c env fr b s K=>by rw [C1]; congr; funext x; congr; funext y; rw [b5b c b s]; exact Z2 rfl ..
 · exact h _ fun c env fr b s K=>by rw [E7]; congr; funext x; rw [b47 c b s]; exact Z2 rfl ..
 · exact h _ fun c env fr b s K=>by show a0Y s (fun p=>K p.1 b p.2) _=_; rw [b1p c b s]; exact Z2 rfl ..
 · refine R7 fun ra hra=>h _ fun c env fr b s K=>?_
   rw [hra]
   congr; funext as
   show a7m c s (fun v s=>K v b s) as=_
   unfold a7m
   simp only [sem,s5]
   split
   · rename_i f a cs xs
     rw [a0u]
     dsimp only
     split
     · rw [a9r]
       cases c f ((a++xs++cs).map AV.weak) s <;> rfl
     · rfl
   · rename_i hno
     split
     · rename_i f a cs xs
       exact absurd rfl (hno f a cs xs)
     · rfl
 · refine R7 fun ra hra=>h _ fun c env fr b s K=>?_
   rw [hra]
   congr; funext as
   show a7A c s (fun v s=>K v b s) _ as=_
   unfold a7A
   rw [a0u]
   simp only [sem,k5]
   split
   · rw [a9r]
     cases c _ (as.map AV.weak) s <;> rfl
   · rfl
 · exact R7 fun ra hra=>b25 hra h
end
end Go.Cb.G
/-
 THE ABSTRACT MACHINE, part 45: regions, made ready once.
-/
set_option maxRecDepth 4000
set_option linter.unusedVariables false
namespace Go.Cb.G
open Go Go.Cb
inductive Clo where
 | mk (f:b7→List AV→Fr→St→RO)
noncomputable def Clo.run (x:Clo):b7→List AV→Fr→St→RO:=Clo.rec (motive:=fun _=>b7→List AV→Fr→St→RO) (fun f=>f) x
noncomputable def M2:Clo:=.mk fun _ _ _ _=>none
abbrev OpF:=b7→List AV→Fr→St→(List AV→Fr→St→RO)→RO
abbrev CF:=b7→List AV→Fr→St→(AV→Fr→St→RO)→RO
section
variable {β:Type}
noncomputable def a0A:List Opd→Scope→Scope
 | [],sc=>sc
 | .ts s::xs,sc=>a0A xs (match q9 s sc with
  | some (.s l)=>(s,.d l)::sc
  | some (.k a)=>(s,.q a.weak)::sc
  | _=>sc)
 | _::xs,sc=>a0A xs sc
noncomputable def U8 (nv:Nat):List Opd→β→((Fr→(Fr→RO)→RO)→β)→β
 | [],_,Q=>Q fun fr k=>k fr
 | .vs i::xs,e,Q=>match Nat.blt i nv with
  | true=>Y6 i e fun g=>a4a i e fun p=>U8 nv xs e fun r=>Q fun fr k=>g fr fun x=>qWk x fun x=>p x fr fun fr=>r fr k
  | false=>e
 | _::xs,e,Q=>U8 nv xs e Q
def b1d:List Opd→Bool
 | []=>false
 | .vs _::_=>true
 | _::xs=>b1d xs
noncomputable def b0w (nv:Nat) (kd:Kind) (args:List Opd) (box:Option Nat) (kf:KF) (e:β) (Q:CF→β):β :=
 match b1d args,box with
 | false,none=>Q fun c env fr st K=>kf c env fr .undef st fun r _ s=>K r fr s
 | true,none=>U8 nv args e fun sp=>Q fun c env fr st K=>kf c env fr .undef st fun r _ s=>sp fr fun fr=>K r fr s
 | vs,some i=>match Nat.blt i nv with
  | false=>e
  | true=>Y6 i e fun g=>match kd.alters || vs with
   | false=>Q fun c env fr st K=>g fr fun b=>kf c env fr b st fun r _ s=>K r fr s
   | true=>U8 nv args e fun sp=>a4a i e fun p=>Q fun c env fr st K=>g fr fun b=>kf c env fr b st fun r b s=>sp fr fun fr=>p b fr fun fr=>K r fr s
abbrev PF:=AV→List AV→Fr→St→(List AV→Fr→St→RO)→RO
def b4t (x:Nat):List Nat→Bool
 | []=>false
 | y::ys=>Nat.beq x y || b4t x ys
noncomputable def b4z (nv dep:Nat) (tss:List Nat) (d:Dst) (sc:Scope) (e:β) (Q:PF→Nat→Scope→β):β :=
 match d with
 | .t s=>match b4t s tss with
  | true=>Q (fun r env fr s k=>qSb r fun v _=>k (v::env) fr s) (dep+1) ((s,.s dep)::sc)
  | false=>Q (fun r env fr s k=>qSb r fun _ w=>k (w::env) fr s) (dep+1) ((s,.w dep)::sc)
 | .v i=>match Nat.blt i nv with
  | true=>a4a i e fun p=>Q (fun r env fr s k=>qSv r fun v _=>p v fr fun fr=>k env fr s) dep sc
  | false=>e
 | _=>Q (fun r env fr s k=>k env fr s) dep sc
noncomputable def qGd (q:AV) (w:Bool) (x y:RO):RO:=d25 q none (fun v=>bW v w x y) (fun vs=>List.rec (motive:=fun _=>RO) y (fun _ _ _=>none) vs)
theorem d28 (q:AV) (w:Bool) (x y:RO):qGd q w x y=match q with|.bool b=>if b == w then x else y|.tuple []=>y|_=>none:=by
 simp only [qGd,b9V,e8k]
 cases q <;> try rfl
 rename_i vs; cases vs <;> rfl
def a3W (o:AOper):Option (Nat×Opd):=match o with
 | ⟨.t s,.mv,[.t s'],none,none⟩=>some (s,.t s')
 | ⟨.t s,.mv,[.c a],none,none⟩=>some (s,.c a)
 | _=>none
noncomputable def opK (nv dep:Nat) (sc:Scope) (tss:List Nat) (o:AOper) (e:β) (Q0:Scope→β) (Q:OpF→Nat→Scope→β):β :=
 match a3W o with
 | some (s,.t s')=>match q9 s' sc with
  | some (.w l)=>Q0 ((s,.w l)::sc)
  | some (.s l)|some (.d l)=>Q0 ((s,.d l)::sc)
  | some (.k a)=>Q0 ((s,.q a.weak)::sc)
  | some (.q a)=>Q0 ((s,.q a)::sc)
  | none=>e
 | some (s,.c a)=>Q0 ((s,.k a.stripB)::sc)
 | _=>rdL nv dep sc (fun x e Q=>rdK nv dep sc x e Q) o.args e fun rs=>b0X o.kind rs fun kf=>b0w nv o.kind o.args o.box kf e fun cf =>
  b4z nv dep tss o.dst (a0A o.args sc) e fun pf dep' sc'=>match o.guard with
   | none=>Q (fun c env fr st k=>cf c env fr st fun r fr s=>pf r env fr s k) dep' sc'
   | some (x,w)=>rdK nv dep sc x e fun g=>Q (fun c env fr st k=>g env fr fun q=>qGd q w (cf c env fr st fun r fr s=>pf r env fr s k) (pf (.tuple []) env fr st k)) dep' sc'

/-! what is true of them -/
theorem a9k {v:AV} (h:v.stripB=v):v.weak.stripB=v.weak:=by cases v <;> first|rfl|cases h
theorem a1a (v:AV):v.stripB.stripB=v.stripB:=by cases v <;> rfl
theorem O7 (τ:Nat→AV) (s:Nat) (a:AV) (j:Nat):l6 τ s a j=if j=s then a else τ j:=by
 unfold l6
 by_cases h:j=s
 · subst h; simp
 · rw [if_neg h]; simp [h]
theorem t9 {nv:Nat} (hn:nv≤64):∀ (xs:List Opd) {G:β→Prop} {e:β} {Q:(Fr→(Fr→RO)→RO)→β},G e →
 (∀ sp:Fr→(Fr→RO)→RO,(∀ fr σ,σ.fr=toL nv fr→∃ fr',(∀ k,sp fr k=k fr')∧(b8 xs σ).fr=toL nv fr')→G (Q sp))→G (U8 nv xs e Q)
 | [],G,e,Q,he,h=>h _ fun fr σ hf=>⟨fr,fun _=>rfl,hf⟩
 | x::xs,G,e,Q,he,h=>by
  cases x with
  | vs i =>
   unfold U8
   cases hb:Nat.blt i nv with
   | false=>exact he
   | true =>
    have hi:=G9 hb
    refine C2 (by omega) he fun g hg=>R3 (by omega) he fun p hp=>t9 hn xs he fun sp hsp=>h _ fun fr σ hf=>?_
    obtain ⟨fr',h1,h2⟩:=hsp (S6 i (I9 i fr).weak fr) (Opd.spend (.vs i) σ) (by
     show σ.fr.set i (σ.fr.getD i .undef).weak=_
     rw [hf,D6 hi,W4 hi hn])
    refine ⟨fr',fun k=>?_,h2⟩
    show g fr (fun x=>qWk x fun x=>p x fr fun fr=>sp fr k)=_
    rw [hg,Q2,hp,h1]
  | ts s=>exact t9 hn xs he fun sp hsp=>h sp fun fr σ hf=>hsp fr (Opd.spend (.ts s) σ) hf
  | t s=>exact t9 hn xs he fun sp hsp=>h sp fun fr σ hf=>hsp fr σ hf
  | v s=>exact t9 hn xs he fun sp hsp=>h sp fun fr σ hf=>hsp fr σ hf
  | l s=>exact t9 hn xs he fun sp hsp=>h sp fun fr σ hf=>hsp fr σ hf
  | c s=>exact t9 hn xs he fun sp hsp=>h sp fun fr σ hf=>hsp fr σ hf
def a0C (sc:Scope) (env:List AV) (τ:Nat→AV):Prop:=∀ s x,q9 s sc=some x→SrcOK env (τ s) x
theorem s9 {env:List AV}:∀ {xs:List Opd} {sc:Scope} {σ:Sig},a0C sc env σ.τ→(∀ s,(σ.τ s).stripB=σ.τ s) →
 a0C (a0A xs sc) env σ.τ∧a0C (a0A xs sc) env (b8 xs σ).τ∧(∀ s,((b8 xs σ).τ s).stripB=(b8 xs σ).τ s)∧(b8 xs σ).st=σ.st
 | [],sc,σ,h,hb=>⟨h,h,hb,rfl⟩
 | x::xs,sc,σ,h,hb=>by
  cases x with
  | ts s =>
   have hw:∀ (v:AV),v=σ.τ s∨v=(σ.τ s).weak→∀ y,q9 s (match q9 s sc with|some (.s l)=>(s,.d l)::sc|some (.k a)=>(s,.q a.weak)::sc|_=>sc)=some y→SrcOK env v y:=by
    intro v hv y hy
    have hw':v.weak=(σ.τ s).weak:=by rcases hv with rfl|rfl; rfl; exact t5 _
    cases hs:q9 s sc with
    | none=>rw [hs] at hy; dsimp only at hy; rw [hs] at hy; cases hy
    | some z =>
     have hz:=h _ _ hs
     rw [hs] at hy
     cases z with
     | s l =>
      dsimp only at hy
      rw [W7,if_pos rfl] at hy
      cases hy
      obtain ⟨a,h1,h2⟩:=hz
      exact ⟨a,h1,by rw [hw',h2]⟩
     | k a =>
      dsimp only at hy
      rw [W7,if_pos rfl] at hy
      cases hy
      show v.weak=a.weak
      rw [hw',show σ.τ s=a from hz]
     | w l =>
      dsimp only at hy
      rw [hs] at hy
      cases hy
      obtain ⟨a,h1,h2⟩:=hz
      exact ⟨a,h1,by rw [hw',h2]⟩
     | d l =>
      dsimp only at hy
      rw [hs] at hy
      cases hy
      obtain ⟨a,h1,h2⟩:=hz
      exact ⟨a,h1,by rw [hw',h2]⟩
     | q a =>
      dsimp only at hy
      rw [hs] at hy
      cases hy
      show v.weak=a
      rw [hw']
      exact hz
   have ho:∀ t,t≠s→∀ y,q9 t (match q9 s sc with|some (.s l)=>(s,.d l)::sc|some (.k a)=>(s,.q a.weak)::sc|_=>sc)=some y→q9 t sc=some y:=by
    intro t ht y hy
    cases hs:q9 s sc with
    | none=>rw [hs] at hy; exact hy
    | some z =>
     rw [hs] at hy
     cases z <;> dsimp only at hy <;> first|exact hy|(rw [W7,if_neg (fun q=>ht q.symm)] at hy; exact hy)
   have h1:a0C (match q9 s sc with|some (.s l)=>(s,.d l)::sc|some (.k a)=>(s,.q a.weak)::sc|_=>sc) env σ.τ:=fun t y hy=>by
    by_cases e:t=s
    · subst e; exact hw _ (.inl rfl) y hy
    · exact h _ _ (ho t e y hy)
   have h2:a0C (match q9 s sc with|some (.s l)=>(s,.d l)::sc|some (.k a)=>(s,.q a.weak)::sc|_=>sc) env (Opd.spend (.ts s) σ).τ:=fun t y hy=>by
    show SrcOK env (l6 σ.τ s (σ.τ s).weak t) y
    rw [O7]
    by_cases e:t=s
    · subst e; rw [if_pos rfl]; exact hw _ (.inr rfl) y hy
    · rw [if_neg e]; exact h _ _ (ho t e y hy)
   have hb2:∀ t,((Opd.spend (.ts s) σ).τ t).stripB=(Opd.spend (.ts s) σ).τ t:=fun t=>by
    show (l6 σ.τ s (σ.τ s).weak t).stripB=l6 σ.τ s (σ.τ s).weak t
    rw [O7]
    split
    · exact a9k (hb s)
    · exact hb t
   have a:=s9 (xs:=xs) h1 hb
   have b:=s9 (xs:=xs) h2 hb2
   exact ⟨a.1,b.2.1,b.2.2.1,b.2.2.2⟩
  | vs i =>
   have a:=s9 (xs:=xs) h hb
   have b:=s9 (xs:=xs) (σ:=Opd.spend (.vs i) σ) h hb
   exact ⟨a.1,b.2.1,b.2.2.1,b.2.2.2⟩
  | t s=>exact s9 (xs:=xs) h hb
  | v s=>exact s9 (xs:=xs) h hb
  | l s=>exact s9 (xs:=xs) h hb
  | c s=>exact s9 (xs:=xs) h hb
theorem a6q {xs:List Opd} (h:b1d xs=false):∀ σ:Sig,(b8 xs σ).fr=σ.fr:=by
 induction xs with
 | nil=>intro σ; rfl
 | cons x xs ih=>intro σ; cases x <;> first|exact ih h _|cases h

def f5l (nv dep:Nat) (sc:Scope) (o:AOper) (cf:CF):Prop:=∀ c env fr st σ,Ag nv dep sc env fr σ→σ.st=st→∀ (K:AV→Fr→St→RO) out,cf c env fr st K=some out →
 ∃ r b st' fr',sem o.kind c (o.args.map (·.read σ)) (match o.box with|some i=>σ.fr.getD i .undef|none=>.undef) st=some (r,b,st')∧K r fr' st'=some out ∧
  (match o.box with|some i=>(b8 o.args σ).fr.set i b|none=>(b8 o.args σ).fr)=toL nv fr'
theorem a0K {α γ:Type} {x:Option α} {f:α→Option γ} {r:γ} (h:obind x f=some r):∃ a,x=some a∧f a=some r:=by
 cases x with
 | none=>cases h
 | some a=>exact ⟨a,rfl,h⟩
theorem b1g {G:β→Prop} {nv dep:Nat} {sc:Scope} {o:AOper} {rs:List Rd} {kf:KF} {e:β} {Q:CF→β} (hn:nv≤64) (hrs:a6a nv dep sc o.args rs) (hkf:b44 o.kind rs kf) (he:G e) (h:∀ cf,f5l nv dep sc o cf→G (Q cf)) :
 G (b0w nv o.kind o.args o.box kf e Q):=by
 unfold b0w
 split
 · rename_i hv hb
   refine h _ fun c env fr st σ ha hst K out hout=>?_
   rw [hkf,Q1 ha hrs] at hout
   obtain ⟨⟨r,b,st'⟩,h1,h2⟩:=a0K hout
   exact ⟨r,b,st',fr,by rw [hb]; exact h1,h2,by rw [hb]; dsimp only; rw [a6q hv,ha.f]⟩
 · rename_i hv hb
   refine t9 hn o.args he fun sp hsp=>h _ fun c env fr st σ ha hst K out hout=>?_
   rw [hkf,Q1 ha hrs] at hout
   obtain ⟨⟨r,b,st'⟩,h1,h2⟩:=a0K hout
   obtain ⟨fr',h3,h4⟩:=hsp fr σ ha.f
   dsimp only at h2
   rw [h3] at h2
   exact ⟨r,b,st',fr',by rw [hb]; exact h1,h2,by rw [hb]; exact h4⟩
 · rename_i i hb
   cases hbi:Nat.blt i nv with
   | false=>exact he
   | true =>
    have hi:=G9 hbi
    refine C2 (by omega) he fun g hg=>?_
    split
    · rename_i hal
      simp only [Bool.or_eq_false_iff] at hal
      refine h _ fun c env fr st σ ha hst K out hout=>?_
      rw [hg,hkf,Q1 ha hrs] at hout
      obtain ⟨⟨r,b,st'⟩,h1,h2⟩:=a0K hout
      refine ⟨r,b,st',fr,by rw [hb]; dsimp only; rw [ha.f,D6 hi]; exact h1,h2,?_⟩
      rw [hb]
      have:=U1 hal.1 h1
      subst this
      dsimp only
      rw [a6q hal.2,ha.f,← D6 hi fr]
      exact a0h _ _
    · refine t9 hn o.args he fun sp hsp=>R3 (by omega) he fun p hp=>h _ fun c env fr st σ ha hst K out hout=>?_
      rw [hg,hkf,Q1 ha hrs] at hout
      obtain ⟨⟨r,b,st'⟩,h1,h2⟩:=a0K hout
      obtain ⟨fr',h3,h4⟩:=hsp fr σ ha.f
      dsimp only at h2
      rw [h3,hp] at h2
      refine ⟨r,b,st',_,by rw [hb]; dsimp only; rw [ha.f,D6 hi]; exact h1,h2,?_⟩
      rw [hb]
      dsimp only
      rw [h4,W4 hi hn]

def f5U (nv dep:Nat) (o:AOper) (sc:Scope) (pf:PF) (dep':Nat) (sc':Scope):Prop:=∀ r env fr s (k:List AV→Fr→St→RO) out,pf r env fr s k=some out→∀ σ:Sig,σ.fr=toL nv fr→env.length=dep→(∀ t,(σ.τ t).stripB=σ.τ t)→a0C sc env σ.τ→σ.st=s →
 ∃ env' fr',k env' fr' s=some out∧Ag nv dep' sc' env' fr' (o.dst.put r σ)∧(o.dst.put r σ).st=s
theorem b2U {G:β→Prop} {nv dep:Nat} {tss:List Nat} {o:AOper} {sc:Scope} {e:β} {Q:PF→Nat→Scope→β} (hn:nv≤64) (he:G e) (h:∀ pf dep' sc',f5U nv dep o sc pf dep' sc'→G (Q pf dep' sc')):G (b4z nv dep tss o.dst sc e Q):=by
 unfold b4z
 cases hd:o.dst with
 | t s =>
  dsimp only
  have nb':∀ (σ:Sig) (r:AV),(∀ t,(σ.τ t).stripB=σ.τ t)→∀ t,(l6 σ.τ s r.stripB t).stripB=l6 σ.τ s r.stripB t:=fun σ r hb t=>by
   rw [O7]; split
   · exact a1a r
   · exact hb t
  have sc1:∀ (σ:Sig) (r:AV) (env:List AV) (y:Src) (v:AV),env.length=dep→a0C sc env σ.τ→SrcOK (v::env) r.stripB y→a0C ((s,y)::sc) (v::env) (l6 σ.τ s r.stripB):=fun σ r env y v hl hsc hy t x hx=>by
   rw [W7] at hx
   rw [O7]
   split at hx
   · rename_i e; cases hx; rw [if_pos e.symm]; exact hy
   · rename_i e; rw [if_neg (fun q=>e q.symm)]; exact (hsc _ _ hx).push v
  cases b4t s tss with
  | true =>
   refine h _ _ _ fun r env fr s' k out hout σ hf hl hb hsc hst=>?_
   rw [b2D] at hout
   refine ⟨_,_,hout,?_,by rw [hd]; exact hst⟩
   rw [hd]
   exact ⟨hf,by simp [hl],nb' σ r hb,sc1 σ r env _ _ hl hsc ⟨_,by rw [← hl]; exact b28 _ _,rfl⟩⟩
  | false =>
   refine h _ _ _ fun r env fr s' k out hout σ hf hl hb hsc hst=>?_
   rw [b2D] at hout
   refine ⟨_,_,hout,?_,by rw [hd]; exact hst⟩
   rw [hd]
   exact ⟨hf,by simp [hl],nb' σ r hb,sc1 σ r env _ _ hl hsc ⟨_,by rw [← hl]; exact b28 _ _,rfl⟩⟩
 | v i =>
  dsimp only
  cases hbi:Nat.blt i nv with
  | false=>exact he
  | true =>
   have hi:=G9 hbi
   refine R3 (by omega) he fun p hp=>h _ _ _ fun r env fr s' k out hout σ hf hl hb hsc hst=>?_
   rw [d7z,hp] at hout
   refine ⟨_,_,hout,?_,by rw [hd]; exact hst⟩
   rw [hd]
   exact ⟨by show σ.fr.set i r.strip=_; rw [hf,W4 hi hn],hl,hb,hsc⟩
 | none =>
  refine h _ _ _ fun r env fr s' k out hout σ hf hl hb hsc hst=>?_
  refine ⟨_,_,hout,?_,by rw [hd]; exact hst⟩
  rw [hd]
  exact ⟨hf,hl,hb,hsc⟩
 | bx =>
  refine h _ _ _ fun r env fr s' k out hout σ hf hl hb hsc hst=>?_
  refine ⟨_,_,hout,?_,by rw [hd]; exact hst⟩
  rw [hd]
  exact ⟨hf,hl,hb,hsc⟩

def f2J (nv dep:Nat) (sc:Scope) (o:AOper) (opf:OpF) (dep':Nat) (sc':Scope):Prop:=∀ c env fr st σ,Ag nv dep sc env fr σ→σ.st=st→∀ (k:List AV→Fr→St→RO) out,opf c env fr st k=some out →
 ∃ σ' env' fr',d9 c o σ=some σ'∧Ag nv dep' sc' env' fr' σ'∧k env' fr' σ'.st=some out
def d3A (nv dep:Nat) (sc:Scope) (o:AOper) (sc':Scope):Prop:=∀ c env fr σ,Ag nv dep sc env fr σ→∃ σ',d9 c o σ=some σ'∧Ag nv dep sc' env fr σ'∧σ'.st=σ.st
theorem a5w {nv dep:Nat} {sc:Scope} {env:List AV} {fr:Fr} {σ:Sig} (ha:Ag nv dep sc env fr σ) (s:Nat) (v:AV) (y:Src) (hy:SrcOK env v.stripB y):Ag nv dep ((s,y)::sc) env fr ({ σ with τ:=l6 σ.τ s v.stripB }) :=
 ⟨ha.f,ha.d,fun t=>by
  show (l6 σ.τ s v.stripB t).stripB=l6 σ.τ s v.stripB t
  rw [O7]; split
  · exact a1a v
  · exact ha.nb t,fun t x hx=>by
  show SrcOK env (l6 σ.τ s v.stripB t) x
  rw [W7] at hx
  rw [O7]
  split at hx
  · rename_i e; cases hx; rw [if_pos e.symm]; exact hy
  · rename_i e; rw [if_neg (fun q=>e q.symm)]; exact ha.t _ _ hx⟩
theorem a2F (c:b7) (s:Nat) (x:Opd) (hx:x.steals=false) (σ:Sig):d9 c ⟨.t s,.mv,[x],none,none⟩ σ=some { σ with τ:=l6 σ.τ s (x.read σ).stripB }:=by
 have e:b8 [x] σ=σ:=H5 (by simp [c0,hx])
 show n5 c _ σ=_
 rw [B8]
 show some (Dst.put (.t s) (x.read σ) { b8 [x] σ with st:=σ.st })=_
 rw [e]
 rfl
theorem b4Q {G:β→Prop} {nv dep:Nat} {sc:Scope} {tss:List Nat} {o:AOper} {e:β} {Q0:Scope→β} {Q:OpF→Nat→Scope→β} (hn:nv≤64) (he:G e) (h0:∀ sc',d3A nv dep sc o sc'→G (Q0 sc'))
 (h:∀ opf dep' sc',f2J nv dep sc o opf dep' sc'→G (Q opf dep' sc')):G (opK nv dep sc tss o e Q0 Q):=by
 unfold opK
 split
 · rename_i s s' hal
   have ho:o=⟨.t s,.mv,[.t s'],none,none⟩:=by
    unfold a3W at hal
    split at hal <;> first|(cases hal; rfl)|cases hal
   subst ho
   have go:∀ y,(∀ env fr σ,Ag nv dep sc env fr σ→SrcOK env (σ.τ s').weak y)→d3A nv dep sc ⟨.t s,.mv,[.t s'],none,none⟩ ((s,y)::sc):=fun y hy c env fr σ ha=>by
    refine ⟨_,a2F c s (.t s') rfl σ,a5w ha s _ y ?_,rfl⟩
    show SrcOK env ((σ.τ s').weak).stripB y
    rw [a9k (ha.nb s')]
    exact hy env fr σ ha
   split
   · rename_i l hs
     exact h0 _ (go _ fun env fr σ ha=>by obtain ⟨a,h1,h2⟩:=ha.t _ _ hs; exact ⟨a,h1,by rw [t5,h2]⟩)
   · rename_i l hs
     exact h0 _ (go _ fun env fr σ ha=>by obtain ⟨a,h1,h2⟩:=ha.t _ _ hs; exact ⟨a,h1,by rw [t5,h2]⟩)
   · rename_i l hs
     exact h0 _ (go _ fun env fr σ ha=>by obtain ⟨a,h1,h2⟩:=ha.t _ _ hs; exact ⟨a,h1,by rw [t5,h2]⟩)
   · rename_i a hs
     exact h0 _ (go _ fun env fr σ ha=>by
      have:=ha.t _ _ hs
      show (σ.τ s').weak.weak=a.weak
      rw [t5,show σ.τ s'=a from this])
   · rename_i a hs
     exact h0 _ (go _ fun env fr σ ha=>by
      have:=ha.t _ _ hs
      show (σ.τ s').weak.weak=a
      rw [t5]
      exact this)
   · exact he
 · rename_i s a hal
   have ho:o=⟨.t s,.mv,[.c a],none,none⟩:=by
    unfold a3W at hal
    split at hal <;> first|(cases hal; rfl)|cases hal
   subst ho
   exact h0 _ fun c env fr σ ha=>⟨_,a2F c s (.c a) rfl σ,a5w ha s _ _ rfl,rfl⟩
 · refine a8t hn he fun rs hrs=>b0G fun kf hkf=>b1g hn hrs hkf he fun cf hcf=>b2U hn he fun pf dep' sc' hpf=>?_
   have body:∀ c env fr st σ,Ag nv dep sc env fr σ→σ.st=st→∀ (k:List AV→Fr→St→RO) out,(cf c env fr st fun r fr s=>pf r env fr s k)=some out →
    ∃ σ' env' fr',n5 c o σ=some σ'∧Ag nv dep' sc' env' fr' σ'∧k env' fr' σ'.st=some out:=fun c env fr st σ ha hst k out hout=>by
    obtain ⟨r,b,st',fr',h1,h2,h3⟩:=hcf c env fr st σ ha hst _ out hout
    obtain ⟨e1,e2,e3,e4⟩:=s9 (xs:=o.args) (σ:=σ) ha.t ha.nb
    let σ1:Sig:=match o.box with
     | some i=>{ b8 o.args σ with fr:=(b8 o.args σ).fr.set i b,st:=st' }
     | none=>{ b8 o.args σ with st:=st' }
    have hfr:σ1.fr=toL nv fr':=by
     rw [← h3]; simp only [σ1]; cases o.box <;> rfl
    have hτ:σ1.τ=(b8 o.args σ).τ:=by simp only [σ1]; cases o.box <;> rfl
    have hs1:σ1.st=st':=by simp only [σ1]; cases o.box <;> rfl
    obtain ⟨env2,fr2,g1,g2,g3⟩:=hpf r env fr' st' k out h2 σ1 hfr ha.d (by rw [hτ]; exact e3) (by rw [hτ]; exact e2) hs1
    refine ⟨_,env2,fr2,?_,g2,by rw [g3]; exact g1⟩
    rw [B8,hst]
    simp only [σ1]
    cases hb:o.box <;> rw [hb] at h1 <;> dsimp only at h1 ⊢ <;> rw [h1]
   split
   · rename_i hg
     refine h _ _ _ fun c env fr st σ ha hst k out hout=>?_
     unfold d9
     rw [hg]
     exact body c env fr st σ ha hst k out hout
   · rename_i x w hg
     refine a2f hn he fun g hgr=>h _ _ _ fun c env fr st σ ha hst k out hout=>?_
     rw [hgr env fr σ ha,d28] at hout
     unfold d9
     rw [hg]
     dsimp only
     have skip:pf (.tuple []) env fr st k=some out→∃ σ' env' fr',some (o.dst.put (.tuple []) σ)=some σ'∧Ag nv dep' sc' env' fr' σ'∧k env' fr' σ'.st=some out:=fun hout=>by
      obtain ⟨env2,fr2,g1,g2,g3⟩:=hpf _ env fr st k out hout σ ha.f ha.d ha.nb (s9 (xs:=o.args) (σ:=σ) ha.t ha.nb).1 hst
      exact ⟨_,env2,fr2,rfl,g2,by rw [g3]; exact g1⟩
     cases hx:x.read σ <;> rw [hx] at hout <;> (try dsimp only at hout ⊢) <;> try cases hout
     · rename_i b
       split at hout
       · rename_i hbw; rw [if_pos hbw]; exact body c env fr st σ ha hst k out hout
       · rename_i hbw; rw [if_neg hbw]; exact skip hout
     · rename_i vs
       cases vs with
       | nil=>exact skip hout
       | cons=>cases hout
end

noncomputable def a0S (nv:Nat) (tss:List Nat) (cond:Opd) (ops:List AOper):Nat→Scope→Clo:=List.rec (motive:=fun _=>Nat→Scope→Clo)
 (fun dep sc=>rdK nv dep sc cond M2 fun r=>.mk fun c env fr st=>r env fr fun x=>some (x,fr,st))
 (fun o _ ih dep sc=>opK nv dep sc tss o M2 (fun sc'=>ih dep sc') fun opf dep' sc'=>.mk fun c env fr st=>opf c env fr st fun env fr st=>(ih dep' sc').run c env fr st) ops
def a0R (nv dep:Nat) (sc:Scope) (cond:Opd) (ops:List AOper) (x:Clo):Prop:=∀ c env fr st σ v fr' st',Ag nv dep sc env fr σ→σ.st=st→x.run c env fr st=some (v,fr',st') →
 ∃ σ',e9 c ops σ=some σ'∧σ'.fr=toL nv fr'∧σ'.st=st'∧cond.read σ'=v
theorem a8h {nv dep:Nat} {sc:Scope} {cond:Opd} {ops:List AOper}:a0R nv dep sc cond ops M2:=fun c env fr st σ v fr' st' ha hst h=>by cases (show (none:RO)=some _ from h)
theorem Y3 {nv:Nat} (hn:nv≤64) {tss:List Nat} {cond:Opd}:∀ (ops:List AOper) (dep:Nat) (sc:Scope),a0R nv dep sc cond ops (a0S nv tss cond ops dep sc)
 | [],dep,sc=>by
  show a0R nv dep sc cond [] (rdK nv dep sc cond M2 fun r=>.mk fun c env fr st=>r env fr fun x=>some (x,fr,st))
  refine a2f (G:=a0R nv dep sc cond []) hn a8h fun r hr c env fr st σ v fr' st' ha hst h=>?_
  have h:r env fr (fun x=>some (x,fr,st))=some (v,fr',st'):=h
  rw [hr env fr σ ha] at h
  cases h
  exact ⟨σ,rfl,ha.f,hst,rfl⟩
 | o::ops,dep,sc=>by
  show a0R nv dep sc cond (o::ops) (opK nv dep sc tss o M2 (fun sc'=>a0S nv tss cond ops dep sc') fun opf dep' sc'=>.mk fun c env fr st=>opf c env fr st fun env fr st=>(a0S nv tss cond ops dep' sc').run c env fr st)
  refine b4Q (G:=a0R nv dep sc cond (o::ops)) hn a8h (fun sc' hal c env fr st σ v fr' st' ha hst h=>?_) fun opf dep' sc' ho c env fr st σ v fr' st' ha hst h=>?_
  · obtain ⟨σ1,h1,h2,h3⟩:=hal c env fr σ ha
    obtain ⟨σ2,g1,g2⟩:=Y3 hn ops dep sc' c env fr st σ1 v fr' st' h2 (h3.trans hst) h
    exact ⟨σ2,by rw [e9,h1]; exact g1,g2⟩
  · obtain ⟨σ1,env1,fr1,h1,h2,h3⟩:=ho c env fr st σ ha hst _ _ h
    obtain ⟨σ2,g1,g2⟩:=Y3 hn ops dep' sc' c env1 fr1 σ1.st σ1 v fr' st' h2 rfl h3
    exact ⟨σ2,by rw [e9,h1]; exact g1,g2⟩
end Go.Cb.G
/-
 THE ABSTRACT MACHINE, part 46: code and functions, made ready once; what they answer is the machine's answer.
-/
set_option maxRecDepth 4000
set_option linter.unusedVariables false
namespace Go.Cb.G
open Go Go.Cb
/-! regions -/
noncomputable def a6h (nv:Nat) (kill:List Nat) (Q:(Fr→(Fr→RO)→RO)→Clo):Clo:=List.rec (motive:=fun _=>((Fr→(Fr→RO)→RO)→Clo)→Clo) (fun Q=>Q fun fr k=>k fr)
 (fun i _ ih Q=>Bool.rec (motive:=fun _=>Clo) (ih Q) (a4a i M2 fun p=>ih fun r=>Q fun fr k=>p .undef fr fun fr=>r fr k) (Nat.blt i nv)) kill Q
def tsL:List Opd→List Nat
 | []=>[]
 | .ts s::xs=>s::tsL xs
 | _::xs=>tsL xs
def b0S:List AOper→List Nat
 | []=>[]
 | o::os=>match tsL o.args with
  | []=>b0S os
  | l=>l++b0S os
noncomputable def a2t (nv:Nat) (kill:List Nat) (ops:List AOper) (cond:Opd):Clo :=
 a6h nv kill fun kf=>.mk fun c _ fr st=>kf fr fun fr=>(a0S nv (tsL [cond]++b0S ops) cond ops 0 []).run c [] fr st
theorem X4 {G:Clo→Prop} {nv:Nat} (hn:nv≤64) (hs:G M2):∀ {kill:List Nat} {Q:(Fr→(Fr→RO)→RO)→Clo},(∀ r:Fr→(Fr→RO)→RO,(∀ fr,∃ fr',(∀ k,r fr k=k fr')∧i5 kill (toL nv fr)=toL nv fr')→G (Q r))→G (a6h nv kill Q)
 | [],Q,h=>h _ fun fr=>⟨fr,fun _=>rfl,rfl⟩
 | i::is,Q,h=>by
  show G (Bool.rec (motive:=fun _=>Clo) (a6h nv is Q) (a4a i M2 fun p=>a6h nv is fun r=>Q fun fr k=>p .undef fr fun fr=>r fr k) (Nat.blt i nv))
  cases hb:Nat.blt i nv with
  | false =>
   have hi:¬ i < nv:=fun q=>by rw [show Nat.blt i nv=true by simpa using q] at hb; cases hb
   exact X4 hn hs (kill:=is) fun r hr=>h r fun fr=>by
    obtain ⟨fr',h1,h2⟩:=hr fr
    exact ⟨fr',h1,by rw [i5,a1g hi]; exact h2⟩
  | true =>
   have hi:=G9 hb
   exact R3 (by omega) hs fun p hp=>X4 hn hs (kill:=is) fun r hr=>h _ fun fr=>by
    obtain ⟨fr',h1,h2⟩:=hr (S6 i .undef fr)
    exact ⟨fr',fun k=>by show p .undef fr _=_; rw [hp,h1],by rw [i5,W4 hi hn]; exact h2⟩
def a9l (nv:Nat) (kill:List Nat) (ops:List AOper) (cond:Opd) (x:Clo):Prop:=∀ c env fr st v fr' st',x.run c env fr st=some (v,fr',st') →
 ∃ σ',e9 c ops ⟨i5 kill (toL nv fr),fun _=>.undef,st⟩=some σ'∧σ'.fr=toL nv fr'∧σ'.st=st'∧cond.read σ'=v
theorem a7W {nv:Nat} (hn:nv≤64) {kill:List Nat} {ops:List AOper} {cond:Opd}:a9l nv kill ops cond (a2t nv kill ops cond):=by
 refine X4 (G:=a9l nv kill ops cond) hn (fun c env fr st v fr' st' h=>by cases (show (none:RO)=some _ from h)) fun r hr c env fr st v fr' st' h=>?_
 obtain ⟨fr1,h1,h2⟩:=hr fr
 have h:r fr _=_:=h
 rw [h1] at h
 exact Y3 hn ops 0 [] c [] fr1 st ⟨i5 kill (toL nv fr),fun _=>.undef,st⟩ v fr' st' ⟨h2,rfl,fun _=>rfl,fun s x hx=>by cases (show (none:Option Src)=some x from hx)⟩ rfl h

/-! code -/
abbrev CO:=Option (Ex×Fr×St)
inductive CloC where
 | mk (f:b7→Nat→Fr→St→CO)
noncomputable def CloC.run (x:CloC):b7→Nat→Fr→St→CO:=CloC.rec (motive:=fun _=>b7→Nat→Fr→St→CO) (fun f=>f) x
section
variable {ρ:Type}
noncomputable def a8E (x:RO) (k:AV→Fr→St→Option ρ):Option ρ:=Option.rec (motive:=fun _=>Option ρ) none (fun p=>Prod.rec (motive:=fun _=>Option ρ) (fun v q=>Prod.rec (motive:=fun _=>Option ρ) (fun fr st=>k v fr st) q) p) x
noncomputable def P9 (x:CO) (k:Ex→Fr→St→Option ρ):Option ρ:=Option.rec (motive:=fun _=>Option ρ) none (fun p=>Prod.rec (motive:=fun _=>Option ρ) (fun v q=>Prod.rec (motive:=fun _=>Option ρ) (fun fr st=>k v fr st) q) p) x
noncomputable def R9 (e:Ex) (n:Option ρ) (x:Nat→Option ρ) (r:Option ρ):Option ρ:=Ex.rec (motive:=fun _=>Option ρ) n x r e
theorem a5o {x:RO} {k:AV→Fr→St→Option ρ} {r:ρ} (h:a8E x k=some r):∃ v fr st,x=some (v,fr,st)∧k v fr st=some r:=by
 cases x with
 | none=>cases h
 | some p=>obtain ⟨v,fr,st⟩:=p; exact ⟨v,fr,st,rfl,h⟩
theorem I1 {x:CO} {k:Ex→Fr→St→Option ρ} {r:ρ} (h:P9 x k=some r):∃ v fr st,x=some (v,fr,st)∧k v fr st=some r:=by
 cases x with
 | none=>cases h
 | some p=>obtain ⟨v,fr,st⟩:=p; exact ⟨v,fr,st,rfl,h⟩
end
noncomputable def b0W (b:b7→Nat→Fr→St→CO) (c:b7) (n m:Nat):Fr→St→CO:=Nat.rec (motive:=fun _=>Fr→St→CO) (fun _ _=>none) (fun _ ih fr st=>P9 (b c n fr st) fun e fr st=>R9 e (ih fr st) (fun i=>some (.exit i,fr,st)) (some (.ret,fr,st))) m
def a3d (nv:Nat):List Nat→Fr→Fr
 | [],fr=>fr
 | i::is,fr=>a3d nv is (if i < nv then S6 i .undef fr else fr)
theorem a0j {nv:Nat} (hn:nv≤64):∀ {is:List Nat} {fr:Fr},i5 is (toL nv fr)=toL nv (a3d nv is fr)
 | [],fr=>rfl
 | i::is,fr=>by
  rw [i5,a3d]
  split
  · rename_i h; rw [W4 h hn]; exact a0j hn
  · rename_i h; rw [a1g h]; exact a0j hn
noncomputable def b2S (nv:Nat) (kill:List Nat) (x y:CO):CO:=P9 x fun e fr st=>P9 y fun e' fr' st' =>
 if a5X (B3 kill (e,toL nv fr,st)) (B3 kill (e',toL nv fr',st')) then some (e,a3d nv kill fr,st) else none
noncomputable def J8 (nv:Nat) (x:ACode):CloC:=ACode.rec (motive:=fun _=>CloC)
 (.mk fun _ _ fr st=>some (.normal,fr,st))
 (fun kill ops=>.mk fun c _ fr st=>a8E ((a2t nv kill ops (.c .undef)).run c [] fr st) fun _ fr st=>some (.normal,fr,st))
 (fun kill ops x _ _ a b=>.mk fun c n fr st=>a8E ((a2t nv kill ops x).run c [] fr st) fun v fr st=>onB v none fun y=>Bool.rec (motive:=fun _=>CO) (b.run c n fr st) (a.run c n fr st) y)
 (fun _ _ a b=>.mk fun c n fr st=>P9 (a.run c n fr st) fun e fr st=>R9 e (b.run c n fr st) (fun i=>some (.exit i,fr,st)) (some (.ret,fr,st)))
 (fun id _ a=>.mk fun c n fr st=>P9 (a.run c n fr st) fun e fr st=>R9 e (some (.normal,fr,st)) (fun i=>Bool.rec (motive:=fun _=>CO) (some (.exit i,fr,st)) (some (.normal,fr,st)) (Nat.beq i id)) (some (.ret,fr,st)))
 (fun _ a=>.mk fun c n fr st=>b0W (fun c n fr st=>a.run c n fr st) c n n fr st)
 (fun kill _ _ a b=>.mk fun c n fr st=>b2S nv kill (a.run c n fr st) (b.run c n fr st))
 (fun id=>.mk fun _ _ fr st=>some (.exit id,fr,st))
 (.mk fun _ _ fr st=>some (.ret,fr,st)) x
def c2K (nv:Nat) (x:ACode) (y:CloC):Prop:=∀ c n fr st e fr' st',y.run c n fr st=some (e,fr',st')→d8 c n x (toL nv fr) st=some (e,toL nv fr',st')
theorem a8m {nv:Nat} {a:ACode} {b:b7→Nat→Fr→St→CO} {c:b7} {n:Nat} (h:∀ fr st e fr' st',b c n fr st=some (e,fr',st')→d8 c n a (toL nv fr) st=some (e,toL nv fr',st')):∀ (m:Nat) (fr:Fr) (st:St) (e:Ex) (fr':Fr) (st':St),b0W b c n m fr st=some (e,fr',st')→z9 (d8 c n a) m (toL nv fr) st=some (e,toL nv fr',st')
 | 0,fr,st,e,fr',st',hs=>by cases (show (none:CO)=some _ from hs)
 | m+1,fr,st,e,fr',st',hs=>by
  obtain ⟨e1,fr1,st1,h1,h2⟩:=I1 (show P9 (b c n fr st) (fun e fr st=>R9 e (b0W b c n m fr st) (fun i=>some (.exit i,fr,st)) (some (.ret,fr,st)))=some (e,fr',st') from hs)
  rw [z9,h _ _ _ _ _ h1]
  cases e1 with
  | normal=>exact a8m h m fr1 st1 e fr' st' h2
  | exit i=>cases (show some (Ex.exit i,fr1,st1)=some (e,fr',st') from h2); rfl
  | ret=>cases (show some (Ex.ret,fr1,st1)=some (e,fr',st') from h2); rfl
theorem C9 {nv:Nat} (hn:nv≤64):∀ x:ACode,c2K nv x (J8 nv x)
 | .skip,c,n,fr,st,e,fr',st',h=>by cases (show some (Ex.normal,fr,st)=some (e,fr',st') from h); rfl
 | .ret,c,n,fr,st,e,fr',st',h=>by cases (show some (Ex.ret,fr,st)=some (e,fr',st') from h); rfl
 | .exit id,c,n,fr,st,e,fr',st',h=>by cases (show some (Ex.exit id,fr,st)=some (e,fr',st') from h); rfl
 | .reg kill ops,c,n,fr,st,e,fr',st',h=>by
  obtain ⟨v,fr1,st1,h1,h2⟩:=a5o (show a8E ((a2t nv kill ops (.c .undef)).run c [] fr st) (fun _ fr st=>some (Ex.normal,fr,st))=some (e,fr',st') from h)
  cases h2
  obtain ⟨σ,g1,g2,g3,g4⟩:=a7W hn _ _ _ _ _ _ _ h1
  rw [d8,g1]
  simp only [fL_eq,g2,g3]
 | .test kill ops x a b,c,n,fr,st,e,fr',st',h=>by
  obtain ⟨v,fr1,st1,h1,h2⟩:=a5o (show a8E ((a2t nv kill ops x).run c [] fr st) (fun v fr st=>onB v none fun y=>Bool.rec (motive:=fun _=>CO) ((J8 nv b).run c n fr st) ((J8 nv a).run c n fr st) y)=some (e,fr',st') from h)
  obtain ⟨σ,g1,g2,g3,g4⟩:=a7W hn _ _ _ _ _ _ _ h1
  rw [a8u] at h2
  rw [d8,g1]
  dsimp only
  rw [g4]
  cases v <;> try (cases h2; done)
  rename_i y
  cases y
  · simp only [fL_eq,g2,g3]; exact C9 hn b _ _ _ _ _ _ _ h2
  · simp only [fL_eq,g2,g3]; exact C9 hn a _ _ _ _ _ _ _ h2
 | .seq a b,c,n,fr,st,e,fr',st',h=>by
  obtain ⟨e1,fr1,st1,h1,h2⟩:=I1 (show P9 ((J8 nv a).run c n fr st) (fun e fr st=>R9 e ((J8 nv b).run c n fr st) (fun i=>some (.exit i,fr,st)) (some (.ret,fr,st)))=some (e,fr',st') from h)
  rw [d8,C9 hn a _ _ _ _ _ _ _ h1]
  cases e1 with
  | normal=>exact C9 hn b _ _ _ _ _ _ _ h2
  | exit i=>cases (show some (Ex.exit i,fr1,st1)=some (e,fr',st') from h2); rfl
  | ret=>cases (show some (Ex.ret,fr1,st1)=some (e,fr',st') from h2); rfl
 | .blk id a,c,n,fr,st,e,fr',st',h=>by
  obtain ⟨e1,fr1,st1,h1,h2⟩:=I1 (show P9 ((J8 nv a).run c n fr st) (fun e fr st=>R9 e (some (.normal,fr,st)) (fun i=>Bool.rec (motive:=fun _=>CO) (some (.exit i,fr,st)) (some (.normal,fr,st)) (Nat.beq i id)) (some (.ret,fr,st)))=some (e,fr',st') from h)
  rw [d8,C9 hn a _ _ _ _ _ _ _ h1]
  cases e1 with
  | normal=>cases (show some (Ex.normal,fr1,st1)=some (e,fr',st') from h2); rfl
  | exit i =>
   have h2:Bool.rec (motive:=fun _=>CO) (some (.exit i,fr1,st1)) (some (.normal,fr1,st1)) (Nat.beq i id)=some (e,fr',st'):=h2
   dsimp only
   cases hb:Nat.beq i id with
   | true=>rw [hb] at h2; cases h2; rw [if_pos (Nat.eq_of_beq_eq_true hb)]
   | false=>rw [hb] at h2; cases h2; rw [if_neg (Nat.ne_of_beq_eq_false hb)]
  | ret=>cases (show some (Ex.ret,fr1,st1)=some (e,fr',st') from h2); rfl
 | .loop a,c,n,fr,st,e,fr',st',h=>by
  rw [d8]
  exact a8m (b:=fun c n fr st=>(J8 nv a).run c n fr st) (fun fr st e fr' st' h=>C9 hn a _ _ _ _ _ _ _ h) n fr st e fr' st' h
 | .either kill a b,c,n,fr,st,e,fr',st',h=>by
  have h:b2S nv kill ((J8 nv a).run c n fr st) ((J8 nv b).run c n fr st)=some (e,fr',st'):=h
  obtain ⟨e1,fr1,st1,h1,h2⟩:=I1 h
  obtain ⟨e2,fr2,st2,h3,h4⟩:=I1 h2
  rw [d8,C9 hn a _ _ _ _ _ _ _ h1,C9 hn b _ _ _ _ _ _ _ h3]
  unfold a0Z
  split at h4
  · rename_i hq
    cases h4
    dsimp only
    rw [if_pos hq]
    show some (_,i5 kill (toL nv fr1),_)=_
    rw [a0j hn]
  · cases h4

/-! functions -/
inductive FnC where
 | mk (f:b7→Nat→List AV→St→Option (AV×St))
noncomputable def FnC.run (x:FnC):b7→Nat→List AV→St→Option (AV×St):=FnC.rec (motive:=fun _=>b7→Nat→List AV→St→Option (AV×St)) (fun f=>f) x
noncomputable def E6:FnC:=.mk fun _ _ _ _=>none
noncomputable def b3Y (nv:Nat) (r:ResK) (Q:Gt (AV×St)→FnC):FnC :=
 match r with
 | .v i=>match Nat.blt i nv with
  | true=>Y6 i E6 fun g=>Q fun fr k=>g fr fun x=>qWk x k
  | false=>E6
 | .vs i=>match Nat.blt i nv with
  | true=>Y6 i E6 fun g=>Q g
  | false=>E6
 | .bx i agg n=>match Nat.blt i nv with
  | true=>Y6 i E6 fun g=>Q fun fr k=>g fr fun x=>b0v x none fun cs=>a0P k agg n cs
  | false=>E6
theorem b3g {G:FnC→Prop} {nv:Nat} (hn:nv≤64) (hs:G E6) {r:ResK} {Q:Gt (AV×St)→FnC} (h:∀ g:Gt (AV×St),(∀ fr k out,g fr k=some out→∃ v,r.get (toL nv fr)=some v∧k v=some out)→G (Q g)):G (b3Y nv r Q):=by
 unfold b3Y
 cases r with
 | v i =>
  dsimp only
  cases hb:Nat.blt i nv with
  | false=>exact hs
  | true =>
   have hi:=G9 hb
   refine C2 (by omega) hs fun g hg=>h _ fun fr k out ho=>?_
   rw [hg,Q2] at ho
   exact ⟨_,by rw [ResK.get,D6 hi],ho⟩
 | vs i =>
  dsimp only
  cases hb:Nat.blt i nv with
  | false=>exact hs
  | true =>
   have hi:=G9 hb
   refine C2 (by omega) hs fun g hg=>h _ fun fr k out ho=>?_
   rw [hg] at ho
   exact ⟨_,by rw [ResK.get,D6 hi],ho⟩
 | bx i agg n =>
  dsimp only
  cases hb:Nat.blt i nv with
  | false=>exact hs
  | true =>
   have hi:=G9 hb
   refine C2 (by omega) hs fun g hg=>h _ fun fr k out ho=>?_
   rw [hg,a4k] at ho
   rw [ResK.get,D6 hi]
   cases hx:I9 i fr <;> rw [hx] at ho <;> try (cases ho; done)
   rename_i cs
   dsimp only at ho ⊢
   rw [Z1] at ho
   cases ht:g9 agg n cs with
   | none=>rw [ht] at ho; cases ho
   | some v=>rw [ht] at ho; exact ⟨v,rfl,ho⟩
noncomputable def b1l (nv:Nat):List ResK→((Fr→(List AV→Option (AV×St))→Option (AV×St))→FnC)→FnC
 | [],Q=>Q fun _ k=>k []
 | r::rs,Q=>b3Y nv r fun g=>b1l nv rs fun gs=>Q fun fr k=>g fr fun v=>gs fr fun vs=>k (v::vs)
theorem a5R {G:FnC→Prop} {nv:Nat} (hn:nv≤64) (hs:G E6):∀ {rs:List ResK} {Q:(Fr→(List AV→Option (AV×St))→Option (AV×St))→FnC},(∀ g:Fr→(List AV→Option (AV×St))→Option (AV×St),(∀ fr k out,g fr k=some out→∃ vs,D3 rs (toL nv fr)=some vs∧k vs=some out)→G (Q g))→G (b1l nv rs Q)
 | [],Q,h=>h _ fun fr k out ho=>⟨[],rfl,ho⟩
 | r::rs,Q,h=>by
  unfold b1l
  exact b3g hn hs fun g hg=>a5R hn hs fun gs hgs=>h _ fun fr k out ho=>by
   obtain ⟨v,h1,h2⟩:=hg fr _ _ ho
   obtain ⟨vs,h3,h4⟩:=hgs fr _ _ h2
   exact ⟨v::vs,by rw [D3,h1,h3],h4⟩
noncomputable def a4h (vs:List AV) (st:St):Option (AV×St):=List.rec (motive:=fun _=>Option (AV×St)) (some (.tuple [],st)) (fun v ws _=>List.rec (motive:=fun _=>Option (AV×St)) (some (v,st)) (fun _ _ _=>some (.tuple vs,st)) ws) vs
noncomputable def b00 (fn:AFn):FnC:=match Nat.ble fn.nv 64 && Nat.ble fn.np fn.nv with
 | true=>b1l fn.nv fn.results fun g=>.mk fun c n as st=>Bool.rec (motive:=fun _=>Option (AV×St)) none (b5d as fun w=>P9 ((J8 fn.nv fn.code).run c n (fr0 w) st) fun e fr st=>R9 e (g fr fun vs=>a4h vs st) (fun _=>none) (g fr fun vs=>a4h vs st)) (Nat.beq (u7 as) fn.np)
 | false=>E6
noncomputable def fnC (x:Option AFn):FnC:=match x with
 | none=>E6
 | some fn=>match fn.ext with
  | some e=>.mk fun _ _ as st=>e as st
  | none=>b00 fn
theorem b86 {vs:List AV} {st:St}:a4h vs st=(match (some vs:Option (List AV)) with|some [v]=>some (v,st)|some vs=>some (.tuple vs,st)|none=>none):=by
 match vs with
 | []=>rfl
 | [_]=>rfl
 | _::_::_=>rfl
def b2B (fn:AFn) (x:FnC):Prop:=∀ c n as st out,x.run c n as st=some out→fn.run c n as st=some out
theorem b4x (fn:AFn):b2B fn (b00 fn):=by
 have hs:b2B fn E6:=fun c n as st out h=>by cases (show (none:Option (AV×St))=some _ from h)
 unfold b00
 cases hb:Nat.ble fn.nv 64 && Nat.ble fn.np fn.nv with
 | false=>exact hs
 | true =>
  simp only [Bool.and_eq_true,Nat.ble_eq] at hb
  refine a5R hb.1 hs fun g hg c n as st out h=>?_
  have h:Bool.rec (motive:=fun _=>Option (AV×St)) none (b5d as fun w=>P9 ((J8 fn.nv fn.code).run c n (fr0 w) st) fun e fr st=>R9 e (g fr fun vs=>a4h vs st) (fun _=>none) (g fr fun vs=>a4h vs st)) (Nat.beq (u7 as) fn.np)=some out:=h
  cases hl:Nat.beq (u7 as) fn.np with
  | false=>rw [hl] at h; cases h
  | true =>
   rw [hl] at h
   have hl:=Nat.eq_of_beq_eq_true hl
   rw [r6] at hl
   obtain ⟨w,h1,h2,h3⟩:=b8c h
   obtain ⟨e,fr',st',h4,h5⟩:=I1 h1
   have h6:=C9 hb.1 fn.code _ _ _ _ _ _ _ h4
   rw [d1A h3 hl h2 hb.2 hb.1] at h6
   unfold AFn.run
   rw [if_pos hl,h6]
   have fin:(g fr' fun vs=>a4h vs st')=some out→(match D3 fn.results (toL fn.nv fr') with|some [v]=>some (v,st')|some vs=>some (.tuple vs,st')|none=>none)=some out:=fun h=>by
    obtain ⟨vs,h7,h8⟩:=hg fr' _ _ h
    rw [h7,← h8,b86]
   cases e with
   | normal=>exact fin h5
   | exit i=>cases (show (none:Option (AV×St))=some _ from h5)
   | ret=>exact fin h5

noncomputable def callG (tbl:Nat→Option AFn) (n:Nat):b7:=Nat.rec (motive:=fun _=>b7) (fun _ _ _=>none) (fun n ih f as st=>(fnC (tbl f)).run ih n as st) n
theorem X5 {tbl:Nat→Option AFn}:∀ n,J2 (callG tbl n) (e8 tbl n)
 | 0,f,as,st,r,h=>by cases (show (none:Option (AV×St))=some _ from h)
 | n+1,f,as,st,r,h=>by
  have h:(fnC (tbl f)).run (callG tbl n) n as st=some r:=h
  unfold e8
  cases ht:tbl f with
  | none=>rw [ht] at h; cases (show (none:Option (AV×St))=some _ from h)
  | some fn =>
   rw [ht] at h
   unfold fnC at h
   dsimp only at h ⊢
   cases he:fn.ext with
   | some e=>rw [he] at h; exact h
   | none =>
    rw [he] at h
    exact b3C (X5 n) (Nat.le_refl _) (b4x fn _ _ _ _ _ h)
theorem a6x {tbl:Nat→Option AFn} {k f:Nat} {as:List AV} {st:St} {r:AV} {st':St} (h:callG tbl k f as st=some (r,st')):Ev tbl f as st r st':=⟨k,X5 k _ _ _ _ h⟩
end Go.Cb.G
/-
 THE ABSTRACT MACHINE, part 47: a law's own code, step by step, over calls of which the answers are known.
-/
set_option maxRecDepth 4000
set_option linter.unusedVariables false
namespace Go.Cb.G
open Go Go.Cb
def N:b7:=fun _ _ _=>none
theorem b4H (c:b7):J2 N c:=fun _ _ _ _ h=>by cases h
theorem a3Q (c:b7):∀ (a b:List AOper) (σ:Sig),e9 c (a++b) σ=match e9 c a σ with|some σ=>e9 c b σ|none=>none
 | [],b,σ=>rfl
 | o::a,b,σ=>by
  show e9 c (o::(a++b)) σ=_
  rw [e9,e9]
  cases d9 c o σ with
  | none=>rfl
  | some σ=>exact a3Q c a b σ
def sp (kill:List Nat) (ops:List AOper) (i:Nat) (fr:List AV) (st:St):Option (Sig×AOper×List AOper):=match e9 N (ops.take i) ⟨i5 kill fr,fun _=>.undef,st⟩,ops.drop i with
 | some σ,o::os=>some (σ,o,os)
 | _,_=>none
def U2 (kill:List Nat) (ops:List AOper) (i:Nat) (fr:List AV) (st:St):Option (Nat×List AV×St):=match sp kill ops i fr st with
 | some (σ,⟨_,.call f,args,none,none⟩,_)=>if l7 (args.map (·.read σ)) then some (f,(args.map (·.read σ)).map AV.weak,σ.st) else none
 | _=>none
def after (kill:List Nat) (ops:List AOper) (i:Nat) (x:Opd) (fr:List AV) (st:St) (r:AV) (st1:St):Option (AV×List AV×St):=match sp kill ops i fr st with
 | some (σ,o,os)=>match e9 N os (o.dst.put r { b8 o.args σ with st:=st1 }) with
  | some σ=>some (x.read σ,σ.fr,σ.st)
  | none=>none
 | none=>none
theorem a6r {c:b7} {kill:List Nat} {ops:List AOper} {i f:Nat} {as:List AV} {st0:St} {r:AV} {st1:St} {fr:List AV} {st:St} {x:Opd} {v:AV} {fr':List AV} {st':St}
 (h1:U2 kill ops i fr st=some (f,as,st0)) (hE:c f as st0=some (r,st1)) (h2:after kill ops i x fr st r st1=some (v,fr',st')) :
 ∃ σ,e9 c ops ⟨i5 kill fr,fun _=>.undef,st⟩=some σ∧x.read σ=v∧σ.fr=fr'∧σ.st=st':=by
 unfold U2 at h1
 unfold after at h2
 cases hs:sp kill ops i fr st with
 | none=>rw [hs] at h2; cases h2
 | some p =>
  obtain ⟨σ,o,os⟩:=p
  rw [hs] at h1 h2
  dsimp only at h1 h2
  unfold sp at hs
  split at hs <;> try (cases hs; done)
  rename_i σ0 o0 os0 hr hd
  cases hs
  split at h1 <;> try (cases h1; done)
  rename_i heq
  obtain ⟨⟩:=Prod.mk.inj (Option.some.inj heq)
  rename_i dst f' args _ e1 e2
  obtain ⟨rfl,rfl⟩:=Prod.mk.inj e2
  subst e1
  split at h1 <;> try (cases h1; done)
  rename_i hp
  cases h1
  cases h3:e9 N os ((Dst.put dst r { b8 args σ with st:=st1 })) with
  | none=>rw [h3] at h2; cases h2
  | some σ2 =>
   rw [h3] at h2
   cases h2
   refine ⟨σ2,?_,rfl,rfl,rfl⟩
   rw [← List.take_append_drop i ops,a3Q,M8 (b4H c) hr,hd]
   dsimp only
   rw [e9]
   have hst:d9 c ⟨dst,.call f,args,none,none⟩ σ=some (Dst.put dst r { b8 args σ with st:=st1 }):=by
    show n5 c _ σ=_
    rw [B8]
    simp only [sem,k5,hp,if_true,hE,Option.map_some]
   rw [hst]
   exact M8 (b4H c) h3
section
variable {tbl:Nat→Option AFn}
theorem b1L {kill:List Nat} {ops:List AOper} {i f:Nat} {as:List AV} {st0:St} {r:AV} {st1:St} {fr:List AV} {st:St} {v:AV} {fr':List AV} {st':St}
 (h1:U2 kill ops i fr st=some (f,as,st0)) (hE:Ev tbl f as st0 r st1) (h2:after kill ops i (.c .undef) fr st r st1=some (v,fr',st')):XC tbl (.reg kill ops) fr st (.normal,fr',st'):=by
 obtain ⟨m,hm⟩:=hE
 obtain ⟨σ,g1,g2,g3,g4⟩:=a6r (c:=e8 tbl m) h1 hm h2
 exact ⟨m,by rw [d8,g1]; simp only [fL_eq,g3,g4]⟩
theorem c0H {kill:List Nat} {ops:List AOper} {i f:Nat} {as:List AV} {st0:St} {r:AV} {st1:St} {fr:List AV} {st:St} {x:Opd} {a b:ACode} {y:Bool} {fr':List AV} {st':St} {out:Out}
 (h1:U2 kill ops i fr st=some (f,as,st0)) (hE:Ev tbl f as st0 r st1) (h2:after kill ops i x fr st r st1=some (.bool y,fr',st')) (h3:XC tbl (if y then a else b) fr' st' out):XC tbl (.test kill ops x a b) fr st out:=by
 obtain ⟨m,hm⟩:=hE
 obtain ⟨k,hk⟩:=h3
 have hm2:=p6 (Nat.le_max_left m k) _ _ _ _ hm
 obtain ⟨σ,g1,g2,g3,g4⟩:=a6r (c:=e8 tbl (max m k)) h1 hm2 h2
 refine ⟨max m k,?_⟩
 have hk2:=l9 (p6 (tbl:=tbl) (Nat.le_max_right m k)) (Nat.le_max_right m k) hk
 rw [d8,g1]
 dsimp only
 rw [g2]
 cases y
 · have hk2:d8 (e8 tbl (max m k)) (max m k) b fr' st'=some out:=hk2
   simpa only [fL_eq,g3,g4] using hk2
 · have hk2:d8 (e8 tbl (max m k)) (max m k) a fr' st'=some out:=hk2
   simpa only [fL_eq,g3,g4] using hk2
theorem a2d {code:ACode} {k:Nat} {fr:List AV} {st:St} {out:Out} (h:d8 N k code fr st=some out):XC tbl code fr st out:=⟨k,l9 (b4H _) (Nat.le_refl _) h⟩
theorem f3X {code:ACode} {k:Nat} {fr:List AV} {st:St} {out:Out} (h:d8 (callG tbl k) k code fr st=some out):XC tbl code fr st out:=⟨k,l9 (X5 k) (Nat.le_refl _) h⟩
def fin (rs:List ResK) (o:Option Out):Option (AV×St):=match o with
 | some (.exit _,_,_)=>none
 | some (_,fr,st)=>match D3 rs fr with
  | some [v]=>some (v,st)
  | some vs=>some (.tuple vs,st)
  | none=>none
 | none=>none
def b5h (x:Option (AV×St)):Option AV:=match x with
 | some (v,_)=>some v
 | none=>none
def FX (tbl:Nat→Option AFn) (rs:List ResK) (code:ACode) (fr:List AV) (st:St) (v:AV):Prop:=∃ out st',XC tbl code fr st out∧fin rs (some out)=some (v,st')
theorem FX.seq {rs:List ResK} {a b:ACode} {fr fr1:List AV} {st st1:St} {v:AV} (h:XC tbl a fr st (.normal,fr1,st1)) (h':FX tbl rs b fr1 st1 v):FX tbl rs (.seq a b) fr st v:=by
 obtain ⟨⟨e,fr',st'⟩,s,h1,h2⟩:=h'
 exact ⟨_,s,XC.seq h h1,h2⟩
theorem FX.G {rs:List ResK} {code:ACode} {k:Nat} {fr:List AV} {st:St} {v:AV} (h:b5h (fin rs (d8 (callG tbl k) k code fr st))=some v):FX tbl rs code fr st v:=by
 cases hz:d8 (callG tbl k) k code fr st with
 | none=>rw [hz] at h; cases h
 | some o =>
  rw [hz] at h
  cases hf:fin rs (some o) with
  | none=>rw [hf] at h; cases h
  | some p =>
   obtain ⟨w,s⟩:=p
   rw [hf] at h
   cases (show some w=some v from h)
   exact ⟨o,s,f3X hz,hf⟩
theorem FX.run {rs:List ResK} {code:ACode} {fr:List AV} {st:St} {v:AV} {f:Nat} {fn:AFn} {as:List AV} (htb:tbl f=some fn) (he:fn.ext=none) (hl:as.length=fn.np) (hr:fn.results=rs) (hc:fn.code=code)
 (hfr:as++List.replicate (fn.nv - fn.np) .undef=fr) (h:FX tbl rs code fr st v):∃ n st',e8 tbl n f as st=some (v,st'):=by
 obtain ⟨⟨e,fr',st1⟩,s,⟨n,h1⟩,h2⟩:=h
 refine ⟨n+1,s,?_⟩
 unfold e8
 rw [htb]
 dsimp only
 rw [he]
 dsimp only
 unfold AFn.run
 rw [if_pos hl,hc,hfr,h1,hr]
 cases e with
 | exit i=>cases h2
 | normal=>exact h2
 | ret=>exact h2
end
end Go.Cb.G
/-
 THE ABSTRACT MACHINE, part 54: functions told otherwise: where a quick function answers what a function of the table answers, it may stand for it.
-/
set_option linter.unusedVariables false
namespace Go.Cb.G
open Go Go.Cb
abbrev X1:=List AV→St→Option (AV×St)
noncomputable def a0F (es:List (Nat×X1)) (f:Nat):Option X1:=List.rec (motive:=fun _=>Option X1) none (fun p _ ih=>match Nat.beq p.1 f with|true=>some p.2|false=>ih) es
noncomputable def ovr (es:List (Nat×X1)) (tbl:Nat→Option AFn):Nat→Option AFn:=fun f=>match a0F es f with
 | some e=>some { np:=0,nv:=0,results:=[],code:=.skip,ext:=some e }
 | none=>tbl f
end Go.Cb.G
/-
 THE ABSTRACT MACHINE, part 55: a run makes but finitely many calls: where each of them comes to an answer, so does the run.
-/
set_option maxRecDepth 4000
set_option linter.unusedVariables false
namespace Go.Cb.G
open Go Go.Cb
def Cov (tbl:Nat→Option AFn) (c:b7):Prop:=∀ f as st r,c f as st=some r→∃ m,e8 tbl m f as st=some r
section
variable {tbl:Nat→Option AFn} {c:b7} (h:Cov tbl c)
include h
theorem a1c {f:Nat} {as:List AV} {b:AV} {st:St} {r:AV×AV×St} (hs:k5 f c as b st=some r):∃ m,∀ k,m≤k→k5 f (e8 tbl k) as b st=some r:=by
 unfold k5 at hs
 split at hs
 · rename_i hp
   obtain ⟨x,hx,rfl⟩:=Option.map_eq_some_iff.1 hs
   obtain ⟨m,hm⟩:=h _ _ _ _ hx
   refine ⟨m,fun k hk=>?_⟩
   unfold k5
   rw [if_pos hp,p6 hk _ _ _ _ hm]
   rfl
 · cases hs
theorem c3e {k:Kind} {as:List AV} {b:AV} {st:St} {r:AV×AV×St} (hs:sem k c as b st=some r):∃ m,∀ n,m≤n→sem k (e8 tbl n) as b st=some r:=by
 cases k
 case call f=>exact a1c h hs
 case callA f m =>
  simp only [sem,n4] at hs ⊢
  cases hc:k5 f c (as.take m) b st with
  | none=>rw [hc] at hs; cases hs
  | some x =>
   rw [hc] at hs
   obtain ⟨k,hk⟩:=a1c h hc
   exact ⟨k,fun n hn=>by rw [hk n hn]; exact hs⟩
 case callV =>
  simp only [sem] at hs ⊢
  unfold s5 at hs ⊢
  split at hs
  · split at hs
    · rename_i hp
      simp only [if_pos hp]
      obtain ⟨x,hx,rfl⟩:=Option.map_eq_some_iff.1 hs
      obtain ⟨m,hm⟩:=h _ _ _ _ hx
      exact ⟨m,fun n hn=>by rw [p6 hn _ _ _ _ hm]; rfl⟩
    · cases hs
  · cases hs
 all_goals exact ⟨0,fun _ _=>hs⟩
theorem a7X {o:AOper} {σ σ':Sig} (hs:n5 c o σ=some σ'):∃ m,∀ n,m≤n→n5 (e8 tbl n) o σ=some σ':=by
 obtain ⟨r,b',st',h1,rfl⟩:=i6 hs
 obtain ⟨m,hm⟩:=c3e h h1
 exact ⟨m,fun n hn=>W5 (hm n hn)⟩
theorem b0I {o:AOper} {σ σ':Sig} (hs:d9 c o σ=some σ'):∃ m,∀ n,m≤n→d9 (e8 tbl n) o σ=some σ':=by
 unfold d9 at hs ⊢
 split at hs
 · exact a7X h hs
 · split at hs
   · split at hs
     · rename_i hc; simp only [if_pos hc]; exact a7X h hs
     · rename_i hc; exact ⟨0,fun _ _=>by rw [if_neg hc]; exact hs⟩
   · exact ⟨0,fun _ _=>hs⟩
   · cases hs
theorem X6:∀ {os:List AOper} {σ σ':Sig},e9 c os σ=some σ'→∃ m,∀ n,m≤n→e9 (e8 tbl n) os σ=some σ'
 | [],_,_,hs=>⟨0,fun _ _=>hs⟩
 | o::os,σ,σ',hs=>by
  simp only [e9] at hs
  cases hq:d9 c o σ with
  | none=>simp [hq] at hs
  | some σ1 =>
   simp only [hq] at hs
   obtain ⟨m1,h1⟩:=b0I h hq
   obtain ⟨m2,h2⟩:=X6 hs
   refine ⟨max m1 m2,fun n hn=>?_⟩
   simp only [e9]
   rw [h1 n (by omega)]
   exact h2 n (by omega)
omit h in
theorem a8x {body:List AV→St→Option Out} {body':Nat→List AV→St→Option Out} (hmono:∀ {n m:Nat} {fr st r},n≤m→body' n fr st=some r→body' m fr st=some r) (hb:∀ fr st r,body fr st=some r→∃ m,body' m fr st=some r) :
 ∀ {n:Nat} {fr:List AV} {st:St} {r:Out},z9 body n fr st=some r→∃ m,∀ k,m≤k→z9 (body' k) k fr st=some r
 | 0,_,_,_,hs=>by simp [z9] at hs
 | n+1,fr,st,r,hs=>by
  simp only [z9] at hs
  cases hq:body fr st with
  | none=>simp [hq] at hs
  | some o =>
   rw [hq] at hs
   obtain ⟨m1,h1⟩:=hb _ _ _ hq
   obtain ⟨e,fr1,st1⟩:=o
   cases e with
   | normal =>
    obtain ⟨m2,h2⟩:=a8x (body:=body) (body':=body') (fun hle hh=>hmono hle hh) hb (n:=n) hs
    refine ⟨max m1 m2+1,fun k hk=>?_⟩
    obtain ⟨k,rfl⟩:∃ j,k=j+1:=⟨k - 1,by omega⟩
    simp only [z9]
    rw [hmono (m:=k+1) (by omega) h1]
    exact V4 (fun _ _ _ hh=>hmono (Nat.le_succ k) hh) (Nat.le_refl k) (h2 k (by omega))
   | exit id=>exact ⟨m1+1,fun k hk=>by obtain ⟨k,rfl⟩:∃ j,k=j+1:=⟨k - 1,by omega⟩; simp only [z9]; rw [hmono (m:=k+1) (by omega) h1]; exact hs⟩
   | ret=>exact ⟨m1+1,fun k hk=>by obtain ⟨k,rfl⟩:∃ j,k=j+1:=⟨k - 1,by omega⟩; simp only [z9]; rw [hmono (m:=k+1) (by omega) h1]; exact hs⟩
theorem z6 {n:Nat}:∀ {x:ACode} {fr:List AV} {st:St} {r:Out},d8 c n x fr st=some r→∃ m,∀ k,m≤k→d8 (e8 tbl k) k x fr st=some r
 | .skip,_,_,_,hs=>⟨0,fun _ _=>hs⟩
 | .exit _,_,_,_,hs=>⟨0,fun _ _=>hs⟩
 | .ret,_,_,_,hs=>⟨0,fun _ _=>hs⟩
 | .reg kill ops,fr,st,r,hs=>by
  simp only [d8] at hs ⊢
  cases hq:e9 c ops ⟨i5 kill fr,fun _=>.undef,st⟩ with
  | none=>simp [hq] at hs
  | some σ =>
   rw [hq] at hs
   obtain ⟨m,hm⟩:=X6 h hq
   exact ⟨m,fun k hk=>by rw [hm k hk]; exact hs⟩
 | .test kill ops x a b,fr,st,r,hs=>by
  rw [S9,H9] at hs
  cases hq:e9 c ops ⟨i5 kill fr,fun _=>.undef,st⟩ with
  | none=>rw [hq] at hs; cases hs
  | some σ =>
   rw [hq] at hs
   obtain ⟨m,hm⟩:=X6 h hq
   rw [j4] at hs
   unfold br at hs
   have fin:∀ z:ACode,(∃ m2,∀ k,m2≤k→d8 (e8 tbl k) k z σ.fr σ.st=some r)→(∀ k:Nat,br (x.read σ) (d8 (e8 tbl k) k a σ.fr σ.st) (d8 (e8 tbl k) k b σ.fr σ.st)=d8 (e8 tbl k) k z σ.fr σ.st)→∃ m3,∀ k,m3≤k→d8 (e8 tbl k) k (.test kill ops x a b) fr st=some r:=fun z hz he=>by
    obtain ⟨m2,h2⟩:=hz
    refine ⟨max m m2,fun k hk=>?_⟩
    rw [S9,H9,hm k (by omega),j4,he]
    exact h2 k (by omega)
   split at hs
   · rename_i hx; exact fin a (z6 hs) fun k=>by rw [hx]; rfl
   · rename_i hx; exact fin b (z6 hs) fun k=>by rw [hx]; rfl
   · cases hs
 | .either kill a b,fr,st,r,hs=>by
  simp only [d8] at hs
  obtain ⟨oa,ob,ea,eb,ka,kb⟩:=Y5 hs
  obtain ⟨m1,h1⟩:=z6 ea
  obtain ⟨m2,h2⟩:=z6 eb
  refine ⟨max m1 m2,fun k hk=>?_⟩
  simp only [d8]
  rw [h1 k (by omega),h2 k (by omega),a3n (ka.trans kb.symm),ka]
 | .seq a b,fr,st,r,hs=>by
  rw [exec_seqK] at hs
  cases hq:d8 c n a fr st with
  | none=>rw [hq] at hs; cases hs
  | some o =>
   rw [hq] at hs
   obtain ⟨m1,h1⟩:=z6 hq
   obtain ⟨e,fr1,st1⟩:=o
   cases e with
   | normal =>
    obtain ⟨m2,h2⟩:=z6 (x:=b) hs
    exact ⟨max m1 m2,fun k hk=>by rw [exec_seqK,h1 k (by omega)]; exact h2 k (by omega)⟩
   | exit id=>exact ⟨m1,fun k hk=>by rw [exec_seqK,h1 k hk]; exact hs⟩
   | ret=>exact ⟨m1,fun k hk=>by rw [exec_seqK,h1 k hk]; exact hs⟩
 | .blk id a,fr,st,r,hs=>by
  simp only [d8] at hs ⊢
  cases hq:d8 c n a fr st with
  | none=>rw [hq] at hs; cases hs
  | some o =>
   rw [hq] at hs
   obtain ⟨m1,h1⟩:=z6 hq
   exact ⟨m1,fun k hk=>by rw [h1 k hk]; exact hs⟩
 | .loop a,fr,st,r,hs=>by
  simp only [d8] at hs ⊢
  refine a8x (body':=fun k fr st=>d8 (e8 tbl k) k a fr st) (fun hle hh=>l9 (p6 hle) hle hh) (fun fr st r hh=>?_) hs
  obtain ⟨m,hm⟩:=z6 hh
  exact ⟨m,hm m (Nat.le_refl _)⟩
theorem c2o {n:Nat} {fn:AFn} {args:List AV} {st:St} {r:AV×St} (hs:fn.run c n args st=some r):∃ m,fn.run (e8 tbl m) m args st=some r:=by
 have hl:args.length=fn.np:=by
  unfold AFn.run at hs
  split at hs
  · assumption
  · cases hs
 rw [P6 _ _ _ _ _ hl] at hs
 cases hq:d8 c n fn.code (args++List.replicate (fn.nv - fn.np) .undef) st with
 | none=>rw [hq] at hs; cases hs
 | some o =>
  rw [hq] at hs
  obtain ⟨m,hm⟩:=z6 h hq
  exact ⟨m,by rw [P6 _ _ _ _ _ hl,hm m (Nat.le_refl _)]; exact hs⟩
end
theorem b0k {tbl:Nat→Option AFn} {es:List (Nat×X1)} (h:∀ f e,a0F es f=some e→∀ as st r,e as st=some r→∃ m,e8 tbl m f as st=some r):∀ n,Cov tbl (e8 (ovr es tbl) n)
 | 0,_,_,_,_,hs=>by simp [e8] at hs
 | n+1,f,as,st,r,hs=>by
  unfold e8 at hs
  unfold ovr at hs
  cases hl:a0F es f with
  | some e=>rw [hl] at hs; exact h f e hl as st r hs
  | none =>
   rw [hl] at hs
   dsimp only at hs
   cases ht:tbl f with
   | none=>rw [ht] at hs; cases hs
   | some fn =>
    rw [ht] at hs
    dsimp only at hs
    cases he:fn.ext with
    | some e =>
     rw [he] at hs
     exact ⟨1,by unfold e8; rw [ht]; dsimp only; rw [he]; exact hs⟩
    | none =>
     rw [he] at hs
     dsimp only at hs
     obtain ⟨m,hm⟩:=c2o (b0k h n) hs
     exact ⟨m+1,by unfold e8; rw [ht]; dsimp only; rw [he]; exact hm⟩
theorem FX.O {tbl:Nat→Option AFn} {es:List (Nat×X1)} (ho:∀ f e,a0F es f=some e→∀ as st r,e as st=some r→∃ m,e8 tbl m f as st=some r) {rs:List ResK} {code:ACode} {k:Nat} {fr:List AV} {st:St} {v:AV}
 (h:b5h (fin rs (d8 (callG (ovr es tbl) k) k code fr st))=some v):FX tbl rs code fr st v:=by
 cases hz:d8 (callG (ovr es tbl) k) k code fr st with
 | none=>rw [hz] at h; cases h
 | some o =>
  rw [hz] at h
  cases hf:fin rs (some o) with
  | none=>rw [hf] at h; cases h
  | some p =>
   obtain ⟨w,s⟩:=p
   rw [hf] at h
   cases (show some w=some v from h)
   have hc:Cov tbl (callG (ovr es tbl) k):=fun f as st r hs=>b0k ho k f as st r (X5 k _ _ _ _ hs)
   obtain ⟨m,hm⟩:=z6 hc hz
   exact ⟨o,s,⟨m,hm m (Nat.le_refl _)⟩,hf⟩
end Go.Cb.G
