import Derived.Test.YtbibkdncfclnbaaGreatDoorXAms3
set_option maxRecDepth 4000
set_option linter.all false
namespace Go.Cb.G
open Go Go.Cb
abbrev RO:=Option (AV×Fr×St)
abbrev Rd:=List AV→Fr→(AV→RO)→RO
inductive Src where
 | w (l:Nat)|s (l:Nat)|d (l:Nat)|k (a:AV)|q (a:AV)
abbrev Scope:=List (Nat×Src)
noncomputable def J9 (s:Nat) (sc:Scope):Option Src:=List.rec (motive:=fun _=>Option Src) none (fun p _ e=>Prod.rec (motive:=fun _=>Option Src) (fun t x=>Bool.rec (motive:=fun _=>Option Src) e (some x) (Nat.beq t s)) p) sc
theorem a3R (s t:Nat) (x:Src) (sc:Scope):J9 s ((t,x)::sc)=if t=s then some x else J9 s sc:=by
 show Bool.rec (motive:=fun _=>Option Src) (J9 s sc) (some x) (Nat.beq t s)=_;by_cases h:t=s
 · rw[if_pos h,show Nat.beq t s=true by simpa using h]
 · rw[if_neg h,show Nat.beq t s=false from Bool.eq_false_iff.2 fun q=>h (Nat.eq_of_beq_eq_true q)]
def lv (env:List AV) (l:Nat):Option AV:=env.reverse[l]?
theorem d3U {env:List AV} {l:Nat} {a:AV} (x:AV) (h:lv env l=some a):lv (x::env) l=some a:=by
 unfold lv at *
 rw[List.reverse_cons,List.getElem?_append_left (by
  rcases Nat.lt_or_ge l env.reverse.length with q|q
  · exact q
  · rw[List.getElem?_eq_none q]at h; cases h)]
 exact h
theorem b78 (x:AV) (env:List AV):lv (x::env) env.length=some x:=by unfold lv;rw[List.reverse_cons,List.getElem?_append_right (by simp)];simp
theorem b0N {env:List AV} {l d:Nat} {a:AV} (e:env.length=d) (h:lv env l=some a):env[d - 1 - l]?=some a:=by
 unfold lv at h;have t:l < env.length:=by
  rcases Nat.lt_or_ge l env.reverse.length with q|q
  · simpa using q
  · rw[List.getElem?_eq_none q]at h; cases h
 rw[List.getElem?_reverse t,e]at h;exact h
def SrcOK (env:List AV) (v:AV):Src→Prop
 | .w l=>∃ a,lv env l=some a∧v.weak=a
 | .s l=>∃ a,lv env l=some a∧v=a
 | .d l=>∃ a,lv env l=some a∧v.weak=a.weak
 | .k a=>v=a
 | .q a=>v.weak=a
theorem SrcOK.push {env:List AV} {v:AV} {x:Src} (y:AV) (h:SrcOK env v x):SrcOK (y::env) v x:=by cases x<;>simp only[SrcOK]at*<;> first|exact h|(obtain⟨a,e,l⟩:=h; exact⟨a,d3U y e,l⟩)
structure Ag (nv dep:Nat) (sc:Scope) (env:List AV) (fr:Fr) (σ:Sig):Prop where
 f:σ.fr=toL nv fr
 d:env.length=dep
 nb:∀ s,(σ.τ s).stripB=σ.τ s
 t:∀ s x,J9 s sc=some x→SrcOK env (σ.τ s) x
noncomputable def d13 (x:AV) (y z:RO):RO:=AV.rec (motive_1:=fun _=>RO) (motive_2:=fun _=>Unit) (motive_3:=fun _=>Unit)
 z (fun _=>z) (fun _ _=>z) (fun _=>z) (fun _ _ _=>z) (fun _ _=>z) z (fun _ _=>z) (fun _ _=>z) (fun _ _=>y) (fun _=>z) z (fun _ _ _ _ _=>z) z (fun _ _=>z) (fun _ _=>z) (fun _ _ _=>z) z (fun _ _ _ _=>z) (fun _ _=>z) z
 () (fun _ _ _ _=>()) () (fun _ _ _ _=>()) x
noncomputable def c2p (i:Nat) (x:AV) (k:AV→RO):RO:=d13 x (k (.loc i 0)) (k .undef)
theorem c4O (i:Nat) (x:AV) (k:AV→RO):c2p i x k=k (match x with|.box _=>.loc i 0|_=>.undef):=by cases x<;>rfl
section
variable {β:Type}
noncomputable def rdK (nv u:Nat) (sc:Scope) (x:Opd) (e:β) (Q:Rd→β):β :=
 match x with
 | .t s=>match J9 s sc with
  | some (.w l)=>b5c (u - 1 - l) fun r=>Q fun env _ k=>r env k
  | some (.s l)|some (.d l)=>b5c (u - 1 - l) fun r=>Q fun env _ k=>r env fun x=>qWk x k
  | some (.k a)=>Q fun _ _ k=>k a.weak
  | some (.q a)=>Q fun _ _ k=>k a
  | none=>e
 | .ts s=>match J9 s sc with
  | some (.s l)=>b5c (u - 1 - l) fun r=>Q fun env _ k=>r env k
  | some (.k a)=>Q fun _ _ k=>k a
  | _=>e
 | .v i=>match Nat.blt i nv with
  | true=>a4x i e fun g=>Q fun _ fr k=>g fr fun x=>qWk x k
  | false=>e
 | .vs i=>match Nat.blt i nv with
  | true=>a4x i e fun g=>Q fun _ fr k=>g fr k
  | false=>e
 | .l i=>match Nat.blt i nv with
  | true=>a4x i e fun g=>Q fun _ fr k=>g fr fun x=>c2p i x k
  | false=>e
 | .c a=>Q fun _ _ k=>k a
def d0c (nv e:Nat) (sc:Scope) (x:Opd) (r:Rd):Prop:=∀ env fr σ,Ag nv e sc env fr σ→∀ k,r env fr k=k (x.read σ)
theorem Z1 {i n:Nat} (h:Nat.blt i n=true):i < n:=by simpa using h
theorem a7n {G:β→Prop} {nv M:Nat} {sc:Scope} {x:Opd} {e:β} {Q:Rd→β} (T:nv≤64) (z:G e) (h:∀ r,d0c nv M sc x r→G (Q r)):G (rdK nv M sc x e Q):=by
 unfold rdK;cases x with
 | t s =>
  dsimp only;cases C:J9 s sc with
  | none=>exact z
  | some y =>
   cases y with
   | w l =>
    refine a1m _ fun r L=>h _ fun env fr σ u k=>?_
    obtain⟨a,I,J⟩:=u.t _ _ C;show r env k=_;rw[L,b0N u.d I,← J]; rfl
   | s l =>
    refine a1m _ fun r L=>h _ fun env fr σ u k=>?_
    obtain⟨a,I,J⟩:=u.t _ _ C;show r env _=_;rw[L,b0N u.d I];show qWk a k=_;rw[a2M,← J]; rfl
   | d l =>
    refine a1m _ fun r L=>h _ fun env fr σ u k=>?_
    obtain⟨a,I,J⟩:=u.t _ _ C;show r env _=_;rw[L,b0N u.d I];show qWk a k=_;rw[a2M,← J]; rfl
   | k a =>
    refine h _ fun env fr σ u k=>?_
    have:=u.t _ _ C;show k a.weak=k (σ.τ s).weak;rw[show σ.τ s=a from this]
   | q a =>
    refine h _ fun env fr σ u k=>?_
    have:=u.t _ _ C;show k a=k (σ.τ s).weak;rw[show(σ.τ s).weak=a from this]
 | ts s =>
  dsimp only;cases C:J9 s sc with
  | none=>exact z
  | some y =>
   cases y with
   | s l =>
    refine a1m _ fun r L=>h _ fun env fr σ u k=>?_
    obtain⟨a,I,J⟩:=u.t _ _ C;show r env k=_;rw[L,b0N u.d I,← J]; rfl
   | k a =>
    refine h _ fun env fr σ u k=>?_
    have:=u.t _ _ C;show k a=k (σ.τ s);rw[show σ.τ s=a from this]
   | _=>exact z
 | v i =>
  dsimp only;cases N:Nat.blt i nv with
  | false=>exact z
  | true =>
   have hi:=Z1 N;refine Q5 (by omega) z fun g O=>h _ fun env fr σ u k=>?_
   show g fr (fun x=>qWk x k)=k (σ.fr.getD i .undef).weak;rw[O,a2M,u.f,S5 hi]
 | vs i =>
  dsimp only;cases N:Nat.blt i nv with
  | false=>exact z
  | true =>
   have hi:=Z1 N;refine Q5 (by omega) z fun g O=>h _ fun env fr σ u k=>?_
   show g fr k=k (σ.fr.getD i .undef);rw[O,u.f,S5 hi]
 | l i =>
  dsimp only;cases N:Nat.blt i nv with
  | false=>exact z
  | true =>
   have hi:=Z1 N;refine Q5 (by omega) z fun g O=>h _ fun env fr σ u k=>?_
   show g fr (fun x=>c2p i x k)=_;rw[O,c4O];show _=k (match σ.fr.getD i .undef with|.box _=>.loc i 0|_=>.undef);rw[u.f,S5 hi]
 | c a=>exact h _ fun _ _ _ _ _=>rfl
def rdL (nv l:Nat) (sc:Scope) (rd:Opd→β→(Rd→β)→β):List Opd→β→(List Rd→β)→β
 | [],_,Q=>Q []
 | x::xs,e,Q=>rd x e fun r=>rdL nv l sc rd xs e fun rs=>Q (r::rs)
def b0H (nv e:Nat) (sc:Scope):List Opd→List Rd→Prop
 | [],[]=>True
 | x::xs,r::rs=>d0c nv e sc x r∧b0H nv e sc xs rs
 | _,_=>False
theorem b1u {G:β→Prop} {nv l:Nat} {sc:Scope} (u:nv≤64):∀ {xs:List Opd} {e:β} {Q:List Rd→β},G e→(∀ rs,b0H nv l sc xs rs→G (Q rs))→G (rdL nv l sc (fun x e Q=>rdK nv l sc x e Q) xs e Q)
 | [],e,Q,he,h=>h [] trivial
 | x::xs,e,Q,he,h=>by unfold rdL;exact a7n u he fun r v=>b1u u he fun rs t=>h _ ⟨v,t⟩
end
def a3b:List Rd→List AV→Fr→(List AV→RO)→RO
 | [],_,_,k=>k []
 | r::rs,env,fr,k=>r env fr fun x=>a3b rs env fr fun xs=>k (x::xs)
theorem a2z {nv e:Nat} {sc:Scope} {env:List AV} {fr:Fr} {σ:Sig} (l:Ag nv e sc env fr σ):∀ {xs:List Opd} {rs:List Rd} {k:List AV→RO},b0H nv e sc xs rs→a3b rs env fr k=k (xs.map (·.read σ))
 | [],[],k,_=>rfl
 | x::xs,r::rs,k,h=>by show r env fr _=_;rw[h.1 env fr σ l,a2z l h.2];rfl
 | [],_::_,_,h=>h.elim
 | _::_,[],_,h=>h.elim
section
variable {β:Type}
abbrev RdA:=List AV→Fr→(List AV→RO)→RO
noncomputable def b6D (rs:List Rd) (Q:RdA→β):β:=List.rec (motive:=fun _=>(RdA→β)→β) (fun Q=>Q fun _ _ k=>k []) (fun r _ e Q=>e fun l=>Q fun env fr k=>r env fr fun x=>l env fr fun xs=>k (x::xs)) rs Q
theorem a2Y {G:β→Prop}:∀ {rs:List Rd} {Q:RdA→β},(∀ l:RdA,(∀ env fr k,l env fr k=a3b rs env fr k)→G (Q l))→G (b6D rs Q)
 | [],Q,h=>h _ fun _ _ _=>rfl
 | r::rs,Q,h=>a2Y (rs:=rs) fun l e=>h _ fun env fr k=>by show r env fr _=r env fr _;congr;funext x;exact e _ _ _
abbrev KF:=d8→List AV→Fr→AV→St→(AV→AV→St→RO)→RO
def b9n (kd:Kind) (rs:List Rd) (e:KF):Prop:=∀ c env fr b s K,e c env fr b s K=a3b rs env fr fun as=>obind (sem kd c as b s) fun p=>K p.1 p.2.1 p.2.2
theorem B0 {kd:Kind} (t:kd.setSt=false) (u:kd.alters=false) (c:d8) (as:List AV) (b:AV) (s:St) (K:AV→AV→St→RO):obind (p1 (sem kd c as b s)) (fun r=>K r b s)=obind (sem kd c as b s) fun p=>K p.1 p.2.1 p.2.2:=by
 cases e:sem kd c as b s with
 | none=>rfl
 | some p =>obtain⟨r,b',s'⟩:=p;have l:=a4V t e;have e2:=a3W u e;subst l e2;rfl
theorem a4s {kd:Kind} (e:kd.alters=false) (c:d8) (as:List AV) (b:AV) (s:St) (K:AV→AV→St→RO):obind (p2 (sem kd c as b s)) (fun r=>K r.1 b r.2)=obind (sem kd c as b s) fun p=>K p.1 p.2.1 p.2.2:=by
 cases l:sem kd c as b s with
 | none=>rfl
 | some p =>obtain⟨r,b',s'⟩:=p;have e2:=a3W e l;subst e2;rfl
noncomputable def b2P (c:d8) (s:St) (K:AV→St→RO) (i:Nat) (xs:List AV):RO:=a7H xs fun ws=>c1C (c i ws s) fun v s=>K v s
noncomputable def b5q (c:d8) (b:AV) (s:St) (f:AV→RO) (g:Bool) (d:Nat) (x:AV):RO:=b0F x (obind (p1 (sem (.ldAn g d) c [x] b s)) f) (fun o i=>a7I s f g d (.ptr o i)) (fun cs=>a7Y f g d (.ro cs)) (fun _ _=>obind (p1 (sem (.ldAn g d) c [x] b s)) f)
theorem b9H (c:d8) (b:AV) (s:St) (f:AV→RO) (g:Bool) (d:Nat) (x:AV):b5q c b s f g d x=obind (p1 (sem (.ldAn g d) c [x] b s)) f:=by
 unfold b5q;rw[a7x];cases x<;>try rfl
 · rename_i o i;show a7I s f g d (.ptr o i)=_;rw[b2y c b s]; rfl
 · rename_i cs;show a7Y f g d (.ro cs)=_;rw[b2i c b s]; rfl
noncomputable def c06 {β:Type} (l:List β) (x:β) (k:List β→RO):RO:=Nat.rec (motive:=fun _=>List β→(List β→RO)→RO) (fun l k=>a6M l [x] k) (fun _ e l k=>a4r l (k (l++[x])) e k) (Nat.div (M8 l) 8) l k
theorem b39 {β:Type} (x:β):∀ (q:Nat) (l:List β) (k:List β→RO),Nat.rec (motive:=fun _=>List β→(List β→RO)→RO) (fun l k=>a6M l [x] k) (fun _ e l k=>a4r l (k (l++[x])) e k) q l k=k (l++[x])
 | 0,l,k=>a6o [x] l k
 | q+1,l,k=>by
  show a4r l (k (l++[x])) (fun l k=>Nat.rec (motive:=fun _=>List β→(List β→RO)→RO) (fun l k=>a6M l [x] k) (fun _ e l k=>a4r l (k (l++[x])) e k) q l k) k=_;rw[b3J];split
  · rw[b39 x q (l.drop 8),← AX,List.take_append_drop]
  · rfl
theorem b4z {β:Type} (l:List β) (x:β) (k:List β→RO):c06 l x k=k (l++[x]):=b39 x _ l k
noncomputable def b47 (s:St) (f:AV×St→RO) (x:AV):RO:=plB x (fL x.cellsW fun cs=>a4B (M8 s) fun n=>c06 s (.cells cs) fun s'=>f (.ptr n 0,s'))
theorem c0k (c:d8) (b:AV) (s:St) (f:AV×St→RO) (x:AV):b47 s f x=obind (p2 (sem .boxO c [x] b s)) f:=by simp only[b47,a7O,fL_eq,a02,J8,b4z,sem,X6];by_cases h:x.plain=true<;>simp[h,obind,p2]
noncomputable def a6q (s:St) (f:AV×St→RO) (z:List AV):RO:=a4B (M8 s) fun n=>c06 s (.cells z) fun s'=>f (.ptr n 0,s')
theorem b6w (c:d8) (b:AV) (s:St) (f:AV×St→RO) (z:List AV):a6q s f z=obind (p2 (sem (.allocO z) c [] b s)) f:=by simp only[a6q,a02,J8,b4z,sem,N6];rfl
noncomputable def b2J (c:d8) (s:St) (K:AV→St→RO) (as:List AV):RO:=match as with
 | .func f a cs::xs=>a7H xs fun _=>c1C (c f ((a++xs++cs).map AV.weak) s) fun v s=>K v s
 | _=>none
noncomputable def c0l (kd:Kind) (e:RdA) (Q:KF→β):β:=match kd.alters with
 | true=>Q fun c env fr b s K=>e env fr fun as=>obind (sem kd c as b s) fun p=>a3m p.1 fun r=>a3m p.2.1 fun b=>fL p.2.2 fun s=>K r b s
 | false=>match kd.setSt with
  | true=>Q fun c env fr b s K=>e env fr fun as=>obind (p2 (sem kd c as b s)) fun p=>a3m p.1 fun r=>fL p.2 fun s=>K r b s
  | false=>Q fun c env fr b s K=>e env fr fun as=>obind (p1 (sem kd c as b s)) fun x=>a3m x fun r=>K r b s
noncomputable def b6j (kd:Kind) (rs:List Rd) (Q:KF→β):β :=
 match kd,rs with
 | .mv,[x]=>Q fun c env fr b s K=>x env fr fun x=>K x b s
 | .bin .eql,[x,y]=>Q fun c env fr b s K=>x env fr fun x=>y env fr fun y=>c0a (fun r=>K r b s) x y
 | .bin .neq,[x,y]=>Q fun c env fr b s K=>x env fr fun x=>y env fr fun y=>c2l (fun r=>K r b s) x y
 | .bin .lss,[x,y]=>Q fun c env fr b s K=>x env fr fun x=>y env fr fun y=>a3s c b s (fun r=>K r b s) .lss Nat.blt x y
 | .bin .leq,[x,y]=>Q fun c env fr b s K=>x env fr fun x=>y env fr fun y=>a3s c b s (fun r=>K r b s) .leq Nat.ble x y
 | .bin .gtr,[x,y]=>Q fun c env fr b s K=>x env fr fun x=>y env fr fun y=>a3s c b s (fun r=>K r b s) .gtr (fun i j=>Nat.blt j i) x y
 | .bin .geq,[x,y]=>Q fun c env fr b s K=>x env fr fun x=>y env fr fun y=>a3s c b s (fun r=>K r b s) .geq (fun i j=>Nat.ble j i) x y
 | .bin .add,[x,y]=>Q fun c env fr b s K=>x env fr fun x=>y env fr fun y=>c0j c b s (fun r=>K r b s) x y
 | .bin .sub,[x,y]=>Q fun c env fr b s K=>x env fr fun x=>y env fr fun y=>c2o c b s (fun r=>K r b s) x y
 | .un .not,[x]=>Q fun c env fr b s K=>x env fr fun x=>b95 (fun r=>K r b s) x
 | .nilchk,[x]=>Q fun c env fr b s K=>x env fr fun x=>b9p c b s (fun r=>K r b s) x
 | .lenS,[x]=>Q fun c env fr b s K=>x env fr fun x=>b5a (fun r=>K r b s) x
 | .lenL,[x]=>Q fun c env fr b s K=>x env fr fun x=>b6J c b s (fun r=>K r b s) x
 | .idxS,[x,y]=>Q fun c env fr b s K=>x env fr fun x=>y env fr fun y=>c0K (fun r=>K r b s) x y
 | .pick,[x,y,z]=>Q fun c env fr b s K=>x env fr fun x=>y env fr fun y=>z env fr fun z=>b5U (fun r=>K r b s) x y z
 | .fad d,[x]=>Q fun c env fr b s K=>x env fr fun x=>c0I (fun r=>K r b s) d x
 | .iad d,[x,y]=>Q fun c env fr b s K=>x env fr fun x=>y env fr fun y=>c2g c b s (fun r=>K r b s) d x y
 | .ldSt g d,[x]=>Q fun c env fr b s K=>x env fr fun x=>a7I s (fun r=>K r b s) g d x
 | .ldRo g d,[x]=>Q fun c env fr b s K=>x env fr fun x=>a7Y (fun r=>K r b s) g d x
 | .ldAn g d,[x]=>Q fun c env fr b s K=>x env fr fun x=>b5q c b s (fun r=>K r b s) g d x
 | .ldLc i g d,[x]=>Q fun c env fr b s K=>x env fr fun x=>b45 b (fun r=>K r b s) i g d x
 | .ext d,[x]=>Q fun c env fr b s K=>x env fr fun x=>c1r (fun r=>K r b s) d x
 | .slS true true,[x,y,z]=>Q fun c env fr b s K=>x env fr fun x=>y env fr fun y=>z env fr fun z=>b9Q c b s (fun r=>K r b s) x y z
 | .app d e,[x,y]=>Q fun c env fr b s K=>x env fr fun x=>y env fr fun y=>c1t b s (fun p=>K p.1 p.2.1 p.2.2) d e x y
 | .alloc d,[]=>Q fun c env fr b s K=>b0S b s (fun p=>K p.1 p.2.1 p.2.2) d
 | .stLc i d,[x,y]=>Q fun c env fr b s K=>x env fr fun x=>y env fr fun y=>b4S b s (fun p=>K p.1 p.2.1 p.2.2) i d x y
 | .stSt d,[x,y]=>Q fun c env fr b s K=>x env fr fun x=>y env fr fun y=>b6W s (fun p=>K p.1 b p.2) d x y
 | .boxO,[x]=>Q fun c env fr b s K=>x env fr fun x=>b47 s (fun p=>K p.1 b p.2) x
 | .allocO z,[]=>Q fun c env fr b s K=>a6q s (fun p=>K p.1 b p.2) z
 | .callV,rs=>b6D rs fun l=>Q fun c env fr b s K=>l env fr fun as=>b2J c s (fun v s=>K v b s) as
 | .call f,rs=>b6D rs fun l=>Q fun c env fr b s K=>l env fr fun as=>b2P c s (fun v s=>K v b s) f as
 | kd,rs=>b6D rs fun l=>c0l kd l Q
theorem b7y {G:β→Prop} {kd:Kind} {rs:List Rd} {u:RdA} {Q:KF→β} (e:∀ env fr k,u env fr k=a3b rs env fr k) (h:∀ t,b9n kd rs t→G (Q t)):G (c0l kd u Q):=by
 unfold c0l;cases l:kd.alters with
 | true=>exact h _ fun c env fr b s K=>by rw[e]; simp only[fNew_eq,fL_eq]
 | false =>
  cases v:kd.setSt with
  | true =>
   refine h _ fun c env fr b s K=>?_
   rw[e]; simp only[fNew_eq,fL_eq];congr; funext as;exact a4s l c as b s K
  | false =>
   refine h _ fun c env fr b s K=>?_
   rw[e]; simp only[fNew_eq];congr; funext as;exact B0 v l c as b s K
theorem U5 (x:Rd) (env:List AV) (fr:Fr) (k:List AV→RO):a3b [x] env fr k=x env fr fun x=>k [x]:=rfl
theorem P8 (x y:Rd) (env:List AV) (fr:Fr) (k:List AV→RO):a3b [x,y] env fr k=x env fr fun x=>y env fr fun y=>k [x,y]:=rfl
theorem b8B (x y z:Rd) (env:List AV) (fr:Fr) (k:List AV→RO):a3b [x,y,z] env fr k=x env fr fun x=>y env fr fun y=>z env fr fun z=>k [x,y,z]:=rfl
theorem b4Y {G:β→Prop} {kd:Kind} {rs:List Rd} {Q:KF→β} (h:∀ t,b9n kd rs t→G (Q t)):G (b6j kd rs Q):=by
 unfold b6j;split
 · exact h _ fun c env fr b s K=>rfl
 · exact h _ fun c env fr b s K=>by rw[P8]; congr; funext x; congr; funext y; rw[c4f c b s]; exact B0 rfl rfl ..
 · exact h _ fun c env fr b s K=>by rw[P8]; congr; funext x; congr; funext y; rw[c52 c b s]; exact B0 rfl rfl ..
 · exact h _ fun c env fr b s K=>by rw[P8]; congr; funext x; congr; funext y; rw[c8a c b s]; exact B0 rfl rfl ..
 · exact h _ fun c env fr b s K=>by rw[P8]; congr; funext x; congr; funext y; rw[c7G c b s]; exact B0 rfl rfl ..
 · exact h _ fun c env fr b s K=>by rw[P8]; congr; funext x; congr; funext y; rw[c94 c b s]; exact B0 rfl rfl ..
 · exact h _ fun c env fr b s K=>by rw[P8]; congr; funext x; congr; funext y; rw[d0v c b s]; exact B0 rfl rfl ..
 · exact h _ fun c env fr b s K=>by rw[P8]; congr; funext x; congr; funext y; rw[c5E c b s]; exact B0 rfl rfl ..
 · exact h _ fun c env fr b s K=>by rw[P8]; congr; funext x; congr; funext y; rw[c4J c b s]; exact B0 rfl rfl ..
 · exact h _ fun c env fr b s K=>by rw[U5]; congr; funext x; rw[c51 c b s]; exact B0 rfl rfl ..
 · exact h _ fun c env fr b s K=>by rw[U5]; congr; funext x; rw[c47 c b s]; exact B0 rfl rfl ..
 · exact h _ fun c env fr b s K=>by rw[U5]; congr; funext x; rw[c1B c b s]; exact B0 rfl rfl ..
 · exact h _ fun c env fr b s K=>by rw[U5]; congr; funext x; rw[b9A c b s]; exact B0 rfl rfl ..
 · exact h _ fun c env fr b s K=>by rw[P8]; congr; funext x; congr; funext y; rw[c5o c b s]; exact B0 rfl rfl ..
 · exact h _ fun c env fr b s K=>by rw[b8B]; congr; funext x; congr; funext y; congr; funext z; rw[c0L c b s]; exact B0 rfl rfl ..
 · exact h _ fun c env fr b s K=>by rw[U5]; congr; funext x; rw[c6i c b s]; exact B0 rfl rfl ..
 · exact h _ fun c env fr b s K=>by rw[P8]; congr; funext x; congr; funext y; rw[c40 c b s]; exact B0 rfl rfl ..
 · exact h _ fun c env fr b s K=>by rw[U5]; congr; funext x; rw[b2y c b s]; exact B0 rfl rfl ..
 · exact h _ fun c env fr b s K=>by rw[U5]; congr; funext x; rw[b2i c b s]; exact B0 rfl rfl ..
 · exact h _ fun c env fr b s K=>by rw[U5]; congr; funext x; rw[b9H c b s]; exact B0 rfl rfl ..
 · exact h _ fun c env fr b s K=>by rw[U5]; congr; funext x; rw[c1c c b s]; exact B0 rfl rfl ..
 · exact h _ fun c env fr b s K=>by rw[U5]; congr; funext x; rw[c5A c b s]; exact B0 rfl rfl ..
 · exact h _ fun c env fr b s K=>by rw[b8B]; congr; funext x; congr; funext y; congr; funext z; rw[c4M c b s]; exact B0 rfl rfl ..
 · exact h _ fun c env fr b s K=>by rw[P8]; congr; funext x; congr; funext y; exact c5b c b s ..
 · exact h _ fun c env fr b s K=>b7H c b s ..
 · exact h _ fun c env fr b s K=>by rw[P8]; congr; funext x; congr; funext y; exact c03 c b s ..
 · exact h _ fun c env fr b s K=>by rw[P8]; congr; funext x; congr; funext y; rw[c1W c b s]; exact a4s rfl ..
 · exact h _ fun c env fr b s K=>by rw[U5]; congr; funext x; rw[c0k c b s]; exact a4s rfl ..
 · exact h _ fun c env fr b s K=>by show a6q s (fun p=>K p.1 b p.2) _=_; rw[b6w c b s]; exact a4s rfl ..
 · refine a2Y fun u e=>h _ fun c env fr b s K=>?_
   rw[e];congr; funext as;show b2J c s (fun v s=>K v b s) as=_;unfold b2J;simp only[sem,L9];split
   · rename_i f a cs xs;rw[a5e];dsimp only;split
     · rw[b34];cases c f ((a++xs++cs).map AV.weak) s<;>rfl
     · rfl
   · rename_i l;split
     · rename_i f a cs xs;exact absurd rfl (l f a cs xs)
     · rfl
 · refine a2Y fun u e=>h _ fun c env fr b s K=>?_
   rw[e];congr; funext as;show b2P c s (fun v s=>K v b s) _ as=_;unfold b2P;rw[a5e];simp only[sem,p8];split
   · rw[b34];cases c _ (as.map AV.weak) s<;>rfl
   · rfl
 · exact a2Y fun u e=>b7y e h
end
end Go.Cb.G
namespace Go.Cb.G
open Go Go.Cb
inductive Clo where
 | mk (f:d8→List AV→Fr→St→RO)
noncomputable def Clo.run (x:Clo):d8→List AV→Fr→St→RO:=Clo.rec (motive:=fun _=>d8→List AV→Fr→St→RO) (fun f=>f) x
noncomputable def a1w:Clo:=.mk fun _ _ _ _=>none
abbrev OpF:=d8→List AV→Fr→St→(List AV→Fr→St→RO)→RO
abbrev CF:=d8→List AV→Fr→St→(AV→Fr→St→RO)→RO
section
variable {β:Type}
noncomputable def a5m:List Opd→Scope→Scope
 | [],sc=>sc
 | .ts s::xs,sc=>a5m xs (match J9 s sc with
  | some (.s l)=>(s,.d l)::sc
  | some (.k a)=>(s,.q a.weak)::sc
  | _=>sc)
 | _::xs,sc=>a5m xs sc
noncomputable def a3G (nv:Nat):List Opd→β→((Fr→(Fr→RO)→RO)→β)→β
 | [],_,Q=>Q fun fr k=>k fr
 | .vs i::xs,e,Q=>match Nat.blt i nv with
  | true=>a4x i e fun g=>a9A i e fun p=>a3G nv xs e fun r=>Q fun fr k=>g fr fun x=>qWk x fun x=>p x fr fun fr=>r fr k
  | false=>e
 | _::xs,e,Q=>a3G nv xs e Q
def b5s:List Opd→Bool
 | []=>false
 | .vs _::_=>true
 | _::xs=>b5s xs
noncomputable def b5G (nv:Nat) (kd:Kind) (args:List Opd) (box:Option Nat) (l:KF) (e:β) (Q:CF→β):β :=
 match b5s args,box with
 | false,none=>Q fun c env fr st K=>l c env fr .undef st fun r _ s=>K r fr s
 | true,none=>a3G nv args e fun t=>Q fun c env fr st K=>l c env fr .undef st fun r _ s=>t fr fun fr=>K r fr s
 | vs,some i=>match Nat.blt i nv with
  | false=>e
  | true=>a4x i e fun g=>match kd.alters || vs with
   | false=>Q fun c env fr st K=>g fr fun b=>l c env fr b st fun r _ s=>K r fr s
   | true=>a3G nv args e fun t=>a9A i e fun p=>Q fun c env fr st K=>g fr fun b=>l c env fr b st fun r b s=>t fr fun fr=>p b fr fun fr=>K r fr s
abbrev PF:=AV→List AV→Fr→St→(List AV→Fr→St→RO)→RO
def b98 (x:Nat):List Nat→Bool
 | []=>false
 | y::ys=>Nat.beq x y || b98 x ys
noncomputable def c2m (nv l:Nat) (u:List Nat) (d:Dst) (sc:Scope) (e:β) (Q:PF→Nat→Scope→β):β :=
 match d with
 | .t s=>match b98 s u with
  | true=>Q (fun r env fr s k=>qSb r fun v _=>k (v::env) fr s) (l+1) ((s,.s l)::sc)
  | false=>Q (fun r env fr s k=>qSb r fun _ w=>k (w::env) fr s) (l+1) ((s,.w l)::sc)
 | .v i=>match Nat.blt i nv with
  | true=>a9A i e fun p=>Q (fun r env fr s k=>qSv r fun v _=>p v fr fun fr=>k env fr s) l sc
  | false=>e
 | _=>Q (fun r env fr s k=>k env fr s) l sc
noncomputable def qGd (q:AV) (w:Bool) (x y:RO):RO:=c8G q none (fun v=>bW v w x y) (fun vs=>List.rec (motive:=fun _=>RO) y (fun _ _ _=>none) vs)
theorem c8J (q:AV) (w:Bool) (x y:RO):qGd q w x y=match q with|.bool b=>if b == w then x else y|.tuple []=>y|_=>none:=by
 simp only[qGd,c5L,d2U];cases q<;>try rfl
 rename_i vs; cases vs<;>rfl
def a9v (o:AOper):Option (Nat×Opd):=match o with
 | ⟨.t s,.mv,[.t s'],none,none⟩=>some (s,.t s')
 | ⟨.t s,.mv,[.c a],none,none⟩=>some (s,.c a)
 | _=>none
noncomputable def opK (nv u:Nat) (sc:Scope) (I:List Nat) (o:AOper) (e:β) (y:Scope→β) (Q:OpF→Nat→Scope→β):β :=
 match a9v o with
 | some (s,.t s')=>match J9 s' sc with
  | some (.w l)=>y ((s,.w l)::sc)
  | some (.s l)|some (.d l)=>y ((s,.d l)::sc)
  | some (.k a)=>y ((s,.q a.weak)::sc)
  | some (.q a)=>y ((s,.q a)::sc)
  | none=>e
 | some (s,.c a)=>y ((s,.k a.stripB)::sc)
 | _=>rdL nv u sc (fun x e Q=>rdK nv u sc x e Q) o.args e fun rs=>b6j o.kind rs fun L=>b5G nv o.kind o.args o.box L e fun J =>
  c2m nv u I o.dst (a5m o.args sc) e fun C v z=>match o.guard with
   | none=>Q (fun c env fr st k=>J c env fr st fun r fr s=>C r env fr s k) v z
   | some (x,w)=>rdK nv u sc x e fun g=>Q (fun c env fr st k=>g env fr fun q=>qGd q w (J c env fr st fun r fr s=>C r env fr s k) (C (.tuple []) env fr st k)) v z
theorem b4f {v:AV} (h:v.stripB=v):v.weak.stripB=v.weak:=by cases v<;>first|rfl|cases h
theorem a6L (v:AV):v.stripB.stripB=v.stripB:=by cases v<;>rfl
theorem a2c (τ:Nat→AV) (s:Nat) (a:AV) (j:Nat):C4 τ s a j=if j=s then a else τ j:=by
 unfold C4;by_cases h:j=s
 · subst h; simp
 · rw[if_neg h]; simp[h]
theorem M4 {nv:Nat} (I:nv≤64):∀ (xs:List Opd) {G:β→Prop} {e:β} {Q:(Fr→(Fr→RO)→RO)→β},G e →
 (∀ y:Fr→(Fr→RO)→RO,(∀ fr σ,σ.fr=toL nv fr→∃ C,(∀ k,y fr k=k C)∧(d9 xs σ).fr=toL nv C)→G (Q y))→G (a3G nv xs e Q)
 | [],G,e,Q,he,h=>h _ fun fr σ z=>⟨fr,fun _=>rfl,z⟩
 | x::xs,G,e,Q,he,h=>by
  cases x with
  | vs i =>
   unfold a3G;cases M:Nat.blt i nv with
   | false=>exact he
   | true =>
    have hi:=Z1 M;refine Q5 (by omega) he fun g N=>a2X (by omega) he fun p O=>M4 I xs he fun y u=>h _ fun fr σ z=>?_
    obtain⟨C,J,L⟩:=u (a2R i (a0V i fr).weak fr) (Opd.spend (.vs i) σ) (by show σ.fr.set i (σ.fr.getD i .undef).weak=_;rw[z,S5 hi,a3Y hi I]);refine⟨C,fun k=>?_,L⟩;show g fr (fun x=>qWk x fun x=>p x fr fun fr=>y fr k)=_;rw[N,a2M,O,J]
  | ts s=>exact M4 I xs he fun y u=>h y fun fr σ z=>u fr (Opd.spend (.ts s) σ) z
  | t s=>exact M4 I xs he fun y u=>h y fun fr σ z=>u fr σ z
  | v s=>exact M4 I xs he fun y u=>h y fun fr σ z=>u fr σ z
  | l s=>exact M4 I xs he fun y u=>h y fun fr σ z=>u fr σ z
  | c s=>exact M4 I xs he fun y u=>h y fun fr σ z=>u fr σ z
def a5h (sc:Scope) (env:List AV) (τ:Nat→AV):Prop:=∀ s x,J9 s sc=some x→SrcOK env (τ s) x
theorem L2 {env:List AV}:∀ {xs:List Opd} {sc:Scope} {σ:Sig},a5h sc env σ.τ→(∀ s,(σ.τ s).stripB=σ.τ s) →
 a5h (a5m xs sc) env σ.τ∧a5h (a5m xs sc) env (d9 xs σ).τ∧(∀ s,((d9 xs σ).τ s).stripB=(d9 xs σ).τ s)∧(d9 xs σ).st=σ.st
 | [],sc,σ,h,hb=>⟨h,h,hb,rfl⟩
 | x::xs,sc,σ,h,hb=>by
  cases x with
  | ts s =>
   have T:∀ (v:AV),v=σ.τ s∨v=(σ.τ s).weak→∀ y,J9 s (match J9 s sc with|some (.s l)=>(s,.d l)::sc|some (.k a)=>(s,.q a.weak)::sc|_=>sc)=some y→SrcOK env v y:=by
    intro v W y u;have C:v.weak=(σ.τ s).weak:=by rcases W with rfl|rfl; rfl; exact L3 _
    cases I:J9 s sc with
    | none=>rw[I]at u; dsimp only at u; rw[I]at u; cases u
    | some z =>
     have M:=h _ _ I;rw[I]at u;cases z with
     | s l =>dsimp only at u;rw[a3R,if_pos rfl]at u;cases u;obtain⟨a,J,L⟩:=M;exact⟨a,J,by rw[C,L]⟩
     | k a =>dsimp only at u;rw[a3R,if_pos rfl]at u;cases u;show v.weak=a.weak;rw[C,show σ.τ s=a from M]
     | w l =>dsimp only at u;rw[I]at u;cases u;obtain⟨a,J,L⟩:=M;exact⟨a,J,by rw[C,L]⟩
     | d l =>dsimp only at u;rw[I]at u;cases u;obtain⟨a,J,L⟩:=M;exact⟨a,J,by rw[C,L]⟩
     | q a =>dsimp only at u;rw[I]at u;cases u;show v.weak=a;rw[C];exact M
   have O:∀ t,t≠s→∀ y,J9 t (match J9 s sc with|some (.s l)=>(s,.d l)::sc|some (.k a)=>(s,.q a.weak)::sc|_=>sc)=some y→J9 t sc=some y:=by
    intro t U y u;cases I:J9 s sc with
    | none=>rw[I]at u; exact u
    | some z =>rw[I]at u;cases z<;>dsimp only at u<;>first|exact u|(rw[a3R,if_neg (fun q=>U q.symm)]at u; exact u)
   have J:a5h (match J9 s sc with|some (.s l)=>(s,.d l)::sc|some (.k a)=>(s,.q a.weak)::sc|_=>sc) env σ.τ:=fun t y u=>by
    by_cases e:t=s
    · subst e; exact T _ (.inl rfl) y u
    · exact h _ _ (O t e y u)
   have L:a5h (match J9 s sc with|some (.s l)=>(s,.d l)::sc|some (.k a)=>(s,.q a.weak)::sc|_=>sc) env (Opd.spend (.ts s) σ).τ:=fun t y u=>by
    show SrcOK env (C4 σ.τ s (σ.τ s).weak t) y;rw[a2c];by_cases e:t=s
    · subst e; rw[if_pos rfl]; exact T _ (.inr rfl) y u
    · rw[if_neg e]; exact h _ _ (O t e y u)
   have N:∀ t,((Opd.spend (.ts s) σ).τ t).stripB=(Opd.spend (.ts s) σ).τ t:=fun t=>by
    show(C4 σ.τ s (σ.τ s).weak t).stripB=C4 σ.τ s (σ.τ s).weak t;rw[a2c];split
    · exact b4f (hb s)
    · exact hb t
   have a:=L2 (xs:=xs) J hb;have b:=L2 (xs:=xs) L N;exact⟨a.1,b.2.1,b.2.2.1,b.2.2.2⟩
  | vs i =>have a:=L2 (xs:=xs) h hb;have b:=L2 (xs:=xs) (σ:=Opd.spend (.vs i) σ) h hb;exact⟨a.1,b.2.1,b.2.2.1,b.2.2.2⟩
  | t s=>exact L2 (xs:=xs) h hb
  | v s=>exact L2 (xs:=xs) h hb
  | l s=>exact L2 (xs:=xs) h hb
  | c s=>exact L2 (xs:=xs) h hb
theorem b1n {xs:List Opd} (h:b5s xs=false):∀ σ:Sig,(d9 xs σ).fr=σ.fr:=by
 induction xs with
 | nil=>intro σ; rfl
 | cons x xs e=>intro σ; cases x<;>first|exact e h _|cases h
def d4W (nv l:Nat) (sc:Scope) (o:AOper) (t:CF):Prop:=∀ c env fr st σ,Ag nv l sc env fr σ→σ.st=st→∀ (K:AV→Fr→St→RO) out,t c env fr st K=some out →
 ∃ r b st' e,sem o.kind c (o.args.map (·.read σ)) (match o.box with|some i=>σ.fr.getD i .undef|none=>.undef) st=some (r,b,st')∧K r e st'=some out ∧
  (match o.box with|some i=>(d9 o.args σ).fr.set i b|none=>(d9 o.args σ).fr)=toL nv e
theorem a6a {α e:Type} {x:Option α} {f:α→Option e} {r:e} (h:obind x f=some r):∃ a,x=some a∧f a=some r:=by
 cases x with
 | none=>cases h
 | some a=>exact⟨a,rfl,h⟩
theorem b5k {G:β→Prop} {nv L:Nat} {sc:Scope} {o:AOper} {rs:List Rd} {kf:KF} {e:β} {Q:CF→β} (W:nv≤64) (y:b0H nv L sc o.args rs) (x:b9n o.kind rs kf) (N:G e) (h:∀ Y,d4W nv L sc o Y→G (Q Y)) :
 G (b5G nv o.kind o.args o.box kf e Q):=by
 unfold b5G;split
 · rename_i hv v;refine h _ fun c env fr st σ t J K out l=>?_
   rw[x,a2z t y]at l;obtain⟨⟨r,b,st'⟩,z,u⟩:=a6a l;exact⟨r,b,st',fr,by rw[v]; exact z,u,by rw[v]; dsimp only; rw[b1n hv,t.f]⟩
 · rename_i hv v;refine M4 W o.args N fun sp I=>h _ fun c env fr st σ t J K out l=>?_
   rw[x,a2z t y]at l;obtain⟨⟨r,b,st'⟩,z,u⟩:=a6a l;obtain⟨M,O,T⟩:=I fr σ t.f;dsimp only at u;rw[O]at u;exact⟨r,b,st',M,by rw[v]; exact z,u,by rw[v]; exact T⟩
 · rename_i i v;cases U:Nat.blt i nv with
   | false=>exact N
   | true =>
    have hi:=Z1 U;refine Q5 (by omega) N fun g Z=>?_
    split
    · rename_i C;simp only[Bool.or_eq_false_iff]at C;refine h _ fun c env fr st σ t J K out l=>?_
      rw[Z,x,a2z t y]at l;obtain⟨⟨r,b,st'⟩,z,u⟩:=a6a l;refine⟨r,b,st',fr,by rw[v]; dsimp only; rw[t.f,S5 hi]; exact z,u,?_⟩;rw[v];have:=a3W C.1 z;subst this;dsimp only;rw[b1n C.2,t.f,← S5 hi fr];exact a5p _ _
    · refine M4 W o.args N fun sp I=>a2X (by omega) N fun p hp=>h _ fun c env fr st σ t J K out l=>?_
      rw[Z,x,a2z t y]at l;obtain⟨⟨r,b,st'⟩,z,u⟩:=a6a l;obtain⟨M,O,T⟩:=I fr σ t.f;dsimp only at u;rw[O,hp]at u;refine⟨r,b,st',_,by rw[v]; dsimp only; rw[t.f,S5 hi]; exact z,u,?_⟩;rw[v];dsimp only;rw[T,a3Y hi W]
def d5d (nv v:Nat) (o:AOper) (sc:Scope) (y:PF) (l:Nat) (x:Scope):Prop:=∀ r env fr s (k:List AV→Fr→St→RO) out,y r env fr s k=some out→∀ σ:Sig,σ.fr=toL nv fr→env.length=v→(∀ t,(σ.τ t).stripB=σ.τ t)→a5h sc env σ.τ→σ.st=s →
 ∃ e u,k e u s=some out∧Ag nv l x e u (o.dst.put r σ)∧(o.dst.put r σ).st=s
theorem b8L {G:β→Prop} {nv N:Nat} {W:List Nat} {o:AOper} {sc:Scope} {e:β} {Q:PF→Nat→Scope→β} (hn:nv≤64) (he:G e) (h:∀ pf M T,d5d nv N o sc pf M T→G (Q pf M T)):G (c2m nv N W o.dst sc e Q):=by
 unfold c2m;cases J:o.dst with
 | t s =>
  dsimp only;have O:∀ (σ:Sig) (r:AV),(∀ t,(σ.τ t).stripB=σ.τ t)→∀ t,(C4 σ.τ s r.stripB t).stripB=C4 σ.τ s r.stripB t:=fun σ r I t=>by
   rw[a2c]; split
   · exact a6L r
   · exact I t
  have U:∀ (σ:Sig) (r:AV) (env:List AV) (y:Src) (v:AV),env.length=N→a5h sc env σ.τ→SrcOK (v::env) r.stripB y→a5h ((s,y)::sc) (v::env) (C4 σ.τ s r.stripB):=fun σ r env y v C u hy t x Y=>by
   rw[a3R]at Y;rw[a2c];split at Y
   · rename_i e; cases Y; rw[if_pos e.symm]; exact hy
   · rename_i e; rw[if_neg (fun q=>e q.symm)]; exact(u _ _ Y).push v
  cases b98 s W with
  | true =>
   refine h _ _ _ fun r env fr s' k out l σ L C I u z=>?_
   rw[b9a]at l;refine⟨_,_,l,?_,by rw[J]; exact z⟩;rw[J];exact⟨L,by simp[C],O σ r I,U σ r env _ _ C u ⟨_,by rw[← C]; exact b78 _ _,rfl⟩⟩
  | false =>
   refine h _ _ _ fun r env fr s' k out l σ L C I u z=>?_
   rw[b9a]at l;refine⟨_,_,l,?_,by rw[J]; exact z⟩;rw[J];exact⟨L,by simp[C],O σ r I,U σ r env _ _ C u ⟨_,by rw[← C]; exact b78 _ _,rfl⟩⟩
 | v i =>
  dsimp only;cases Z:Nat.blt i nv with
  | false=>exact he
  | true =>
   have hi:=Z1 Z;refine a2X (by omega) he fun p hp=>h _ _ _ fun r env fr s' k out l σ L C I u z=>?_
   rw[c9F,hp]at l;refine⟨_,_,l,?_,by rw[J]; exact z⟩;rw[J];exact⟨by show σ.fr.set i r.strip=_; rw[L,a3Y hi hn],C,I,u⟩
 | none =>
  refine h _ _ _ fun r env fr s' k out l σ L C I u z=>?_
  refine⟨_,_,l,?_,by rw[J]; exact z⟩;rw[J];exact⟨L,C,I,u⟩
 | bx =>
  refine h _ _ _ fun r env fr s' k out l σ L C I u z=>?_
  refine⟨_,_,l,?_,by rw[J]; exact z⟩;rw[J];exact⟨L,C,I,u⟩
def d4b (nv u:Nat) (sc:Scope) (o:AOper) (v:OpF) (l:Nat) (x:Scope):Prop:=∀ c env fr st σ,Ag nv u sc env fr σ→σ.st=st→∀ (k:List AV→Fr→St→RO) out,v c env fr st k=some out →
 ∃ σ' e t,l9 c o σ=some σ'∧Ag nv l x e t σ'∧k e t σ'.st=some out
def c9b (nv e:Nat) (sc:Scope) (o:AOper) (l:Scope):Prop:=∀ c env fr σ,Ag nv e sc env fr σ→∃ σ',l9 c o σ=some σ'∧Ag nv e l env fr σ'∧σ'.st=σ.st
theorem a9T {nv l:Nat} {sc:Scope} {env:List AV} {fr:Fr} {σ:Sig} (u:Ag nv l sc env fr σ) (s:Nat) (v:AV) (y:Src) (C:SrcOK env v.stripB y):Ag nv l ((s,y)::sc) env fr ({ σ with τ:=C4 σ.τ s v.stripB }) :=
 ⟨u.f,u.d,fun t=>by
  show(C4 σ.τ s v.stripB t).stripB=C4 σ.τ s v.stripB t;rw[a2c]; split
  · exact a6L v
  · exact u.nb t,fun t x z=>by
  show SrcOK env (C4 σ.τ s v.stripB t) x;rw[a3R]at z;rw[a2c];split at z
  · rename_i e; cases z; rw[if_pos e.symm]; exact C
  · rename_i e; rw[if_neg (fun q=>e q.symm)]; exact u.t _ _ z⟩
theorem a8C (c:d8) (s:Nat) (x:Opd) (l:x.steals=false) (σ:Sig):l9 c ⟨.t s,.mv,[x],none,none⟩ σ=some { σ with τ:=C4 σ.τ s (x.read σ).stripB }:=by have e:d9 [x] σ=σ:=Z8 (by simp[j6,l]);show J4 c _ σ=_;rw[S7];show some (Dst.put (.t s) (x.read σ) { d9 [x] σ with st:=σ.st })=_;rw[e];rfl
theorem c1N {G:β→Prop} {nv N:Nat} {sc:Scope} {b1:List Nat} {o:AOper} {e:β} {Q0:Scope→β} {Q:OpF→Nat→Scope→β} (hn:nv≤64) (he:G e) (h0:∀ L,c9b nv N sc o L→G (Q0 L))
 (h:∀ a2 C L,d4b nv N sc o a2 C L→G (Q a2 C L)):G (opK nv N sc b1 o e Q0 Q):=by
 unfold opK;split
 · rename_i s s' z;have ho:o=⟨.t s,.mv,[.t s'],none,none⟩:=by unfold a9v at z;split at z<;>first|(cases z; rfl)|cases z
   subst ho;have go:∀ y,(∀ env fr σ,Ag nv N sc env fr σ→SrcOK env (σ.τ s').weak y)→c9b nv N sc ⟨.t s,.mv,[.t s'],none,none⟩ ((s,y)::sc):=fun y hy c env fr σ v=>by refine⟨_,a8C c s (.t s') rfl σ,a9T v s _ y ?_,rfl⟩;show SrcOK env ((σ.τ s').weak).stripB y;rw[b4f (v.nb s')];exact hy env fr σ v
   split
   · rename_i l U;exact h0 _ (go _ fun env fr σ v=>by obtain⟨a,T,Y⟩:=v.t _ _ U; exact⟨a,T,by rw[L3,Y]⟩)
   · rename_i l U;exact h0 _ (go _ fun env fr σ v=>by obtain⟨a,T,Y⟩:=v.t _ _ U; exact⟨a,T,by rw[L3,Y]⟩)
   · rename_i l U;exact h0 _ (go _ fun env fr σ v=>by obtain⟨a,T,Y⟩:=v.t _ _ U; exact⟨a,T,by rw[L3,Y]⟩)
   · rename_i a U;exact h0 _ (go _ fun env fr σ v=>by have:=v.t _ _ U;show(σ.τ s').weak.weak=a.weak;rw[L3,show σ.τ s'=a from this])
   · rename_i a U;exact h0 _ (go _ fun env fr σ v=>by have:=v.t _ _ U;show(σ.τ s').weak.weak=a;rw[L3];exact this)
   · exact he
 · rename_i s a z;have ho:o=⟨.t s,.mv,[.c a],none,none⟩:=by unfold a9v at z;split at z<;>first|(cases z; rfl)|cases z
   subst ho;exact h0 _ fun c env fr σ v=>⟨_,a8C c s (.c a) rfl σ,a9T v s _ _ rfl,rfl⟩
 · refine b1u hn he fun rs a9=>b4Y fun kf a7=>b5k hn a9 a7 he fun cf a4=>b8L hn he fun pf C L a0=>?_
   have body:∀ c env fr st σ,Ag nv N sc env fr σ→σ.st=st→∀ (k:List AV→Fr→St→RO) out,(cf c env fr st fun r fr s=>pf r env fr s k)=some out →
    ∃ σ' I J,J4 c o σ=some σ'∧Ag nv C L I J σ'∧k I J σ'.st=some out:=fun c env fr st σ v M k out u=>by
    obtain⟨r,b,st',J,T,Y,h3⟩:=a4 c env fr st σ v M _ out u;obtain⟨e1,e2,e3,e4⟩:=L2 (xs:=o.args) (σ:=σ) v.t v.nb;let σ1:Sig:=match o.box with
     | some i=>{ d9 o.args σ with fr:=(d9 o.args σ).fr.set i b,st:=st' }
     | none=>{ d9 o.args σ with st:=st' }
    have a5:σ1.fr=toL nv J:=by rw[← h3]; simp only[σ1]; cases o.box<;>rfl
    have a1:σ1.τ=(d9 o.args σ).τ:=by simp only[σ1]; cases o.box<;>rfl
    have b0:σ1.st=st':=by simp only[σ1]; cases o.box<;>rfl
    obtain⟨O,W,g1,g2,g3⟩:=a0 r env J st' k out Y σ1 a5 v.d (by rw[a1]; exact e3) (by rw[a1]; exact e2) b0;refine⟨_,O,W,?_,g2,by rw[g3]; exact g1⟩;rw[S7,M];simp only[σ1];cases hb:o.box<;>rw[hb]at T<;>dsimp only at T ⊢<;>rw[T]
   split
   · rename_i hg;refine h _ _ _ fun c env fr st σ v M k out u=>?_
     unfold l9;rw[hg];exact body c env fr st σ v M k out u
   · rename_i x w hg;refine a7n hn he fun g a6=>h _ _ _ fun c env fr st σ v M k out u=>?_
     rw[a6 env fr σ v,c8J]at u;unfold l9;rw[hg];dsimp only;have skip:pf (.tuple []) env fr st k=some out→∃ σ' I J,some (o.dst.put (.tuple []) σ)=some σ'∧Ag nv C L I J σ'∧k I J σ'.st=some out:=fun u=>by obtain⟨O,W,g1,g2,g3⟩:=a0 _ env fr st k out u σ v.f v.d v.nb (L2 (xs:=o.args) (σ:=σ) v.t v.nb).1 M;exact⟨_,O,W,rfl,g2,by rw[g3]; exact g1⟩
     cases hx:x.read σ<;>rw[hx]at u<;>(try dsimp only at u ⊢)<;>try cases u
     · rename_i b;split at u
       · rename_i Z; rw[if_pos Z]; exact body c env fr st σ v M k out u
       · rename_i Z; rw[if_neg Z]; exact skip u
     · rename_i vs;cases vs with
       | nil=>exact skip u
       | cons=>cases u
end
noncomputable def a5U (nv:Nat) (v:List Nat) (cond:Opd) (ops:List AOper):Nat→Scope→Clo:=List.rec (motive:=fun _=>Nat→Scope→Clo)
 (fun e sc=>rdK nv e sc cond a1w fun r=>.mk fun c env fr st=>r env fr fun x=>some (x,fr,st))
 (fun o _ y e sc=>opK nv e sc v o a1w (fun l=>y e l) fun u t l=>.mk fun c env fr st=>u c env fr st fun env fr st=>(y t l).run c env fr st) ops
def a5V (nv l:Nat) (sc:Scope) (cond:Opd) (ops:List AOper) (x:Clo):Prop:=∀ c env fr st σ v e st',Ag nv l sc env fr σ→σ.st=st→x.run c env fr st=some (v,e,st') →
 ∃ σ',q8 c ops σ=some σ'∧σ'.fr=toL nv e∧σ'.st=st'∧cond.read σ'=v
theorem b1K {nv e:Nat} {sc:Scope} {cond:Opd} {ops:List AOper}:a5V nv e sc cond ops a1w:=fun c env fr st σ v l st' u t h=>by cases (show(none:RO)=some _ from h)
theorem a4q {nv:Nat} (L:nv≤64) {z:List Nat} {cond:Opd}:∀ (ops:List AOper) (e:Nat) (sc:Scope),a5V nv e sc cond ops (a5U nv z cond ops e sc)
 | [],e,sc=>by
  show a5V nv e sc cond [] (rdK nv e sc cond a1w fun r=>.mk fun c env fr st=>r env fr fun x=>some (x,fr,st));refine a7n (G:=a5V nv e sc cond []) L b1K fun r Y c env fr st σ v u st' C y h=>?_
  have h:r env fr (fun x=>some (x,fr,st))=some (v,u,st'):=h;rw[Y env fr σ C]at h;cases h;exact⟨σ,rfl,C.f,y,rfl⟩
 | o::ops,e,sc=>by
  show a5V nv e sc cond (o::ops) (opK nv e sc z o a1w (fun l=>a5U nv z cond ops e l) fun J t l=>.mk fun c env fr st=>J c env fr st fun env fr st=>(a5U nv z cond ops t l).run c env fr st);refine c1N (G:=a5V nv e sc cond (o::ops)) L b1K (fun l U c env fr st σ v u st' C y h=>?_) fun J t l W c env fr st σ v u st' C y h=>?_
  · obtain⟨σ1,N,O,T⟩:=U c env fr σ C;obtain⟨σ2,g1,g2⟩:=a4q L ops e l c env fr st σ1 v u st' O (T.trans y) h;exact⟨σ2,by rw[q8,N]; exact g1,g2⟩
  · obtain⟨σ1,I,M,N,O,T⟩:=W c env fr st σ C y _ _ h;obtain⟨σ2,g1,g2⟩:=a4q L ops t l c I M σ1.st σ1 v u st' O rfl T;exact⟨σ2,by rw[q8,N]; exact g1,g2⟩
end Go.Cb.G
namespace Go.Cb.G
open Go Go.Cb
noncomputable def b0I (nv:Nat) (kill:List Nat) (Q:(Fr→(Fr→RO)→RO)→Clo):Clo:=List.rec (motive:=fun _=>((Fr→(Fr→RO)→RO)→Clo)→Clo) (fun Q=>Q fun fr k=>k fr)
 (fun i _ e Q=>Bool.rec (motive:=fun _=>Clo) (e Q) (a9A i a1w fun p=>e fun r=>Q fun fr k=>p .undef fr fun fr=>r fr k) (Nat.blt i nv)) kill Q
def tsL:List Opd→List Nat
 | []=>[]
 | .ts s::xs=>s::tsL xs
 | _::xs=>tsL xs
def b5g:List AOper→List Nat
 | []=>[]
 | o::os=>match tsL o.args with
  | []=>b5g os
  | l=>l++b5g os
noncomputable def a7X (nv:Nat) (kill:List Nat) (ops:List AOper) (cond:Opd):Clo :=
 b0I nv kill fun e=>.mk fun c _ fr st=>e fr fun fr=>(a5U nv (tsL [cond]++b5g ops) cond ops 0 []).run c [] fr st
theorem a4E {G:Clo→Prop} {nv:Nat} (v:nv≤64) (y:G a1w):∀ {kill:List Nat} {Q:(Fr→(Fr→RO)→RO)→Clo},(∀ r:Fr→(Fr→RO)→RO,(∀ fr,∃ e,(∀ k,r fr k=k e)∧n5 kill (toL nv fr)=toL nv e)→G (Q r))→G (b0I nv kill Q)
 | [],Q,h=>h _ fun fr=>⟨fr,fun _=>rfl,rfl⟩
 | i::is,Q,h=>by
  show G (Bool.rec (motive:=fun _=>Clo) (b0I nv is Q) (a9A i a1w fun p=>b0I nv is fun r=>Q fun fr k=>p .undef fr fun fr=>r fr k) (Nat.blt i nv));cases u:Nat.blt i nv with
  | false =>
   have hi:¬ i < nv:=fun q=>by rw[show Nat.blt i nv=true by simpa using q]at u; cases u
   exact a4E v y (kill:=is) fun r x=>h r fun fr=>by obtain⟨e,l,t⟩:=x fr;exact⟨e,l,by rw[n5,a6A hi]; exact t⟩
  | true =>have hi:=Z1 u;exact a2X (by omega) y fun p z=>a4E v y (kill:=is) fun r x=>h _ fun fr=>by obtain⟨e,l,t⟩:=x (a2R i .undef fr);exact⟨e,fun k=>by show p .undef fr _=_; rw[z,l],by rw[n5,a3Y hi v]; exact t⟩
def b3Z (nv:Nat) (kill:List Nat) (ops:List AOper) (cond:Opd) (x:Clo):Prop:=∀ c env fr st v e st',x.run c env fr st=some (v,e,st') →
 ∃ σ',q8 c ops ⟨n5 kill (toL nv fr),fun _=>.undef,st⟩=some σ'∧σ'.fr=toL nv e∧σ'.st=st'∧cond.read σ'=v
theorem b2f {nv:Nat} (t:nv≤64) {kill:List Nat} {ops:List AOper} {cond:Opd}:b3Z nv kill ops cond (a7X nv kill ops cond):=by
 refine a4E (G:=b3Z nv kill ops cond) t (fun c env fr st v e st' h=>by cases (show(none:RO)=some _ from h)) fun r z c env fr st v e st' h=>?_
 obtain⟨l,u,y⟩:=z fr;have h:r fr _=_:=h;rw[u]at h;exact a4q t ops 0 [] c [] l st ⟨n5 kill (toL nv fr),fun _=>.undef,st⟩ v e st' ⟨y,rfl,fun _=>rfl,fun s x C=>by cases (show(none:Option Src)=some x from C)⟩ rfl h
abbrev CO:=Option (Ex×Fr×St)
inductive CloC where
 | mk (f:d8→Nat→Fr→St→CO)
noncomputable def CloC.run (x:CloC):d8→Nat→Fr→St→CO:=CloC.rec (motive:=fun _=>d8→Nat→Fr→St→CO) (fun f=>f) x
section
variable {ρ:Type}
noncomputable def b2v (x:RO) (k:AV→Fr→St→Option ρ):Option ρ:=Option.rec (motive:=fun _=>Option ρ) none (fun p=>Prod.rec (motive:=fun _=>Option ρ) (fun v q=>Prod.rec (motive:=fun _=>Option ρ) (fun fr st=>k v fr st) q) p) x
noncomputable def a2u (x:CO) (k:Ex→Fr→St→Option ρ):Option ρ:=Option.rec (motive:=fun _=>Option ρ) none (fun p=>Prod.rec (motive:=fun _=>Option ρ) (fun v q=>Prod.rec (motive:=fun _=>Option ρ) (fun fr st=>k v fr st) q) p) x
noncomputable def a28 (e:Ex) (n:Option ρ) (x:Nat→Option ρ) (r:Option ρ):Option ρ:=Ex.rec (motive:=fun _=>Option ρ) n x r e
theorem b0r {x:RO} {k:AV→Fr→St→Option ρ} {r:ρ} (h:b2v x k=some r):∃ v fr st,x=some (v,fr,st)∧k v fr st=some r:=by
 cases x with
 | none=>cases h
 | some p=>obtain⟨v,fr,st⟩:=p; exact⟨v,fr,st,rfl,h⟩
theorem a0j {x:CO} {k:Ex→Fr→St→Option ρ} {r:ρ} (h:a2u x k=some r):∃ v fr st,x=some (v,fr,st)∧k v fr st=some r:=by
 cases x with
 | none=>cases h
 | some p=>obtain⟨v,fr,st⟩:=p; exact⟨v,fr,st,rfl,h⟩
end
noncomputable def b5M (b:d8→Nat→Fr→St→CO) (c:d8) (n m:Nat):Fr→St→CO:=Nat.rec (motive:=fun _=>Fr→St→CO) (fun _ _=>none) (fun _ l fr st=>a2u (b c n fr st) fun e fr st=>a28 e (l fr st) (fun i=>some (.exit i,fr,st)) (some (.ret,fr,st))) m
def a7A (nv:Nat):List Nat→Fr→Fr
 | [],fr=>fr
 | i::is,fr=>a7A nv is (if i < nv then a2R i .undef fr else fr)
theorem a4X {nv:Nat} (e:nv≤64):∀ {is:List Nat} {fr:Fr},n5 is (toL nv fr)=toL nv (a7A nv is fr)
 | [],fr=>rfl
 | i::is,fr=>by
  rw[n5,a7A];split
  · rename_i h; rw[a3Y h e]; exact a4X e
  · rename_i h; rw[a6A h]; exact a4X e
noncomputable def b7O (nv:Nat) (kill:List Nat) (x y:CO):CO:=a2u x fun e fr st=>a2u y fun e' l st' =>if b0K (P0 kill (e,toL nv fr,st)) (P0 kill (e',toL nv l,st'))then some (e,a7A nv kill fr,st)else none
noncomputable def a0S (nv:Nat) (x:ACode):CloC:=ACode.rec (motive:=fun _=>CloC)
 (.mk fun _ _ fr st=>some (.normal,fr,st))
 (fun kill ops=>.mk fun c _ fr st=>b2v ((a7X nv kill ops (.c .undef)).run c [] fr st) fun _ fr st=>some (.normal,fr,st))
 (fun kill ops x _ _ a b=>.mk fun c n fr st=>b2v ((a7X nv kill ops x).run c [] fr st) fun v fr st=>onB v none fun y=>Bool.rec (motive:=fun _=>CO) (b.run c n fr st) (a.run c n fr st) y)
 (fun _ _ a b=>.mk fun c n fr st=>a2u (a.run c n fr st) fun e fr st=>a28 e (b.run c n fr st) (fun i=>some (.exit i,fr,st)) (some (.ret,fr,st)))
 (fun id _ a=>.mk fun c n fr st=>a2u (a.run c n fr st) fun e fr st=>a28 e (some (.normal,fr,st)) (fun i=>Bool.rec (motive:=fun _=>CO) (some (.exit i,fr,st)) (some (.normal,fr,st)) (Nat.beq i id)) (some (.ret,fr,st)))
 (fun _ a=>.mk fun c n fr st=>b5M (fun c n fr st=>a.run c n fr st) c n n fr st)
 (fun kill _ _ a b=>.mk fun c n fr st=>b7O nv kill (a.run c n fr st) (b.run c n fr st))
 (fun id=>.mk fun _ _ fr st=>some (.exit id,fr,st))
 (.mk fun _ _ fr st=>some (.ret,fr,st)) x
def c6y (nv:Nat) (x:ACode) (y:CloC):Prop:=∀ c n fr st e l st',y.run c n fr st=some (e,l,st')→j1 c n x (toL nv fr) st=some (e,toL nv l,st')
theorem b2M {nv:Nat} {a:ACode} {b:d8→Nat→Fr→St→CO} {c:d8} {n:Nat} (h:∀ fr st e l st',b c n fr st=some (e,l,st')→j1 c n a (toL nv fr) st=some (e,toL nv l,st')):∀ (m:Nat) (fr:Fr) (st:St) (e:Ex) (l:Fr) (st':St),b5M b c n m fr st=some (e,l,st')→a0u (j1 c n a) m (toL nv fr) st=some (e,toL nv l,st')
 | 0,fr,st,e,l,st',v=>by cases (show(none:CO)=some _ from v)
 | m+1,fr,st,e,l,st',v=>by
  obtain⟨x,t,st1,y,u⟩:=a0j (show a2u (b c n fr st) (fun e fr st=>a28 e (b5M b c n m fr st) (fun i=>some (.exit i,fr,st)) (some (.ret,fr,st)))=some (e,l,st')from v);rw[a0u,h _ _ _ _ _ y];cases x with
  | normal=>exact b2M h m t st1 e l st' u
  | exit i=>cases (show some (Ex.exit i,t,st1)=some (e,l,st')from u); rfl
  | ret=>cases (show some (Ex.ret,t,st1)=some (e,l,st')from u); rfl
theorem R9 {nv:Nat} (z:nv≤64):∀ x:ACode,c6y nv x (a0S nv x)
 | .skip,c,n,fr,st,e,l,st',h=>by cases (show some (Ex.normal,fr,st)=some (e,l,st')from h); rfl
 | .ret,c,n,fr,st,e,l,st',h=>by cases (show some (Ex.ret,fr,st)=some (e,l,st')from h); rfl
 | .exit id,c,n,fr,st,e,l,st',h=>by cases (show some (Ex.exit id,fr,st)=some (e,l,st')from h); rfl
 | .reg kill ops,c,n,fr,st,e,l,st',h=>by obtain⟨v,t,st1,C,u⟩:=b0r (show b2v ((a7X nv kill ops (.c .undef)).run c [] fr st) (fun _ fr st=>some (Ex.normal,fr,st))=some (e,l,st')from h);cases u;obtain⟨σ,g1,g2,g3,g4⟩:=b2f z _ _ _ _ _ _ _ C;rw[j1,g1];simp only[fL_eq,g2,g3]
 | .test kill ops x a b,c,n,fr,st,e,l,st',h=>by
  obtain⟨v,t,st1,C,u⟩:=b0r (show b2v ((a7X nv kill ops x).run c [] fr st) (fun v fr st=>onB v none fun y=>Bool.rec (motive:=fun _=>CO) ((a0S nv b).run c n fr st) ((a0S nv a).run c n fr st) y)=some (e,l,st')from h);obtain⟨σ,g1,g2,g3,g4⟩:=b2f z _ _ _ _ _ _ _ C;rw[b1Q]at u;rw[j1,g1];dsimp only;rw[g4];cases v<;>try (cases u; done)
  rename_i y;cases y
  · simp only[fL_eq,g2,g3]; exact R9 z b _ _ _ _ _ _ _ u
  · simp only[fL_eq,g2,g3]; exact R9 z a _ _ _ _ _ _ _ u
 | .seq a b,c,n,fr,st,e,l,st',h=>by
  obtain⟨I,t,st1,C,u⟩:=a0j (show a2u ((a0S nv a).run c n fr st) (fun e fr st=>a28 e ((a0S nv b).run c n fr st) (fun i=>some (.exit i,fr,st)) (some (.ret,fr,st)))=some (e,l,st')from h);rw[j1,R9 z a _ _ _ _ _ _ _ C];cases I with
  | normal=>exact R9 z b _ _ _ _ _ _ _ u
  | exit i=>cases (show some (Ex.exit i,t,st1)=some (e,l,st')from u); rfl
  | ret=>cases (show some (Ex.ret,t,st1)=some (e,l,st')from u); rfl
 | .blk id a,c,n,fr,st,e,l,st',h=>by
  obtain⟨I,t,st1,C,u⟩:=a0j (show a2u ((a0S nv a).run c n fr st) (fun e fr st=>a28 e (some (.normal,fr,st)) (fun i=>Bool.rec (motive:=fun _=>CO) (some (.exit i,fr,st)) (some (.normal,fr,st)) (Nat.beq i id)) (some (.ret,fr,st)))=some (e,l,st')from h);rw[j1,R9 z a _ _ _ _ _ _ _ C];cases I with
  | normal=>cases (show some (Ex.normal,t,st1)=some (e,l,st')from u); rfl
  | exit i =>
   have u:Bool.rec (motive:=fun _=>CO) (some (.exit i,t,st1)) (some (.normal,t,st1)) (Nat.beq i id)=some (e,l,st'):=u;dsimp only;cases J:Nat.beq i id with
   | true=>rw[J]at u; cases u; rw[if_pos (Nat.eq_of_beq_eq_true J)]
   | false=>rw[J]at u; cases u; rw[if_neg (Nat.ne_of_beq_eq_false J)]
  | ret=>cases (show some (Ex.ret,t,st1)=some (e,l,st')from u); rfl
 | .loop a,c,n,fr,st,e,l,st',h=>by rw[j1];exact b2M (b:=fun c n fr st=>(a0S nv a).run c n fr st) (fun fr st e l st' h=>R9 z a _ _ _ _ _ _ _ h) n fr st e l st' h
 | .either kill a b,c,n,fr,st,e,l,st',h=>by
  have h:b7O nv kill ((a0S nv a).run c n fr st) ((a0S nv b).run c n fr st)=some (e,l,st'):=h;obtain⟨I,t,st1,C,u⟩:=a0j h;obtain⟨e2,M,st2,N,L⟩:=a0j u;rw[j1,R9 z a _ _ _ _ _ _ _ C,R9 z b _ _ _ _ _ _ _ N];unfold a4i;split at L
  · rename_i O;cases L;dsimp only;rw[if_pos O];show some (_,n5 kill (toL nv t),_)=_;rw[a4X z]
  · cases L
inductive FnC where
 | mk (f:d8→Nat→List AV→St→Option (AV×St))
noncomputable def FnC.run (x:FnC):d8→Nat→List AV→St→Option (AV×St):=FnC.rec (motive:=fun _=>d8→Nat→List AV→St→Option (AV×St)) (fun f=>f) x
noncomputable def W6:FnC:=.mk fun _ _ _ _=>none
noncomputable def c1i (nv:Nat) (r:ResK) (Q:Gt (AV×St)→FnC):FnC :=
 match r with
 | .v i=>match Nat.blt i nv with
  | true=>a4x i W6 fun g=>Q fun fr k=>g fr fun x=>qWk x k
  | false=>W6
 | .vs i=>match Nat.blt i nv with
  | true=>a4x i W6 fun g=>Q g
  | false=>W6
 | .bx i agg n=>match Nat.blt i nv with
  | true=>a4x i W6 fun g=>Q fun fr k=>g fr fun x=>b6Q x none fun cs=>a5T k agg n cs
  | false=>W6
theorem b67 {G:FnC→Prop} {nv:Nat} (z:nv≤64) (l:G W6) {r:ResK} {Q:Gt (AV×St)→FnC} (h:∀ g:Gt (AV×St),(∀ fr k out,g fr k=some out→∃ v,r.get (toL nv fr)=some v∧k v=some out)→G (Q g)):G (c1i nv r Q):=by
 unfold c1i;cases r with
 | v i =>
  dsimp only;cases t:Nat.blt i nv with
  | false=>exact l
  | true =>
   have hi:=Z1 t;refine Q5 (by omega) l fun g u=>h _ fun fr k out e=>?_
   rw[u,a2M]at e;exact⟨_,by rw[ResK.get,S5 hi],e⟩
 | vs i =>
  dsimp only;cases t:Nat.blt i nv with
  | false=>exact l
  | true =>
   have hi:=Z1 t;refine Q5 (by omega) l fun g u=>h _ fun fr k out e=>?_
   rw[u]at e;exact⟨_,by rw[ResK.get,S5 hi],e⟩
 | bx i agg n =>
  dsimp only;cases t:Nat.blt i nv with
  | false=>exact l
  | true =>
   have hi:=Z1 t;refine Q5 (by omega) l fun g u=>h _ fun fr k out e=>?_
   rw[u,a8E]at e;rw[ResK.get,S5 hi];cases y:a0V i fr<;>rw[y]at e<;>try (cases e; done)
   rename_i cs;dsimp only at e ⊢;rw[a4c]at e;cases x:l8 agg n cs with
   | none=>rw[x]at e; cases e
   | some v=>rw[x]at e; exact⟨v,rfl,e⟩
noncomputable def b4I (nv:Nat):List ResK→((Fr→(List AV→Option (AV×St))→Option (AV×St))→FnC)→FnC
 | [],Q=>Q fun _ k=>k []
 | r::rs,Q=>c1i nv r fun g=>b4I nv rs fun gs=>Q fun fr k=>g fr fun v=>gs fr fun vs=>k (v::vs)
theorem b0u {G:FnC→Prop} {nv:Nat} (t:nv≤64) (u:G W6):∀ {rs:List ResK} {Q:(Fr→(List AV→Option (AV×St))→Option (AV×St))→FnC},(∀ g:Fr→(List AV→Option (AV×St))→Option (AV×St),(∀ fr k out,g fr k=some out→∃ vs,V0 rs (toL nv fr)=some vs∧k vs=some out)→G (Q g))→G (b4I nv rs Q)
 | [],Q,h=>h _ fun fr k out l=>⟨[],rfl,l⟩
 | r::rs,Q,h=>by unfold b4I;exact b67 t u fun g I=>b0u t u fun gs e=>h _ fun fr k out l=>by obtain⟨v,x,y⟩:=I fr _ _ l;obtain⟨vs,z,C⟩:=e fr _ _ y;exact⟨v::vs,by rw[V0,x,z],C⟩
noncomputable def a8P (vs:List AV) (st:St):Option (AV×St):=List.rec (motive:=fun _=>Option (AV×St)) (some (.tuple [],st)) (fun v ws _=>List.rec (motive:=fun _=>Option (AV×St)) (some (v,st)) (fun _ _ _=>some (.tuple vs,st)) ws) vs
noncomputable def b5m (fn:AFn):FnC:=match Nat.ble fn.nv 64 && Nat.ble fn.np fn.nv with
 | true=>b4I fn.nv fn.results fun g=>.mk fun c n as st=>Bool.rec (motive:=fun _=>Option (AV×St)) none (c0v as fun w=>a2u ((a0S fn.nv fn.code).run c n (fr0 w) st) fun e fr st=>a28 e (g fr fun vs=>a8P vs st) (fun _=>none) (g fr fun vs=>a8P vs st)) (Nat.beq (M8 as) fn.np)
 | false=>W6
noncomputable def fnC (x:Option AFn):FnC:=match x with
 | none=>W6
 | some fn=>match fn.ext with
  | some e=>.mk fun _ _ as st=>e as st
  | none=>b5m fn
theorem c5p {vs:List AV} {st:St}:a8P vs st=(match (some vs:Option (List AV))with|some [v]=>some (v,st)|some vs=>some (.tuple vs,st)|none=>none):=by
 match vs with
 | []=>rfl
 | [_]=>rfl
 | _::_::_=>rfl
def b7Y (fn:AFn) (x:FnC):Prop:=∀ c n as st out,x.run c n as st=some out→fn.run c n as st=some out
theorem c0Z (fn:AFn):b7Y fn (b5m fn):=by
 have z:b7Y fn W6:=fun c n as st out h=>by cases (show(none:Option (AV×St))=some _ from h)
 unfold b5m;cases u:Nat.ble fn.nv 64 && Nat.ble fn.np fn.nv with
 | false=>exact z
 | true =>
  simp only[AA,Nat.ble_eq]at u;refine b0u u.1 z fun g O c n as st out h=>?_
  have h:Bool.rec (motive:=fun _=>Option (AV×St)) none (c0v as fun w=>a2u ((a0S fn.nv fn.code).run c n (fr0 w) st) fun e fr st=>a28 e (g fr fun vs=>a8P vs st) (fun _=>none) (g fr fun vs=>a8P vs st)) (Nat.beq (M8 as) fn.np)=some out:=h;cases t:Nat.beq (M8 as) fn.np with
  | false=>rw[t]at h; cases h
  | true =>
   rw[t]at h;have t:=Nat.eq_of_beq_eq_true t;rw[J8]at t;obtain⟨w,C,I,J⟩:=c4o h;obtain⟨e,l,st',L,x⟩:=a0j C;have y:=R9 u.1 fn.code _ _ _ _ _ _ _ L;rw[c9A J t I u.2 u.1]at y;unfold AFn.run;rw[if_pos t,y];have fin:(g l fun vs=>a8P vs st')=some out→(match V0 fn.results (toL fn.nv l)with|some [v]=>some (v,st')|some vs=>some (.tuple vs,st')|none=>none)=some out:=fun h=>by obtain⟨vs,M,N⟩:=O l _ _ h;rw[M,← N,c5p]
   cases e with
   | normal=>exact fin x
   | exit i=>cases (show(none:Option (AV×St))=some _ from x)
   | ret=>exact fin x
noncomputable def callG (tbl:Nat→Option AFn) (n:Nat):d8:=Nat.rec (motive:=fun _=>d8) (fun _ _ _=>none) (fun n e f as st=>(fnC (tbl f)).run e n as st) n
theorem b19 {tbl:Nat→Option AFn}:∀ n,a1q (callG tbl n) (k8 tbl n)
 | 0,f,as,st,r,h=>by cases (show(none:Option (AV×St))=some _ from h)
 | n+1,f,as,st,r,h=>by
  have h:(fnC (tbl f)).run (callG tbl n) n as st=some r:=h;unfold k8;cases t:tbl f with
  | none=>rw[t]at h; cases (show(none:Option (AV×St))=some _ from h)
  | some fn =>
   rw[t]at h;unfold fnC at h;dsimp only at h ⊢;cases l:fn.ext with
   | some e=>rw[l]at h; exact h
   | none =>rw[l]at h;exact b9b (b19 n) (AK _) (c0Z fn _ _ _ _ _ h)
theorem ev_ofG {tbl:Nat→Option AFn} {k f:Nat} {as:List AV} {st:St} {r:AV} {st':St} (h:callG tbl k f as st=some (r,st')):Ev tbl f as st r st':=⟨k,b19 k _ _ _ _ h⟩
end Go.Cb.G
