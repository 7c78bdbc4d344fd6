import Derived.Test.YtgaibigpannjfaaGreatDoorXAms3
import Derived.Laws.CopyRow
import Derived.Laws.Externs
import Derived.Test.YtgaibigpannjfaaGreatDoorXAms1
import Derived.Test.YtgaibigpannjfaaGreatDoorXAms2
set_option maxRecDepth 4000
set_option linter.all false
namespace Go.Cb
open Classical
theorem a0s {P:Program} (w:World) (I L ty elem:TypeId) (G g o u y:Nat) (a:Addr) (x C:Nat) (l:Array Value) (t:TypeId) (cs:List Value)
 (hu:P.underlying I=some (.slice elem)) (hs:(P.info? elem).map (·.size)=some G)
 (hg:w.heap[g]?=some (.cells l t (0,0))) (hn:cs.length=Nat.min x u*G)
 (B:∀ j v,cs[j]?=some v→w.cell? (a.add j)=some v) (z:o+cs.length≤l.size) (J:∀ v∈cs,v.oneCell'=true) :
 (Builtin.copy_ #[I,L] ty #[.slice (some ⟨g,o,none⟩) u y,.slice (some a) x C]).run P w =
  .ok (goInt (Nat.min x u)) (w.setRow g (l.toList.take o++cs++l.toList.drop (o+cs.length)).toArray):=by
 have hl:=run_loadCells_list (P:=P) w a cs B;have F:=run_storeCells_at P g o t cs 0 l w hg (by simpa using z) J;cases E:P.info? elem with
 | none=>simp[E]at hs
 | some i =>
  have hi:i.size=G:=by simpa[E]using hs
  simp[Builtin.copy_,run_underlying hu,Builtin.lenOf,Builtin.firstCells,sizeOf,typeInfo,E,hi,← hn,hl,F]
theorem a5j {P:Program} (w:World) (O tR e:TypeId) (M:P.underlying O=some (.slice e)) (size:Nat) (N:∀ w,(Go.sizeOf e).run P w=.ok size w)
 (a b:Addr) (V X W Y:Nat) (F:a.block≠b.block) {j i:Array Value} {S TB:TypeId} {zA:Nat×Nat}
 (Z:w.heap[a.block]?=some (.cells j S zA)) (U:w.heap[b.block]?=some (.cells i TB (0,0))) (J:j.size≠0) (L:i.size≠0) :
 (Extern.SlicesOverlaps.overlaps #[O,O] #[tR] #[.slice (some a) V X,.slice (some b) W Y]).run P w=.ok (.bool false) w:=by
 have E:(a.block != b.block)=true:=by simpa using F
 have l:(a.block == b.block)=false:=by simpa using F
 have u:w.shape? a.block=some (S,j.size):=by simp[World.shape?,Z]
 have y:w.shape? b.block=some (TB,i.size):=by simp[World.shape?,U]
 have C:∀ x:Addr,x.block=b.block→w.frozen? x=false:=fun x hx=>by simp[World.frozen?,hx,U]
 have z:=C b rfl;have t:=C { block:=b.block,off:=i.size } rfl;delta Extern.SlicesOverlaps.overlaps;dsimp only;delta Extern.SlicesOverlaps.overlaps.match_4;dsimp only[Array.size,List.length];simp only[dif_pos,Nat.reduceAdd,Nat.zero_add];dsimp only[Array.getLit,getElem,Array.getInternal,List.get];by_cases G:V=0∨W=0∨size=0
 · simp[run_underlying M,N,G]
 · cases hn:i.size with
   | zero=>exact absurd hn L
   | succ kB =>
    rw[hn]at y t;cases hm:j.size with
    | zero=>exact absurd hm J
    | succ kA =>
    rw[hm]at u;cases B:w.frozen? a with
    | true=>simp[run_underlying M,N,G,E,l,frozen,noView,viewAt,mayBeOne,stringish,shape,Sem.run,u,y,B,z,t]
    | false =>
     cases I:w.frozen? { block:=a.block,off:=kA+1 } <;>
     simp[run_underlying M,N,G,E,l,frozen,noView,viewAt,mayBeOne,stringish,shape,Sem.run,u,y,B,z,t,I]
end Go.Cb
namespace Go.Cb
open Classical
def WC {α:Type} (c:Nat→Option α) (Q:α→Prop):Prop:=∃ i a,(∀ n,i≤n→c n=some a)∧Q a
def EvQ (tbl:Nat→Option AFn) (f:Nat) (as:List AV) (st:St) (Q:AV→St→Prop):Prop:=∃ r st',Ev tbl f as st r st'∧Q r st'
theorem wd {α:Type} {a:α} {Q:α→Prop} (h:Q a):WC (fun _=>some a) Q:=⟨0,a,fun _ _=>rfl,h⟩
theorem WC.mono {α:Type} {c:Nat→Option α} {P Q:α→Prop} (h:WC c P) (i:∀ a,P a→Q a):WC c Q :=
 let ⟨n,a,ha,hp⟩:=h; ⟨n,a,ha,i a hp⟩
theorem WC.obind {α β:Type} {c:Nat→Option α} {k:Nat→α→Option β} {P:α→Prop} {Q:β→Prop} (h:WC c P) (hk:∀ a,P a→WC (fun n=>k n a) Q):WC (fun n=>Go.Cb.obind (c n) (k n)) Q:=by obtain⟨n,a,i,u⟩:=h;obtain⟨m,b,l,x⟩:=hk a u;refine⟨max n m,b,fun j t=>?_,x⟩;show Go.Cb.obind (c j) (k j)=some b;rw[i j (by omega),C0];exact l j (Nat.le_trans (Nat.le_max_right n m) t)
theorem EvQ.mono {tbl:Nat→Option AFn} {f:Nat} {as:List AV} {st:St} {P Q:AV→St→Prop} (h:EvQ tbl f as st P) (i:∀ r st',P r st'→Q r st'):EvQ tbl f as st Q :=
 let ⟨r,st',he,hp⟩:=h; ⟨r,st',he,i r st' hp⟩
section
variable {tbl:Nat→Option AFn}
theorem wc {β:Type} {f:Nat} {as i:List AV} {bx:AV} {st:St} {k:Nat→AV×St→Option β} {P:AV→St→Prop} {Q:β→Prop}
 (h:EvQ tbl f i st P) (u:y9 as=true) (z:as.map AV.weak=i) (hk:∀ r st',P r st'→WC (fun n=>k n (r,st')) Q):WC (fun n=>Go.Cb.obind (p2 (B6 f (m6 tbl n) as bx st)) (k n)) Q:=by
 obtain⟨r,st',t,y⟩:=h;obtain⟨B,j⟩:=t.ge;refine WC.obind (P:=fun x=>x=(r,st')) ⟨B,(r,st'),fun n hn=>?_,rfl⟩ (fun a l=>l ▸ hk r st' y);simp only[B6,u,if_true,z,j n hn,Option.map_some,a8W]
theorem wl {β:Type} {f:Nat} {first i as j:List AV} {bx:AV} {st:St} {k:Nat→AV×St→Option β} {P:AV→St→Prop} {Q:β→Prop}
 (h:EvQ tbl f j st P) (y:y9 as=true) (B:(first++as++i).map AV.weak=j) (hk:∀ r st',P r st'→WC (fun n=>k n (r,st')) Q):WC (fun n=>Go.Cb.obind (p2 (H9 (m6 tbl n) (.func f first i::as) bx st)) (k n)) Q:=by
 obtain⟨r,st',u,z⟩:=h;obtain⟨C,l⟩:=u.ge;refine WC.obind (P:=fun x=>x=(r,st')) ⟨C,(r,st'),fun n hn=>?_,rfl⟩ (fun a t=>t ▸ hk r st' z);simp only[H9,y,if_true,B,l n hn,Option.map_some,a8W]
def a2t (id:Nat) (o:Out):Out:=match o with
 | (.exit i,fr,st)=>if i=id then(.normal,fr,st)else(.exit i,fr,st)
 | o=>o
def blkK (id:Nat) (x:Option Out):Option Out:=match x with
 | some o=>some (a2t id o)
 | none=>none
theorem a9r (id:Nat) (o:Out):blkK id (some o)=some (a2t id o):=e8 rfl
theorem a9F (id:Nat) (fr:List AV) (st:St):a2t id (.normal,fr,st)=(.normal,fr,st):=e8 rfl
theorem b4h (id:Nat) (fr:List AV) (st:St):a2t id (.ret,fr,st)=(.ret,fr,st):=e8 rfl
theorem b2t (id i:Nat) (fr:List AV) (st:St):a2t id (.exit i,fr,st)=if i=id then(.normal,fr,st)else(.exit i,fr,st):=e8 rfl
theorem G7 {id:Nat} {x i:Option Out} (h:x=i):blkK id x=blkK id i:=by rw[h]
theorem b7K (call:e9) (n id:Nat) (a:ACode) (fr:List AV) (st:St):exec call n (.blk id a) fr st=blkK id (exec call n a fr st):=by
 simp only[exec,blkK];cases exec call n a fr st with
 | none=>rfl
 | some o =>
  obtain⟨e,j,st'⟩:=o;cases e with
  | normal=>rfl
  | ret=>rfl
  | exit i=>by_cases h:i=id<;>simp[a2t,h]
theorem WC.seqK {c:Nat→Option Out} {g:Nat→List AV→St→Option Out} {P Q:Out→Prop} (h:WC c P) (hk:∀ o,P o→WC (fun n=>Go.Cb.seqK (some o) (g n)) Q):WC (fun n=>Go.Cb.seqK (c n) (g n)) Q:=by obtain⟨n,a,i,t⟩:=h;obtain⟨m,b,l,u⟩:=hk a t;exact⟨max n m,b,fun j x=>by dsimp only; rw[i j (by omega)]; exact l j (by omega),u⟩
theorem WC.blkK {id:Nat} {c:Nat→Option Out} {Q:Out→Prop} (h:WC c (fun o=>Q (a2t id o))):WC (fun n=>Go.Cb.blkK id (c n)) Q:=by obtain⟨n,a,i,t⟩:=h;exact⟨n,_,fun j l=>by dsimp only; rw[i j l,a9r],t⟩
theorem WC.finK {rs:List ResK} {c:Nat→Option Out} {P:Out→Prop} {Q:AV×St→Prop} (h:WC c P) (hk:∀ o,P o→WC (fun n=>Go.Cb.finK rs (some o)) Q):WC (fun n=>Go.Cb.finK rs (c n)) Q:=by obtain⟨n,a,i,t⟩:=h;obtain⟨m,b,l,u⟩:=hk a t;exact⟨max n m,b,fun j x=>by dsimp only; rw[i j (by omega)]; exact l j (by omega),u⟩
theorem WC.of_xc {x:ACode} {fr:List AV} {st:St} {out:Out} {Q:Out→Prop} (h:XC tbl x fr st out) (i:Q out):WC (fun n=>exec (m6 tbl n) n x fr st) Q:=by obtain⟨n,hn⟩:=h.ge;exact⟨n,out,hn,i⟩
theorem WC.xc {x:ACode} {fr:List AV} {st:St} {Q:Out→Prop} (h:WC (fun n=>exec (m6 tbl n) n x fr st) Q):∃ out,XC tbl x fr st out∧Q out:=by obtain⟨n,a,i,j⟩:=h;exact⟨a,⟨n,i n (Nat.le_refl n)⟩,j⟩
theorem WC.loop {x:ACode} {Q:Out→Prop} (I:Nat→List AV→St→Prop) {m:Nat} {fr:List AV} {st:St} (y:I m fr st)
 (z:∀ m fr st,I m fr st→WC (fun n=>exec (m6 tbl n) n x fr st) (fun o=>(∃ m' i st',o=(.normal,i,st')∧m' < m∧I m' i st')∨(o.1≠.normal∧Q o))) :
 WC (fun n=>exec (m6 tbl n) n (.loop x) fr st) Q:=by
 have key:∀ m fr st,I m fr st→∃ out,LX tbl x fr st out∧Q out:=by
  intro m;induction m using Nat.strongRecOn with
  | ind m C =>
   intro fr st h;obtain⟨out,u,B⟩:=(z m fr st h).xc;rcases B with⟨m',i,st',rfl,l,hi⟩|⟨t,j⟩
   · obtain⟨out,hl,j⟩:=C m' l i st' hi;exact⟨out,LX.step u hl,j⟩
   · obtain⟨e,i,st'⟩:=out;exact⟨_,LX.done u t,j⟩
 obtain⟨out,hl,j⟩:=key m fr st y;exact WC.of_xc (XC.loop hl) j
theorem EvQ.of_body {f:Nat} {fn:AFn} {as:List AV} {st:St} {Q:AV→St→Prop} (i:tbl f=some fn) (l:fn.ext=none) (hl:as.length=fn.np)
 (h:WC (fun n=>Go.Cb.finK fn.results (exec (m6 tbl n) n fn.code (as++List.replicate (fn.nv - fn.np) .undef) st)) (fun r=>Q r.1 r.2)):EvQ tbl f as st Q:=by
 obtain⟨n,a,j,t⟩:=h;refine⟨a.1,a.2,⟨n+1,?_⟩,t⟩;simp only[m6,i,l];rw[Z4 _ _ _ _ _ hl];exact j n (Nat.le_refl n)
theorem EvQ.of_ext {f:Nat} {fn:AFn} {as:List AV} {st:St} {e:List AV→St→Option (AV×St)} {r:AV×St} {Q:AV→St→Prop} (i:tbl f=some fn) (j:fn.ext=some e) (h:e as st=some r) (l:Q r.1 r.2):EvQ tbl f as st Q :=
 ⟨_,_,Ev.of_ext i j h,l⟩
theorem EvQ.of_ev {f:Nat} {as:List AV} {st:St} {r:AV} {st':St} {Q:AV→St→Prop} (h:Ev tbl f as st r st') (i:Q r st'):EvQ tbl f as st Q:=⟨r,st',h,i⟩
theorem EvQ.to_ev {f:Nat} {as:List AV} {st:St} {r:AV} {st':St} (h:EvQ tbl f as st (fun a b=>a=r∧b=st')):Ev tbl f as st r st':=by obtain⟨a,b,i,rfl,rfl⟩:=h;exact i
end
end Go.Cb
namespace Go.Cb
open Classical
section
variable {tbl:Nat→Option AFn}
theorem we {I:Nat→List AV→St→Prop} {m m':Nat} {i:List AV} {st':St} {R:Out→Prop} (hm:m' < m) (hi:I m' i st') :
 WC (fun _=>some (Ex.normal,i,st')) (fun o=>(∃ m' i st',o=(.normal,i,st')∧m' < m∧I m' i st')∨(o.1≠.normal∧R o)):=wd (Or.inl ⟨m',i,st',rfl,hm,hi⟩)
theorem wg {I:Nat→List AV→St→Prop} {m id:Nat} {i:List AV} {st':St} {R:Out→Prop} (h:R (.exit id,i,st')) :
 WC (fun _=>some (Ex.exit id,i,st')) (fun o=>(∃ m' i st',o=(.normal,i,st')∧m' < m∧I m' i st')∨(o.1≠.normal∧R o)):=wd (Or.inr ⟨fun h=>by simp at h,h⟩)
theorem wj {f:Nat} {fn:AFn} {as:List AV} {st:St} {Q:AV→St→Prop} (i:tbl f=some fn) (j:fn.ext=none) (hl:as.length=fn.np)
 (h:WC (fun n=>exec (m6 tbl n) n fn.code (as++List.replicate (fn.nv - fn.np) .undef) st) (fun o=>∃ r st',Go.Cb.finK fn.results (some o)=some (r,st')∧Q r st')):EvQ tbl f as st Q :=
 EvQ.of_body i j hl (WC.finK h fun o ⟨r,st',t,l⟩=>⟨0,(r,st'),fun _ _=>t,l⟩)
end
end Go.Cb
namespace Go.Cb
open Classical
theorem a1q {n:Int} (i:-9223372036854775808≤n) (j:n < 9223372036854775808):D9 .i64 n=n:=by
 rw[Y6];simp only[IntKind.wrap,IntKind.signed,IntKind.bits,Bool.true_and];split
 · rename_i h; have h:=of_decide_eq_true h; omega
 · rename_i h; have h:¬ (n % 2 ^ 64 ≥ 2 ^ (64 - 1)):=fun x=>h (decide_eq_true x); omega
theorem a0Q {i:Nat} (h:i+1 < 2 ^ 63):D9 .i64 (a5t (i:Int) 1)=((i+1:Nat):Int):=by rw[addI_eq,a1q (by omega) (by omega)];omega
theorem ltN (i j:Nat):ltI (i:Int) (j:Int)=decide (i < j):=by
 rw[ltI_eq];by_cases h:i < j
 · simp[h]
 · simp[h]
theorem e1P (i j:Nat):eqI (i:Int) (j:Int)=decide (i=j):=by
 rw[eqI_eq];by_cases h:i=j
 · simp[h]
 · simp[h]; omega
theorem E2 (b:Bool):b=true∨b=false:=by cases b<;>simp
theorem a4n {i:Nat} {xs:List (List AV)} (h:∀ r∈xs,r.length=i):s5 i xs=true:=by
 cases xs with
 | nil=>rfl
 | cons r rs=>simp[s5,h r (by simp)]
def gV (x:AV) (want:Bool) (v:AV):AV:=match x with
 | .bool b=>if b == want then v else .tuple []
 | _=>.tuple []
theorem e0X (v:AV):gV (.bool true) true v=v:=e8 rfl
theorem e1x (v:AV):gV (.bool false) false v=v:=e8 rfl
theorem d8n (v:AV):gV (.bool true) false v=.tuple []:=e8 rfl
theorem e03 (v:AV):gV (.bool false) true v=.tuple []:=e8 rfl
theorem c4O (want:Bool) (v:AV):gV (.tuple []) want v=.tuple []:=e8 rfl
theorem b2Y (c want:Bool) (v:AV):gv (.bool c) want (some v)=some (gV (.bool c) want v):=by cases c<;>cases want<;>rfl
theorem b0M (x:AV) (w b want:Bool) (v:AV):gv (gV x w (.bool b)) want (some v)=some (gV (gV x w (.bool b)) want v):=by
 unfold gV;cases x with
 | bool c=>cases c<;>cases w<;>cases b<;>cases want<;>rfl
 | _=>rfl
theorem H7 {x i:AV} {want:Bool} {e e':Option AV} (l:x=i) (t:i=.bool want→e=e'):gv x want e=gv i want e':=by
 subst l;unfold gv;split
 · rename_i b;by_cases j:b=want
   · rw[t (by rw[j])]
   · simp[j]
 · rfl
 · rfl
theorem c7z (x:AV) (w:Bool) (v:AV):(gV x w v).weak=gV x w v.weak:=by
 unfold gV;cases x with
 | bool c=>dsimp only; split<;>rfl
 | _=>rfl
theorem c2a (x:AV) (w:Bool) (v:AV):(gV x w v).strip=gV x w v.strip:=by
 unfold gV;cases x with
 | bool c=>dsimp only; split<;>rfl
 | _=>rfl
theorem b8b (x:AV) (w:Bool) (v:AV):(gV x w v).stripB=gV x w v.stripB:=by
 unfold gV;cases x with
 | bool c=>dsimp only; split<;>rfl
 | _=>rfl
theorem d1o (call:e9) (a b bx:AV) (st:St):p1 (F3 call [.bool true,a,b] bx st)=if a.plain then some a else none:=by unfold F3; dsimp only; by_cases h:a.plain=true<;>simp[h,p1]
theorem d6d (call:e9) (a b bx:AV) (st:St):p1 (F3 call [.bool false,a,b] bx st)=if b.plain then some b else none:=by unfold F3; dsimp only; by_cases h:b.plain=true<;>simp[h,p1]
theorem c5V (call:e9) (c d:Bool) (bx:AV) (st:St):p1 (F3 call [.bool c,.bool true,gV (.bool c) false (.bool d)] bx st)=some (.bool (c || d)):=by cases c<;>rfl
theorem c06 (call:e9) (c d:Bool) (bx:AV) (st:St):p1 (F3 call [.bool c,gV (.bool c) true (.bool d),.bool false] bx st)=some (.bool (c && d)):=by cases c<;>rfl
theorem b7N (b:Bool):(AV.bool b).weak=.bool b:=e8 rfl
theorem b90 (k:IntKind) (n:Int):(AV.int k n).weak=.int k n:=e8 rfl
theorem c1f (s:List Nat):(AV.str s).weak=.str s:=e8 rfl
theorem b8u (o:Bool) (xs:List (List AV)):(AV.list o xs).weak=.list false xs:=e8 rfl
theorem c1e (o f:Nat):(AV.ptr o f).weak=.ptr o f:=e8 rfl
theorem b8U:AV.nilp.weak=.nilp:=e8 rfl
theorem b8i:AV.nils.weak=.nils:=e8 rfl
theorem c6a (cs:List AV):(AV.ro cs).weak=.ro cs:=e8 rfl
theorem b9c (i f:Nat):(AV.loc i f).weak=.loc i f:=e8 rfl
theorem c0H (o:Nat):(AV.map o).weak=.map o:=e8 rfl
theorem b7b:AV.nilm.weak=.nilm:=e8 rfl
theorem b8F (f:Nat) (a b:List AV):(AV.func f a b).weak=.func f a b:=e8 rfl
theorem b66:AV.nilf.weak=.nilf:=e8 rfl
theorem T6 (cs:List AV):(AV.agg cs).weak=.agg (cs.map AV.weak1):=e8 rfl
theorem c6L (o f n s:Nat):(AV.sl o f n s).weak=.sl o f n s:=e8 rfl
theorem b4b (t:Nat) (v:AV):(AV.iface t v).weak=.iface t v:=e8 rfl
theorem b7v:AV.nili.weak=.nili:=e8 rfl
theorem b4k (vs:List AV):(AV.tuple vs).weak=.tuple vs:=e8 rfl
theorem b3Y:AV.undef.weak=.undef:=e8 rfl
theorem b92 (cs:List AV):(AV.box cs).weak=.box cs:=e8 rfl
theorem b55 (b:Bool):(AV.bool b).weak1=.bool b:=e8 rfl
theorem b8Z (k:IntKind) (n:Int):(AV.int k n).weak1=.int k n:=e8 rfl
theorem b8H (s:List Nat):(AV.str s).weak1=.str s:=e8 rfl
theorem b5d (o:Bool) (xs:List (List AV)):(AV.list o xs).weak1=.list false xs:=e8 rfl
theorem c0F (o f n s:Nat):(AV.sl o f n s).weak1=.sl o f n s:=e8 rfl
theorem b3T (f:Nat) (a b:List AV):(AV.func f a b).weak1=.func f a b:=e8 rfl
theorem b7C (o f:Nat):(AV.ptr o f).weak1=.ptr o f:=e8 rfl
theorem b4V:AV.nilp.weak1=.nilp:=e8 rfl
theorem b5q:AV.nils.weak1=.nils:=e8 rfl
theorem a0C (o:Nat):(AV.map o).weak1=.map o:=e8 rfl
theorem b5V:AV.nilm.weak1=.nilm:=e8 rfl
theorem b40 (b:Bool):(AV.bool b).strip=.bool b:=e8 rfl
theorem b80 (k:IntKind) (n:Int):(AV.int k n).strip=.int k n:=e8 rfl
theorem b8z (s:List Nat):(AV.str s).strip=.str s:=e8 rfl
theorem b4m (o:Bool) (xs:List (List AV)):(AV.list o xs).strip=.list o xs:=e8 rfl
theorem b77 (o f:Nat):(AV.ptr o f).strip=.ptr o f:=e8 rfl
theorem b6t:AV.nilp.strip=.nilp:=e8 rfl
theorem b4r:AV.nils.strip=.nils:=e8 rfl
theorem b9u (cs:List AV):(AV.ro cs).strip=.ro cs:=e8 rfl
theorem b8q (i f:Nat):(AV.loc i f).strip=.undef:=e8 rfl
theorem b7X (o:Nat):(AV.map o).strip=.map o:=e8 rfl
theorem b4p:AV.nilm.strip=.nilm:=e8 rfl
theorem b4y (f:Nat) (a b:List AV):(AV.func f a b).strip=.func f a b:=e8 rfl
theorem b6J:AV.nilf.strip=.nilf:=e8 rfl
theorem b8y (cs:List AV):(AV.agg cs).strip=.agg cs:=e8 rfl
theorem b9t (o f n s:Nat):(AV.sl o f n s).strip=.sl o f n s:=e8 rfl
theorem b2x (vs:List AV):(AV.tuple vs).strip=.tuple vs:=e8 rfl
theorem b14:AV.undef.strip=.undef:=e8 rfl
theorem b2i (b:Bool):(AV.bool b).stripB=.bool b:=e8 rfl
theorem b5j (k:IntKind) (n:Int):(AV.int k n).stripB=.int k n:=e8 rfl
theorem b6C (s:List Nat):(AV.str s).stripB=.str s:=e8 rfl
theorem b2b (o:Bool) (xs:List (List AV)):(AV.list o xs).stripB=.list o xs:=e8 rfl
theorem b6G (o f:Nat):(AV.ptr o f).stripB=.ptr o f:=e8 rfl
theorem b1R:AV.nilp.stripB=.nilp:=e8 rfl
theorem b2A:AV.nils.stripB=.nils:=e8 rfl
theorem b7W (cs:List AV):(AV.ro cs).stripB=.ro cs:=e8 rfl
theorem b37 (i f:Nat):(AV.loc i f).stripB=.loc i f:=e8 rfl
theorem b3I (o:Nat):(AV.map o).stripB=.map o:=e8 rfl
theorem b15:AV.nilm.stripB=.nilm:=e8 rfl
theorem b2e (f:Nat) (a b:List AV):(AV.func f a b).stripB=.func f a b:=e8 rfl
theorem b11:AV.nilf.stripB=.nilf:=e8 rfl
theorem b5X (cs:List AV):(AV.agg cs).stripB=.agg cs:=e8 rfl
theorem b52 (xs:List (List AV)):(AV.fresh xs).weak=.fresh xs:=e8 rfl
theorem b1V (xs:List (List AV)):(AV.fresh xs).strip=.fresh xs:=e8 rfl
theorem b1M (xs:List (List AV)):(AV.fresh xs).stripB=.fresh xs:=e8 rfl
theorem b7T (o f n s:Nat):(AV.sl o f n s).stripB=.sl o f n s:=e8 rfl
theorem b1x (vs:List AV):(AV.tuple vs).stripB=.tuple vs:=e8 rfl
theorem b1j:AV.undef.stripB=.undef:=e8 rfl
def c8K {α:Type} (K:α→Option Out) (g:List AV→St→Option Out) (a:α):Option Out:=Go.Cb.seqK (K a) g
def c8g {α:Type} (id:Nat) (K:α→Option Out) (a:α):Option Out:=Go.Cb.blkK id (K a)
theorem c84 {α:Type} (K:α→Option Out) (g:List AV→St→Option Out) (a:α):c8K K g a=Go.Cb.seqK (K a) g:=e8 rfl
theorem d7h {α:Type} (id:Nat) (K:α→Option Out) (a:α):c8g id K a=Go.Cb.blkK id (K a):=e8 rfl
theorem b2n {α:Type} (x:Option α) (f:α→Option Out) (g:List AV→St→Option Out):Go.Cb.seqK (Go.Cb.obind x f) g=Go.Cb.obind x (c8K f g):=by cases x<;>rfl
theorem b2k {α:Type} (id:Nat) (x:Option α) (f:α→Option Out):Go.Cb.blkK id (Go.Cb.obind x f)=Go.Cb.obind x (c8g id f):=by cases x<;>rfl
def a4l (call:e9) (n:Nat) (a:ACode) (fr:List AV) (st:St) (_:Unit):Option Out:=exec call n a fr st
def c1I (A:Unit→Option Out) (g:List AV→St→Option Out) (u:Unit):Option Out:=Go.Cb.seqK (A u) g
def b95 (id:Nat) (A:Unit→Option Out) (u:Unit):Option Out:=Go.Cb.blkK id (A u)
theorem d63 (call:e9) (n:Nat) (a:ACode) (fr:List AV) (st:St) (u:Unit):a4l call n a fr st u=exec call n a fr st:=e8 rfl
theorem d6F (A:Unit→Option Out) (g:List AV→St→Option Out) (u:Unit):c1I A g u=Go.Cb.seqK (A u) g:=e8 rfl
theorem d4j (id:Nat) (A:Unit→Option Out) (u:Unit):b95 id A u=Go.Cb.blkK id (A u):=e8 rfl
def brT (c:AV) (A B:Unit→Option Out):Option Out:=match c with
 | .bool true=>A ()
 | .bool false=>B ()
 | _=>none
theorem c1E (A B:Unit→Option Out):brT (.bool true) A B=A ():=e8 rfl
theorem b63 (A B:Unit→Option Out):brT (.bool false) A B=B ():=e8 rfl
theorem I8 {c i:AV} {A B:Unit→Option Out} (h:c=i):brT c A B=brT i A B:=by rw[h]
theorem c1t (c:AV) (A B:Unit→Option Out) (g:List AV→St→Option Out):Go.Cb.seqK (brT c A B) g=brT c (c1I A g) (c1I B g):=by
 cases c<;>try rfl
 rename_i b; cases b<;>rfl
theorem b9X (id:Nat) (c:AV) (A B:Unit→Option Out):Go.Cb.blkK id (brT c A B)=brT c (b95 id A) (b95 id B):=by
 cases c<;>try rfl
 rename_i b; cases b<;>rfl
theorem c91 (call:e9) (n:Nat) (c:AV) (a b:ACode) (fr:List AV) (st:St):Go.Cb.br c (exec call n a fr st) (exec call n b fr st)=brT c (a4l call n a fr st) (a4l call n b fr st):=by cases c<;>try rfl
theorem b6E (call:e9) (n:Nat) (kill:List Nat) (i:List AOper) (c:Opd) (a b:ACode) (fr:List AV) (st:St) :
 exec call n (.test kill i c a b) fr st=a8P call i ⟨m0 kill fr,fun _=>.undef,st⟩ fun σ=>brT (c.read σ) (a4l call n a σ.fr σ.st) (a4l call n b σ.fr σ.st):=by
 rw[a5s];simp only[c91]
def b38 (call:e9) (n:Nat) (x:ACode) (fr:List AV) (st:St):Option Out:=exec call n (.loop x) fr st
theorem b5A (call:e9) (n:Nat) (x:ACode) (fr:List AV) (st:St):exec call n (.loop x) fr st=Go.Cb.obind (b38 call n x fr st) some:=by unfold b38; cases exec call n (.loop x) fr st<;>rfl
theorem wi {c:Bool} {A B:Nat→Unit→Option Out} {Q:Out→Prop} (j:c=true→WC (fun n=>A n ()) Q) (i:c=false→WC (fun n=>B n ()) Q):WC (fun n=>brT (.bool c) (A n) (B n)) Q:=by
 cases c with
 | true=>exact j rfl
 | false=>exact i rfl
theorem wh {tbl:Nat→Option AFn} {β:Type} {x:ACode} {K:Nat→Out→Option β} {Q:β→Prop} (I:Nat→List AV→St→Prop) {m:Nat} {fr:List AV} {st:St} (j:I m fr st)
 (l:∀ m fr st,I m fr st→WC (fun n=>exec (m6 tbl n) n x fr st) (fun o=>(∃ m' i st',o=(.normal,i,st')∧m' < m∧I m' i st')∨(o.1≠.normal∧WC (fun n=>K n o) Q))) :
 WC (fun n=>Go.Cb.obind (b38 (m6 tbl n) n x fr st) (K n)) Q:=WC.obind (WC.loop I j l) fun _ t=>t
theorem wm {β:Type} {c want:Bool} {st:St} {E:Nat→Option (AV×St)} {k:Nat→AV×St→Option β} {Q:β→Prop} (l:c=want→WC (fun n=>Go.Cb.obind (E n) (k n)) Q) (j:c=!want→WC (fun n=>k n (.tuple [],st)) Q) :
 WC (fun n=>Go.Cb.obind (gv2 (.bool c) want st (E n)) (k n)) Q:=by
 by_cases h:c=want
 · subst h;have e:∀ n,gv2 (.bool c) c st (E n)=E n:=fun n=>by cases c<;>rfl
   simp only[e];exact l rfl
 · have i:c=!want:=by cases c<;>cases want<;>simp_all
   have e:∀ n,gv2 (.bool c) want st (E n)=some (.tuple [],st):=fun n=>by subst i; cases want<;>rfl
   simp only[e,C0];exact j i
end Go.Cb
namespace Go.Cb
def W (a:AV):AV:=AV.weak (AV.stripB a)
def brE (c:AV) (call:e9) (n:Nat) (a b:ACode) (fr:List AV) (st:St):Option Out:=brT c (a4l call n a fr st) (a4l call n b fr st)
def m1 {β:Type} (a:AV) (f:AV→Option β):Option β:=obind (p1 (some (a,AV.undef,([]:St)))) f
def gm {β:Type} (x:AV) (w:Bool) (a:AV) (f:AV→Option β):Option β:=obind (gv x w (some a)) f
theorem M4 {β:Type} {a i:AV} {f:AV→Option β} (h:a=i):m1 a f=m1 i f:=by rw[h]
theorem M5 {β:Type} {x j a i:AV} {w:Bool} {f:AV→Option β} (l:x=j) (t:j=.bool w→a=i):gm x w a f=gm j w i f:=by unfold gm;rw[H7 (e:=some a) (e':=some i) l (fun h=>by rw[t h])]
end Go.Cb
namespace Go.Cb.R
open Go.Cb
theorem e7v (call:e9) (bx:AV) (st:St) (a:AV):a1a call [a] bx st=some (a,bx,st):=e8 rfl
theorem b6u (call:e9) (bx:AV) (st:St) (o f:Nat):G0 call [.ptr o f] bx st=some (.ptr o f,bx,st):=e8 rfl
theorem b5r (call:e9) (bx:AV) (st:St) (o f:Nat):G0 call [.loc o f] bx st=some (.loc o f,bx,st):=e8 rfl
theorem b8d (call:e9) (bx:AV) (st:St) (cs:List AV):G0 call [.ro cs] bx st=some (.ro cs,bx,st):=e8 rfl
theorem b1Z (call:e9) (bx:AV) (st:St) (f:Nat) (a b:List AV):G0 call [.func f a b] bx st=some (.func f a b,bx,st):=e8 rfl
theorem c6I (call:e9) (st:St) (zero:List AV):V4 zero call [] .undef st=some (.undef,.box zero,st):=e8 rfl
theorem d56 (call:e9) (st:St) (a:AV):X1 call [a] .undef st=if a.plain then some (.undef,.box a.cellsW,st)else none:=e8 rfl
theorem c0W (call:e9) (bx:AV) (st:St) (zero:List AV):I7 zero call [] bx st=some (.ptr st.length 0,bx,st++[.cells zero]):=e8 rfl
theorem d3C (call:e9) (bx:AV) (st:St) (a:AV):O7 call [a] bx st=if a.plain then some (.ptr st.length 0,bx,st++[.cells a.cellsW])else none:=e8 rfl
theorem c5H (call:e9) (bx:AV) (st:St) (zero:List AV) (i:List (Nat×Nat)) (as:List AV):N9 zero i call as bx st=(E4 i as zero).map fun cs=>(.agg cs,bx,st):=e8 rfl
theorem c0I (call:e9) (bx:AV) (st:St) (i:Nat) (zero:List (List AV)) (at_:List Nat) (as:List AV):N3 i zero at_ call as bx st=(D8 i at_ as zero).map fun rs=>(.list true rs,bx,st):=e8 rfl
theorem d06 (call:e9) (st:St) (i off n:Nat) (agg:Bool) (cs:List AV):M0 i agg n call [.loc i off] (.box cs) st=(m4 agg n (cs.drop off)).map (fun v=>(v,.box cs,st)):=by unfold M0; simp only[if_true]
theorem d4g (call:e9) (bx:AV) (st:St) (o off n:Nat) (agg:Bool):F4 agg n call [.ptr o off] bx st=match st[o]? with|some (.cells cs)=>(m4 agg n (cs.drop off)).map (fun v=>(v,bx,st))|_=>none:=e8 rfl
theorem d5W (call:e9) (bx:AV) (st:St) (n:Nat) (agg:Bool) (cs:List AV):P1 agg n call [.ro cs] bx st=(m4 agg n cs).map (fun v=>(v,bx,st)):=e8 rfl
theorem c4t (call:e9) (bx:AV) (st:St) (n:Nat) (agg:Bool) (cs:List AV):H3 agg n call [.ro cs] bx st=(m4 agg n cs).map (fun v=>(v,bx,st)):=e8 rfl
theorem ldAn_ptr (call:e9) (bx:AV) (st:St) (o off n:Nat) (agg:Bool):H3 agg n call [.ptr o off] bx st=match st[o]? with|some (.cells cs)=>(m4 agg n (cs.drop off)).map (fun v=>(v,bx,st))|_=>none:=e8 rfl
theorem c49 (call:e9) (st:St) (i off:Nat) (cs:List AV):O0 i call [.loc i off] (.box cs) st=match cs[off]? with|some c=>some (c,.box (cs.set off c.weak1),st)|none=>none:=by unfold O0; simp only[if_true]; rfl
theorem c6K (call:e9) (bx:AV) (st:St) (o off:Nat):E8 call [.ptr o off] bx st=match st[o]? with|some (.cells cs)=>(match cs[off]? with|some c=>some (c,bx,st.set o (.cells (cs.set off c.weak1)))|none=>none)|_=>none:=e8 rfl
theorem d7x (call:e9) (st:St) (i n off:Nat) (x:AV) (cs:List AV):O6 i n call [.loc i off,x] (.box cs) st=if x.plain=true∧x.cells.length=n∧off+n≤cs.length then some (.tuple [],.box (B7 cs off x.cells),st)else none:=by unfold O6; simp only[true_and]
theorem d1f (call:e9) (bx:AV) (st:St) (o off n:Nat) (x:AV):H5 n call [.ptr o off,x] bx st=match st[o]? with|some (.cells cs)=>(if x.plain=true∧x.cells.length=n∧off+n≤cs.length then some (.tuple [],bx,st.set o (.cells (B7 cs off x.cells)))else none)|_=>none:=by unfold H5; simp only[fL_eq]; rfl
theorem c5W (call:e9) (bx:AV) (st:St) (off o f:Nat):P6 off call [.ptr o f] bx st=some (.ptr o (f+off),bx,st):=e8 rfl
theorem c4h (call:e9) (bx:AV) (st:St) (off o f:Nat):P6 off call [.loc o f] bx st=some (.loc o (f+off),bx,st):=e8 rfl
theorem d0A (call:e9) (bx:AV) (st:St) (off:Nat) (cs:List AV):P6 off call [.ro cs] bx st=some (.ro (cs.drop off),bx,st):=e8 rfl
theorem d8E (call:e9) (bx:AV) (st:St) (off n:Nat) (agg:Bool) (cs:List AV):W5 off n agg call [.agg cs] bx st=if off+n≤cs.length then(m4 agg n (cs.drop off)).map (fun v=>(v,bx,st))else none:=e8 rfl
theorem d8v (call:e9) (bx:AV) (st:St) (j:Nat) (w:Bool) (xs:List (List AV)) (k:IntKind) (i:Int):O1 j call [.list w xs,.int k i] bx st=if 0≤i then(match xs[i.toNat]? with|some r=>if r.length=j then some (.ro r,bx,st)else none|none=>none)else none:=e8 rfl
theorem d4V (call:e9) (bx:AV) (st:St) (j o f n s:Nat) (k:IntKind) (i:Int):O1 j call [.sl o f n s,.int k i] bx st=if 0≤i∧i < (n:Int)∧s=j then some (.ptr o (f+i.toNat*j),bx,st)else none:=e8 rfl
theorem b8f (call:e9) (bx:AV) (st:St):J6 call [.nils] bx st=some (.int .i64 0,bx,st):=e8 rfl
theorem c3h (call:e9) (bx:AV) (st:St) (o f n s:Nat):J6 call [.sl o f n s] bx st=some (.int .i64 n,bx,st):=e8 rfl
theorem b67 (call:e9) (bx:AV) (st:St) (i:Nat) (zero:List (List AV)) (at_:List Nat) (as:List AV):K4 i zero at_ call as bx st=(B0 i at_ as zero).map fun rs=>(.fresh rs,bx,st):=e8 rfl
theorem b8j (call:e9) (bx:AV) (st:St) (i:Nat) (zero:List (List AV)) (at_:List Nat) (as:List AV):K5 i zero at_ call as bx st=(B0 i at_ as zero).map fun rs=>(.sl st.length 0 zero.length i,bx,st++[.cells rs.flatten]):=e8 rfl
theorem d6T (call:e9) (bx:AV) (st:St) (k i:IntKind) (a b:Int):W7 call [.int k a,.int i b] bx st=if k=i then some (.int k (b5c a b),bx,st)else none:=e8 rfl
theorem d0N (call:e9) (bx:AV) (st:St) (neg:Bool) (k i:IntKind) (a b:Int) (s t:List Nat):W9 neg call [.agg [.int k a,.str s],.agg [.int i b,.str t]] bx st=if k=i then some (.bool (a7S neg a b s t),bx,st)else none:=e8 rfl
theorem b2B (i:Nat) (rs:List (List AV)):B0 i [] [] rs=some rs:=e8 rfl
theorem b1W (j i:Nat) (is:List Nat) (p:AV) (l:List AV) (rs:List (List AV)):B0 j (i::is) (p::l) rs=if p.plain=true∧p.cells.length=j∧i < rs.length then B0 j is l (rs.set i (p.cells.map AV.cellW1))else none:=e8 rfl
theorem c0n (call:e9) (bx:AV) (st:St) (i bytes:Nat) (ys:List (List AV)) (gs:List AV):F6 i bytes call (.list true []::.fresh ys::gs) bx st=if ys.isEmpty=false∧s5 i ys=true∧ys.length*bytes≤2 ^ 47∧N2 none st.length gs=true then some (.sl st.length 0 ys.length i,bx,st++[.cells ys.flatten])else none:=e8 rfl
theorem b8N (call:e9) (bx:AV) (st:St) (i bytes:Nat) (ys:List (List AV)) (gs:List AV):F6 i bytes call (.nils::.fresh ys::gs) bx st=if ys.isEmpty=false∧s5 i ys=true∧ys.length*bytes≤2 ^ 47∧N2 none st.length gs=true then some (.sl st.length 0 ys.length i,bx,st++[.cells ys.flatten])else none:=e8 rfl
theorem c3y (call:e9) (bx:AV) (st:St) (i bytes o n s:Nat) (ys:List (List AV)) (gs:List AV):F6 i bytes call (.sl o 0 n s::.fresh ys::gs) bx st=match st[o]? with|some (.cells xs)=>(if s=i∧ys.isEmpty=false∧s5 i ys=true∧xs.length=n*i∧(n+ys.length)*bytes≤2 ^ 47∧N2 (some o) st.length gs=true then some (.sl st.length 0 (n+ys.length) i,bx,st.set o .dead++[.cells (xs++ys.flatten)])else none)|_=>none:=e8 rfl
theorem c6Y (o:Option Nat) (n:Nat):N2 o n []=true:=e8 rfl
theorem c3z (o:Option Nat) (n p f:Nat) (gs:List AV):N2 o n (.ptr p f::gs)=(Nat.blt p n && (match o with|some o=>!Nat.beq p o|none=>true) && N2 o n gs):=e8 rfl
theorem c79 {α:Type}:([]:List (List α)).flatten=[]:=e8 rfl
theorem d1X {α:Type} (a:List α) (l:List (List α)):(a::l).flatten=a++l.flatten:=e8 rfl
theorem e0h (call:e9) (bx:AV) (st:St) (w:Bool) (xs:List (List AV)):W3 call [.list w xs] bx st=(I5 xs).map fun s=>(.str s,bx,st):=e8 rfl
theorem b8B:I5 []=some []:=e8 rfl
theorem b8m (n:Int) (rs:List (List AV)):I5 ([.int .u8 n]::rs)=if 0≤n∧n < 256 then(I5 rs).map (n.toNat::·)else none:=e8 rfl
theorem c5O (call:e9) (bx:AV) (st:St) (len j:Nat) (cs:List AV) (k:IntKind) (i:Int):I4 len j call [.ro cs,.int k i] bx st=if 0≤i∧i < (len:Int)then some (.ro (cs.drop (i.toNat*j)),bx,st)else none:=e8 rfl
theorem b9s (call:e9) (bx:AV) (st:St) (len j o f:Nat) (k:IntKind) (i:Int):I4 len j call [.ptr o f,.int k i] bx st=if 0≤i∧i < (len:Int)then some (.ptr o (f+i.toNat*j),bx,st)else none:=e8 rfl
theorem b9d (call:e9) (bx:AV) (st:St) (len j o f:Nat) (k:IntKind) (i:Int):I4 len j call [.loc o f,.int k i] bx st=if 0≤i∧i < (len:Int)then some (.loc o (f+i.toNat*j),bx,st)else none:=e8 rfl
theorem c9u (call:e9) (bx:AV) (st:St) (s:List Nat) (k:IntKind) (i:Int):N7 call [.str s,.int k i] bx st=if 0≤i then(match s[i.toNat]? with|some b=>some (.int .u8 b,bx,st)|none=>none)else none:=e8 rfl
theorem d7K (call:e9) (bx:AV) (st:St) (i hi:Bool) (s:List Nat) (r:List AV):S0 i hi call (.str s::r) bx st=(H2 i hi r s.length).map fun p=>(.str ((s.take p.2).drop p.1),bx,st):=e8 rfl
theorem c8b (call:e9) (bx:AV) (st:St) (i:Nat) (j hi:Bool) (o f n s:Nat) (r:List AV):P3 i j hi call (.sl o f n s::r) bx st=if s=i then(slB j hi r n).map fun p=>(.sl o (f+p.1*i) (p.2 - p.1) s,bx,st)else none:=e8 rfl
theorem d8T (call:e9) (bx:AV) (st:St) (j:Nat) (i hi:Bool) (w:Bool) (xs:List (List AV)) (r:List AV):P3 j i hi call (.list w xs::r) bx st=if s5 j xs then(H2 i hi r xs.length).map fun p=>(.list false ((xs.take p.2).drop p.1),bx,st)else none:=e8 rfl
theorem d9G (call:e9) (bx:AV) (st:St) (w:Bool) (xs:List (List AV)):Y8 call [.list w xs] bx st=some (.list true [],bx,st):=e8 rfl
theorem d8l (call:e9) (bx:AV) (st:St) (len i:Nat) (j hi:Bool) (cs r:List AV):W2 len i j hi call (.ro cs::r) bx st=if cs.length=len*i then(H2 j hi r len).map fun p=>(.list false (((W4 i len cs).take p.2).drop p.1),bx,st)else none:=e8 rfl
theorem d9O (call:e9) (bx:AV) (st:St) (op:BinOp) (a b:AV):F1 op call [a,b] bx st=(s4 op a b).map (fun v=>(v,bx,st)):=e8 rfl
theorem d5p (call:e9) (bx:AV) (st:St) (op:BinOp) (a b:AV):S7 op call [a,b] bx st=(a6k op a b).map (fun v=>(v,bx,st)):=e8 rfl
theorem c8S (call:e9) (bx:AV) (st:St) (op:BinOp) (a b:AV):N8 op call [a,b] bx st=(a0L op a b).map (fun v=>(v,bx,st)):=e8 rfl
theorem d1d (k:IntKind) (a b:Int):s4 .add (.int k a) (.int k b)=some (.int k (D9 k (a5t a b))):=by simp only[s4,if_true]
theorem c9A (k:IntKind) (a b:Int):s4 .sub (.int k a) (.int k b)=some (.int k (D9 k (b0N a b))):=by simp only[s4,if_true]
theorem d0D (k:IntKind) (a b:Int):s4 .mul (.int k a) (.int k b)=some (.int k (D9 k (a*b))):=by simp only[s4,if_true]
theorem d1G (k:IntKind) (a b:Int):s4 .quo (.int k a) (.int k b)=if b=0 then none else some (.int k (k.wrap (a.tdiv b))):=by simp only[s4,if_true]
theorem d6U (k:IntKind) (a b:Int):s4 .rem (.int k a) (.int k b)=if b=0 then none else some (.int k (a.tmod b)):=by simp only[s4,if_true]
theorem c9O (k:IntKind) (a b:Int):s4 .eql (.int k a) (.int k b)=some (.bool (eqI a b)):=by simp only[s4,if_true]
theorem c82 (k:IntKind) (a b:Int):s4 .neq (.int k a) (.int k b)=some (.bool !(eqI a b)):=by simp only[s4,if_true]
theorem c8X (k:IntKind) (a b:Int):s4 .lss (.int k a) (.int k b)=some (.bool (ltI a b)):=by simp only[s4,if_true]
theorem d3e (k:IntKind) (a b:Int):s4 .leq (.int k a) (.int k b)=some (.bool !(ltI b a)):=by simp only[s4,if_true]
theorem d6O (k:IntKind) (a b:Int):s4 .gtr (.int k a) (.int k b)=some (.bool (ltI b a)):=by simp only[s4,if_true]
theorem d4G (k:IntKind) (a b:Int):s4 .geq (.int k a) (.int k b)=some (.bool !(ltI a b)):=by simp only[s4,if_true]
theorem d3h (a b:List Nat):s4 .add (.str a) (.str b)=if a.length+b.length≤2 ^ 62 then some (.str (a++b))else none:=e8 rfl
theorem d6Z (a b:List Nat):s4 .eql (.str a) (.str b)=some (.bool (eqN a b)):=e8 rfl
theorem d1t (a b:List Nat):s4 .neq (.str a) (.str b)=some (.bool !(eqN a b)):=e8 rfl
theorem c9K (a b:List Nat):s4 .lss (.str a) (.str b)=some (.bool (m9 a b)):=e8 rfl
theorem d5j (a b:Bool):a6k .eql (.bool a) (.bool b)=some (.bool (a == b)):=e8 rfl
theorem c8B (a b:Bool):a6k .neq (.bool a) (.bool b)=some (.bool !(a == b)):=e8 rfl
theorem c4n (o f:Nat):a0L .eql (.ptr o f) .nilp=some (.bool false):=e8 rfl
theorem c6D (o f:Nat):a0L .eql .nilp (.ptr o f)=some (.bool false):=e8 rfl
theorem c6t:a0L .eql .nilp .nilp=some (.bool true):=e8 rfl
theorem c6u (o f:Nat):a0L .neq (.ptr o f) .nilp=some (.bool true):=e8 rfl
theorem c3Y (o f:Nat):a0L .neq .nilp (.ptr o f)=some (.bool true):=e8 rfl
theorem c5v:a0L .neq .nilp .nilp=some (.bool false):=e8 rfl
theorem d6J (call:e9) (bx:AV) (st:St) (b:Bool):a0q .not call [.bool b] bx st=some (.bool !b,bx,st):=e8 rfl
theorem d5o (call:e9) (bx:AV) (st:St) (k:IntKind) (n:Int):a0q .neg call [.int k n] bx st=some (.int k (D9 k (0 - n)),bx,st):=e8 rfl
theorem d3c (call:e9) (bx:AV) (st:St) (k i:IntKind) (n:Int):R8 k call [.int i n] bx st=some (.int k (D9 k n),bx,st):=e8 rfl
theorem d8u (call:e9) (bx:AV) (st:St) (f n:Nat) (as:List AV):Y3 f n call as bx st=if y9 as then some (.func f ((as.map AV.weak).take n) ((as.map AV.weak).drop n),bx,st)else none:=e8 rfl
theorem e1n (call:e9) (bx:AV) (st:St):Y4 call [] bx st=some (.map st.length,bx,st++[.map []]):=e8 rfl
theorem e1s (call:e9) (bx:AV) (st:St) (i:Nat) (vs:List AV):S1 i call [.tuple vs] bx st=match vs[i]? with|some v=>some (v.weak,bx,st)|none=>none:=e8 rfl
theorem d3j (call:e9) (bx:AV) (st:St) (s:List Nat):R9 call [.str s] bx st=some (.int .i64 s.length,bx,st):=e8 rfl
theorem d6k (call:e9) (bx:AV) (st:St) (w:Bool) (xs:List (List AV)):J6 call [.list w xs] bx st=some (.int .i64 xs.length,bx,st):=e8 rfl
theorem d9w (call:e9) (bx:AV) (st:St) (i bytes:Nat) (w:Bool) (xs ys:List (List AV)):W6 i bytes call [.list true xs,.list w ys] bx st=if s5 i xs && s5 i ys && decide ((xs.length+ys.length)*bytes≤2 ^ 47)then some (.list true (xs++ys),bx,st)else none:=e8 rfl
theorem takeVal_t (n:Nat) (cs:List AV):m4 true n cs=if n≤cs.length then some (.agg ((cs.take n).map AV.weak1))else none:=e8 rfl
theorem b7h (n:Nat) (c:AV) (cs:List AV):m4 false n (c::cs)=some c.weak1:=e8 rfl
theorem b5G (cs:List AV):E4 [] [] cs=some cs:=e8 rfl
theorem b6g (off n:Nat) (i:List (Nat×Nat)) (p:AV) (j cs:List AV):E4 ((off,n)::i) (p::j) cs=if p.plain=true∧p.cells.length=n∧off+n≤cs.length then E4 i j (B7 cs off p.cells)else none:=e8 rfl
theorem b33 (i:Nat) (rs:List (List AV)):D8 i [] [] rs=some rs:=e8 rfl
theorem b5P (j i:Nat) (is:List Nat) (p:AV) (l:List AV) (rs:List (List AV)):D8 j (i::is) (p::l) rs=if p.plain=true∧p.cells.length=j∧i < rs.length then D8 j is l (rs.set i (p.cells.map AV.weak1))else none:=e8 rfl
theorem b9L (cs:List AV) (off:Nat) (new:List AV):B7 cs off new=cs.take off++new++cs.drop (off+new.length):=e8 rfl
theorem b7o (n:Nat):H2 false false [] n=some (0,n):=e8 rfl
theorem b64 (l:AV) (n:Nat):H2 true false [l] n=(R2 l n).map fun l=>(l,n):=e8 rfl
theorem b7M (h:AV) (n:Nat):H2 false true [h] n=(R2 h n).map fun h=>(0,h):=e8 rfl
theorem b8M (l h:AV) (n:Nat):H2 true true [l,h] n=match R2 h n with|some h=>(R2 l h).map (fun l=>(l,h))|none=>none:=e8 rfl
theorem c4f (k:IntKind) (i:Int) (j:Nat):R2 (.int k i) j=if 0≤i∧i≤(j:Int)then some i.toNat else none:=e8 rfl
theorem c1d (i:Nat):s5 i []=true:=e8 rfl
theorem c0u (i:Nat) (r:List AV) (rs:List (List AV)):s5 i (r::rs)=(r.length == i):=e8 rfl
theorem c3q (i:Nat) (cs:List AV):c2r i (.box cs)=.loc i 0:=e8 rfl
theorem b5i (b:Bool):AV.plain (.bool b)=true:=e8 rfl
theorem b4v (b:Bool):AV.cells (.bool b)=[.bool b]:=e8 rfl
theorem b2c (b:Bool):AV.cellW1 (.bool b)=.bool b:=e8 rfl
theorem b2w (b:Bool):AV.cellsW (.bool b)=[.bool b]:=e8 rfl
theorem b6T (k:IntKind) (n:Int):AV.plain (.int k n)=true:=e8 rfl
theorem b8e (k:IntKind) (n:Int):AV.cells (.int k n)=[.int k n]:=e8 rfl
theorem b47 (k:IntKind) (n:Int):AV.cellW1 (.int k n)=.int k n:=e8 rfl
theorem b6q (k:IntKind) (n:Int):AV.cellsW (.int k n)=[.int k n]:=e8 rfl
theorem b8a (s:List Nat):AV.plain (.str s)=true:=e8 rfl
theorem b7d (s:List Nat):AV.cells (.str s)=[.str s]:=e8 rfl
theorem b6L (s:List Nat):AV.cellW1 (.str s)=.str s:=e8 rfl
theorem b5I (s:List Nat):AV.cellsW (.str s)=[.str s]:=e8 rfl
theorem b4e (w:Bool) (xs:List (List AV)):AV.plain (.list w xs)=true:=e8 rfl
theorem b43 (w:Bool) (xs:List (List AV)):AV.cells (.list w xs)=[.list w xs]:=e8 rfl
theorem b6V (o f:Nat):AV.plain (.ptr o f)=true:=e8 rfl
theorem b7P (o f:Nat):AV.cells (.ptr o f)=[.ptr o f]:=e8 rfl
theorem b4A (o f:Nat):AV.cellW1 (.ptr o f)=.ptr o f:=e8 rfl
theorem b41 (o f:Nat):AV.cellsW (.ptr o f)=[.ptr o f]:=e8 rfl
theorem b6b :AV.plain (.nilp)=true:=e8 rfl
theorem b5S :AV.cells (.nilp)=[.nilp]:=e8 rfl
theorem b2y :AV.cellW1 (.nilp)=.nilp:=e8 rfl
theorem b2f :AV.cellsW (.nilp)=[.nilp]:=e8 rfl
theorem c0e (cs:List AV):AV.plain (.ro cs)=true:=e8 rfl
theorem c0y (cs:List AV):AV.cells (.ro cs)=[.ro cs]:=e8 rfl
theorem b7w (cs:List AV):AV.cellW1 (.ro cs)=.ro cs:=e8 rfl
theorem b81 (cs:List AV):AV.cellsW (.ro cs)=[.ro cs]:=e8 rfl
theorem b8V (o:Nat):AV.plain (.map o)=true:=e8 rfl
theorem b8D (o:Nat):AV.cells (.map o)=[.map o]:=e8 rfl
theorem b4x (o:Nat):AV.cellW1 (.map o)=.map o:=e8 rfl
theorem b5l (o:Nat):AV.cellsW (.map o)=[.map o]:=e8 rfl
theorem b4C :AV.plain (.nilm)=true:=e8 rfl
theorem b3D :AV.cells (.nilm)=[.nilm]:=e8 rfl
theorem b18 :AV.cellW1 (.nilm)=.nilm:=e8 rfl
theorem b1Y :AV.cellsW (.nilm)=[.nilm]:=e8 rfl
theorem b5N (f:Nat) (a b:List AV):AV.plain (.func f a b)=true:=e8 rfl
theorem b6c (f:Nat) (a b:List AV):AV.cells (.func f a b)=[.func f a b]:=e8 rfl
theorem b19 (f:Nat) (a b:List AV):AV.cellW1 (.func f a b)=.func f a b:=e8 rfl
theorem b1Q (f:Nat) (a b:List AV):AV.cellsW (.func f a b)=[.func f a b]:=e8 rfl
theorem b6l :AV.plain (.nilf)=true:=e8 rfl
theorem b4O :AV.cells (.nilf)=[.nilf]:=e8 rfl
theorem b2q :AV.cellW1 (.nilf)=.nilf:=e8 rfl
theorem b1O :AV.cellsW (.nilf)=[.nilf]:=e8 rfl
theorem c1W (o f n s:Nat):AV.plain (.sl o f n s)=true:=e8 rfl
theorem b9n (o f n s:Nat):AV.cells (.sl o f n s)=[.sl o f n s]:=e8 rfl
theorem b8R (o f n s:Nat):AV.cellW1 (.sl o f n s)=.sl o f n s:=e8 rfl
theorem b8W (o f n s:Nat):AV.cellsW (.sl o f n s)=[.sl o f n s]:=e8 rfl
theorem b2j (t:Nat) (v:AV):AV.plain (.iface t v)=true:=e8 rfl
theorem b1X (t:Nat) (v:AV):AV.cells (.iface t v)=[.iface t v]:=e8 rfl
theorem b0V (t:Nat) (v:AV):AV.cellW1 (.iface t v)=.iface t v:=e8 rfl
theorem b1C (t:Nat) (v:AV):AV.cellsW (.iface t v)=[.iface t v]:=e8 rfl
theorem b4Y :AV.plain (.nili)=true:=e8 rfl
theorem b4X :AV.cells (.nili)=[.nili]:=e8 rfl
theorem b2z :AV.cellW1 (.nili)=.nili:=e8 rfl
theorem b2g :AV.cellsW (.nili)=[.nili]:=e8 rfl
theorem b34 :AV.plain (.nils)=true:=e8 rfl
theorem b4q :AV.cells (.nils)=[.nils]:=e8 rfl
theorem b2a :AV.cellW1 (.nils)=.nils:=e8 rfl
theorem b1S :AV.cellsW (.nils)=[.nils]:=e8 rfl
theorem b13 (w:Bool) (xs:List (List AV)):AV.cellW1 (.list w xs)=.list (w && xs.isEmpty) xs:=e8 rfl
theorem plain_agg (cs:List AV):AV.plain (.agg cs)=true:=e8 rfl
theorem b6Y (cs:List AV):AV.cells (.agg cs)=cs:=e8 rfl
theorem b5w (cs:List AV):AV.cellsW (.agg cs)=cs:=e8 rfl
theorem b17 (w:Bool) (xs:List (List AV)):AV.cellsW (.list w xs)=[.list (w && xs.isEmpty) xs]:=e8 rfl
theorem allPlain_n:y9 []=true:=e8 rfl
theorem allPlain_c (a:AV) (as:List AV):y9 (a::as)=(a.plain && y9 as):=e8 rfl
theorem d7H {α β:Type} (f:α→β):List.map f []=[]:=e8 rfl
theorem d9p {α β:Type} (f:α→β) (a:α) (l:List α):List.map f (a::l)=f a::l.map f:=e8 rfl
theorem d2Y {α:Type} (l:List α):List.drop 0 l=l:=e8 rfl
theorem d35 {α:Type} (n:Nat) (a:α) (l:List α):List.drop (n+1) (a::l)=l.drop n:=e8 rfl
theorem d66 {α:Type} (n:Nat):List.drop n ([]:List α)=[]:=by cases n<;>rfl
theorem d5e {α:Type} (l:List α):List.take 0 l=[]:=e8 rfl
theorem d1j {α:Type} (n:Nat) (a:α) (l:List α):List.take (n+1) (a::l)=a::l.take n:=e8 rfl
theorem d7C {α:Type} (n:Nat):List.take n ([]:List α)=[]:=by cases n<;>rfl
theorem d99 {α:Type}:([]:List α).length=0:=e8 rfl
theorem e1v {α:Type} (a:α) (l:List α):(a::l).length=l.length+1:=e8 rfl
theorem e0d {α:Type} (a:α) (l m:List α):(a::l)++m=a::(l++m):=e8 rfl
theorem e0q {α:Type} (l:List α):[]++l=l:=e8 rfl
theorem c6w {α:Type} (l:List α):l++[]=l:=List.append_nil l
theorem d9y {α:Type} (a:α) (l:List α):(a::l)[0]?=some a:=e8 rfl
theorem d8h {α:Type} (n:Nat) (a:α) (l:List α):(a::l)[n+1]?=l[n]?:=e8 rfl
theorem d8H {α:Type} (a b:α) (l:List α):(a::l).set 0 b=b::l:=e8 rfl
theorem d8b {α:Type} (n:Nat) (a b:α) (l:List α):(a::l).set (n+1) b=a::l.set n b:=e8 rfl
theorem e0z {α:Type} (a:α):List.replicate 0 a=[]:=e8 rfl
theorem d7Y {α:Type} (n:Nat) (a:α):List.replicate (n+1) a=a::List.replicate n a:=e8 rfl
theorem c9P {α β:Type} (f:α→β) (a:α):Option.map f (some a)=some (f a):=e8 rfl
theorem d4J {α β:Type} (f:α→β):Option.map f none=none:=e8 rfl
theorem e0y {α:Type}:([]:List α).isEmpty=true:=e8 rfl
theorem d9W {α:Type} (a:α) (l:List α):(a::l).isEmpty=false:=e8 rfl
theorem d81 {α:Type} (a b:α):(if True then a else b)=a:=if_pos trivial
theorem d7D {α:Type} (a b:α):(if False then a else b)=b:=if_neg (fun h=>h)
theorem e0t {α:Type} (a b:α):(if true=true then a else b)=a:=if_pos rfl
theorem d8m {α:Type} (a b:α):(if false=true then a else b)=b:=if_neg (fun h=>by cases h)
theorem d7z:(true=false)=False:=by simp
theorem d1Z:(false=true)=False:=by simp
theorem d9Y:(!true)=false:=e8 rfl
theorem e0U:(!false)=true:=e8 rfl
theorem e0k (b:Bool):(true && b)=b:=e8 rfl
theorem e0v (b:Bool):(b && true)=b:=by cases b<;>rfl
theorem e0i (b:Bool):(false && b)=false:=e8 rfl
theorem d9S (b:Bool):(b && false)=false:=by cases b<;>rfl
theorem e6u (b:Bool):(true || b)=true:=e8 rfl
theorem e1X (b:Bool):(b || true)=true:=by cases b<;>rfl
theorem e3Q (b:Bool):(false || b)=b:=e8 rfl
theorem e11 (b:Bool):(b || false)=b:=by cases b<;>rfl
theorem e1d (p:Prop):(p∧True)=p:=by simp
theorem e0A (p:Prop):(True∧p)=p:=by simp
theorem e08:decide True=true:=e8 rfl
theorem e0V:decide False=false:=e8 rfl
theorem eqs {α:Type} (a:α):(a=a)=True:=by simp
theorem nn (n:Nat):(0≤(n:Int))=True:=by simp
theorem tn (n:Nat):(n:Int).toNat=n:=Int.toNat_natCast n
theorem c9T (m n:Nat):((m:Int)≤(n:Int))=(m≤n):=by simp
theorem d5f (n:Nat):(n≤n)=True:=by simp
theorem e2q (i j:Nat):ltI (i:Int) (j:Int)=decide (i < j):=ltN i j
theorem e2t (i j:Nat):eqI (i:Int) (j:Int)=decide (i=j):=e1P i j
theorem e0H (c:AV) (call:e9) (n:Nat) (a b:ACode) (fr:List AV) (st:St):brE c call n a b fr st=brT c (a4l call n a fr st) (a4l call n b fr st):=e8 rfl
theorem e7T:(0 < (1:Nat))=True:=by simp
theorem e4y:(0 < (3:Nat))=True:=by simp
theorem e5N:(1 < (3:Nat))=True:=by simp
theorem e8T:(2 < (3:Nat))=True:=by simp
theorem il0:(0≤(0:Int))=True:=by simp
theorem it0:(0:Int).toNat=0:=e8 rfl
theorem il1:(0≤(1:Int))=True:=by simp
theorem it1:(1:Int).toNat=1:=e8 rfl
theorem il2:(0≤(2:Int))=True:=by simp
theorem it2:(2:Int).toNat=2:=e8 rfl
theorem m41:4*1=(4:Nat):=e8 rfl
theorem W_e (a:AV):W a=AV.weak (AV.stripB a):=e8 rfl
theorem e7r {β:Type} (a:AV) (f:AV→Option β):m1 a f=f a:=e8 rfl
theorem c4s {β:Type} (c w:Bool) (a:AV) (f:AV→Option β):gm (.bool c) w a f=f (gV (.bool c) w a):=by unfold gm; rw[b2Y,C0]
theorem c0A {β:Type} (x:AV) (w b want:Bool) (a:AV) (f:AV→Option β):gm (gV x w (.bool b)) want a f=f (gV (gV x w (.bool b)) want a):=by unfold gm; rw[b0M,C0]
theorem c5x {β:Type} (w:Bool) (a:AV) (f:AV→Option β):gm (.tuple []) w a f=f (.tuple []):=by unfold gm; rw[b2Z,C0]
theorem e0G (n:Nat):0+n=n:=Nat.zero_add n
theorem e0l (n:Nat):n+0=n:=e8 rfl
theorem e3g (n:Nat):(n == n)=true:=by simp
end Go.Cb.R
namespace Go.Cb
open Go.Cb.R
def SS:=And.intro (And.intro (And.intro (And.intro (And.intro (And.intro (And.intro (And.intro (@exec_seqK) (@b7K)) (And.intro (@c1V) (And.intro (@b82) (@b8o)))) (And.intro (And.intro (@a2S) (And.intro (@b8Y) (@c1p))) (And.intro (@a9r) (And.intro (@a9F) (@b4h))))) (And.intro (And.intro (And.intro (@b2t) (@c84)) (And.intro (@d7h) (And.intro (@b2n) (@b2k)))) (And.intro (And.intro (@d63) (And.intro (@d6F) (@d4j))) (And.intro (@c1E) (And.intro (@b63) (@c1t)))))) (And.intro (And.intro (And.intro (And.intro (@b9X) (@b5A)) (And.intro (@c6J) (And.intro (@a8W) (@C0)))) (And.intro (And.intro (@d89) (And.intro (@d84) (@d8P))) (And.intro (@d9z) (And.intro (@b2Z) (@d4D))))) (And.intro (And.intro (And.intro (@d6a) (@d0j)) (And.intro (@c9R) (And.intro (@c1q) (@e0X)))) (And.intro (And.intro (@e1x) (And.intro (@d8n) (@e03))) (And.intro (@c4O) (And.intro (@b2Y) (@b0M))))))) (And.intro (And.intro (And.intro (And.intro (And.intro (@c7z) (@c2a)) (And.intro (@b8b) (And.intro (@d1o) (@d6d)))) (And.intro (And.intro (@c5V) (And.intro (@c06) (@b7N))) (And.intro (@b90) (And.intro (@c1f) (@b8u))))) (And.intro (And.intro (And.intro (@c1e) (@b8U)) (And.intro (@b8i) (And.intro (@c6a) (@b9c)))) (And.intro (And.intro (@c0H) (And.intro (@b7b) (@b8F))) (And.intro (@b66) (And.intro (@T6) (@c6L)))))) (And.intro (And.intro (And.intro (And.intro (@b4b) (@b7v)) (And.intro (@b4k) (And.intro (@b3Y) (@b92)))) (And.intro (And.intro (@b55) (And.intro (@b8Z) (@b8H))) (And.intro (@b5d) (And.intro (@c0F) (@b3T))))) (And.intro (And.intro (And.intro (@b7C) (And.intro (@b4V) (@b5q))) (And.intro (@a0C) (And.intro (@b5V) (@b40)))) (And.intro (And.intro (@b80) (And.intro (@b8z) (@b4m))) (And.intro (@b77) (And.intro (@b6t) (@b4r)))))))) (And.intro (And.intro (And.intro (And.intro (And.intro (And.intro (@b9u) (@b8q)) (And.intro (@b7X) (And.intro (@b4p) (@b4y)))) (And.intro (And.intro (@b6J) (And.intro (@b8y) (@b9t))) (And.intro (@b2x) (And.intro (@b14) (@b2i))))) (And.intro (And.intro (And.intro (@b5j) (@b6C)) (And.intro (@b2b) (And.intro (@b6G) (@b1R)))) (And.intro (And.intro (@b2A) (And.intro (@b7W) (@b37))) (And.intro (@b3I) (And.intro (@b15) (@b2e)))))) (And.intro (And.intro (And.intro (And.intro (@b11) (@b5X)) (And.intro (@b52) (And.intro (@b1V) (@b1M)))) (And.intro (And.intro (@b7T) (And.intro (@b1x) (@b1j))) (And.intro (@e7v) (And.intro (@b6u) (@b5r))))) (And.intro (And.intro (And.intro (@b8d) (@b1Z)) (And.intro (@c6I) (And.intro (@d56) (@c0W)))) (And.intro (And.intro (@d3C) (And.intro (@c5H) (@c0I))) (And.intro (@d06) (And.intro (@d4g) (@d5W))))))) (And.intro (And.intro (And.intro (And.intro (And.intro (@c4t) (@ldAn_ptr)) (And.intro (@c49) (And.intro (@c6K) (@d7x)))) (And.intro (And.intro (@d1f) (And.intro (@c5W) (@c4h))) (And.intro (@d0A) (And.intro (@d8E) (@d8v))))) (And.intro (And.intro (And.intro (@d4V) (@b8f)) (And.intro (@c3h) (And.intro (@b67) (@b8j)))) (And.intro (And.intro (@d6T) (And.intro (@d0N) (@b2B))) (And.intro (@b1W) (And.intro (@c0n) (@b8N)))))) (And.intro (And.intro (And.intro (And.intro (@c3y) (@c6Y)) (And.intro (@c3z) (And.intro (@c79) (@d1X)))) (And.intro (And.intro (@e0h) (And.intro (@b8B) (@b8m))) (And.intro (@c5O) (And.intro (@b9s) (@b9d))))) (And.intro (And.intro (And.intro (@c9u) (And.intro (@d7K) (@c8b))) (And.intro (@d8T) (And.intro (@d9G) (@d8l)))) (And.intro (And.intro (@d9O) (And.intro (@d5p) (@c8S))) (And.intro (@d1d) (And.intro (@c9A) (@d0D))))))))) (And.intro (And.intro (And.intro (And.intro (And.intro (And.intro (And.intro (@d1G) (@d6U)) (And.intro (@c9O) (And.intro (@c82) (@c8X)))) (And.intro (And.intro (@d3e) (And.intro (@d6O) (@d4G))) (And.intro (@d3h) (And.intro (@d6Z) (@d1t))))) (And.intro (And.intro (And.intro (@c9K) (@d5j)) (And.intro (@c8B) (And.intro (@c4n) (@c6D)))) (And.intro (And.intro (@c6t) (And.intro (@c6u) (@c3Y))) (And.intro (@c5v) (And.intro (@d6J) (@d5o)))))) (And.intro (And.intro (And.intro (And.intro (@d3c) (@d8u)) (And.intro (@e1n) (And.intro (@e1s) (@d3j)))) (And.intro (And.intro (@d6k) (And.intro (@d9w) (@takeVal_t))) (And.intro (@b7h) (And.intro (@b5G) (@b6g))))) (And.intro (And.intro (And.intro (@b33) (@b5P)) (And.intro (@b9L) (And.intro (@b7o) (@b64)))) (And.intro (And.intro (@b7M) (And.intro (@b8M) (@c4f))) (And.intro (@c1d) (And.intro (@c0u) (@c3q))))))) (And.intro (And.intro (And.intro (And.intro (And.intro (@b5i) (@b4v)) (And.intro (@b2c) (And.intro (@b2w) (@b6T)))) (And.intro (And.intro (@b8e) (And.intro (@b47) (@b6q))) (And.intro (@b8a) (And.intro (@b7d) (@b6L))))) (And.intro (And.intro (And.intro (@b5I) (@b4e)) (And.intro (@b43) (And.intro (@b6V) (@b7P)))) (And.intro (And.intro (@b4A) (And.intro (@b41) (@b6b))) (And.intro (@b5S) (And.intro (@b2y) (@b2f)))))) (And.intro (And.intro (And.intro (And.intro (@c0e) (@c0y)) (And.intro (@b7w) (And.intro (@b81) (@b8V)))) (And.intro (And.intro (@b8D) (And.intro (@b4x) (@b5l))) (And.intro (@b4C) (And.intro (@b3D) (@b18))))) (And.intro (And.intro (And.intro (@b1Y) (And.intro (@b5N) (@b6c))) (And.intro (@b19) (And.intro (@b1Q) (@b6l)))) (And.intro (And.intro (@b4O) (And.intro (@b2q) (@b1O))) (And.intro (@c1W) (And.intro (@b9n) (@b8R)))))))) (And.intro (And.intro (And.intro (And.intro (And.intro (And.intro (@b8W) (@b2j)) (And.intro (@b1X) (And.intro (@b0V) (@b1C)))) (And.intro (And.intro (@b4Y) (And.intro (@b4X) (@b2z))) (And.intro (@b2g) (And.intro (@b34) (@b4q))))) (And.intro (And.intro (And.intro (@b2a) (@b1S)) (And.intro (@b13) (And.intro (@plain_agg) (@b6Y)))) (And.intro (And.intro (@b5w) (And.intro (@b17) (@allPlain_n))) (And.intro (@allPlain_c) (And.intro (@d7H) (@d9p)))))) (And.intro (And.intro (And.intro (And.intro (@d2Y) (@d35)) (And.intro (@d66) (And.intro (@d5e) (@d1j)))) (And.intro (And.intro (@d7C) (And.intro (@d99) (@e1v))) (And.intro (@e0d) (And.intro (@e0q) (@c6w))))) (And.intro (And.intro (And.intro (@d9y) (And.intro (@d8h) (@d8H))) (And.intro (@d8b) (And.intro (@e0z) (@d7Y)))) (And.intro (And.intro (@c9P) (And.intro (@d4J) (@e0y))) (And.intro (@d9W) (And.intro (@d81) (@d7D))))))) (And.intro (And.intro (And.intro (And.intro (And.intro (@e0t) (@d8m)) (And.intro (@d7z) (And.intro (@d1Z) (@d9Y)))) (And.intro (And.intro (@e0U) (And.intro (@e0k) (@e0v))) (And.intro (@e0i) (And.intro (@d9S) (@e6u))))) (And.intro (And.intro (And.intro (@e1X) (@e3Q)) (And.intro (@e11) (And.intro (@e1d) (@e0A)))) (And.intro (And.intro (@e08) (And.intro (@e0V) (@eqs))) (And.intro (@nn) (And.intro (@tn) (@c9T)))))) (And.intro (And.intro (And.intro (And.intro (@d5f) (@e2q)) (And.intro (@e2t) (And.intro (@e0H) (@e7T)))) (And.intro (And.intro (@e4y) (And.intro (@e5N) (@e8T))) (And.intro (@il0) (And.intro (@it0) (@il1))))) (And.intro (And.intro (And.intro (@it1) (And.intro (@il2) (@it2))) (And.intro (@m41) (And.intro (@W_e) (@e7r)))) (And.intro (And.intro (@c4s) (And.intro (@c0A) (@c5x))) (And.intro (@e0G) (And.intro (@e0l) (@e3g)))))))))
end Go.Cb
namespace Go.Cb.V
open Go Go.Cb
def i7 (call:e9) (ops:List AOper) (σ:Sig) (k:Sig→Option Out):Option Out:=obind (l7 call ops σ) k
theorem runR_congr {call:e9} {ops:List AOper} {σ σ':Sig} {k:Sig→Option Out} (h:σ=σ'):i7 call ops σ k=i7 call ops σ' k:=by rw[h]
theorem d2b (call:e9) (σ:Sig) (k:Sig→Option Out):i7 call [] σ k=k σ:=e8 rfl
theorem a1V (call:e9) (o:AOper) (os:List AOper) (σ:Sig) (k:Sig→Option Out):i7 call (o::os) σ k=obind (m2 call o σ) fun σ=>i7 call os σ k:=by unfold i7;simp only[l7];cases m2 call o σ<;>rfl
theorem a1c:∀ (as:List Opd) (σ:Sig),(g9 as σ).st=σ.st
 | [],_=>rfl
 | x::xs,σ=>by rw[g9,a1c xs]; cases x<;>rfl
section
variable (call:e9) (d:Dst) (as:List Opd) (os:List AOper) (σ:Sig) (k:Sig→Option Out)
theorem B8 {K:Kind} (i:K.setSt=false):i7 call (⟨d,K,as,none,none⟩::os) σ k=obind (p1 (sem K call (as.map (·.read σ)) .undef σ.st)) fun x=>i7 call os (d.put x (g9 as σ)) k:=by
 rw[a1V];simp only[m2];rw[O9];dsimp only;cases hs:sem K call (as.map (·.read σ)) .undef σ.st with
 | none=>rfl
 | some x =>
  obtain⟨r,b,st⟩:=x;obtain rfl:=a2f i hs;simp only[p1,C0];have e:({ g9 as σ with st:=σ.st }:Sig)=g9 as σ:=by have:=a1c as σ;cases h:g9 as σ;rw[h]at this;simp only at this;rw[this]
  rw[e]
theorem a0h {K:Kind}:i7 call (⟨d,K,as,none,none⟩::os) σ k=obind (p2 (sem K call (as.map (·.read σ)) .undef σ.st)) fun x=>i7 call os (d.put x.1 { g9 as σ with st:=x.2 }) k:=by
 rw[a1V];simp only[m2];rw[O9];dsimp only;cases hs:sem K call (as.map (·.read σ)) .undef σ.st with
 | none=>rfl
 | some x =>obtain⟨r,b,st⟩:=x;simp only[p2,C0]
theorem a9N {K:Kind} (i:Nat):i7 call (⟨d,K,as,some i,none⟩::os) σ k=obind (sem K call (as.map (·.read σ)) (σ.fr.getD i .undef) σ.st) fun x=>i7 call os (d.put x.1 { g9 as σ with fr:=(g9 as σ).fr.set i x.2.1,st:=x.2.2 }) k:=by
 rw[a1V];simp only[m2];rw[O9];dsimp only;cases hs:sem K call (as.map (·.read σ)) (σ.fr.getD i .undef) σ.st with
 | none=>rfl
 | some x =>obtain⟨r,b,st⟩:=x;simp only[C0]
end
theorem d9Z {call:e9} {d:Dst} {as:List Opd} {os:List AOper} {σ:Sig} {k:Sig→Option Out} {K:Kind} {box:Option Nat} (h:(K.setSt || K.alters || j9 as)=false) :
 i7 call (⟨d,K,as,box,none⟩::os) σ k=obind (p1 (sem K call (as.map (·.read σ)) (goK.boxOf' box σ) σ.st)) fun r=>i7 call os (d.put r σ) k:=by
 rw[a1V,← a3Q];simp only[a6e,goK,h]
theorem B1 {call:e9} {d:Dst} {as:List Opd} {os:List AOper} {σ:Sig} {k:Sig→Option Out} {K:Kind} {box:Option Nat} {x:Opd} {w:Bool} (h:(K.setSt || K.alters || j9 as)=false) :
 i7 call (⟨d,K,as,box,some (x,w)⟩::os) σ k=obind (gv (x.read σ) w (p1 (sem K call (as.map (·.read σ)) (goK.boxOf' box σ) σ.st))) fun r=>i7 call os (d.put r σ) k:=by
 rw[a1V,← a3Q];simp only[a6e,h]
theorem S2 {call:e9} {d:Dst} {as:List Opd} {os:List AOper} {σ:Sig} {k:Sig→Option Out} {K:Kind} {box:Option Nat} {x:Opd} {w:Bool} (i:K.setSt=true) (j:K.alters=false) (h:j9 as=false) :
 i7 call (⟨d,K,as,box,some (x,w)⟩::os) σ k=obind (gv2 (x.read σ) w σ.st (p2 (sem K call (as.map (·.read σ)) (goK.boxOf' box σ) σ.st))) fun r=>i7 call os (d.put r.1 { σ with st:=r.2 }) k:=by
 rw[a1V,← a3Q];simp only[a6e,i,j,h,Bool.true_or,Bool.or_false]
theorem e4n:j9 []=false:=e8 rfl
theorem e4z (s:Nat) (xs:List Opd):j9 (.t s::xs)=j9 xs:=e8 rfl
theorem e58 (s:Nat) (xs:List Opd):j9 (.v s::xs)=j9 xs:=e8 rfl
theorem e4S (s:Nat) (xs:List Opd):j9 (.l s::xs)=j9 xs:=e8 rfl
theorem e4q (a:AV) (xs:List Opd):j9 (.c a::xs)=j9 xs:=e8 rfl
theorem b7F (call:e9) (n:Nat) (kill:List Nat) (i:List AOper) (fr:List AV) (st:St) :
 exec call n (.reg kill i) fr st=i7 call i ⟨m0 kill fr,fun _=>.undef,st⟩ fun σ=>some (.normal,σ.fr,σ.st):=by
 rw[c1J,a07]; rfl
theorem b4u (call:e9) (n:Nat) (kill:List Nat) (i:List AOper) (c:Opd) (a b:ACode) (fr:List AV) (st:St) :
 exec call n (.test kill i c a b) fr st=i7 call i ⟨m0 kill fr,fun _=>.undef,st⟩ fun σ=>brE (c.read σ) call n a b σ.fr σ.st:=by
 rw[b6E,a07]; rfl
theorem e5M (s:Nat) (fr:List AV) (τ:Nat→AV) (st:St):Opd.read (.t s) ⟨fr,τ,st⟩=(τ s).weak:=e8 rfl
theorem d7G (s:Nat) (fr:List AV) (τ:Nat→AV) (st:St):Opd.read (.ts s) ⟨fr,τ,st⟩=τ s:=e8 rfl
theorem e34 (s:Nat) (fr:List AV) (τ:Nat→AV) (st:St):Opd.read (.v s) ⟨fr,τ,st⟩=(fr.getD s .undef).weak:=e8 rfl
theorem d96 (s:Nat) (fr:List AV) (τ:Nat→AV) (st:St):Opd.read (.vs s) ⟨fr,τ,st⟩=fr.getD s .undef:=e8 rfl
theorem e2W (s:Nat) (fr:List AV) (τ:Nat→AV) (st:St):Opd.read (.l s) ⟨fr,τ,st⟩=c2r s (fr.getD s .undef):=e8 rfl
theorem e8k (a:AV) (σ:Sig):Opd.read (.c a) σ=a:=e8 rfl
theorem d8U (τ:Nat→AV) (s:Nat) (a:AV) (j:Nat):C6 τ s a j=if j=s then a else τ j:=by
 unfold C6;by_cases h:j=s
 · subst h; simp
 · rw[if_neg h,if_neg]; intro e; exact h (Nat.eq_of_beq_eq_true e)
theorem put_t (s:Nat) (a:AV) (fr:List AV) (τ:Nat→AV) (st:St):Dst.put (.t s) a ⟨fr,τ,st⟩=⟨fr,C6 τ s a.stripB,st⟩:=e8 rfl
theorem put_v (s:Nat) (a:AV) (fr:List AV) (τ:Nat→AV) (st:St):Dst.put (.v s) a ⟨fr,τ,st⟩=⟨fr.set s a.strip,τ,st⟩:=e8 rfl
theorem d7F (a:AV) (σ:Sig):Dst.put .none a σ=σ:=e8 rfl
theorem d8L (a:AV) (σ:Sig):Dst.put .bx a σ=σ:=e8 rfl
theorem e5r (σ:Sig):g9 [] σ=σ:=e8 rfl
theorem e2u (x:Opd) (xs:List Opd) (σ:Sig):g9 (x::xs) σ=g9 xs (x.spend σ):=e8 rfl
theorem e7a (s:Nat) (σ:Sig):Opd.spend (.t s) σ=σ:=e8 rfl
theorem e4A (s:Nat) (σ:Sig):Opd.spend (.v s) σ=σ:=e8 rfl
theorem e7n (s:Nat) (σ:Sig):Opd.spend (.l s) σ=σ:=e8 rfl
theorem e3a (a:AV) (σ:Sig):Opd.spend (.c a) σ=σ:=e8 rfl
theorem d8p (s:Nat) (fr:List AV) (τ:Nat→AV) (st:St):Opd.spend (.ts s) ⟨fr,τ,st⟩=⟨fr,C6 τ s (τ s).weak,st⟩:=e8 rfl
theorem d8K (s:Nat) (fr:List AV) (τ:Nat→AV) (st:St):Opd.spend (.vs s) ⟨fr,τ,st⟩=⟨fr.set s (fr.getD s .undef).weak,τ,st⟩:=e8 rfl
theorem e6S (a d:AV) (l:List AV):(a::l).getD 0 d=a:=e8 rfl
theorem e9f (a d:AV) (l:List AV) (n:Nat):(a::l).getD (n+1) d=l.getD n d:=e8 rfl
theorem e4U (fr:List AV):m0 [] fr=fr:=e8 rfl
theorem e3n (i:Nat) (is:List Nat) (fr:List AV):m0 (i::is) fr=m0 is (fr.set i .undef):=e8 rfl
section
variable (call:e9) (d:Dst) (as:List Opd) (os:List AOper) (fr:List AV) (τ:Nat→AV) (s:St) (k:Sig→Option Out)
theorem e9w :i7 call (⟨d,.mv,as,none,none⟩::os) ⟨fr,τ,s⟩ k=obind (p1 (a1a call (as.map (·.read ⟨fr,τ,s⟩)) .undef s)) fun x=>i7 call os (d.put x (g9 as ⟨fr,τ,s⟩)) k:=B8 call d as os ⟨fr,τ,s⟩ k rfl
theorem d60 :i7 call (⟨d,.pick,as,none,none⟩::os) ⟨fr,τ,s⟩ k=obind (p1 (F3 call (as.map (·.read ⟨fr,τ,s⟩)) .undef s)) fun x=>i7 call os (d.put x (g9 as ⟨fr,τ,s⟩)) k:=B8 call d as os ⟨fr,τ,s⟩ k rfl
theorem c0Y :i7 call (⟨d,.nilchk,as,none,none⟩::os) ⟨fr,τ,s⟩ k=obind (p1 (G0 call (as.map (·.read ⟨fr,τ,s⟩)) .undef s)) fun x=>i7 call os (d.put x (g9 as ⟨fr,τ,s⟩)) k:=B8 call d as os ⟨fr,τ,s⟩ k rfl
theorem c7P (z:List AV) (o:List (Nat×Nat)):i7 call (⟨d,.build z o,as,none,none⟩::os) ⟨fr,τ,s⟩ k=obind (p1 (N9 z o call (as.map (·.read ⟨fr,τ,s⟩)) .undef s)) fun x=>i7 call os (d.put x (g9 as ⟨fr,τ,s⟩)) k:=B8 call d as os ⟨fr,τ,s⟩ k rfl
theorem b9T (q:Nat) (z:List (List AV)) (t:List Nat):i7 call (⟨d,.bslice q z t,as,none,none⟩::os) ⟨fr,τ,s⟩ k=obind (p1 (N3 q z t call (as.map (·.read ⟨fr,τ,s⟩)) .undef s)) fun x=>i7 call os (d.put x (g9 as ⟨fr,τ,s⟩)) k:=B8 call d as os ⟨fr,τ,s⟩ k rfl
theorem b8I (q:Nat) (z:List (List AV)) (t:List Nat):i7 call (⟨d,.bsliceM q z t,as,none,none⟩::os) ⟨fr,τ,s⟩ k=obind (p1 (K4 q z t call (as.map (·.read ⟨fr,τ,s⟩)) .undef s)) fun x=>i7 call os (d.put x (g9 as ⟨fr,τ,s⟩)) k:=B8 call d as os ⟨fr,τ,s⟩ k rfl
theorem d7a (g:Bool) (n:Nat):i7 call (⟨d,.ldSt g n,as,none,none⟩::os) ⟨fr,τ,s⟩ k=obind (p1 (F4 g n call (as.map (·.read ⟨fr,τ,s⟩)) .undef s)) fun x=>i7 call os (d.put x (g9 as ⟨fr,τ,s⟩)) k:=B8 call d as os ⟨fr,τ,s⟩ k rfl
theorem d3l (g:Bool) (n:Nat):i7 call (⟨d,.ldRo g n,as,none,none⟩::os) ⟨fr,τ,s⟩ k=obind (p1 (P1 g n call (as.map (·.read ⟨fr,τ,s⟩)) .undef s)) fun x=>i7 call os (d.put x (g9 as ⟨fr,τ,s⟩)) k:=B8 call d as os ⟨fr,τ,s⟩ k rfl
theorem d2n (g:Bool) (n:Nat):i7 call (⟨d,.ldAn g n,as,none,none⟩::os) ⟨fr,τ,s⟩ k=obind (p1 (H3 g n call (as.map (·.read ⟨fr,τ,s⟩)) .undef s)) fun x=>i7 call os (d.put x (g9 as ⟨fr,τ,s⟩)) k:=B8 call d as os ⟨fr,τ,s⟩ k rfl
theorem c4J (g:Bool) (n:Nat):i7 call (⟨d,.ldStR g n,as,none,none⟩::os) ⟨fr,τ,s⟩ k=obind (p1 (G8 g n call (as.map (·.read ⟨fr,τ,s⟩)) .undef s)) fun x=>i7 call os (d.put x (g9 as ⟨fr,τ,s⟩)) k:=B8 call d as os ⟨fr,τ,s⟩ k rfl
theorem d8A (n:Nat):i7 call (⟨d,.fad n,as,none,none⟩::os) ⟨fr,τ,s⟩ k=obind (p1 (P6 n call (as.map (·.read ⟨fr,τ,s⟩)) .undef s)) fun x=>i7 call os (d.put x (g9 as ⟨fr,τ,s⟩)) k:=B8 call d as os ⟨fr,τ,s⟩ k rfl
theorem d9N (o n:Nat) (g:Bool):i7 call (⟨d,.fld o n g,as,none,none⟩::os) ⟨fr,τ,s⟩ k=obind (p1 (W5 o n g call (as.map (·.read ⟨fr,τ,s⟩)) .undef s)) fun x=>i7 call os (d.put x (g9 as ⟨fr,τ,s⟩)) k:=B8 call d as os ⟨fr,τ,s⟩ k rfl
theorem e0M (n:Nat):i7 call (⟨d,.iad n,as,none,none⟩::os) ⟨fr,τ,s⟩ k=obind (p1 (O1 n call (as.map (·.read ⟨fr,τ,s⟩)) .undef s)) fun x=>i7 call os (d.put x (g9 as ⟨fr,τ,s⟩)) k:=B8 call d as os ⟨fr,τ,s⟩ k rfl
theorem d1I (l n:Nat):i7 call (⟨d,.iadA l n,as,none,none⟩::os) ⟨fr,τ,s⟩ k=obind (p1 (I4 l n call (as.map (·.read ⟨fr,τ,s⟩)) .undef s)) fun x=>i7 call os (d.put x (g9 as ⟨fr,τ,s⟩)) k:=B8 call d as os ⟨fr,τ,s⟩ k rfl
theorem d6u :i7 call (⟨d,.idxS,as,none,none⟩::os) ⟨fr,τ,s⟩ k=obind (p1 (N7 call (as.map (·.read ⟨fr,τ,s⟩)) .undef s)) fun x=>i7 call os (d.put x (g9 as ⟨fr,τ,s⟩)) k:=B8 call d as os ⟨fr,τ,s⟩ k rfl
theorem d8o (a b:Bool):i7 call (⟨d,.slS a b,as,none,none⟩::os) ⟨fr,τ,s⟩ k=obind (p1 (S0 a b call (as.map (·.read ⟨fr,τ,s⟩)) .undef s)) fun x=>i7 call os (d.put x (g9 as ⟨fr,τ,s⟩)) k:=B8 call d as os ⟨fr,τ,s⟩ k rfl
theorem d92 (n:Nat) (a b:Bool):i7 call (⟨d,.slL n a b,as,none,none⟩::os) ⟨fr,τ,s⟩ k=obind (p1 (P3 n a b call (as.map (·.read ⟨fr,τ,s⟩)) .undef s)) fun x=>i7 call os (d.put x (g9 as ⟨fr,τ,s⟩)) k:=B8 call d as os ⟨fr,τ,s⟩ k rfl
theorem e1p :i7 call (⟨d,.slZ,as,none,none⟩::os) ⟨fr,τ,s⟩ k=obind (p1 (Y8 call (as.map (·.read ⟨fr,τ,s⟩)) .undef s)) fun x=>i7 call os (d.put x (g9 as ⟨fr,τ,s⟩)) k:=B8 call d as os ⟨fr,τ,s⟩ k rfl
theorem e0g (l n:Nat) (a b:Bool):i7 call (⟨d,.slA l n a b,as,none,none⟩::os) ⟨fr,τ,s⟩ k=obind (p1 (W2 l n a b call (as.map (·.read ⟨fr,τ,s⟩)) .undef s)) fun x=>i7 call os (d.put x (g9 as ⟨fr,τ,s⟩)) k:=B8 call d as os ⟨fr,τ,s⟩ k rfl
theorem d9g (o:BinOp):i7 call (⟨d,.bin o,as,none,none⟩::os) ⟨fr,τ,s⟩ k=obind (p1 (F1 o call (as.map (·.read ⟨fr,τ,s⟩)) .undef s)) fun x=>i7 call os (d.put x (g9 as ⟨fr,τ,s⟩)) k:=B8 call d as os ⟨fr,τ,s⟩ k rfl
theorem c9q (o:BinOp):i7 call (⟨d,.binB o,as,none,none⟩::os) ⟨fr,τ,s⟩ k=obind (p1 (S7 o call (as.map (·.read ⟨fr,τ,s⟩)) .undef s)) fun x=>i7 call os (d.put x (g9 as ⟨fr,τ,s⟩)) k:=B8 call d as os ⟨fr,τ,s⟩ k rfl
theorem d1Q (o:BinOp):i7 call (⟨d,.binP o,as,none,none⟩::os) ⟨fr,τ,s⟩ k=obind (p1 (N8 o call (as.map (·.read ⟨fr,τ,s⟩)) .undef s)) fun x=>i7 call os (d.put x (g9 as ⟨fr,τ,s⟩)) k:=B8 call d as os ⟨fr,τ,s⟩ k rfl
theorem e6Z (o:UnOp):i7 call (⟨d,.un o,as,none,none⟩::os) ⟨fr,τ,s⟩ k=obind (p1 (a0q o call (as.map (·.read ⟨fr,τ,s⟩)) .undef s)) fun x=>i7 call os (d.put x (g9 as ⟨fr,τ,s⟩)) k:=B8 call d as os ⟨fr,τ,s⟩ k rfl
theorem c9E (t:IntKind):i7 call (⟨d,.conv t,as,none,none⟩::os) ⟨fr,τ,s⟩ k=obind (p1 (R8 t call (as.map (·.read ⟨fr,τ,s⟩)) .undef s)) fun x=>i7 call os (d.put x (g9 as ⟨fr,τ,s⟩)) k:=B8 call d as os ⟨fr,τ,s⟩ k rfl
theorem d88 (f n:Nat):i7 call (⟨d,.mkF f n,as,none,none⟩::os) ⟨fr,τ,s⟩ k=obind (p1 (Y3 f n call (as.map (·.read ⟨fr,τ,s⟩)) .undef s)) fun x=>i7 call os (d.put x (g9 as ⟨fr,τ,s⟩)) k:=B8 call d as os ⟨fr,τ,s⟩ k rfl
theorem d6I (a:Nat) (z:List AV) (b c:Bool):i7 call (⟨d,.mget a z b c,as,none,none⟩::os) ⟨fr,τ,s⟩ k=obind (p1 (X3 a z b c call (as.map (·.read ⟨fr,τ,s⟩)) .undef s)) fun x=>i7 call os (d.put x (g9 as ⟨fr,τ,s⟩)) k:=B8 call d as os ⟨fr,τ,s⟩ k rfl
theorem e0Y (n:Nat):i7 call (⟨d,.ext n,as,none,none⟩::os) ⟨fr,τ,s⟩ k=obind (p1 (S1 n call (as.map (·.read ⟨fr,τ,s⟩)) .undef s)) fun x=>i7 call os (d.put x (g9 as ⟨fr,τ,s⟩)) k:=B8 call d as os ⟨fr,τ,s⟩ k rfl
theorem d5i :i7 call (⟨d,.lenS,as,none,none⟩::os) ⟨fr,τ,s⟩ k=obind (p1 (R9 call (as.map (·.read ⟨fr,τ,s⟩)) .undef s)) fun x=>i7 call os (d.put x (g9 as ⟨fr,τ,s⟩)) k:=B8 call d as os ⟨fr,τ,s⟩ k rfl
theorem d5T :i7 call (⟨d,.lenL,as,none,none⟩::os) ⟨fr,τ,s⟩ k=obind (p1 (J6 call (as.map (·.read ⟨fr,τ,s⟩)) .undef s)) fun x=>i7 call os (d.put x (g9 as ⟨fr,τ,s⟩)) k:=B8 call d as os ⟨fr,τ,s⟩ k rfl
theorem d9K (n b:Nat):i7 call (⟨d,.app n b,as,none,none⟩::os) ⟨fr,τ,s⟩ k=obind (p1 (W6 n b call (as.map (·.read ⟨fr,τ,s⟩)) .undef s)) fun x=>i7 call os (d.put x (g9 as ⟨fr,τ,s⟩)) k:=B8 call d as os ⟨fr,τ,s⟩ k rfl
theorem d7O :i7 call (⟨d,.b2s,as,none,none⟩::os) ⟨fr,τ,s⟩ k=obind (p1 (W3 call (as.map (·.read ⟨fr,τ,s⟩)) .undef s)) fun x=>i7 call os (d.put x (g9 as ⟨fr,τ,s⟩)) k:=B8 call d as os ⟨fr,τ,s⟩ k rfl
theorem c4W (z:List AV) (o:List (Nat×Nat)) (x:Opd) (w:Bool) (h:j9 as=false):i7 call (⟨d,.build z o,as,none,some (x,w)⟩::os) ⟨fr,τ,s⟩ k=obind (gv (x.read ⟨fr,τ,s⟩) w (p1 (N9 z o call (as.map (·.read ⟨fr,τ,s⟩)) .undef s))) fun r=>i7 call os (d.put r ⟨fr,τ,s⟩) k:=B1 (by rw[h]; rfl)
theorem b87 (q:Nat) (z:List (List AV)) (t:List Nat) (x:Opd) (w:Bool) (h:j9 as=false):i7 call (⟨d,.bslice q z t,as,none,some (x,w)⟩::os) ⟨fr,τ,s⟩ k=obind (gv (x.read ⟨fr,τ,s⟩) w (p1 (N3 q z t call (as.map (·.read ⟨fr,τ,s⟩)) .undef s))) fun r=>i7 call os (d.put r ⟨fr,τ,s⟩) k:=B1 (by rw[h]; rfl)
theorem b6Z (q:Nat) (z:List (List AV)) (t:List Nat) (x:Opd) (w:Bool) (h:j9 as=false):i7 call (⟨d,.bsliceM q z t,as,none,some (x,w)⟩::os) ⟨fr,τ,s⟩ k=obind (gv (x.read ⟨fr,τ,s⟩) w (p1 (K4 q z t call (as.map (·.read ⟨fr,τ,s⟩)) .undef s))) fun r=>i7 call os (d.put r ⟨fr,τ,s⟩) k:=B1 (by rw[h]; rfl)
theorem d2Q (g:Bool) (n:Nat) (x:Opd) (w:Bool) (h:j9 as=false):i7 call (⟨d,.ldSt g n,as,none,some (x,w)⟩::os) ⟨fr,τ,s⟩ k=obind (gv (x.read ⟨fr,τ,s⟩) w (p1 (F4 g n call (as.map (·.read ⟨fr,τ,s⟩)) .undef s))) fun r=>i7 call os (d.put r ⟨fr,τ,s⟩) k:=B1 (by rw[h]; rfl)
theorem d6G (g:Bool) (n:Nat) (x:Opd) (w:Bool) (h:j9 as=false):i7 call (⟨d,.ldRo g n,as,none,some (x,w)⟩::os) ⟨fr,τ,s⟩ k=obind (gv (x.read ⟨fr,τ,s⟩) w (p1 (P1 g n call (as.map (·.read ⟨fr,τ,s⟩)) .undef s))) fun r=>i7 call os (d.put r ⟨fr,τ,s⟩) k:=B1 (by rw[h]; rfl)
theorem c8r (g:Bool) (n:Nat) (x:Opd) (w:Bool) (h:j9 as=false):i7 call (⟨d,.ldAn g n,as,none,some (x,w)⟩::os) ⟨fr,τ,s⟩ k=obind (gv (x.read ⟨fr,τ,s⟩) w (p1 (H3 g n call (as.map (·.read ⟨fr,τ,s⟩)) .undef s))) fun r=>i7 call os (d.put r ⟨fr,τ,s⟩) k:=B1 (by rw[h]; rfl)
theorem c7m (g:Bool) (n:Nat) (x:Opd) (w:Bool) (h:j9 as=false):i7 call (⟨d,.ldStR g n,as,none,some (x,w)⟩::os) ⟨fr,τ,s⟩ k=obind (gv (x.read ⟨fr,τ,s⟩) w (p1 (G8 g n call (as.map (·.read ⟨fr,τ,s⟩)) .undef s))) fun r=>i7 call os (d.put r ⟨fr,τ,s⟩) k:=B1 (by rw[h]; rfl)
theorem d83 (n:Nat) (x:Opd) (w:Bool) (h:j9 as=false):i7 call (⟨d,.fad n,as,none,some (x,w)⟩::os) ⟨fr,τ,s⟩ k=obind (gv (x.read ⟨fr,τ,s⟩) w (p1 (P6 n call (as.map (·.read ⟨fr,τ,s⟩)) .undef s))) fun r=>i7 call os (d.put r ⟨fr,τ,s⟩) k:=B1 (by rw[h]; rfl)
theorem d8j (o n:Nat) (g:Bool) (x:Opd) (w:Bool) (h:j9 as=false):i7 call (⟨d,.fld o n g,as,none,some (x,w)⟩::os) ⟨fr,τ,s⟩ k=obind (gv (x.read ⟨fr,τ,s⟩) w (p1 (W5 o n g call (as.map (·.read ⟨fr,τ,s⟩)) .undef s))) fun r=>i7 call os (d.put r ⟨fr,τ,s⟩) k:=B1 (by rw[h]; rfl)
theorem d8c (n:Nat) (x:Opd) (w:Bool) (h:j9 as=false):i7 call (⟨d,.iad n,as,none,some (x,w)⟩::os) ⟨fr,τ,s⟩ k=obind (gv (x.read ⟨fr,τ,s⟩) w (p1 (O1 n call (as.map (·.read ⟨fr,τ,s⟩)) .undef s))) fun r=>i7 call os (d.put r ⟨fr,τ,s⟩) k:=B1 (by rw[h]; rfl)
theorem d1k (l n:Nat) (x:Opd) (w:Bool) (h:j9 as=false):i7 call (⟨d,.iadA l n,as,none,some (x,w)⟩::os) ⟨fr,τ,s⟩ k=obind (gv (x.read ⟨fr,τ,s⟩) w (p1 (I4 l n call (as.map (·.read ⟨fr,τ,s⟩)) .undef s))) fun r=>i7 call os (d.put r ⟨fr,τ,s⟩) k:=B1 (by rw[h]; rfl)
theorem e0S (a b:Bool) (x:Opd) (w:Bool) (h:j9 as=false):i7 call (⟨d,.slS a b,as,none,some (x,w)⟩::os) ⟨fr,τ,s⟩ k=obind (gv (x.read ⟨fr,τ,s⟩) w (p1 (S0 a b call (as.map (·.read ⟨fr,τ,s⟩)) .undef s))) fun r=>i7 call os (d.put r ⟨fr,τ,s⟩) k:=B1 (by rw[h]; rfl)
theorem d8R (n:Nat) (a b:Bool) (x:Opd) (w:Bool) (h:j9 as=false):i7 call (⟨d,.slL n a b,as,none,some (x,w)⟩::os) ⟨fr,τ,s⟩ k=obind (gv (x.read ⟨fr,τ,s⟩) w (p1 (P3 n a b call (as.map (·.read ⟨fr,τ,s⟩)) .undef s))) fun r=>i7 call os (d.put r ⟨fr,τ,s⟩) k:=B1 (by rw[h]; rfl)
theorem e1j (l n:Nat) (a b:Bool) (x:Opd) (w:Bool) (h:j9 as=false):i7 call (⟨d,.slA l n a b,as,none,some (x,w)⟩::os) ⟨fr,τ,s⟩ k=obind (gv (x.read ⟨fr,τ,s⟩) w (p1 (W2 l n a b call (as.map (·.read ⟨fr,τ,s⟩)) .undef s))) fun r=>i7 call os (d.put r ⟨fr,τ,s⟩) k:=B1 (by rw[h]; rfl)
theorem e0w (o:BinOp) (x:Opd) (w:Bool) (h:j9 as=false):i7 call (⟨d,.bin o,as,none,some (x,w)⟩::os) ⟨fr,τ,s⟩ k=obind (gv (x.read ⟨fr,τ,s⟩) w (p1 (F1 o call (as.map (·.read ⟨fr,τ,s⟩)) .undef s))) fun r=>i7 call os (d.put r ⟨fr,τ,s⟩) k:=B1 (by rw[h]; rfl)
theorem c92 (o:BinOp) (x:Opd) (w:Bool) (h:j9 as=false):i7 call (⟨d,.binB o,as,none,some (x,w)⟩::os) ⟨fr,τ,s⟩ k=obind (gv (x.read ⟨fr,τ,s⟩) w (p1 (S7 o call (as.map (·.read ⟨fr,τ,s⟩)) .undef s))) fun r=>i7 call os (d.put r ⟨fr,τ,s⟩) k:=B1 (by rw[h]; rfl)
theorem d5z (o:BinOp) (x:Opd) (w:Bool) (h:j9 as=false):i7 call (⟨d,.binP o,as,none,some (x,w)⟩::os) ⟨fr,τ,s⟩ k=obind (gv (x.read ⟨fr,τ,s⟩) w (p1 (N8 o call (as.map (·.read ⟨fr,τ,s⟩)) .undef s))) fun r=>i7 call os (d.put r ⟨fr,τ,s⟩) k:=B1 (by rw[h]; rfl)
theorem e6r (o:UnOp) (x:Opd) (w:Bool) (h:j9 as=false):i7 call (⟨d,.un o,as,none,some (x,w)⟩::os) ⟨fr,τ,s⟩ k=obind (gv (x.read ⟨fr,τ,s⟩) w (p1 (a0q o call (as.map (·.read ⟨fr,τ,s⟩)) .undef s))) fun r=>i7 call os (d.put r ⟨fr,τ,s⟩) k:=B1 (by rw[h]; rfl)
theorem d4v (t:IntKind) (x:Opd) (w:Bool) (h:j9 as=false):i7 call (⟨d,.conv t,as,none,some (x,w)⟩::os) ⟨fr,τ,s⟩ k=obind (gv (x.read ⟨fr,τ,s⟩) w (p1 (R8 t call (as.map (·.read ⟨fr,τ,s⟩)) .undef s))) fun r=>i7 call os (d.put r ⟨fr,τ,s⟩) k:=B1 (by rw[h]; rfl)
theorem d9V (f n:Nat) (x:Opd) (w:Bool) (h:j9 as=false):i7 call (⟨d,.mkF f n,as,none,some (x,w)⟩::os) ⟨fr,τ,s⟩ k=obind (gv (x.read ⟨fr,τ,s⟩) w (p1 (Y3 f n call (as.map (·.read ⟨fr,τ,s⟩)) .undef s))) fun r=>i7 call os (d.put r ⟨fr,τ,s⟩) k:=B1 (by rw[h]; rfl)
theorem d1S (a:Nat) (z:List AV) (b c:Bool) (x:Opd) (w:Bool) (h:j9 as=false):i7 call (⟨d,.mget a z b c,as,none,some (x,w)⟩::os) ⟨fr,τ,s⟩ k=obind (gv (x.read ⟨fr,τ,s⟩) w (p1 (X3 a z b c call (as.map (·.read ⟨fr,τ,s⟩)) .undef s))) fun r=>i7 call os (d.put r ⟨fr,τ,s⟩) k:=B1 (by rw[h]; rfl)
theorem d9b (n:Nat) (x:Opd) (w:Bool) (h:j9 as=false):i7 call (⟨d,.ext n,as,none,some (x,w)⟩::os) ⟨fr,τ,s⟩ k=obind (gv (x.read ⟨fr,τ,s⟩) w (p1 (S1 n call (as.map (·.read ⟨fr,τ,s⟩)) .undef s))) fun r=>i7 call os (d.put r ⟨fr,τ,s⟩) k:=B1 (by rw[h]; rfl)
theorem d8g (n b:Nat) (x:Opd) (w:Bool) (h:j9 as=false):i7 call (⟨d,.app n b,as,none,some (x,w)⟩::os) ⟨fr,τ,s⟩ k=obind (gv (x.read ⟨fr,τ,s⟩) w (p1 (W6 n b call (as.map (·.read ⟨fr,τ,s⟩)) .undef s))) fun r=>i7 call os (d.put r ⟨fr,τ,s⟩) k:=B1 (by rw[h]; rfl)
theorem d2k (i:Nat) (g:Bool) (n:Nat) (j:Nat) (h:j9 as=false):i7 call (⟨d,.ldLc i g n,as,some j,none⟩::os) ⟨fr,τ,s⟩ k=obind (p1 (M0 i g n call (as.map (·.read ⟨fr,τ,s⟩)) (fr.getD j .undef) s)) fun r=>i7 call os (d.put r ⟨fr,τ,s⟩) k:=d9Z (by rw[h]; rfl)
theorem c41 (i:Nat) (g:Bool) (n:Nat) (j:Nat) (x:Opd) (w:Bool) (h:j9 as=false):i7 call (⟨d,.ldLc i g n,as,some j,some (x,w)⟩::os) ⟨fr,τ,s⟩ k=obind (gv (x.read ⟨fr,τ,s⟩) w (p1 (M0 i g n call (as.map (·.read ⟨fr,τ,s⟩)) (fr.getD j .undef) s))) fun r=>i7 call os (d.put r ⟨fr,τ,s⟩) k:=B1 (by rw[h]; rfl)
theorem b98 (z:List AV):i7 call (⟨d,.allocO z,as,none,none⟩::os) ⟨fr,τ,s⟩ k=obind (p2 (I7 z call (as.map (·.read ⟨fr,τ,s⟩)) .undef s)) fun x=>i7 call os (d.put x.1 { g9 as ⟨fr,τ,s⟩with st:=x.2 }) k:=a0h call d as os ⟨fr,τ,s⟩ k
theorem b7g (z:List AV) (x:Opd) (w:Bool) (h:j9 as=false):i7 call (⟨d,.allocO z,as,none,some (x,w)⟩::os) ⟨fr,τ,s⟩ k=obind (gv2 (x.read ⟨fr,τ,s⟩) w s (p2 (I7 z call (as.map (·.read ⟨fr,τ,s⟩)) .undef s))) fun r=>i7 call os (d.put r.1 ⟨fr,τ,r.2⟩) k:=S2 rfl rfl h
theorem d3D:i7 call (⟨d,.boxO,as,none,none⟩::os) ⟨fr,τ,s⟩ k=obind (p2 (O7 call (as.map (·.read ⟨fr,τ,s⟩)) .undef s)) fun x=>i7 call os (d.put x.1 { g9 as ⟨fr,τ,s⟩with st:=x.2 }) k:=a0h call d as os ⟨fr,τ,s⟩ k
theorem c7d (x:Opd) (w:Bool) (h:j9 as=false):i7 call (⟨d,.boxO,as,none,some (x,w)⟩::os) ⟨fr,τ,s⟩ k=obind (gv2 (x.read ⟨fr,τ,s⟩) w s (p2 (O7 call (as.map (·.read ⟨fr,τ,s⟩)) .undef s))) fun r=>i7 call os (d.put r.1 ⟨fr,τ,r.2⟩) k:=S2 rfl rfl h
theorem b8n (q:Nat) (z:List (List AV)) (t:List Nat):i7 call (⟨d,.bsliceO q z t,as,none,none⟩::os) ⟨fr,τ,s⟩ k=obind (p2 (K5 q z t call (as.map (·.read ⟨fr,τ,s⟩)) .undef s)) fun x=>i7 call os (d.put x.1 { g9 as ⟨fr,τ,s⟩with st:=x.2 }) k:=a0h call d as os ⟨fr,τ,s⟩ k
theorem b3F (q:Nat) (z:List (List AV)) (t:List Nat) (x:Opd) (w:Bool) (h:j9 as=false):i7 call (⟨d,.bsliceO q z t,as,none,some (x,w)⟩::os) ⟨fr,τ,s⟩ k=obind (gv2 (x.read ⟨fr,τ,s⟩) w s (p2 (K5 q z t call (as.map (·.read ⟨fr,τ,s⟩)) .undef s))) fun r=>i7 call os (d.put r.1 ⟨fr,τ,r.2⟩) k:=S2 rfl rfl h
theorem d2l (n b:Nat):i7 call (⟨d,.appM n b,as,none,none⟩::os) ⟨fr,τ,s⟩ k=obind (p2 (F6 n b call (as.map (·.read ⟨fr,τ,s⟩)) .undef s)) fun x=>i7 call os (d.put x.1 { g9 as ⟨fr,τ,s⟩with st:=x.2 }) k:=a0h call d as os ⟨fr,τ,s⟩ k
theorem c3E (n b:Nat) (x:Opd) (w:Bool) (h:j9 as=false):i7 call (⟨d,.appM n b,as,none,some (x,w)⟩::os) ⟨fr,τ,s⟩ k=obind (gv2 (x.read ⟨fr,τ,s⟩) w s (p2 (F6 n b call (as.map (·.read ⟨fr,τ,s⟩)) .undef s))) fun r=>i7 call os (d.put r.1 ⟨fr,τ,r.2⟩) k:=S2 rfl rfl h
theorem c1u (n:Nat):i7 call (⟨d,.ldStSR n,as,none,none⟩::os) ⟨fr,τ,s⟩ k=obind (p2 (F0 n call (as.map (·.read ⟨fr,τ,s⟩)) .undef s)) fun x=>i7 call os (d.put x.1 { g9 as ⟨fr,τ,s⟩with st:=x.2 }) k:=a0h call d as os ⟨fr,τ,s⟩ k
theorem b7E (n:Nat) (x:Opd) (w:Bool) (h:j9 as=false):i7 call (⟨d,.ldStSR n,as,none,some (x,w)⟩::os) ⟨fr,τ,s⟩ k=obind (gv2 (x.read ⟨fr,τ,s⟩) w s (p2 (F0 n call (as.map (·.read ⟨fr,τ,s⟩)) .undef s))) fun r=>i7 call os (d.put r.1 ⟨fr,τ,r.2⟩) k:=S2 rfl rfl h
theorem c4T (n:Nat):i7 call (⟨d,.stStA n,as,none,none⟩::os) ⟨fr,τ,s⟩ k=obind (p2 (H1 n call (as.map (·.read ⟨fr,τ,s⟩)) .undef s)) fun x=>i7 call os (d.put x.1 { g9 as ⟨fr,τ,s⟩with st:=x.2 }) k:=a0h call d as os ⟨fr,τ,s⟩ k
theorem c0x (n:Nat) (x:Opd) (w:Bool) (h:j9 as=false):i7 call (⟨d,.stStA n,as,none,some (x,w)⟩::os) ⟨fr,τ,s⟩ k=obind (gv2 (x.read ⟨fr,τ,s⟩) w s (p2 (H1 n call (as.map (·.read ⟨fr,τ,s⟩)) .undef s))) fun r=>i7 call os (d.put r.1 ⟨fr,τ,r.2⟩) k:=S2 rfl rfl h
theorem c4i (f m:Nat):i7 call (⟨d,.callA f m,as,none,none⟩::os) ⟨fr,τ,s⟩ k=obind (p2 (G9 f m call (as.map (·.read ⟨fr,τ,s⟩)) .undef s)) fun x=>i7 call os (d.put x.1 { g9 as ⟨fr,τ,s⟩with st:=x.2 }) k:=a0h call d as os ⟨fr,τ,s⟩ k
theorem b9E (f m:Nat) (x:Opd) (w:Bool) (h:j9 as=false):i7 call (⟨d,.callA f m,as,none,some (x,w)⟩::os) ⟨fr,τ,s⟩ k=obind (gv2 (x.read ⟨fr,τ,s⟩) w s (p2 (G9 f m call (as.map (·.read ⟨fr,τ,s⟩)) .undef s))) fun r=>i7 call os (d.put r.1 ⟨fr,τ,r.2⟩) k:=S2 rfl rfl h
theorem c29:i7 call (⟨d,.ldStS,as,none,none⟩::os) ⟨fr,τ,s⟩ k=obind (p2 (E8 call (as.map (·.read ⟨fr,τ,s⟩)) .undef s)) fun x=>i7 call os (d.put x.1 { g9 as ⟨fr,τ,s⟩with st:=x.2 }) k:=a0h call d as os ⟨fr,τ,s⟩ k
theorem b9P (x:Opd) (w:Bool) (h:j9 as=false):i7 call (⟨d,.ldStS,as,none,some (x,w)⟩::os) ⟨fr,τ,s⟩ k=obind (gv2 (x.read ⟨fr,τ,s⟩) w s (p2 (E8 call (as.map (·.read ⟨fr,τ,s⟩)) .undef s))) fun r=>i7 call os (d.put r.1 ⟨fr,τ,r.2⟩) k:=S2 rfl rfl h
theorem d5X (n:Nat):i7 call (⟨d,.stSt n,as,none,none⟩::os) ⟨fr,τ,s⟩ k=obind (p2 (H5 n call (as.map (·.read ⟨fr,τ,s⟩)) .undef s)) fun x=>i7 call os (d.put x.1 { g9 as ⟨fr,τ,s⟩with st:=x.2 }) k:=a0h call d as os ⟨fr,τ,s⟩ k
theorem c3V (n:Nat) (x:Opd) (w:Bool) (h:j9 as=false):i7 call (⟨d,.stSt n,as,none,some (x,w)⟩::os) ⟨fr,τ,s⟩ k=obind (gv2 (x.read ⟨fr,τ,s⟩) w s (p2 (H5 n call (as.map (·.read ⟨fr,τ,s⟩)) .undef s))) fun r=>i7 call os (d.put r.1 ⟨fr,τ,r.2⟩) k:=S2 rfl rfl h
theorem d8V:i7 call (⟨d,.mkM,as,none,none⟩::os) ⟨fr,τ,s⟩ k=obind (p2 (Y4 call (as.map (·.read ⟨fr,τ,s⟩)) .undef s)) fun x=>i7 call os (d.put x.1 { g9 as ⟨fr,τ,s⟩with st:=x.2 }) k:=a0h call d as os ⟨fr,τ,s⟩ k
theorem d0a (x:Opd) (w:Bool) (h:j9 as=false):i7 call (⟨d,.mkM,as,none,some (x,w)⟩::os) ⟨fr,τ,s⟩ k=obind (gv2 (x.read ⟨fr,τ,s⟩) w s (p2 (Y4 call (as.map (·.read ⟨fr,τ,s⟩)) .undef s))) fun r=>i7 call os (d.put r.1 ⟨fr,τ,r.2⟩) k:=S2 rfl rfl h
theorem d5Y (n:Nat):i7 call (⟨d,.mset n,as,none,none⟩::os) ⟨fr,τ,s⟩ k=obind (p2 (X0 n call (as.map (·.read ⟨fr,τ,s⟩)) .undef s)) fun x=>i7 call os (d.put x.1 { g9 as ⟨fr,τ,s⟩with st:=x.2 }) k:=a0h call d as os ⟨fr,τ,s⟩ k
theorem c2L (n:Nat) (x:Opd) (w:Bool) (h:j9 as=false):i7 call (⟨d,.mset n,as,none,some (x,w)⟩::os) ⟨fr,τ,s⟩ k=obind (gv2 (x.read ⟨fr,τ,s⟩) w s (p2 (X0 n call (as.map (·.read ⟨fr,τ,s⟩)) .undef s))) fun r=>i7 call os (d.put r.1 ⟨fr,τ,r.2⟩) k:=S2 rfl rfl h
theorem d4Y (f:Nat):i7 call (⟨d,.call f,as,none,none⟩::os) ⟨fr,τ,s⟩ k=obind (p2 (B6 f call (as.map (·.read ⟨fr,τ,s⟩)) .undef s)) fun x=>i7 call os (d.put x.1 { g9 as ⟨fr,τ,s⟩with st:=x.2 }) k:=a0h call d as os ⟨fr,τ,s⟩ k
theorem c4a (f:Nat) (x:Opd) (w:Bool) (h:j9 as=false):i7 call (⟨d,.call f,as,none,some (x,w)⟩::os) ⟨fr,τ,s⟩ k=obind (gv2 (x.read ⟨fr,τ,s⟩) w s (p2 (B6 f call (as.map (·.read ⟨fr,τ,s⟩)) .undef s))) fun r=>i7 call os (d.put r.1 ⟨fr,τ,r.2⟩) k:=S2 rfl rfl h
theorem c7j:i7 call (⟨d,.callV,as,none,none⟩::os) ⟨fr,τ,s⟩ k=obind (p2 (H9 call (as.map (·.read ⟨fr,τ,s⟩)) .undef s)) fun x=>i7 call os (d.put x.1 { g9 as ⟨fr,τ,s⟩with st:=x.2 }) k:=a0h call d as os ⟨fr,τ,s⟩ k
theorem c2b (x:Opd) (w:Bool) (h:j9 as=false):i7 call (⟨d,.callV,as,none,some (x,w)⟩::os) ⟨fr,τ,s⟩ k=obind (gv2 (x.read ⟨fr,τ,s⟩) w s (p2 (H9 call (as.map (·.read ⟨fr,τ,s⟩)) .undef s))) fun r=>i7 call os (d.put r.1 ⟨fr,τ,r.2⟩) k:=S2 rfl rfl h
theorem c7H (z:List AV) (j:Nat):i7 call (⟨d,.alloc z,as,some j,none⟩::os) ⟨fr,τ,s⟩ k=obind (V4 z call (as.map (·.read ⟨fr,τ,s⟩)) (fr.getD j .undef) s) fun x=>i7 call os (d.put x.1 { g9 as ⟨fr,τ,s⟩with fr:=(g9 as ⟨fr,τ,s⟩).fr.set j x.2.1,st:=x.2.2 }) k:=a9N call d as os ⟨fr,τ,s⟩ k j
theorem d6P (j:Nat):i7 call (⟨d,.boxV,as,some j,none⟩::os) ⟨fr,τ,s⟩ k=obind (X1 call (as.map (·.read ⟨fr,τ,s⟩)) (fr.getD j .undef) s) fun x=>i7 call os (d.put x.1 { g9 as ⟨fr,τ,s⟩with fr:=(g9 as ⟨fr,τ,s⟩).fr.set j x.2.1,st:=x.2.2 }) k:=a9N call d as os ⟨fr,τ,s⟩ k j
theorem c2N (i:Nat) (j:Nat):i7 call (⟨d,.ldLcS i,as,some j,none⟩::os) ⟨fr,τ,s⟩ k=obind (O0 i call (as.map (·.read ⟨fr,τ,s⟩)) (fr.getD j .undef) s) fun x=>i7 call os (d.put x.1 { g9 as ⟨fr,τ,s⟩with fr:=(g9 as ⟨fr,τ,s⟩).fr.set j x.2.1,st:=x.2.2 }) k:=a9N call d as os ⟨fr,τ,s⟩ k j
theorem c71 (i n:Nat) (j:Nat):i7 call (⟨d,.stLc i n,as,some j,none⟩::os) ⟨fr,τ,s⟩ k=obind (O6 i n call (as.map (·.read ⟨fr,τ,s⟩)) (fr.getD j .undef) s) fun x=>i7 call os (d.put x.1 { g9 as ⟨fr,τ,s⟩with fr:=(g9 as ⟨fr,τ,s⟩).fr.set j x.2.1,st:=x.2.2 }) k:=a9N call d as os ⟨fr,τ,s⟩ k j
theorem e2R (x:Opd) (w:Bool) (h:j9 as=false):i7 call (⟨d,.mv,as,none,some (x,w)⟩::os) ⟨fr,τ,s⟩ k=obind (gv (x.read ⟨fr,τ,s⟩) w (p1 (a1a call (as.map (·.read ⟨fr,τ,s⟩)) .undef s))) fun r=>i7 call os (d.put r ⟨fr,τ,s⟩) k:=B1 (by rw[h]; rfl)
theorem c87 (x:Opd) (w:Bool) (h:j9 as=false):i7 call (⟨d,.pick,as,none,some (x,w)⟩::os) ⟨fr,τ,s⟩ k=obind (gv (x.read ⟨fr,τ,s⟩) w (p1 (F3 call (as.map (·.read ⟨fr,τ,s⟩)) .undef s))) fun r=>i7 call os (d.put r ⟨fr,τ,s⟩) k:=B1 (by rw[h]; rfl)
theorem b9j (x:Opd) (w:Bool) (h:j9 as=false):i7 call (⟨d,.nilchk,as,none,some (x,w)⟩::os) ⟨fr,τ,s⟩ k=obind (gv (x.read ⟨fr,τ,s⟩) w (p1 (G0 call (as.map (·.read ⟨fr,τ,s⟩)) .undef s))) fun r=>i7 call os (d.put r ⟨fr,τ,s⟩) k:=B1 (by rw[h]; rfl)
theorem d3E (x:Opd) (w:Bool) (h:j9 as=false):i7 call (⟨d,.idxS,as,none,some (x,w)⟩::os) ⟨fr,τ,s⟩ k=obind (gv (x.read ⟨fr,τ,s⟩) w (p1 (N7 call (as.map (·.read ⟨fr,τ,s⟩)) .undef s))) fun r=>i7 call os (d.put r ⟨fr,τ,s⟩) k:=B1 (by rw[h]; rfl)
theorem d8O (x:Opd) (w:Bool) (h:j9 as=false):i7 call (⟨d,.slZ,as,none,some (x,w)⟩::os) ⟨fr,τ,s⟩ k=obind (gv (x.read ⟨fr,τ,s⟩) w (p1 (Y8 call (as.map (·.read ⟨fr,τ,s⟩)) .undef s))) fun r=>i7 call os (d.put r ⟨fr,τ,s⟩) k:=B1 (by rw[h]; rfl)
theorem d3M (x:Opd) (w:Bool) (h:j9 as=false):i7 call (⟨d,.lenS,as,none,some (x,w)⟩::os) ⟨fr,τ,s⟩ k=obind (gv (x.read ⟨fr,τ,s⟩) w (p1 (R9 call (as.map (·.read ⟨fr,τ,s⟩)) .undef s))) fun r=>i7 call os (d.put r ⟨fr,τ,s⟩) k:=B1 (by rw[h]; rfl)
theorem d1J (x:Opd) (w:Bool) (h:j9 as=false):i7 call (⟨d,.lenL,as,none,some (x,w)⟩::os) ⟨fr,τ,s⟩ k=obind (gv (x.read ⟨fr,τ,s⟩) w (p1 (J6 call (as.map (·.read ⟨fr,τ,s⟩)) .undef s))) fun r=>i7 call os (d.put r ⟨fr,τ,s⟩) k:=B1 (by rw[h]; rfl)
theorem d86 (x:Opd) (w:Bool) (h:j9 as=false):i7 call (⟨d,.b2s,as,none,some (x,w)⟩::os) ⟨fr,τ,s⟩ k=obind (gv (x.read ⟨fr,τ,s⟩) w (p1 (W3 call (as.map (·.read ⟨fr,τ,s⟩)) .undef s))) fun r=>i7 call os (d.put r ⟨fr,τ,s⟩) k:=B1 (by rw[h]; rfl)
end
def VV:=(And.intro (And.intro (And.intro (And.intro (And.intro (And.intro @d2b (And.intro @b7F @b4u)) (And.intro (And.intro @e5M @d7G) (And.intro @e34 @d96))) (And.intro (And.intro (And.intro @e2W @e8k) (And.intro @d8U @put_t)) (And.intro (And.intro @put_v @d7F) (And.intro @d8L @e5r)))) (And.intro (And.intro (And.intro (And.intro @e2u @e7a) (And.intro @e4A @e7n)) (And.intro (And.intro @e3a @d8p) (And.intro @d8K @e6S))) (And.intro (And.intro (And.intro @e9f @e4U) (And.intro @e3n @e9w)) (And.intro (And.intro @d60 @c0Y) (And.intro @c7P @b9T))))) (And.intro (And.intro (And.intro (And.intro @b8I (And.intro @d7a @d3l)) (And.intro (And.intro @d2n @c4J) (And.intro @d8A @d9N))) (And.intro (And.intro (And.intro @e0M @d1I) (And.intro @d6u @d8o)) (And.intro (And.intro @d92 @e1p) (And.intro @e0g @d9g)))) (And.intro (And.intro (And.intro (And.intro @c9q @d1Q) (And.intro @e6Z @c9E)) (And.intro (And.intro @d88 @d6I) (And.intro @e0Y @d5i))) (And.intro (And.intro (And.intro @d5T @d9K) (And.intro @d7O @c4W)) (And.intro (And.intro @b87 @b6Z) (And.intro @d2Q @d6G)))))) (And.intro (And.intro (And.intro (And.intro (And.intro @c8r (And.intro @c7m @d83)) (And.intro (And.intro @d8j @d8c) (And.intro @d1k @e0S))) (And.intro (And.intro (And.intro @d8R @e1j) (And.intro @e0w @c92)) (And.intro (And.intro @d5z @e6r) (And.intro @d4v @d9V)))) (And.intro (And.intro (And.intro (And.intro @d1S @d9b) (And.intro @d8g @d2k)) (And.intro (And.intro @c41 @b98) (And.intro @b7g @d3D))) (And.intro (And.intro (And.intro @c7d @b8n) (And.intro @b3F @d2l)) (And.intro (And.intro @c3E @c1u) (And.intro @b7E @c4T))))) (And.intro (And.intro (And.intro (And.intro (And.intro @c0x @c4i) (And.intro @b9E @c29)) (And.intro (And.intro @b9P @d5X) (And.intro @c3V @d8V))) (And.intro (And.intro (And.intro @d0a @d5Y) (And.intro @c2L @d4Y)) (And.intro (And.intro @c4a @c7j) (And.intro @c2b @c7H)))) (And.intro (And.intro (And.intro (And.intro @d6P @c2N) (And.intro @c71 @e4n)) (And.intro (And.intro @e4z @e58) (And.intro @e4S @e4q))) (And.intro (And.intro (And.intro @e2R @c87) (And.intro @b9j @d3E)) (And.intro (And.intro @d8O @d3M) (And.intro @d1J @d86)))))))
end Go.Cb.V
namespace Go.Cb.G
open Go Go.Cb
def spC (j:e9) (kill:List Nat) (ops:List AOper) (i:Nat) (fr:List AV) (st:St):Option (Sig×AOper×List AOper):=match l7 j (ops.take i) ⟨m0 kill fr,fun _=>.undef,st⟩,ops.drop i with
 | some σ,o::os=>some (σ,o,os)
 | _,_=>none
def a5S (j:e9) (kill:List Nat) (ops:List AOper) (i:Nat) (fr:List AV) (st:St):Option (Nat×List AV×St):=match spC j kill ops i fr st with
 | some (σ,⟨_,.call f,args,none,none⟩,_)=>if y9 (args.map (·.read σ))then some (f,(args.map (·.read σ)).map AV.weak,σ.st)else none
 | _=>none
def a3p (l:e9) (kill:List Nat) (ops:List AOper) (i:Nat) (x:Opd) (fr:List AV) (st:St) (r:AV) (j:St):Option (AV×List AV×St):=match spC l kill ops i fr st with
 | some (σ,o,os)=>match l7 l os (o.dst.put r { g9 o.args σ with st:=j })with
  | some σ=>some (x.read σ,σ.fr,σ.st)
  | none=>none
 | none=>none
theorem a9u {c u:e9} (z:V5 u c) {kill:List Nat} {ops:List AOper} {i f:Nat} {as:List AV} {B:St} {r:AV} {l:St} {fr:List AV} {st:St} {x:Opd} {v:AV} {y:List AV} {st':St}
 (t:a5S u kill ops i fr st=some (f,as,B)) (I:c f as B=some (r,l)) (j:a3p u kill ops i x fr st r l=some (v,y,st')) :
 ∃ σ,l7 c ops ⟨m0 kill fr,fun _=>.undef,st⟩=some σ∧x.read σ=v∧σ.fr=y∧σ.st=st':=by
 unfold a5S at t;unfold a3p at j;cases hs:spC u kill ops i fr st with
 | none=>rw[hs]at j; cases j
 | some p =>
  obtain⟨σ,o,os⟩:=p;rw[hs]at t j;dsimp only at t j;unfold spC at hs;split at hs<;>try (cases hs; done)
  rename_i O o0 N M J;cases hs;split at t<;>try (cases t; done)
  rename_i E;obtain⟨⟩:=Prod.mk.inj (Option.some.inj E);rename_i dst S args _ G e2;obtain⟨rfl,rfl⟩:=Prod.mk.inj e2;subst G;split at t<;>try (cases t; done)
  rename_i L;cases t;cases C:l7 u os ((Dst.put dst r { g9 args σ with st:=l }))with
  | none=>rw[C]at j; cases j
  | some σ2 =>
   rw[C]at j;cases j;refine⟨σ2,?_,rfl,rfl,rfl⟩;rw[← List.take_append_drop i ops,a7D,Y1 z M,J];dsimp only;rw[l7];have F:m2 c ⟨dst,.call f,args,none,none⟩ σ=some (Dst.put dst r { g9 args σ with st:=l }):=by show E9 c _ σ=_;rw[O9];simp only[sem,B6,L,if_true,I,Option.map_some]
   rw[F];exact Y1 z C
section
variable {tbl:Nat→Option AFn}
theorem gle (k m:Nat) (h:k≤m):V5 (callG tbl k) (m6 tbl m):=fun f as st r i=>J3 h _ _ _ _ (a0y k _ _ _ _ i)
theorem c7K {k:Nat} {kill:List Nat} {ops:List AOper} {i f:Nat} {as:List AV} {l:St} {r:AV} {t:St} {fr:List AV} {st:St} {v:AV} {j:List AV} {st':St}
 (u:a5S (callG tbl k) kill ops i fr st=some (f,as,l)) (y:Ev tbl f as l r t) (x:a3p (callG tbl k) kill ops i (.c .undef) fr st r t=some (v,j,st')):XC tbl (.reg kill ops) fr st (.normal,j,st'):=by
 obtain⟨m,hm⟩:=y;obtain⟨σ,g1,g2,g3,g4⟩:=a9u (gle k (max m k) (Nat.le_max_right m k)) u (J3 (Nat.le_max_left m k) _ _ _ _ hm) x;exact⟨max m k,by rw[exec,g1]; simp only[fL_eq,g3,g4]⟩
theorem b9R {k:Nat} {kill:List Nat} {ops:List AOper} {i f:Nat} {as:List AV} {u:St} {r:AV} {z:St} {fr:List AV} {st:St} {x:Opd} {a b:ACode} {y:Bool} {l:List AV} {st':St} {out:Out}
 (B:a5S (callG tbl k) kill ops i fr st=some (f,as,u)) (F:Ev tbl f as u r z) (C:a3p (callG tbl k) kill ops i x fr st r z=some (.bool y,l,st')) (E:XC tbl (bif y then a else b) l st' out):XC tbl (.test kill ops x a b) fr st out:=by
 obtain⟨m,hm⟩:=F;obtain⟨j,G⟩:=E;obtain⟨σ,g1,g2,g3,g4⟩:=a9u (gle k (max (max m k) j) (Nat.le_trans (Nat.le_max_right m k) (Nat.le_max_left _ _))) B (J3 (Nat.le_trans (Nat.le_max_left m k) (Nat.le_max_left _ _)) _ _ _ _ hm) C;refine⟨max (max m k) j,?_⟩;have t:=D7 (J3 (tbl:=tbl) (Nat.le_max_right (max m k) j)) (Nat.le_max_right (max m k) j) G;rw[exec,g1];dsimp only;rw[g2];cases y
 · simpa only [fL_eq,g3,g4,cond_true,cond_false]using t
 · simpa only [fL_eq,g3,g4,cond_true,cond_false]using t
def tst (i:e9) (kill:List Nat) (ops:List AOper) (x:Opd) (fr:List AV) (st:St):Option (AV×List AV×St):=match l7 i ops ⟨m0 kill fr,fun _=>.undef,st⟩with
 | some σ=>some (x.read σ,σ.fr,σ.st)
 | none=>none
theorem b1E {k:Nat} {kill:List Nat} {ops:List AOper} {fr:List AV} {st:St} {x:Opd} {a b:ACode} {y:Bool} {l:List AV} {st':St} {out:Out} (i:tst (callG tbl k) kill ops x fr st=some (.bool y,l,st')) (z:XC tbl (bif y then a else b) l st' out):XC tbl (.test kill ops x a b) fr st out:=by
 obtain⟨j,B⟩:=z;unfold tst at i;cases u:l7 (callG tbl k) ops ⟨m0 kill fr,fun _=>.undef,st⟩with
 | none=>rw[u]at i; cases i
 | some σ =>
  rw[u]at i;simp only[Option.some.injEq,Prod.mk.injEq]at i;obtain⟨g2,g3,g4⟩:=i;refine⟨max k j,?_⟩;have t:=D7 (J3 (tbl:=tbl) (Nat.le_max_right k j)) (Nat.le_max_right k j) B;rw[exec,Y1 (gle k (max k j) (Nat.le_max_left k j)) u];dsimp only;rw[g2];cases y
  · simpa only [fL_eq,g3,g4,cond_true,cond_false]using t
  · simpa only [fL_eq,g3,g4,cond_true,cond_false]using t
theorem c2F {id:Nat} {a:ACode} {fr i:List AV} {st j:St} (h:XC tbl a fr st (.exit id,i,j)):XC tbl (.blk id a) fr st (.normal,i,j):=by
 have:=XC.blk (id:=id) h
 rwa [if_pos rfl]at this
theorem c7y {id:Nat} {a:ACode} {fr i:List AV} {st j:St} {e:Ex} (h:XC tbl a fr st (e,i,j)) (t:a8I e (.exit id)=false):XC tbl (.blk id a) fr st (e,i,j):=by
 have:=XC.blk (id:=id) h
 rwa [if_neg (fun l=>by subst l; simp[a8I]at t)]at this
theorem e9H {k m:Nat} {a:ACode} {fr:List AV} {st:St} {out:Out} (h:J2 (exec (callG tbl k) k a) m fr st=some out):LX tbl a fr st out :=
 ⟨k,m,a3F (fun _ _ _ i=>D7 (a0y k) (Nat.le_refl k) i) (Nat.le_refl m) h⟩
theorem FX.of {rs:List ResK} {code:ACode} {fr:List AV} {st:St} {v:AV} {out:Out} {st':St} (h:XC tbl code fr st out) (i:fin rs (some out)=some (v,st')):FX tbl rs code fr st v:=⟨out,st',h,i⟩
end
end Go.Cb.G
namespace Go.Cb
mutual
def AV.rn (ρ:Nat→Nat):AV→AV
 | .undef=>.undef
 | .bool b=>.bool b
 | .int k n=>.int k n
 | .str s=>.str s
 | .list o xs=>.list o (S5 ρ xs)
 | .ptr o f=>.ptr (ρ o) f
 | .nilp=>.nilp
 | .ro cs=>.ro (F8 ρ cs)
 | .loc i f=>.loc i f
 | .box cs=>.box (F8 ρ cs)
 | .map o=>.map (ρ o)
 | .nilm=>.nilm
 | .func f a c=>.func f (F8 ρ a) (F8 ρ c)
 | .nilf=>.nilf
 | .agg cs=>.agg (F8 ρ cs)
 | .tuple vs=>.tuple (F8 ρ vs)
 | .iface t v=>.iface t (v.rn ρ)
 | .nili=>.nili
 | .sl o f n s=>.sl (ρ o) f n s
 | .fresh xs=>.fresh (S5 ρ xs)
 | .nils=>.nils
def F8 (ρ:Nat→Nat):List AV→List AV
 | []=>[]
 | a::as=>a.rn ρ::F8 ρ as
def S5 (ρ:Nat→Nat):List (List AV)→List (List AV)
 | []=>[]
 | r::rs=>F8 ρ r::S5 ρ rs
end
def Obj.rn (ρ:Nat→Nat):Obj→Obj
 | .cells cs=>.cells (cs.map (AV.rn ρ))
 | .map es=>.map (es.map fun e=>(e.1.rn ρ,e.2.rn ρ))
 | .dead=>.dead
structure Rn where
 ρ:Nat→Nat
 ms:St→St
 G:St→Prop
 inj:∀ {a b:Nat},ρ a=ρ b↔a=b
 len:∀ {st:St},G st→ρ st.length=(ms st).length
 get:∀ {st:St},G st→∀ o:Nat,(ms st)[ρ o]?=(st[o]?).map (Obj.rn ρ)
 app:∀ {st:St} {x:Obj},G st→G (st++[x])
 apps:∀ {st:St},G st→∀ x:Obj,ms (st++[x])=ms st++[x.rn ρ]
 set:∀ {st:St} {o:Nat} {x:Obj},G st→G (st.set o x)
 sets:∀ {st:St},G st→∀ (o:Nat) (x:Obj),ms (st.set o x)=(ms st).set (ρ o) (x.rn ρ)
namespace RN
open Classical
section
variable {R:Rn}
theorem x9:∀ as:List AV,F8 R.ρ as=as.map (AV.rn R.ρ)
 | []=>rfl
 | a::as=>by rw[F8,x9 as]; rfl
theorem E3:∀ rs:List (List AV),S5 R.ρ rs=rs.map (·.map (AV.rn R.ρ))
 | []=>rfl
 | r::rs=>by rw[S5,E3 rs,x9]; rfl
theorem b7p {a b:Nat}:Nat.beq a b=false↔a≠b:=by rw[← Bool.not_eq_true,Nat.beq_eq]
theorem a4j (a:AV):(a.weak1).rn R.ρ=(a.rn R.ρ).weak1:=by cases a<;>simp only[AV.weak1,AV.rn]
theorem a0G (cs:List AV):(cs.map AV.weak1).map (AV.rn R.ρ)=(cs.map (AV.rn R.ρ)).map AV.weak1:=by rw[List.map_map,List.map_map];exact List.map_congr_left fun a _=>a4j a
theorem a0d (a:AV):(a.weak).rn R.ρ=(a.rn R.ρ).weak:=by cases a<;>simp only[AV.weak,AV.rn,x9,a0G]
theorem a6N (cs:List AV):(cs.map AV.weak).map (AV.rn R.ρ)=(cs.map (AV.rn R.ρ)).map AV.weak:=by rw[List.map_map,List.map_map];exact List.map_congr_left fun a _=>a0d a
theorem a2p (a:AV):(a.rn R.ρ).cells=a.cells.map (AV.rn R.ρ):=by cases a<;>simp only[AV.cells,AV.rn,x9,List.map_cons,List.map_nil]
theorem a9y (a:AV):(a.rn R.ρ).cellsW=a.cellsW.map (AV.rn R.ρ):=by cases a<;>simp only[AV.cellsW,AV.rn,x9,E3,List.map_cons,List.map_nil,List.isEmpty_map]
theorem b8r (a:AV):(a.rn R.ρ).cellW1=a.cellW1.rn R.ρ:=by cases a<;>simp only[AV.cellW1,AV.rn,x9,E3,List.isEmpty_map]
theorem b3y (cs:List AV):(cs.map (AV.rn R.ρ)).map AV.cellW1=(cs.map AV.cellW1).map (AV.rn R.ρ):=by rw[List.map_map,List.map_map];exact List.map_congr_left fun a _=>b8r a
theorem R1 (a:AV):(a.rn R.ρ).plain=a.plain:=by cases a<;>rfl
theorem a08:∀ as:List AV,y9 (as.map (AV.rn R.ρ))=y9 as
 | []=>rfl
 | a::as=>by rw[List.map_cons,y9,y9,R1,a08 as]
theorem c1A (a:AV):(a.strip).rn R.ρ=(a.rn R.ρ).strip:=by cases a<;>rfl
theorem b6Q (a:AV):(a.stripB).rn R.ρ=(a.rn R.ρ).stripB:=by cases a<;>rfl
theorem M9 (ag:Bool) (n:Nat) (cs:List AV):m4 ag n (cs.map (AV.rn R.ρ))=(m4 ag n cs).map (AV.rn R.ρ):=by
 unfold m4;rw[List.length_map];split
 · split
   · rw[Option.map_some,← List.map_take,AV.rn,x9,a0G]
   · rfl
 · cases cs with
   | nil=>rfl
   | cons c cs=>rw[List.map_cons]; dsimp only; rw[Option.map_some,a4j]
theorem a0I (n:Nat) (cs:List AV):(cs.map (AV.rn R.ρ)).drop n=(cs.drop n).map (AV.rn R.ρ):=(List.map_drop).symm
theorem a4T (cs new:List AV) (off:Nat):B7 (cs.map (AV.rn R.ρ)) off (new.map (AV.rn R.ρ))=(B7 cs off new).map (AV.rn R.ρ):=by unfold B7;rw[List.map_append,List.map_append,List.length_map,List.map_take,List.map_drop]
theorem S8 (i:Nat) (xs:List (List AV)):s5 i (xs.map (·.map (AV.rn R.ρ)))=s5 i xs:=by
 cases xs with
 | nil=>rfl
 | cons r rs=>simp only[List.map_cons,s5,List.length_map]
theorem a6B:∀ (i:List (Nat×Nat)) (j cs out:List AV),E4 i j cs=some out→E4 i (j.map (AV.rn R.ρ)) (cs.map (AV.rn R.ρ))=some (out.map (AV.rn R.ρ))
 | [],[],cs,out,h=>by simp only[E4]at h ⊢; cases h; rfl
 | (off,n)::i,p::j,cs,out,h=>by
  rw[E4]at h;split at h
  · rename_i l;rw[List.map_cons,E4,R1,a2p,List.length_map,List.length_map,if_pos l,a4T];exact a6B i j _ out h
  · cases h
 | [],_::_,_,_,h=>by simp[E4]at h
 | _::_,[],_,_,h=>by simp[E4]at h
theorem a6u (l:Nat):∀ (is:List Nat) (j:List AV) (rs out:List (List AV)),D8 l is j rs=some out→D8 l is (j.map (AV.rn R.ρ)) (rs.map (·.map (AV.rn R.ρ)))=some (out.map (·.map (AV.rn R.ρ)))
 | [],[],rs,out,h=>by simp only[D8]at h ⊢; cases h; rfl
 | i::is,p::j,rs,out,h=>by
  rw[D8]at h;split at h
  · rename_i t;rw[List.map_cons,D8,R1,a2p,List.length_map,List.length_map,if_pos t,← a0G,← List.map_set];exact a6u l is j _ out h
  · cases h
 | [],_::_,_,_,h=>by simp[D8]at h
 | _::_,[],_,_,h=>by simp[D8]at h
theorem a1Z (l:Nat):∀ (is:List Nat) (j:List AV) (rs out:List (List AV)),B0 l is j rs=some out→B0 l is (j.map (AV.rn R.ρ)) (rs.map (·.map (AV.rn R.ρ)))=some (out.map (·.map (AV.rn R.ρ)))
 | [],[],rs,out,h=>by simp only[B0]at h ⊢; cases h; rfl
 | i::is,p::j,rs,out,h=>by
  rw[B0]at h;split at h
  · rename_i t;rw[List.map_cons,B0,R1,a2p,List.length_map,List.length_map,if_pos t,b3y,← List.map_set];exact a1Z l is j _ out h
  · cases h
 | [],_::_,_,_,h=>by simp[B0]at h
 | _::_,[],_,_,h=>by simp[B0]at h
theorem b9g (x:AV) (n:Nat):R2 (x.rn R.ρ) n=R2 x n:=by cases x<;>rfl
theorem a2I (i hi:Bool) (as:List AV) (n:Nat):H2 i hi (as.map (AV.rn R.ρ)) n=H2 i hi as n:=by cases i<;>cases hi<;>rcases as with _|⟨a,_|⟨b,_|⟨c,as⟩⟩⟩<;>simp only[List.map_cons,List.map_nil,H2,b9g]
theorem b1e (i:Nat) (a b:AV):Q4 i (a.rn R.ρ) (b.rn R.ρ)=Q4 i a b:=by cases a<;>cases b<;>rfl
theorem a6O (j:Nat) (k:AV):∀ (es:List (AV×AV)) (i:Nat),I0 j (k.rn R.ρ) (es.map fun e=>(e.1.rn R.ρ,e.2.rn R.ρ)) i=(I0 j k es i).map (Option.map fun r=>(r.1,r.2.rn R.ρ))
 | [],_=>rfl
 | (k',v)::es,i=>by
  rw[List.map_cons,I0,I0,b1e];cases Q4 j k k' with
  | none=>rfl
  | some b=>cases b with
   | true=>rfl
   | false=>exact a6O j k es (i+1)
theorem a7Q:∀ xs:List (List AV),I5 (xs.map (·.map (AV.rn R.ρ)))=I5 xs
 | []=>rfl
 | []::_=>rfl
 | [a]::rs=>by have i:=a7Q rs;cases a<;>simp only[List.map_cons,List.map_nil,AV.rn,I5];rename_i k n;cases k<;>simp only[I5];rw[i]
 | (a::b::c)::r=>by
  have h:∀ (x y:AV) (u:List AV) (w:List (List AV)),I5 ((x::y::u)::w)=none:=fun x y u w=>by cases x<;>simp only[I5]
  rw[List.map_cons,List.map_cons,List.map_cons,h,h]
theorem a9n (i:Nat):∀ (n:Nat) (cs:List AV),W4 i n (cs.map (AV.rn R.ρ))=(W4 i n cs).map (·.map (AV.rn R.ρ))
 | 0,_=>rfl
 | n+1,cs=>by rw[W4,W4,List.map_cons,a0I,a9n i n,List.map_take]
theorem a1K (xs:List (List AV)):(xs.map (·.map (AV.rn R.ρ))).flatten=xs.flatten.map (AV.rn R.ρ):=by rw[List.map_flatten]
theorem c3w (op:BinOp) (a b r:AV) (h:s4 op a b=some r):s4 op (a.rn R.ρ) (b.rn R.ρ)=some (r.rn R.ρ):=by
 have i:r.rn R.ρ=r:=by
  unfold s4 at h;split at h
  · cases op<;>dsimp only at h<;>(repeat' split at h)<;>first|(cases h; rfl)|cases h
  · cases op<;>dsimp only at h<;>(repeat' split at h)<;>first|(cases h; rfl)|cases h
  · cases h
 rw[i,← h];unfold s4 at h;split at h
 · rfl
 · rfl
 · cases h
theorem a2F (a:AV):P5 (a.rn R.ρ)=(P5 a).map R.ρ:=by cases a<;>rfl
end
section
variable {R:Rn}
def rnR (R:Rn) (r:AV×AV×St):AV×AV×St:=(r.1.rn R.ρ,r.2.1.rn R.ρ,R.ms r.2.2)
def a0n (R:Rn) (call:e9):Prop:=∀ f as st r st',R.G st→call f as st=some (r,st')→call f (as.map (AV.rn R.ρ)) (R.ms st)=some (r.rn R.ρ,R.ms st')∧R.G st'
def SemRn (R:Rn) (f:List AV→AV→St→Option (AV×AV×St)) (as:List AV) (bx:AV) (st:St):Prop :=
 ∀ r,f as bx st=some r→f (as.map (AV.rn R.ρ)) (bx.rn R.ρ) (R.ms st)=some (rnR R r)∧R.G r.2.2
mutual
def _root_.Go.Cb.AV.shu:AV→Bool
 | .list _ xs=>shuRs xs
 | .ptr ..=>false
 | .ro cs=>shuVs cs
 | .box cs=>shuVs cs
 | .map _=>false
 | .func _ a c=>shuVs a && shuVs c
 | .agg cs=>shuVs cs
 | .tuple vs=>shuVs vs
 | .iface _ v=>v.shu
 | .sl ..=>false
 | .fresh xs=>shuRs xs
 | _=>true
def shuVs:List AV→Bool
 | []=>true
 | a::as=>a.shu && shuVs as
def shuRs:List (List AV)→Bool
 | []=>true
 | r::rs=>shuVs r && shuRs rs
end
end
mutual
theorem b09 (f:Nat→Nat):∀ a:AV,a.shu=true→a.rn f=a
 | .undef,_=>rfl
 | .bool b,_=>rfl
 | .int k n,_=>rfl
 | .str s,_=>rfl
 | .list o xs,h=>by rw[AV.rn,shuRs_sh _ xs (by simpa[AV.shu]using h)]
 | .ptr o f,h=>by simp[AV.shu]at h
 | .nilp,_=>rfl
 | .ro cs,h=>by rw[AV.rn,shuVs_sh _ cs (by simpa[AV.shu]using h)]
 | .loc i f,_=>rfl
 | .box cs,h=>by rw[AV.rn,shuVs_sh _ cs (by simpa[AV.shu]using h)]
 | .map o,h=>by simp[AV.shu]at h
 | .nilm,_=>rfl
 | .func f a c,h=>by simp only[AV.shu,Bool.and_eq_true]at h;rw[AV.rn,shuVs_sh _ a h.1,shuVs_sh _ c h.2]
 | .nilf,_=>rfl
 | .agg cs,h=>by rw[AV.rn,shuVs_sh _ cs (by simpa[AV.shu]using h)]
 | .tuple vs,h=>by rw[AV.rn,shuVs_sh _ vs (by simpa[AV.shu]using h)]
 | .iface t v,h=>by rw[AV.rn,b09 _ v (by simpa[AV.shu]using h)]
 | .nili,_=>rfl
 | .sl o f n s,h=>by simp[AV.shu]at h
 | .fresh xs,h=>by rw[AV.rn,shuRs_sh _ xs (by simpa[AV.shu]using h)]
 | .nils,_=>rfl
theorem shuVs_sh (f:Nat→Nat):∀ as:List AV,shuVs as=true→F8 f as=as
 | [],_=>rfl
 | a::as,h=>by simp only[shuVs,Bool.and_eq_true]at h;rw[F8,b09 _ a h.1,shuVs_sh _ as h.2]
theorem shuRs_sh (f:Nat→Nat):∀ rs:List (List AV),shuRs rs=true→S5 f rs=rs
 | [],_=>rfl
 | r::rs,h=>by simp only[shuRs,Bool.and_eq_true]at h;rw[S5,shuVs_sh _ r h.1,shuRs_sh _ rs h.2]
end
def _root_.Go.Cb.Kind.shu:Kind→Bool
 | .alloc z|.allocO z|.build z _|.mget _ z _ _=>shuVs z
 | .bslice _ z _|.bsliceM _ z _|.bsliceO _ z _=>shuRs z
 | _=>true
section
variable {R:Rn}
theorem b3f {st st':St} (h:R.G st) (j:R.G st'):∀ gs:List AV,kept st st' gs=true→kept (R.ms st) (R.ms st') (gs.map (AV.rn R.ρ))=true
 | [],_=>rfl
 | g::gs,hk=>by
  rw[List.map_cons];simp only[kept,Bool.and_eq_true]at hk ⊢;refine⟨?_,b3f h j gs hk.2⟩;have hk:=hk.1;rw[a2F];cases t:P5 g with
  | none=>rw[t]at hk; cases hk
  | some p =>
   rw[t]at hk;simp only[Option.map_some,R.get h,R.get j]at hk ⊢;cases i:st[p]? with
   | none=>rw[i]at hk; cases hk
   | some a =>
    cases l:st'[p]? with
    | none=>rw[i,l]at hk; cases hk
    | some b =>rw[i,l]at hk;simp only[Option.map_some]at hk ⊢;rw[(a1i _ _).1 hk];exact(a1i _ _).2 rfl
theorem a0z {st:St} (h:R.G st) (o:Option Nat):∀ gs:List AV,N2 o st.length gs=true→N2 (o.map R.ρ) (R.ms st).length (gs.map (AV.rn R.ρ))=true
 | [],_=>rfl
 | g::gs,hk=>by
  rw[List.map_cons];simp only[N2,Bool.and_eq_true]at hk ⊢;refine⟨?_,a0z h o gs hk.2⟩;have hk:=hk.1;rw[a2F];cases l:P5 g with
  | none=>rw[l]at hk; cases hk
  | some p =>
   rw[l]at hk;simp only[Option.map_some,Bool.and_eq_true]at hk ⊢;obtain⟨i,j⟩:=hk;refine⟨?_,?_⟩
   · rw[Nat.blt_eq]at i ⊢;have hg:=R.get h p;rw[List.getElem?_eq_getElem i,Option.map_some]at hg;exact(List.getElem?_eq_some_iff.1 hg).1
   · cases o with
     | none=>rfl
     | some q =>simp only[Option.map_some,Bool.not_eq_true',b7p]at j ⊢;exact fun e=>j (R.inj.1 e)
end
end RN
end Go.Cb
namespace Go.Cb
namespace RN
open Classical
section
variable {R:Rn} {call:e9} {as:List AV} {bx:AV} {st:St}
theorem C1 {α β:Type} {x:Option α} {f:α→β} {r:β} (h:x.map f=some r):∃ a,x=some a∧f a=r:=Option.map_eq_some_iff.1 h
theorem SemRn.of (j:R.G st) {f:List AV→AV→St→Option (AV×AV×St)} (h:∀ r b s,f as bx st=some (r,b,s)→s=st∧f (as.map (AV.rn R.ρ)) (bx.rn R.ρ) (R.ms st)=some (r.rn R.ρ,b.rn R.ρ,R.ms st)):SemRn R f as bx st:=by rintro⟨r,b,s⟩ l;obtain⟨rfl,i⟩:=h r b s l;exact⟨i,j⟩
theorem e1b (i:R.G st):SemRn R (a1a call) as bx st:=SemRn.of i fun r b s h=>by
 unfold a1a at h;split at h
 · cases h; exact⟨rfl,rfl⟩
 · cases h
theorem c4x (l:R.G st):SemRn R (F3 call) as bx st:=SemRn.of l fun r b s h=>by
 unfold F3 at h;split at h
 · rename_i c x y;have:AV.rn R.ρ (.bool c)=.bool c:=rfl;simp only[F3,List.map_cons,List.map_nil,AV.rn,R1];split at h
   · rename_i i;rw[if_pos i];split at h
     · rename_i j; rw[if_pos j]; cases h; exact⟨rfl,rfl⟩
     · cases h
   · rename_i i;rw[if_neg i];split at h
     · rename_i j; rw[if_pos j]; cases h; exact⟨rfl,rfl⟩
     · cases h
 · cases h
theorem b7t (i:R.G st):SemRn R (G0 call) as bx st:=SemRn.of i fun r b s h=>by unfold G0 at h;split at h<;>first|(cases h; exact⟨rfl,rfl⟩)|cases h
theorem b84 {z:List AV} (j:shuVs z=true) (i:R.G st):SemRn R (V4 z call) as bx st:=SemRn.of i fun r b s h=>by
 unfold V4 at h;split at h
 · cases h;refine⟨rfl,?_⟩;show some (AV.undef,AV.box z,_)=some (AV.undef,AV.box (F8 R.ρ z),_);rw[shuVs_sh _ _ j]
 · cases h
theorem c5I (i:R.G st):SemRn R (X1 call) as bx st:=SemRn.of i fun r b s h=>by
 unfold X1 at h;split at h
 · rename_i a;split at h
   · rename_i j;cases h;refine⟨rfl,?_⟩;simp only[X1,List.map_cons,List.map_nil,AV.rn,R1,j,if_true,a9y,x9]
   · cases h
 · cases h
theorem b9J {z:List AV} {i:List (Nat×Nat)} (u:shuVs z=true) (t:R.G st):SemRn R (N9 z i call) as bx st:=SemRn.of t fun r b s h=>by unfold N9 at h ⊢;obtain⟨cs,j,l⟩:=C1 h;cases l;refine⟨rfl,?_⟩;have:=a6B (R:=R) i as z cs j;rw[← x9 z,shuVs_sh _ _ u]at this;rw[this,Option.map_some,AV.rn,x9]
theorem b8g {n:Nat} {z:List (List AV)} {at_:List Nat} (t:shuRs z=true) (l:R.G st):SemRn R (N3 n z at_ call) as bx st:=SemRn.of l fun r b s h=>by unfold N3 at h ⊢;obtain⟨cs,i,j⟩:=C1 h;cases j;refine⟨rfl,?_⟩;have:=a6u (R:=R) n at_ as z cs i;rw[← E3 z,shuRs_sh _ _ t]at this;rw[this,Option.map_some,AV.rn,E3]
theorem b6A {n:Nat} {z:List (List AV)} {at_:List Nat} (t:shuRs z=true) (l:R.G st):SemRn R (K4 n z at_ call) as bx st:=SemRn.of l fun r b s h=>by unfold K4 at h ⊢;obtain⟨cs,i,j⟩:=C1 h;cases j;refine⟨rfl,?_⟩;have:=a1Z (R:=R) n at_ as z cs i;rw[← E3 z,shuRs_sh _ _ t]at this;rw[this,Option.map_some,AV.rn,E3]
theorem b3J {n:Nat} {z:List (List AV)} {at_:List Nat} (l:shuRs z=true) (i:R.G st):SemRn R (K5 n z at_ call) as bx st:=by rintro r h;unfold K5 at h ⊢;obtain⟨cs,j,rfl⟩:=C1 h;have:=a1Z (R:=R) n at_ as z cs j;rw[← E3 z,shuRs_sh _ _ l]at this;refine⟨?_,(by first|exact R.app i|exact R.app (R.set i)|exact R.set i)⟩;rw[this,Option.map_some,rnR,R.apps i,AV.rn,R.len i];simp only[Obj.rn,a1K]
theorem c4X (i:R.G st):SemRn R (W7 call) as bx st:=SemRn.of i fun r b s h=>by
 unfold W7 at h;split at h
 · rename_i k a j c;split at h
   · rename_i hk; cases h; subst hk; exact⟨rfl,by simp only[W7,List.map_cons,List.map_nil,AV.rn,if_true]⟩
   · cases h
 · cases h
theorem c6v {neg:Bool} (i:R.G st):SemRn R (W9 neg call) as bx st:=SemRn.of i fun r b s h=>by
 unfold W9 at h;split at h
 · split at h
   · rename_i hk; cases h; subst hk; exact⟨rfl,by simp only[W9,List.map_cons,List.map_nil,AV.rn,F8,if_true]⟩
   · cases h
 · cases h
theorem c2B {i n:Nat} {ag:Bool} (u:R.G st):SemRn R (M0 i ag n call) as bx st:=SemRn.of u fun r b s h=>by
 unfold M0 at h;split at h
 · rename_i j off cs;split at h
   · rename_i x;obtain⟨a,l,t⟩:=C1 h;cases t;refine⟨rfl,?_⟩;simp only[M0,List.map_cons,List.map_nil,AV.rn,x,if_true,x9,a0I,M9,l,Option.map_some]
   · cases h
 · cases h
theorem a0i {o:Nat} {cs:List AV} (i:R.G st) (h:st[o]?=some (.cells cs)):(R.ms st)[R.ρ o]?=some (.cells (cs.map (AV.rn R.ρ))):=by rw[R.get i,h]; rfl
theorem c2m {o:Nat} {es:List (AV×AV)} (i:R.G st) (h:st[o]?=some (.map es)):(R.ms st)[R.ρ o]?=some (.map (es.map fun e=>(e.1.rn R.ρ,e.2.rn R.ρ))):=by rw[R.get i,h]; rfl
theorem b2R {n:Nat} {ag:Bool} (i:R.G st):SemRn R (F4 ag n call) as bx st:=SemRn.of i fun r b s h=>by
 unfold F4 at h;split at h
 · rename_i o off;split at h
   · rename_i cs t;obtain⟨a,j,l⟩:=C1 h;cases l;refine⟨rfl,?_⟩;simp only[F4,List.map_cons,List.map_nil,AV.rn,a0i i t,a0I,M9,j,Option.map_some]
   · cases h
 · cases h
theorem c69 {n:Nat} {ag:Bool} (l:R.G st):SemRn R (P1 ag n call) as bx st:=SemRn.of l fun r b s h=>by
 unfold P1 at h;split at h
 · obtain⟨a,i,j⟩:=C1 h;cases j;refine⟨rfl,?_⟩;simp only[P1,List.map_cons,List.map_nil,AV.rn,x9,M9,i,Option.map_some]
 · cases h
theorem c3g {n:Nat} {ag:Bool} (l:R.G st):SemRn R (H3 ag n call) as bx st:=SemRn.of l fun r b s h=>by
 unfold H3 at h;split at h
 · obtain⟨a,i,j⟩:=C1 h;cases j;refine⟨rfl,?_⟩;simp only[H3,List.map_cons,List.map_nil,AV.rn,x9,M9,i,Option.map_some]
 · rename_i o off;split at h
   · rename_i cs t;obtain⟨a,i,j⟩:=C1 h;cases j;refine⟨rfl,?_⟩;simp only[H3,List.map_cons,List.map_nil,AV.rn,a0i l t,a0I,M9,i,Option.map_some]
   · cases h
 · cases h
theorem b9M {i:Nat} (l:R.G st):SemRn R (O0 i call) as bx st:=SemRn.of l fun r b s h=>by
 unfold O0 at h;split at h
 · rename_i j off cs;split at h
   · rename_i u;split at h
     · rename_i c t;cases h;refine⟨rfl,?_⟩;simp only[O0,List.map_cons,List.map_nil,AV.rn,u,if_true,x9,List.getElem?_map,t,Option.map_some,List.map_set,a4j]
     · cases h
   · cases h
 · cases h
theorem b1c (i:R.G st):SemRn R (E8 call) as bx st:=by
 rintro⟨r,b,s⟩ h;unfold E8 at h;split at h
 · rename_i o off;split at h
   · rename_i cs l;split at h
     · rename_i c j;cases h;refine⟨?_,(by first|exact i|exact R.set i)⟩;simp only[E8,List.map_cons,List.map_nil,AV.rn,a0i i l,List.getElem?_map,j,Option.map_some,rnR,R.sets i,Obj.rn,List.map_set,a4j]
     · cases h
   · cases h
 · cases h
theorem c3B {i n:Nat} (l:R.G st):SemRn R (O6 i n call) as bx st:=SemRn.of l fun r b s h=>by
 unfold O6 at h;split at h
 · rename_i j off x cs;split at h
   · rename_i t;cases h;refine⟨rfl,?_⟩;simp only[O6,List.map_cons,List.map_nil,AV.rn,R1,a2p,List.length_map,x9];rw[if_pos t,a4T]
   · cases h
 · cases h
theorem b3l {n:Nat} (i:R.G st):SemRn R (H5 n call) as bx st:=by
 rintro⟨r,b,s⟩ h;unfold H5 at h;split at h
 · rename_i o off x;split at h
   · rename_i cs j;split at h
     · rename_i l;rw[fL_eq]at h;cases h;refine⟨?_,(by first|exact i|exact R.set i)⟩;simp only[H5,List.map_cons,List.map_nil,AV.rn,a0i i j,R1,a2p,List.length_map,fL_eq];rw[if_pos l,a4T,rnR,R.sets i];rfl
     · cases h
   · cases h
 · cases h
theorem c9X {n:Nat} (i:R.G st):SemRn R (P6 n call) as bx st:=SemRn.of i fun r b s h=>by
 unfold P6 at h;split at h
 · cases h; exact⟨rfl,rfl⟩
 · cases h; exact⟨rfl,rfl⟩
 · cases h; exact⟨rfl,by simp only[P6,List.map_cons,List.map_nil,AV.rn,x9,a0I]⟩
 · cases h
theorem d3i {o n:Nat} {ag:Bool} (l:R.G st):SemRn R (W5 o n ag call) as bx st:=SemRn.of l fun r b s h=>by
 unfold W5 at h;split at h
 · split at h
   · rename_i t;obtain⟨a,i,j⟩:=C1 h;cases j;refine⟨rfl,?_⟩;simp only[W5,List.map_cons,List.map_nil,AV.rn,x9,List.length_map,t,if_true,a0I,M9,i,Option.map_some]
   · cases h
 · cases h
theorem d3g {n:Nat} (l:R.G st):SemRn R (O1 n call) as bx st:=SemRn.of l fun r b s h=>by
 unfold O1 at h;split at h
 · rename_i xs k i;split at h
   · rename_i j;split at h
     · rename_i x u;split at h
       · rename_i hl;cases h;refine⟨rfl,?_⟩;simp only[O1,List.map_cons,List.map_nil,AV.rn,E3,j,if_true,List.getElem?_map,u,Option.map_some,List.length_map,hl,x9]
       · cases h
     · cases h
   · cases h
 · rename_i j;split at h
   · rename_i t;cases h;refine⟨rfl,?_⟩;simp only[O1,List.map_cons,List.map_nil,AV.rn];rw[if_pos t]
   · cases h
 · cases h
theorem c6p {l n:Nat} (j:R.G st):SemRn R (I4 l n call) as bx st:=SemRn.of j fun r b s h=>by
 unfold I4 at h;split at h
 · split at h
   · rename_i i; cases h; refine⟨rfl,?_⟩; simp only[I4,List.map_cons,List.map_nil,AV.rn,x9]; rw[if_pos i,a0I]
   · cases h
 · split at h
   · rename_i i; cases h; refine⟨rfl,?_⟩; simp only[I4,List.map_cons,List.map_nil,AV.rn]; rw[if_pos i]
   · cases h
 · split at h
   · rename_i i; cases h; refine⟨rfl,?_⟩; simp only[I4,List.map_cons,List.map_nil,AV.rn]; rw[if_pos i]
   · cases h
 · cases h
theorem c4m (j:R.G st):SemRn R (N7 call) as bx st:=SemRn.of j fun r b s h=>by
 unfold N7 at h;split at h
 · split at h
   · rename_i i;split at h
     · rename_i l; cases h; refine⟨rfl,?_⟩; simp only[N7,List.map_cons,List.map_nil,AV.rn,i,if_true,l]
     · cases h
   · cases h
 · cases h
theorem d5E {t hi:Bool} (l:R.G st):SemRn R (S0 t hi call) as bx st:=SemRn.of l fun r b s h=>by
 unfold S0 at h;split at h
 · obtain⟨p,i,j⟩:=C1 h;cases j;refine⟨rfl,?_⟩;simp only[S0,List.map_cons,AV.rn,a2I,i,Option.map_some]
 · cases h
theorem c8l {n:Nat} {u hi:Bool} (t:R.G st):SemRn R (P3 n u hi call) as bx st:=SemRn.of t fun r b s h=>by
 unfold P3 at h;split at h
 · split at h
   · rename_i l;obtain⟨p,i,j⟩:=C1 h;cases j;refine⟨rfl,?_⟩;simp only[P3,List.map_cons,AV.rn,E3,S8,l,if_true,List.length_map,a2I,i,Option.map_some,List.map_take,List.map_drop]
   · cases h
 · split at h
   · rename_i l;obtain⟨p,i,j⟩:=C1 h;cases j;refine⟨rfl,?_⟩;simp only[P3,List.map_cons,AV.rn,l,if_true];unfold slB at i ⊢;rw[a2I,i];rfl
   · cases h
 · cases h
theorem d3w (i:R.G st):SemRn R (Y8 call) as bx st:=SemRn.of i fun r b s h=>by
 unfold Y8 at h;split at h
 · cases h; exact⟨rfl,rfl⟩
 · cases h
theorem d55 {l n:Nat} {x hi:Bool} (t:R.G st):SemRn R (W2 l n x hi call) as bx st:=SemRn.of t fun r b s h=>by
 unfold W2 at h;split at h
 · split at h
   · rename_i u;obtain⟨p,i,j⟩:=C1 h;cases j;refine⟨rfl,?_⟩;simp only[W2,List.map_cons,AV.rn,x9,List.length_map,u,if_true,a2I,i,Option.map_some,a9n,E3,List.map_take,List.map_drop]
   · cases h
 · cases h
theorem d5Q {op:BinOp} (l:R.G st):SemRn R (F1 op call) as bx st:=SemRn.of l fun r b s h=>by
 unfold F1 at h;split at h
 · obtain⟨p,i,j⟩:=C1 h;cases j;refine⟨rfl,?_⟩;simp only[F1,List.map_cons,List.map_nil,c3w op _ _ _ i,Option.map_some]
 · cases h
theorem c2X {op:BinOp} (l:R.G st):SemRn R (S7 op call) as bx st:=SemRn.of l fun r b s h=>by
 unfold S7 at h;split at h
 · rename_i x y;obtain⟨p,i,j⟩:=C1 h;cases j;refine⟨rfl,?_⟩;unfold a6k at i;split at i
   · split at i<;>first|(cases i; rfl)|cases i
   · cases i
 · cases h
theorem c4P {op:BinOp} (l:R.G st):SemRn R (N8 op call) as bx st:=SemRn.of l fun r b s h=>by
 unfold N8 at h;split at h
 · rename_i x y;obtain⟨p,i,j⟩:=C1 h;cases j;refine⟨rfl,?_⟩;unfold a0L at i;split at i;all_goals first|cases i|skip
   all_goals (split at i<;>first|(cases i; rfl)|cases i)
 · cases h
theorem e1k {op:UnOp} (i:R.G st):SemRn R (a0q op call) as bx st:=SemRn.of i fun r b s h=>by unfold a0q at h;split at h<;>first|(cases h; exact⟨rfl,rfl⟩)|cases h
theorem c3C {k:IntKind} (i:R.G st):SemRn R (R8 k call) as bx st:=SemRn.of i fun r b s h=>by unfold R8 at h;split at h<;>first|(cases h; exact⟨rfl,rfl⟩)|cases h
theorem c80 {f n:Nat} (i:R.G st):SemRn R (Y3 f n call) as bx st:=SemRn.of i fun r b s h=>by
 unfold Y3 at h ⊢;split at h
 · rename_i j;cases h;refine⟨rfl,?_⟩;rw[a08,if_pos j,AV.rn,x9,x9,← a6N,List.map_take,List.map_drop]
 · cases h
theorem c9G (i:R.G st):SemRn R (Y4 call) as bx st:=by
 rintro⟨r,b,s⟩ h;unfold Y4 at h;split at h
 · cases h;refine⟨?_,(by first|exact R.app i|exact R.app (R.set i)|exact R.set i)⟩;simp only[Y4,List.map_nil,rnR,R.apps i,AV.rn,R.len i];rfl
 · cases h
theorem b75 {z:List AV} (j:shuVs z=true) (i:R.G st):SemRn R (I7 z call) as bx st:=by
 rintro⟨r,b,s⟩ h;unfold I7 at h;split at h
 · cases h;refine⟨?_,(by first|exact R.app i|exact R.app (R.set i)|exact R.set i)⟩;simp only[I7,List.map_nil,rnR,R.apps i,AV.rn,R.len i,Obj.rn,← x9,shuVs_sh _ _ j]
 · cases h
theorem c6R (i:R.G st):SemRn R (O7 call) as bx st:=by
 rintro⟨r,b,s⟩ h;unfold O7 at h;split at h
 · split at h
   · rename_i j;cases h;refine⟨?_,(by first|exact R.app i|exact R.app (R.set i)|exact R.set i)⟩;simp only[O7,List.map_cons,List.map_nil,R1,j,if_true,rnR,R.apps i,AV.rn,R.len i,Obj.rn,a9y]
   · cases h
 · cases h
end
end RN
end Go.Cb
namespace Go.Cb
namespace RN
open Classical
section
variable {R:Rn} {call:e9} {as:List AV} {bx:AV} {st:St}
theorem c3k {j:Nat} {z:List AV} {ag ok:Bool} (B:shuVs z=true) (u:R.G st):SemRn R (X3 j z ag ok call) as bx st:=SemRn.of u fun r b s h=>by
 have t:z.map (AV.rn R.ρ)=z:=by rw[← x9,shuVs_sh _ _ B]
 have key:∀ (k:AV) (es:List (AV×AV)),(match I0 j k es 0 with
  | some r=>match (match r with|some (_,v)=>some v|none=>m4 ag z.length z)with
   | some v=>some (if ok then AV.tuple [v,.bool r.isSome]else v,bx,st)
   | none=>none
  | none=>none)=some (r,b,s)→s=st∧(match I0 j (k.rn R.ρ) (es.map fun e=>(e.1.rn R.ρ,e.2.rn R.ρ)) 0 with
  | some r=>match (match r with|some (_,v)=>some v|none=>m4 ag z.length z)with
   | some v=>some (if ok then AV.tuple [v,.bool r.isSome]else v,bx.rn R.ρ,R.ms st)
   | none=>none
  | none=>none)=some (r.rn R.ρ,b.rn R.ρ,R.ms st):=by
  intro k es h;rw[a6O];cases hm:I0 j k es 0 with
  | none=>rw[hm]at h; cases h
  | some o =>
   rw[hm]at h;cases o with
   | some p =>obtain⟨i,v⟩:=p;dsimp only[Option.map_some]at h ⊢;cases h;refine⟨rfl,?_⟩;cases ok<;>rfl
   | none =>
    dsimp only[Option.map_some,Option.map_none]at h ⊢;have l:=M9 (R:=R) ag z.length z;rw[t]at l;cases x:m4 ag z.length z with
    | none=>rw[x]at h; cases h
    | some v =>
     rw[x]at h l;have e:v.rn R.ρ=v:=by simpa using l.symm
     dsimp only at h ⊢;cases h;refine⟨rfl,?_⟩;cases ok
     · simp only[Bool.false_eq_true,if_false,e]
     · simp only[if_true,AV.rn,F8,e]
 unfold X3 at h ⊢;dsimp only at h ⊢;split at h
 · rename_i k;exact key k [] h
 · rename_i o k;split at h
   · rename_i es y;simp only[List.map_cons,List.map_nil,AV.rn,c2m u y];exact key k es h
   · cases h
 · cases h
theorem c3A {l:Nat} (j:R.G st):SemRn R (X0 l call) as bx st:=by
 rintro⟨r,b,s⟩ h;unfold X0 at h;split at h
 · rename_i o k v;split at h
   · rename_i u;split at h
     · rename_i es t;simp only[X0,List.map_cons,List.map_nil,AV.rn,R1,u,if_true,c2m j t,a6O];cases hm:I0 l k es 0 with
       | none=>rw[hm]at h; cases h
       | some q =>
        rw[hm]at h;cases q with
        | some p =>obtain⟨i,w⟩:=p;dsimp only[Option.map_some]at h ⊢;cases h;refine⟨?_,(by first|exact j|exact R.set j)⟩;simp only[rnR,R.sets j,Obj.rn,List.map_set,a0d];rfl
        | none =>
         dsimp only[Option.map_some,Option.map_none]at h ⊢;rw[b1e];cases hk:Q4 l k k with
         | none=>rw[hk]at h; cases h
         | some e =>rw[hk]at h;simp only[Option.bind_some]at h ⊢;cases h;refine⟨?_,(by first|exact j|exact R.set j)⟩;simp only[rnR,R.sets j,Obj.rn,List.map_append,List.map_cons,List.map_nil,a0d];rfl
     · cases h
   · cases h
 · cases h
theorem d4U {i:Nat} (j:R.G st):SemRn R (S1 i call) as bx st:=SemRn.of j fun r b s h=>by
 unfold S1 at h;split at h
 · split at h
   · rename_i v l;cases h;refine⟨rfl,?_⟩;simp only[S1,List.map_cons,List.map_nil,AV.rn,x9,List.getElem?_map,l,Option.map_some,a0d]
   · cases h
 · cases h
theorem b2F {f:Nat} (x:a0n R call) (u:R.G st):SemRn R (B6 f call) as bx st:=by
 rintro⟨r,b,s⟩ h;unfold B6 at h ⊢;split at h
 · rename_i y;obtain⟨⟨v,z⟩,i,j⟩:=C1 h;cases j;obtain⟨l,t⟩:=x _ _ _ _ _ u i;refine⟨?_,t⟩;rw[a08,if_pos y,← a6N,l];rfl
 · cases h
theorem c1Q (z:a0n R call) (y:R.G st):SemRn R (H9 call) as bx st:=by
 rintro⟨r,b,s⟩ h;unfold H9 at h;split at h
 · rename_i f first i j
   split at h
   · rename_i B;obtain⟨⟨v,C⟩,l,t⟩:=C1 h;cases t;obtain⟨u,x⟩:=z _ _ _ _ _ y l;refine⟨?_,x⟩;simp only[H9,List.map_cons,AV.rn,x9];rw[a08,if_pos B,← List.map_append,← List.map_append,← a6N,u];rfl
   · cases h
 · cases h
theorem c1x {f m:Nat} (y:a0n R call) (t:R.G st):SemRn R (G9 f m call) as bx st:=by
 rintro⟨r,b,s⟩ h;unfold G9 at h ⊢;cases j:B6 f call (as.take m) bx st with
 | none=>rw[j]at h; cases h
 | some x =>
  obtain⟨v,b',z⟩:=x;rw[j]at h;dsimp only at h;obtain⟨u,l⟩:=b2F y t _ j;split at h
  · rename_i hk;cases h;refine⟨?_,l⟩;rw[← List.map_take,u,← List.map_drop];have i:=b3f (R:=R) t l _ hk;simp only[rnR];exact if_pos i
  · cases h
theorem c4l (i:R.G st):SemRn R (R9 call) as bx st:=SemRn.of i fun r b s h=>by unfold R9 at h;split at h<;>first|(cases h; exact⟨rfl,rfl⟩)|cases h
theorem c6P (i:R.G st):SemRn R (J6 call) as bx st:=SemRn.of i fun r b s h=>by
 unfold J6 at h;split at h
 · cases h; exact⟨rfl,by simp only[J6,List.map_cons,List.map_nil,AV.rn,E3,List.length_map]⟩
 · cases h; exact⟨rfl,rfl⟩
 · cases h; exact⟨rfl,rfl⟩
 · cases h
theorem d4i {n b':Nat} (i:R.G st):SemRn R (W6 n b' call) as bx st:=SemRn.of i fun r b s h=>by
 unfold W6 at h;split at h
 · split at h
   · rename_i j;cases h;refine⟨rfl,?_⟩;simp only[W6,List.map_cons,List.map_nil,AV.rn,E3,S8,List.length_map];rw[if_pos j,List.map_append]
   · cases h
 · cases h
theorem c7v {n b':Nat} (i:R.G st):SemRn R (F6 n b' call) as bx st:=by
 rintro⟨r,b,s⟩ h;unfold F6 at h;split at h
 · split at h
   · rename_i j;cases h;refine⟨?_,(by first|exact R.app i|exact R.app (R.set i)|exact R.set i)⟩;have l:=a0z (R:=R) i none _ j.2.2.2;simp only[Option.map_none]at l;simp only[F6,List.map_cons,AV.rn,E3,List.isEmpty_map,S8,List.length_map,List.map_nil];rw[if_pos ⟨j.1,j.2.1,j.2.2.1,l⟩];simp only[rnR,AV.rn,R.apps i,R.len i,Obj.rn,a1K]
   · cases h
 · split at h
   · rename_i j;cases h;refine⟨?_,(by first|exact R.app i|exact R.app (R.set i)|exact R.set i)⟩;have l:=a0z (R:=R) i none _ j.2.2.2;simp only[Option.map_none]at l;simp only[F6,List.map_cons,AV.rn,E3,List.isEmpty_map,S8,List.length_map];rw[if_pos ⟨j.1,j.2.1,j.2.2.1,l⟩];simp only[rnR,AV.rn,R.apps i,R.len i,Obj.rn,a1K]
   · cases h
 · split at h
   · rename_i j;cases h;refine⟨?_,i⟩;have l:=a0z (R:=R) i none _ j;simp only[Option.map_none]at l;simp only[F6,List.map_cons,AV.rn];rw[if_pos l];simp only[rnR,AV.rn]
   · cases h
 · rename_i o k u ys gs;split at h
   · rename_i xs t;split at h
     · rename_i j;cases h;refine⟨?_,(by first|exact R.app i|exact R.app (R.set i)|exact R.set i)⟩;have l:=a0z (R:=R) i (some o) _ j.2.2.2.2.2;simp only[Option.map_some]at l;simp only[F6,List.map_cons,AV.rn,E3,List.isEmpty_map,S8,List.length_map,a0i i t];rw[if_pos ⟨j.1,j.2.1,j.2.2.1,j.2.2.2.1,j.2.2.2.2.1,l⟩];simp only[rnR,AV.rn,R.apps (st:=st.set o .dead) ((by first|exact i|exact R.set i)),R.sets i,R.len i,Obj.rn,a1K,List.map_append]
     · cases h
   · cases h
 · split at h
   · rename_i j;cases h;refine⟨?_,i⟩;have l:=a0z (R:=R) i none _ j;simp only[Option.map_none]at l;simp only[F6,List.map_cons,AV.rn];rw[if_pos l];simp only[rnR,AV.rn]
   · cases h
 · cases h
theorem c3s {b':Nat} (j:R.G st):SemRn R (a0c b' call) as bx st:=SemRn.of j fun r b s h=>by
 unfold a0c at h;split at h
 · rename_i xs;split at h
   · rename_i i;cases h;refine⟨rfl,?_⟩;simp only[a0c,List.map_cons,List.map_nil,AV.rn,E3,S8,List.length_map];rw[if_pos i]
   · cases h
 · rename_i xs o n;split at h
   · rename_i cs l;split at h
     · rename_i i;cases h;refine⟨rfl,?_⟩;simp only[a0c,List.map_cons,List.map_nil,AV.rn,E3,S8,List.length_map,a0i j l];rw[if_pos i];simp only[rnR,AV.rn,E3,List.map_append,List.map_map];rfl
     · cases h
   · cases h
 · cases h
theorem c74 (l:R.G st):SemRn R (W3 call) as bx st:=SemRn.of l fun r b s h=>by
 unfold W3 at h;split at h
 · obtain⟨a,i,j⟩:=C1 h;cases j;refine⟨rfl,?_⟩;simp only[W3,List.map_cons,List.map_nil,AV.rn,E3,a7Q,i,Option.map_some]
 · cases h
theorem c1s {n:Nat} {ag:Bool} (l:R.G st):SemRn R (G8 ag n call) as bx st:=by
 rintro x h;unfold G8 at h;split at h
 · rename_i o off r;split at h
   · rename_i p u;split at h
     · rename_i t;obtain⟨i,j⟩:=b2R (call:=call) l _ h;refine⟨?_,j⟩;have e:o=p:=by simpa using t
       subst e;simp only[G8,List.map_cons,List.map_nil,AV.rn,a2F,u,Option.map_some];rw[if_pos (by simp)];exact i
     · cases h
   · cases h
 · cases h
theorem b6R {n:Nat} (t:R.G st):SemRn R (F0 n call) as bx st:=by
 rintro x h;unfold F0 at h;split at h
 · rename_i o off p f;split at h
   · rename_i i;obtain⟨j,l⟩:=b1c (call:=call) t _ h;refine⟨?_,l⟩;have e:o=p:=by simpa using i.1
     subst e;simp only[F0,List.map_cons,List.map_nil,AV.rn];rw[if_pos ⟨by simp,i.2⟩];exact j
   · cases h
 · cases h
theorem c1r {n:Nat} (i:R.G st):SemRn R (H1 n call) as bx st:=by
 rintro x h;unfold H1 at h;split at h
 · rename_i o off y r gs;split at h
   · rename_i p z;split at h
     · rename_i l;obtain⟨t,u⟩:=b3l (call:=call) i _ h;refine⟨?_,u⟩;have e:o=p:=by simpa using l.1
       subst e;have j:=a0z (R:=R) i (some o) _ l.2;simp only[H1,List.map_cons,AV.rn,a2F,z,Option.map_some]at j ⊢;rw[if_pos ⟨by simp,j⟩];exact t
     · cases h
   · cases h
 · cases h
theorem d0T {k:Kind} (hk:k.shu=true) (j:a0n R call) (i:R.G st):SemRn R (sem k call) as bx st:=by
 cases k
 case mv=>exact e1b (call:=call) i
 case pick=>exact c4x (call:=call) i
 case nilchk=>exact b7t (call:=call) i
 case alloc z=>exact b84 (call:=call) hk i
 case allocO z=>exact b75 (call:=call) hk i
 case boxV=>exact c5I (call:=call) i
 case boxO=>exact c6R (call:=call) i
 case build z o=>exact b9J (call:=call) hk i
 case bslice n z a=>exact b8g (call:=call) hk i
 case bsliceM n z a=>exact b6A (call:=call) hk i
 case bsliceO n z a=>exact b3J (call:=call) hk i
 case min2=>exact c4X (call:=call) i
 case stuck=>intro r h; cases h
 case eqIS neg=>exact c6v (call:=call) i
 case ldLc=>exact c2B (call:=call) i
 case ldSt=>exact b2R (call:=call) i
 case ldRo=>exact c69 (call:=call) i
 case ldAn=>exact c3g (call:=call) i
 case ldLcS=>exact b9M (call:=call) i
 case ldStS=>exact b1c (call:=call) i
 case ldStR=>exact c1s (call:=call) i
 case ldStSR=>exact b6R (call:=call) i
 case stStA=>exact c1r (call:=call) i
 case callA=>exact c1x (call:=call) j i
 case stLc=>exact c3B (call:=call) i
 case stSt=>exact b3l (call:=call) i
 case fad=>exact c9X (call:=call) i
 case fld=>exact d3i (call:=call) i
 case iad=>exact d3g (call:=call) i
 case iadA=>exact c6p (call:=call) i
 case idxS=>exact c4m (call:=call) i
 case slS=>exact d5E (call:=call) i
 case slL=>exact c8l (call:=call) i
 case slZ=>exact d3w (call:=call) i
 case slA=>exact d55 (call:=call) i
 case bin=>exact d5Q (call:=call) i
 case binB=>exact c2X (call:=call) i
 case binP=>exact c4P (call:=call) i
 case un=>exact e1k (call:=call) i
 case conv=>exact c3C (call:=call) i
 case mkF=>exact c80 (call:=call) i
 case mkM=>exact c9G (call:=call) i
 case mget=>exact c3k (call:=call) hk i
 case mset=>exact c3A (call:=call) i
 case ext=>exact d4U (call:=call) i
 case call=>exact b2F (call:=call) j i
 case callV=>exact c1Q (call:=call) j i
 case lenS=>exact c4l (call:=call) i
 case lenL=>exact c6P (call:=call) i
 case app=>exact d4i (call:=call) i
 case appM=>exact c7v (call:=call) i
 case appA=>exact c3s (call:=call) i
 case b2s=>exact c74 (call:=call) i
end
def _root_.Go.Cb.Opd.shu:Opd→Bool
 | .c a=>a.shu
 | _=>true
def _root_.Go.Cb.AOper.shu (o:AOper):Bool:=o.kind.shu && o.args.all Opd.shu && (match o.guard with|some (x,_)=>x.shu|none=>true)
def _root_.Go.Cb.ACode.shu:ACode→Bool
 | .reg _ ops=>ops.all AOper.shu
 | .test _ ops c a b=>ops.all AOper.shu && c.shu && a.shu && b.shu
 | .seq a b=>a.shu && b.shu
 | .blk _ a=>a.shu
 | .loop a=>a.shu
 | .either _ a b=>a.shu && b.shu
 | _=>true
section
variable {R:Rn} {call:e9}
def _root_.Go.Cb.Sig.rn (R:Rn) (σ:Sig):Sig:=⟨σ.fr.map (AV.rn R.ρ),fun j=>(σ.τ j).rn R.ρ,R.ms σ.st⟩
theorem Z8 (fr:List AV) (i:Nat):(fr.map (AV.rn R.ρ)).getD i AV.undef=(fr.getD i AV.undef).rn R.ρ:=by simp only[List.getD_eq_getElem?_getD,List.getElem?_map];cases fr[i]?<;>rfl
theorem a8h {x:Opd} (j:x.shu=true) (σ:Sig):x.read (σ.rn R)=(x.read σ).rn R.ρ:=by
 cases x with
 | t s=>exact(a0d _).symm
 | ts s=>rfl
 | v i=>show((σ.fr.map _).getD i AV.undef).weak=_; rw[Z8,← a0d]; rfl
 | vs i=>exact Z8 _ _
 | l i =>show(match (σ.fr.map _).getD i AV.undef with|.box _=>AV.loc i 0|_=>AV.undef)=(match σ.fr.getD i AV.undef with|.box _=>AV.loc i 0|_=>AV.undef).rn R.ρ;rw[Z8];cases σ.fr.getD i AV.undef<;>rfl
 | c a=>exact(b09 _ _ j).symm
theorem c0v (x:Opd) (σ:Sig):x.spend (σ.rn R)=(x.spend σ).rn R:=by
 cases x with
 | ts s =>
  show Sig.mk _ _ _=Sig.mk _ _ _;congr 1;funext j;show C6 _ _ _ _=(C6 _ _ _ _).rn R.ρ;unfold C6;split
  · exact(a0d _).symm
  · rfl
 | vs i =>show Sig.mk _ _ _=Sig.mk _ _ _;congr 1;show(σ.fr.map _).set i ((σ.fr.map _).getD i AV.undef).weak=(σ.fr.set i (σ.fr.getD i AV.undef).weak).map _;rw[Z8,List.map_set,a0d]
 | _=>rfl
theorem a6J:∀ (xs:List Opd) (σ:Sig),g9 xs (σ.rn R)=(g9 xs σ).rn R
 | [],_=>rfl
 | x::xs,σ=>by rw[g9,g9,c0v,a6J xs]
theorem a9Z (d:Dst) (a:AV) (σ:Sig):d.put (a.rn R.ρ) (σ.rn R)=(d.put a σ).rn R:=by
 cases d with
 | none=>rfl
 | bx=>rfl
 | t s =>
  show Sig.mk _ _ _=Sig.mk _ _ _;congr 1;funext j;show C6 _ _ _ _=(C6 _ _ _ _).rn R.ρ;unfold C6;split
  · exact(b6Q _).symm
  · rfl
 | v i =>show Sig.mk _ _ _=Sig.mk _ _ _;congr 1;show(σ.fr.map _).set i (a.rn R.ρ).strip=(σ.fr.set i a.strip).map _;rw[List.map_set,c1A]
theorem b0z:∀ {xs:List Opd},xs.all Opd.shu=true→∀ σ:Sig,xs.map (·.read (σ.rn R))=(xs.map (·.read σ)).map (AV.rn R.ρ)
 | [],_,_=>rfl
 | x::xs,h,σ=>by simp only[List.all_cons,Bool.and_eq_true]at h;rw[List.map_cons,List.map_cons,List.map_cons,a8h h.1,b0z h.2]
theorem b2T (B:a0n R call) {o:AOper} (j:o.shu=true) {σ σ':Sig} (x:R.G σ.st) (h:E9 call o σ=some σ'):E9 call o (σ.rn R)=some (σ'.rn R)∧R.G σ'.st:=by
 have l:∀ (d:Dst) (a:AV) (σ:Sig),(d.put a σ).st=σ.st:=fun d a σ=>by cases d<;>rfl
 unfold AOper.shu at j;simp only[Bool.and_eq_true]at j;obtain⟨⟨hk,y⟩,_⟩:=j;obtain⟨r,b,s,hs,rfl⟩:=n8 h;have z:C3 o (σ.rn R)=(C3 o σ).rn R.ρ:=by
  unfold C3;cases o.box with
  | none=>rfl
  | some i=>exact Z8 _ _
 obtain⟨t,u⟩:=d0T (R:=R) hk B x _ hs;rw[← b0z y,← z]at t;refine⟨?_,by rw[l]; exact u⟩;rw[a1R t,a6J];refine congrArg some (Eq.trans ?_ (a9Z (R:=R) o.dst r _));refine congrArg (o.dst.put _) ?_;show Sig.mk _ _ _=Sig.mk _ _ _;congr 1;cases o.box with
 | none=>rfl
 | some i=>exact List.map_set.symm
theorem b7D (u:a0n R call) {o:AOper} (i:o.shu=true) {σ σ':Sig} (l:R.G σ.st) (h:m2 call o σ=some σ'):m2 call o (σ.rn R)=some (σ'.rn R)∧R.G σ'.st:=by
 have j:∀ (d:Dst) (a:AV) (σ:Sig),(d.put a σ).st=σ.st:=fun d a σ=>by cases d<;>rfl
 unfold m2 at h ⊢;cases hg:o.guard with
 | none=>rw[hg]at h; exact b2T u i l h
 | some B =>
  obtain⟨x,w⟩:=B;rw[hg]at h;have z:x.shu=true:=by unfold AOper.shu at i;simp only[Bool.and_eq_true,hg]at i;exact i.2
  dsimp only at h ⊢;rw[a8h z];cases y:x.read σ<;>rw[y]at h<;>try cases h
  · dsimp only[AV.rn]at h ⊢;split at h
    · rename_i t; rw[if_pos t]; exact b2T u i l h
    · rename_i t; rw[if_neg t]; cases h; exact⟨congrArg some (a9Z (R:=R) o.dst (.tuple []) σ),by rw[j]; exact l⟩
  · rename_i vs;cases vs with
    | nil=>dsimp only at h; cases h; exact⟨congrArg some (a9Z (R:=R) o.dst (.tuple []) σ),by rw[j]; exact l⟩
    | cons v vs=>cases h
theorem a5E (i:a0n R call):∀ {os:List AOper},os.all AOper.shu=true→∀ {σ σ':Sig},R.G σ.st→l7 call os σ=some σ'→l7 call os (σ.rn R)=some (σ'.rn R)∧R.G σ'.st
 | [],_,σ,σ',hL,h=>by simp only[l7]at h ⊢; cases h; exact⟨rfl,hL⟩
 | o::os,ho,σ,σ',hL,h=>by
  simp only[List.all_cons,Bool.and_eq_true]at ho;simp only[l7]at h ⊢;cases hs:m2 call o σ with
  | none=>rw[hs]at h; cases h
  | some σ1 =>rw[hs]at h;obtain⟨j,l⟩:=b7D i ho.1 hL hs;rw[j];exact a5E i ho.2 l h
theorem a1G:∀ (is:List Nat) (fr:List AV),m0 is (fr.map (AV.rn R.ρ))=(m0 is fr).map (AV.rn R.ρ)
 | [],_=>rfl
 | i::is,fr=>by rw[m0,m0,← a1G is,List.map_set];rfl
def a2E (R:Rn) (o:Out):Out:=(o.1,o.2.1.map (AV.rn R.ρ),R.ms o.2.2)
theorem b3c {body:List AV→St→Option Out} (l:∀ fr st o,R.G st→body fr st=some o→body (fr.map (AV.rn R.ρ)) (R.ms st)=some (a2E R o)∧R.G o.2.2) :
 ∀ (n:Nat) {fr:List AV} {st:St} {o:Out},R.G st→J2 body n fr st=some o→J2 body n (fr.map (AV.rn R.ρ)) (R.ms st)=some (a2E R o)∧R.G o.2.2
 | 0,_,_,_,_,h=>by simp[J2]at h
 | n+1,fr,st,o,y,h=>by
  simp only[J2]at h ⊢;cases j:body fr st with
  | none=>rw[j]at h; cases h
  | some x =>
   obtain⟨e,t,z⟩:=x;rw[j]at h;obtain⟨u,i⟩:=l _ _ _ y j;rw[u];cases e with
   | normal=>exact b3c l n i h
   | exit id=>cases h; exact⟨rfl,i⟩
   | ret=>cases h; exact⟨rfl,i⟩
theorem a0g (t:a0n R call) (n:Nat):∀ {x:ACode},x.shu=true→∀ {fr:List AV} {st:St} {o:Out},R.G st→exec call n x fr st=some o→exec call n x (fr.map (AV.rn R.ρ)) (R.ms st)=some (a2E R o)∧R.G o.2.2
 | .skip,_,_,_,_,i,h=>by simp only[exec]at h ⊢; cases h; exact⟨rfl,i⟩
 | .exit _,_,_,_,_,i,h=>by simp only[exec]at h ⊢; cases h; exact⟨rfl,i⟩
 | .ret,_,_,_,_,i,h=>by simp only[exec]at h ⊢; cases h; exact⟨rfl,i⟩
 | .reg kill ops,hs,fr,st,o,i,h=>by
  simp only[exec,fL_eq]at h ⊢;cases j:l7 call ops ⟨m0 kill fr,fun _=>.undef,st⟩with
  | none=>simp[j]at h
  | some σ =>
   obtain⟨u,l⟩:=a5E t hs i j;simp only[j]at h;cases h;have e:(Sig.rn R ⟨m0 kill fr,fun _=>.undef,st⟩)=⟨m0 kill (fr.map (AV.rn R.ρ)),fun _=>.undef,R.ms st⟩:=by rw[a1G]; rfl
   rw[e]at u;rw[u];exact⟨rfl,l⟩
 | .test kill ops c a b,hs,fr,st,o,i,h=>by
  simp only[ACode.shu,Bool.and_eq_true]at hs;obtain⟨⟨⟨u,l⟩,I⟩,J⟩:=hs;rw[a5s]at h ⊢;rw[a07]at h ⊢;cases j:l7 call ops ⟨m0 kill fr,fun _=>.undef,st⟩with
  | none=>rw[j]at h; cases h
  | some σ =>
   obtain⟨k1,k2⟩:=a5E t u i j;have e:(Sig.rn R ⟨m0 kill fr,fun _=>.undef,st⟩)=⟨m0 kill (fr.map (AV.rn R.ρ)),fun _=>.undef,R.ms st⟩:=by rw[a1G]; rfl
   rw[e]at k1;rw[j,C0]at h;rw[k1,C0,a8h l];unfold br at h ⊢;cases L:c.read σ<;>rw[L]at h<;>try cases h
   rename_i bb;cases bb
   · exact a0g t n J k2 h
   · exact a0g t n I k2 h
 | .either kill a b,hs,fr,st,o,i,h=>by
  simp only[ACode.shu,Bool.and_eq_true]at hs;simp only[exec]at h ⊢;obtain⟨S,U,E,F,z,N⟩:=a1E h;obtain⟨a1,a2⟩:=a0g t n hs.1 i E;obtain⟨C,O⟩:=a0g t n hs.2 i F;have hk:∀ x:Out,G1 kill (a2E R x)=a2E R (G1 kill x):=fun x=>by unfold G1 a2E;rw[a1G]
  rw[a1,C,a3Y (by rw[hk,hk,z,N]),hk,z];refine⟨rfl,?_⟩;rw[← z];exact a2
 | .seq a b,hs,fr,st,o,i,h=>by
  simp only[ACode.shu,Bool.and_eq_true]at hs;rw[exec_seqK]at h ⊢;cases j:exec call n a fr st with
  | none=>rw[j]at h; cases h
  | some x =>
   obtain⟨e,y,B⟩:=x;obtain⟨u,l⟩:=a0g t n hs.1 i j;rw[j]at h;rw[u];cases e with
   | normal=>exact a0g t n hs.2 l h
   | exit id=>cases h; exact⟨rfl,l⟩
   | ret=>cases h; exact⟨rfl,l⟩
 | .blk id a,hs,fr,st,o,i,h=>by
  simp only[exec]at h ⊢;cases j:exec call n a fr st with
  | none=>rw[j]at h; cases h
  | some x =>
   obtain⟨e,y,B⟩:=x;obtain⟨u,l⟩:=a0g t n (x:=a) hs i j;rw[j]at h;rw[u];cases e with
   | normal=>cases h; exact⟨rfl,l⟩
   | exit M=>cases h; exact⟨rfl,l⟩
   | ret=>cases h; exact⟨rfl,l⟩
 | .loop a,hs,fr,st,o,i,h=>by simp only[exec]at h ⊢;exact b3c (fun fr st o i h=>a0g t n (x:=a) hs i h) n i h
def ExtRn (e:List AV→St→Option (AV×St)):Prop:=∀ (R:Rn) as st r st',R.G st→e as st=some (r,st')→e (as.map (AV.rn R.ρ)) (R.ms st)=some (r.rn R.ρ,R.ms st')∧R.G st'
def TblRn (tbl:Nat→Option AFn):Prop:=∀ f fn,tbl f=some fn→fn.code.shu=true∧∀ e,fn.ext=some e→ExtRn e
theorem b65 (r:ResK) (fr:List AV) {st:St} (j:R.G st):r.get (fr.map (AV.rn R.ρ)) (R.ms st)=(r.get fr st).map (AV.rn R.ρ):=by
 cases r with
 | po i ag n =>
  simp only[ResK.get];rw[Z8];cases fr.getD i AV.undef<;>try rfl
  rename_i o off;simp only[AV.rn];rw[R.get j];cases st[o]? with
  | none=>rfl
  | some l =>
   cases l with
   | cells cs=>simp only[Option.map_some,Obj.rn,a0I,M9]
   | map _=>rfl
   | dead=>rfl
 | v i=>show some _=some _; rw[Z8,← a0d]
 | vs i=>show some _=some _; rw[Z8]
 | bx i ag n =>
  simp only[ResK.get];rw[Z8];cases fr.getD i AV.undef<;>try rfl
  rename_i cs;simp only[AV.rn,x9,M9]
theorem a5x {st:St} (i:R.G st):∀ (rs:List ResK) (fr:List AV),H4 rs (fr.map (AV.rn R.ρ)) (R.ms st)=(H4 rs fr st).map (·.map (AV.rn R.ρ))
 | [],_=>rfl
 | r::rs,fr=>by rw[H4,H4,b65 r fr i,a5x i rs];cases r.get fr st<;>cases H4 rs fr st<;>rfl
theorem c9o (u:a0n R call) (n:Nat) {fn:AFn} (x:fn.code.shu=true) {as:List AV} {st st':St} {r:AV} (t:R.G st) (h:fn.run call n as st=some (r,st')):fn.run call n (as.map (AV.rn R.ρ)) (R.ms st)=some (r.rn R.ρ,R.ms st')∧R.G st':=by
 have hl:as.length=fn.np:=by
  unfold AFn.run at h;split at h
  · assumption
  · cases h
 rw[Z4 _ _ _ _ _ hl]at h;rw[Z4 _ _ _ _ _ (by rw[List.length_map]; exact hl)];cases l:exec call n fn.code (as++List.replicate (fn.nv - fn.np) .undef) st with
 | none=>rw[l]at h; cases h
 | some o =>
  obtain⟨e,fr,s⟩:=o;obtain⟨j,i⟩:=a0g u n x t l;rw[l]at h;rw[List.map_append,List.map_replicate]at j;rw[show AV.rn R.ρ .undef=.undef from rfl]at j;rw[j];cases e with
  | exit id=>cases h
  | normal =>
   simp only[finK,a2E,a5x (show R.G s from i)]at h ⊢;cases hg:H4 fn.results fr s with
   | none=>rw[hg]at h; cases h
   | some vs =>
    rw[hg]at h;match vs,h with
    | [],h=>cases h; exact⟨rfl,i⟩
    | [v],h=>cases h; exact⟨rfl,i⟩
    | v::w::vs,h=>cases h; exact⟨by simp only[Option.map_some,List.map_cons,AV.rn,x9,F8],i⟩
  | ret =>
   simp only[finK,a2E,a5x (show R.G s from i)]at h ⊢;cases hg:H4 fn.results fr s with
   | none=>rw[hg]at h; cases h
   | some vs =>
    rw[hg]at h;match vs,h with
    | [],h=>cases h; exact⟨rfl,i⟩
    | [v],h=>cases h; exact⟨rfl,i⟩
    | v::w::vs,h=>cases h; exact⟨by simp only[Option.map_some,List.map_cons,AV.rn,x9,F8],i⟩
theorem b1F {tbl:Nat→Option AFn} (t:TblRn tbl):∀ n,a0n R (m6 tbl n)
 | 0,_,_,_,_,_,_,h=>by simp[m6]at h
 | n+1,f,as,st,r,st',l,h=>by
  simp only[m6]at h ⊢;cases i:tbl f with
  | none=>simp[i]at h
  | some fn =>
   simp only[i]at h ⊢;obtain⟨u,x⟩:=t f fn i;cases j:fn.ext with
   | some e=>simp only[j]at h ⊢; exact x e j R _ _ _ _ l h
   | none =>simp only[j]at h ⊢;exact c9o (b1F t n) n u l h
theorem ev_rn {tbl:Nat→Option AFn} (t:TblRn tbl) {f:Nat} {as:List AV} {st:St} {r:AV} {st':St} (l:R.G st) (h:Ev tbl f as st r st'):Ev tbl f (as.map (AV.rn R.ρ)) (R.ms st) (r.rn R.ρ) (R.ms st')∧R.G st':=by obtain⟨n,hn⟩:=h;obtain⟨i,j⟩:=b1F t n _ _ _ _ _ l hn;exact⟨⟨n,i⟩,j⟩
end
end RN
end Go.Cb
namespace Go.Cb
namespace RN
section
variable (T:St) (n:Nat) (q:Nat→Nat)
def rho (a:Nat):Nat:=if a < n then q a else a - n+T.length
def low (st:St) (j:Nat):Obj:=match (List.range n).find? fun i=>Nat.beq (q i) j with
 | some i=>((st[i]?).getD .dead).rn (rho T n q)
 | none=>(T[j]?).getD .dead
def mst (st:St):St:=(List.range T.length).map (low T n q st)++(st.drop n).map (Obj.rn (rho T n q))
variable {T n q} (hi:∀ a b,a < n→b < n→q a=q b→a=b) (hl:∀ a,a < n→q a < T.length)
include hi in
theorem c4e {a:Nat} (j:a < n):(List.range n).find? (fun i=>Nat.beq (q i) (q a))=some a:=by
 cases h:(List.range n).find? (fun i=>Nat.beq (q i) (q a))with
 | none =>have:=List.find?_eq_none.1 h a (List.mem_range.2 j);simp at this
 | some b =>have l:=List.find?_some h;have t:=List.mem_range.1 (List.mem_of_find?_eq_some h);rw[hi b a t j (Nat.eq_of_beq_eq_true l)]
theorem d5Z {j:Nat} (t:∀ a,a < n→q a≠j):(List.range n).find? (fun i=>Nat.beq (q i) j)=none:=by rw[List.find?_eq_none];intro x u l;exact t x (List.mem_range.1 u) (Nat.eq_of_beq_eq_true l)
include hi hl in
theorem b2V {a b:Nat}:rho T n q a=rho T n q b↔a=b:=by
 refine⟨fun h=>?_,fun h=>h ▸ rfl⟩;unfold rho at h;split at h<;>split at h<;>rename_i i j
 · exact hi a b i j h
 · have:=hl a i; omega
 · have:=hl b j; omega
 · omega
theorem mst_len {st:St}:(mst T n q st).length=T.length+(st.length - n):=by simp[mst]
include hi hl in
theorem mst_get {st:St} (hs:n≤st.length) (o:Nat):(mst T n q st)[rho T n q o]?=(st[o]?).map (Obj.rn (rho T n q)):=by
 unfold mst;by_cases i:o < n
 · have e:rho T n q o=q o:=by unfold rho; rw[if_pos i]
   have j:=hl o i;rw[e,List.getElem?_append_left (by simpa using j),List.getElem?_map,List.getElem?_range j];have:(st[o]?)=some st[o]:=List.getElem?_eq_getElem (by omega);rw[this,Option.map_some,Option.map_some,low,c4e hi i];dsimp only;rw[this];rfl
 · have e:rho T n q o=o - n+T.length:=by unfold rho; rw[if_neg i]
   rw[e,List.getElem?_append_right (by simp),List.getElem?_map,List.getElem?_drop];congr 2;simp;omega
theorem mst_other {st:St} {j:Nat} (i:j < T.length) (hn:∀ a,a < n→q a≠j):(mst T n q st)[j]?=T[j]?:=by unfold mst;rw[List.getElem?_append_left (by simpa using i),List.getElem?_map,List.getElem?_range i,Option.map_some,low,d5Z hn,List.getElem?_eq_getElem i];rfl
include hi hl in
theorem c6S {st:St} (hs:n≤st.length) (o:Nat) (x:Obj):mst T n q (st.set o x)=(mst T n q st).set (rho T n q o) (x.rn (rho T n q)):=by
 apply List.ext_getElem?;intro j;by_cases t:∃ i,j=rho T n q i
 · obtain⟨i,rfl⟩:=t;rw[mst_get hi hl (by simpa using hs),List.getElem?_set,List.getElem?_set];by_cases e:o=i
   · subst e;rw[if_pos rfl,if_pos rfl,mst_len];by_cases h:o < st.length
     · have:rho T n q o < T.length+(st.length - n):=by
        unfold rho;split
        · rename_i y; have:=hl o y; omega
        · omega
       rw[if_pos h,if_pos this]; rfl
     · have:¬ rho T n q o < T.length+(st.length - n):=by unfold rho;rw[if_neg (by omega)];omega
       rw[if_neg h,if_neg this]; rfl
   · rw[if_neg e,if_neg (fun h=>e ((b2V hi hl).1 h)),mst_get hi hl hs]
 · have u:rho T n q o≠j:=fun e=>t ⟨o,e.symm⟩
   rw[List.getElem?_set,if_neg u];by_cases l:j < T.length
   · have hn:∀ a,a < n→q a≠j:=fun a z e=>t ⟨a,by unfold rho; rw[if_pos z,e]⟩
     rw[mst_other l hn,mst_other l hn]
   · exfalso;exact t ⟨j - T.length+n,by unfold rho; rw[if_neg (by omega)]; omega⟩
def frame:Rn where
 ρ:=rho T n q
 ms:=mst T n q
 G:=fun st=>n≤st.length
 inj:=b2V hi hl
 len:=fun {st} hs=>by rw[mst_len]; unfold rho; rw[if_neg (by omega)]; omega
 get:=fun hs o=>mst_get hi hl hs o
 app:=fun {st x} hs=>by simp; omega
 apps:=fun {st} hs x=>by
  unfold mst;rw[List.drop_append_of_le_length hs,List.map_append,← List.append_assoc];congr 2;refine List.map_congr_left fun j _=>?_
  unfold low;cases h:(List.range n).find? (fun i=>Nat.beq (q i) j)with
  | none=>rfl
  | some i =>have:=List.mem_range.1 (List.mem_of_find?_eq_some h);dsimp only;rw[List.getElem?_append_left (by omega)]
 set:=fun {st o x} hs=>by simpa using hs
 sets:=fun hs o x=>c6S hi hl hs o x
include hi hl in
theorem Ev.framed {tbl:Nat→Option AFn} (C:TblRn tbl) {f:Nat} {as:List AV} {st:St} {r:AV} {st':St} (hn:n=st.length) (B:∀ a,a < n→T[q a]?=(st[a]?).map (Obj.rn (rho T n q))) (h:Ev tbl f as st r st') :
 ∃ l,Ev tbl f (as.map (AV.rn (rho T n q))) T (r.rn (rho T n q)) l∧T.length≤l.length∧(∀ j,j < T.length→(∀ a,a < n→q a≠j)→l[j]?=T[j]?)∧∀ o,l[rho T n q o]?=(st'[o]?).map (Obj.rn (rho T n q)):=by
 obtain⟨t,z⟩:=ev_rn (R:=frame hi hl) C (show n≤st.length by omega) h;have e:mst T n q st=T:=by
  apply List.ext_getElem?;intro j;by_cases x:∃ a,a < n∧q a=j
  · obtain⟨a,u,rfl⟩:=x;have:=mst_get (T:=T) hi hl (st:=st) (by omega) a;rw[show rho T n q a=q a by unfold rho; rw[if_pos u]]at this;rw[this,B a u]
  · have i:∀ a,a < n→q a≠j:=fun a u e=>x ⟨a,u,e⟩
    by_cases y:j < T.length
    · exact mst_other y i
    · rw[List.getElem?_eq_none (by rw[mst_len]; omega),List.getElem?_eq_none (by omega)]
 have t:Ev tbl f (as.map (AV.rn (rho T n q))) (mst T n q st) (r.rn (rho T n q)) (mst T n q st'):=t;rw[e]at t;exact⟨_,t,by rw[mst_len]; omega,fun j x i=>mst_other x i,fun o=>mst_get hi hl z o⟩
end
end RN
end Go.Cb
