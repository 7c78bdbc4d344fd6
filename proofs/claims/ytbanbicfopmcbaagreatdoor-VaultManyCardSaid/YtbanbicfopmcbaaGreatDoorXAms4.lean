import Derived.Test.YtbanbicfopmcbaaGreatDoorXAms3
import Derived.Laws.CopyRow
import Derived.Laws.Externs
import Derived.Test.YtbanbicfopmcbaaGreatDoorXAms1
import Derived.Test.YtbanbicfopmcbaaGreatDoorXAms2
/-
 THE ABSTRACT MACHINE, part 50: a copy of rows of several cells; two slices that lie apart; what a new object in the store comes to.
-/
set_option maxRecDepth 4000
set_option linter.unusedVariables false
set_option linter.unusedSimpArgs false
namespace Go.Cb
open Classical

theorem O1 {P:Program} (w:World) (dT sT ty elem:TypeId) (sz g o dLen dCap:Nat) (a:Addr) (sLen sCap:Nat) (cur:Array Value) (t:TypeId) (cs:List Value)
 (hu:P.underlying dT=some (.slice elem)) (hs:(P.info? elem).map (·.size)=some sz)
 (hg:w.heap[g]?=some (.cells cur t (0,0))) (hn:cs.length=Nat.min sLen dLen*sz)
 (hsrc:∀ j v,cs[j]?=some v→w.cell? (a.add j)=some v) (hfit:o+cs.length≤cur.size) (h1:∀ v∈cs,v.oneCell'=true) :
 (Builtin.copy_ #[dT,sT] ty #[.slice (some ⟨g,o,none⟩) dLen dCap,.slice (some a) sLen sCap]).run P w =
  .ok (goInt (Nat.min sLen dLen)) (w.setRow g (cur.toList.take o++cs++cur.toList.drop (o+cs.length)).toArray):=by
 have hl:=run_loadCells_list (P:=P) w a cs hsrc
 have hst:=run_storeCells_at P g o t cs 0 cur w hg (by simpa using hfit) h1
 cases hq:P.info? elem with
 | none=>simp [hq] at hs
 | some i =>
  have hi:i.size=sz:=by simpa [hq] using hs
  simp [Builtin.copy_,run_underlying hu,Builtin.lenOf,Builtin.firstCells,sizeOf,typeInfo,hq,hi,← hn,hl,hst]

theorem a1w {P:Program} (w:World) (tS tR e:TypeId) (ht:P.underlying tS=some (.slice e)) (size:Nat) (hz:∀ w,(Go.sizeOf e).run P w=.ok size w)
 (a b:Addr) (la ca lb cb:Nat) (hne:a.block≠b.block) {arrA arrB:Array Value} {TA TB:TypeId} {zA:Nat×Nat}
 (hA:w.heap[a.block]?=some (.cells arrA TA zA)) (hB:w.heap[b.block]?=some (.cells arrB TB (0,0))) (hkA:arrA.size≠0) (hkB:arrB.size≠0) :
 (Extern.SlicesOverlaps.overlaps #[tS,tS] #[tR] #[.slice (some a) la ca,.slice (some b) lb cb]).run P w=.ok (.bool false) w:=by
 have hnb:(a.block != b.block)=true:=by simpa using hne
 have hnb':(a.block == b.block)=false:=by simpa using hne
 have hsa:w.shape? a.block=some (TA,arrA.size):=by simp [World.shape?,hA]
 have hsb:w.shape? b.block=some (TB,arrB.size):=by simp [World.shape?,hB]
 have hfb:∀ x:Addr,x.block=b.block→w.frozen? x=false:=fun x hx=>by simp [World.frozen?,hx,hB]
 have hf1:=hfb b rfl
 have hf2:=hfb { block:=b.block,off:=arrB.size } rfl
 delta Extern.SlicesOverlaps.overlaps
 dsimp only
 delta Extern.SlicesOverlaps.overlaps.match_4
 dsimp only [Array.size,List.length]
 simp only [dif_pos,Nat.reduceAdd,Nat.zero_add]
 dsimp only [Array.getLit,getElem,Array.getInternal,List.get]
 by_cases h0:la=0∨lb=0∨size=0
 · simp [run_underlying ht,hz,h0]
 · cases hn:arrB.size with
   | zero=>exact absurd hn hkB
   | succ kB =>
    rw [hn] at hsb hf2
    cases hm:arrA.size with
    | zero=>exact absurd hm hkA
    | succ kA =>
    rw [hm] at hsa
    cases hfa:w.frozen? a with
    | true=>simp [run_underlying ht,hz,h0,hnb,hnb',frozen,noView,viewAt,mayBeOne,stringish,shape,Sem.run,hsa,hsb,hfa,hf1,hf2]
    | false =>
     cases hfe:w.frozen? { block:=a.block,off:=kA+1 } <;>
     simp [run_underlying ht,hz,h0,hnb,hnb',frozen,noView,viewAt,mayBeOne,stringish,shape,Sem.run,hsa,hsb,hfa,hf1,hf2,hfe]
end Go.Cb
/-
 THE ABSTRACT MACHINE, part 33: with enough fuel it comes to something of that sort.
-/
set_option maxRecDepth 4000
set_option linter.unusedVariables false
namespace Go.Cb
open Classical

def WC {α:Type} (c:Nat→Option α) (Q:α→Prop):Prop:=∃ n0 a,(∀ n,n0≤n→c n=some a)∧Q a
def EvQ (tbl:Nat→Option AFn) (f:Nat) (as:List AV) (st:St) (Q:AV→St→Prop):Prop:=∃ r st',Ev tbl f as st r st'∧Q r st'

theorem WC.ret {α:Type} {a:α} {Q:α→Prop} (h:Q a):WC (fun _=>some a) Q:=⟨0,a,fun _ _=>rfl,h⟩
theorem WC.mono {α:Type} {c:Nat→Option α} {P Q:α→Prop} (h:WC c P) (hq:∀ a,P a→Q a):WC c Q :=
 let ⟨n,a,ha,hp⟩:=h; ⟨n,a,ha,hq a hp⟩
theorem WC.obind {α β:Type} {c:Nat→Option α} {k:Nat→α→Option β} {P:α→Prop} {Q:β→Prop} (h:WC c P) (hk:∀ a,P a→WC (fun n=>k n a) Q):WC (fun n=>Go.Cb.obind (c n) (k n)) Q:=by
 obtain ⟨n,a,ha,hp⟩:=h
 obtain ⟨m,b,hb,hq⟩:=hk a hp
 refine ⟨max n m,b,fun j hj=>?_,hq⟩
 show Go.Cb.obind (c j) (k j)=some b
 rw [ha j (by omega),l9]
 exact hb j (Nat.le_trans (Nat.le_max_right n m) hj)
theorem EvQ.mono {tbl:Nat→Option AFn} {f:Nat} {as:List AV} {st:St} {P Q:AV→St→Prop} (h:EvQ tbl f as st P) (hq:∀ r st',P r st'→Q r st'):EvQ tbl f as st Q :=
 let ⟨r,st',he,hp⟩:=h; ⟨r,st',he,hq r st' hp⟩

section
variable {tbl:Nat→Option AFn}
theorem WC.call {β:Type} {f:Nat} {as as':List AV} {bx:AV} {st:St} {k:Nat→AV×St→Option β} {P:AV→St→Prop} {Q:β→Prop}
 (h:EvQ tbl f as' st P) (hp:m7 as=true) (hw:as.map AV.weak=as') (hk:∀ r st',P r st'→WC (fun n=>k n (r,st')) Q):WC (fun n=>Go.Cb.obind (p2 (n6 f (k5 tbl n) as bx st)) (k n)) Q:=by
 obtain ⟨r,st',he,hq⟩:=h
 obtain ⟨n0,h0⟩:=he.ge
 refine WC.obind (P:=fun x=>x=(r,st')) ⟨n0,(r,st'),fun n hn=>?_,rfl⟩ (fun a ha=>ha ▸ hk r st' hq)
 simp only [n6,hp,if_true,hw,h0 n hn,Option.map_some,a2t]
theorem WC.callV {β:Type} {f:Nat} {first caps as as':List AV} {bx:AV} {st:St} {k:Nat→AV×St→Option β} {P:AV→St→Prop} {Q:β→Prop}
 (h:EvQ tbl f as' st P) (hp:m7 as=true) (hw:(first++as++caps).map AV.weak=as') (hk:∀ r st',P r st'→WC (fun n=>k n (r,st')) Q):WC (fun n=>Go.Cb.obind (p2 (v7 (k5 tbl n) (.func f first caps::as) bx st)) (k n)) Q:=by
 obtain ⟨r,st',he,hq⟩:=h
 obtain ⟨n0,h0⟩:=he.ge
 refine WC.obind (P:=fun x=>x=(r,st')) ⟨n0,(r,st'),fun n hn=>?_,rfl⟩ (fun a ha=>ha ▸ hk r st' hq)
 simp only [v7,hp,if_true,hw,h0 n hn,Option.map_some,a2t]

def Y8 (id:Nat) (o:Out):Out:=match o with
 | (.exit id',fr,st)=>if id'=id then (.normal,fr,st) else (.exit id',fr,st)
 | o=>o
def blkK (id:Nat) (x:Option Out):Option Out:=match x with
 | some o=>some (Y8 id o)
 | none=>none
theorem a4n (id:Nat) (o:Out):blkK id (some o)=some (Y8 id o):=b8 rfl
theorem a4D (id:Nat) (fr:List AV) (st:St):Y8 id (.normal,fr,st)=(.normal,fr,st):=b8 rfl
theorem b0w (id:Nat) (fr:List AV) (st:St):Y8 id (.ret,fr,st)=(.ret,fr,st):=b8 rfl
theorem a7h (id id':Nat) (fr:List AV) (st:St):Y8 id (.exit id',fr,st)=if id'=id then (.normal,fr,st) else (.exit id',fr,st):=b8 rfl
theorem Q1 {id:Nat} {x x':Option Out} (h:x=x'):blkK id x=blkK id x':=by rw [h]
theorem b2k (call:b9) (n id:Nat) (a:ACode) (fr:List AV) (st:St):d9 call n (.blk id a) fr st=blkK id (d9 call n a fr st):=by
 simp only [d9,blkK]
 cases d9 call n a fr st with
 | none=>rfl
 | some o =>
  obtain ⟨e,fr',st'⟩:=o
  cases e with
  | normal=>rfl
  | ret=>rfl
  | exit id'=>by_cases h:id'=id <;> simp [Y8,h]
theorem WC.seqK {c:Nat→Option Out} {g:Nat→List AV→St→Option Out} {P Q:Out→Prop} (h:WC c P) (hk:∀ o,P o→WC (fun n=>Go.Cb.seqK (some o) (g n)) Q):WC (fun n=>Go.Cb.seqK (c n) (g n)) Q:=by
 obtain ⟨n,a,ha,hp⟩:=h
 obtain ⟨m,b,hb,hq⟩:=hk a hp
 exact ⟨max n m,b,fun j hj=>by dsimp only; rw [ha j (by omega)]; exact hb j (by omega),hq⟩
theorem WC.blkK {id:Nat} {c:Nat→Option Out} {Q:Out→Prop} (h:WC c (fun o=>Q (Y8 id o))):WC (fun n=>Go.Cb.blkK id (c n)) Q:=by
 obtain ⟨n,a,ha,hp⟩:=h
 exact ⟨n,_,fun j hj=>by dsimp only; rw [ha j hj,a4n],hp⟩
theorem WC.finK {rs:List ResK} {c:Nat→Option Out} {P:Out→Prop} {Q:AV×St→Prop} (h:WC c P) (hk:∀ o,P o→WC (fun n=>Go.Cb.finK rs (some o)) Q):WC (fun n=>Go.Cb.finK rs (c n)) Q:=by
 obtain ⟨n,a,ha,hp⟩:=h
 obtain ⟨m,b,hb,hq⟩:=hk a hp
 exact ⟨max n m,b,fun j hj=>by dsimp only; rw [ha j (by omega)]; exact hb j (by omega),hq⟩

theorem WC.of_xc {x:ACode} {fr:List AV} {st:St} {out:Out} {Q:Out→Prop} (h:XC tbl x fr st out) (hq:Q out):WC (fun n=>d9 (k5 tbl n) n x fr st) Q:=by
 obtain ⟨n,hn⟩:=h.ge
 exact ⟨n,out,hn,hq⟩
theorem WC.xc {x:ACode} {fr:List AV} {st:St} {Q:Out→Prop} (h:WC (fun n=>d9 (k5 tbl n) n x fr st) Q):∃ out,XC tbl x fr st out∧Q out:=by
 obtain ⟨n,a,ha,hq⟩:=h
 exact ⟨a,⟨n,ha n (Nat.le_refl n)⟩,hq⟩

theorem WC.loop {x:ACode} {Q:Out→Prop} (I:Nat→List AV→St→Prop) {m:Nat} {fr:List AV} {st:St} (h0:I m fr st)
 (hI:∀ m fr st,I m fr st→WC (fun n=>d9 (k5 tbl n) n x fr st) (fun o=>(∃ m' fr' st',o=(.normal,fr',st')∧m' < m∧I m' fr' st')∨(o.1≠.normal∧Q o))) :
 WC (fun n=>d9 (k5 tbl n) n (.loop x) fr st) Q:=by
 have key:∀ m fr st,I m fr st→∃ out,LX tbl x fr st out∧Q out:=by
  intro m
  induction m using Nat.strongRecOn with
  | ind m ih =>
   intro fr st h
   obtain ⟨out,hx,hc⟩:=(hI m fr st h).xc
   rcases hc with ⟨m',fr',st',rfl,hlt,hi⟩|⟨hne,hq⟩
   · obtain ⟨out,hl,hq⟩:=ih m' hlt fr' st' hi
     exact ⟨out,LX.step hx hl,hq⟩
   · obtain ⟨e,fr',st'⟩:=out
     exact ⟨_,LX.done hx hne,hq⟩
 obtain ⟨out,hl,hq⟩:=key m fr st h0
 exact WC.of_xc (XC.loop hl) hq

theorem EvQ.of_body {f:Nat} {fn:AFn} {as:List AV} {st:St} {Q:AV→St→Prop} (htb:tbl f=some fn) (he:fn.ext=none) (hl:as.length=fn.np)
 (h:WC (fun n=>Go.Cb.finK fn.results (d9 (k5 tbl n) n fn.code (as++List.replicate (fn.nv - fn.np) .undef) st)) (fun r=>Q r.1 r.2)):EvQ tbl f as st Q:=by
 obtain ⟨n,a,ha,hq⟩:=h
 refine ⟨a.1,a.2,⟨n+1,?_⟩,hq⟩
 simp only [k5,htb,he]
 rw [Z8 _ _ _ _ _ hl]
 exact ha n (Nat.le_refl n)
theorem EvQ.of_ext {f:Nat} {fn:AFn} {as:List AV} {st:St} {e:List AV→St→Option (AV×St)} {r:AV×St} {Q:AV→St→Prop} (htb:tbl f=some fn) (he:fn.ext=some e) (h:e as st=some r) (hq:Q r.1 r.2):EvQ tbl f as st Q :=
 ⟨_,_,Ev.of_ext htb he h,hq⟩
theorem EvQ.of_ev {f:Nat} {as:List AV} {st:St} {r:AV} {st':St} {Q:AV→St→Prop} (h:Ev tbl f as st r st') (hq:Q r st'):EvQ tbl f as st Q:=⟨r,st',h,hq⟩
end
end Go.Cb
/-
 THE ABSTRACT MACHINE, part 34: rules for loops within blocks, and for a body's end.
-/
set_option maxRecDepth 4000
set_option linter.unusedVariables false
namespace Go.Cb
open Classical
section
variable {tbl:Nat→Option AFn}

theorem WC.next {I:Nat→List AV→St→Prop} {m m':Nat} {fr':List AV} {st':St} {R:Out→Prop} (hm:m' < m) (hi:I m' fr' st') :
 WC (fun _=>some (Ex.normal,fr',st')) (fun o=>(∃ m' fr' st',o=(.normal,fr',st')∧m' < m∧I m' fr' st')∨(o.1≠.normal∧R o)):=WC.ret (Or.inl ⟨m',fr',st',rfl,hm,hi⟩)
theorem WC.leave {I:Nat→List AV→St→Prop} {m id:Nat} {fr':List AV} {st':St} {R:Out→Prop} (h:R (.exit id,fr',st')) :
 WC (fun _=>some (Ex.exit id,fr',st')) (fun o=>(∃ m' fr' st',o=(.normal,fr',st')∧m' < m∧I m' fr' st')∨(o.1≠.normal∧R o)):=WC.ret (Or.inr ⟨fun h=>by simp at h,h⟩)
theorem EvQ.body {f:Nat} {fn:AFn} {as:List AV} {st:St} {Q:AV→St→Prop} (htb:tbl f=some fn) (he:fn.ext=none) (hl:as.length=fn.np)
 (h:WC (fun n=>d9 (k5 tbl n) n fn.code (as++List.replicate (fn.nv - fn.np) .undef) st) (fun o=>∃ r st',Go.Cb.finK fn.results (some o)=some (r,st')∧Q r st')):EvQ tbl f as st Q :=
 EvQ.of_body htb he hl (WC.finK h fun o ⟨r,st',hr,hq⟩=>⟨0,(r,st'),fun _ _=>hr,hq⟩)
end
end Go.Cb
/-
 THE ABSTRACT MACHINE, part 35: small laws on numbers and rows, for walks with unknowns.
-/
set_option maxRecDepth 4000
set_option linter.unusedVariables false
namespace Go.Cb
open Classical

theorem a0V {n:Int} (h1:-9223372036854775808≤n) (h2:n < 9223372036854775808):k9 .i64 n=n:=by
 rw [L8]
 simp only [IntKind.wrap,IntKind.signed,IntKind.bits,Bool.true_and]
 split
 · rename_i h; have h:=of_decide_eq_true h; omega
 · rename_i h; have h:¬ (n % 2 ^ 64 ≥ 2 ^ (64 - 1)):=fun x=>h (decide_eq_true x); omega
theorem J0 {i:Nat} (h:i+1 < 2 ^ 63):k9 .i64 (O6 (i:Int) 1)=((i+1:Nat):Int):=by
 rw [addI_eq,a0V (by omega) (by omega)]
 omega
theorem ltN (i j:Nat):ltI (i:Int) (j:Int)=decide (i < j):=by
 rw [ltI_eq]
 by_cases h:i < j
 · simp [h]
 · simp [h]
theorem c6M (i j:Nat):eqI (i:Int) (j:Int)=decide (i=j):=by
 rw [eqI_eq]
 by_cases h:i=j
 · simp [h]
 · simp [h]; omega
theorem b0A {sz:Nat} {xs:List (List AV)} (h:∀ r∈xs,r.length=sz):i8 sz xs=true:=by
 cases xs with
 | nil=>rfl
 | cons r rs=>simp [i8,h r (by simp)]
end Go.Cb
/-
 THE ABSTRACT MACHINE, part 36: guarded values, reckoned without splitting; copies, form by form; tests as rules.
-/
set_option maxRecDepth 4000
set_option linter.unusedVariables false
namespace Go.Cb
open Classical

def gV (x:AV) (want:Bool) (v:AV):AV:=match x with
 | .bool b=>if b == want then v else .tuple []
 | _=>.tuple []
theorem c2y (v:AV):gV (.bool true) true v=v:=b8 rfl
theorem c2A (v:AV):gV (.bool false) false v=v:=b8 rfl
theorem c1t (v:AV):gV (.bool true) false v=.tuple []:=b8 rfl
theorem c1z (v:AV):gV (.bool false) true v=.tuple []:=b8 rfl
theorem b5G (want:Bool) (v:AV):gV (.tuple []) want v=.tuple []:=b8 rfl
theorem a8h (c want:Bool) (v:AV):gv (.bool c) want (some v)=some (gV (.bool c) want v):=by
 cases c <;> cases want <;> rfl
theorem a5x (x:AV) (w b want:Bool) (v:AV):gv (gV x w (.bool b)) want (some v)=some (gV (gV x w (.bool b)) want v):=by
 unfold gV
 cases x with
 | bool c=>cases c <;> cases w <;> cases b <;> cases want <;> rfl
 | _=>rfl
theorem P5 {x x':AV} {want:Bool} {e e':Option AV} (h1:x=x') (h2:x'=.bool want→e=e'):gv x want e=gv x' want e':=by
 subst h1
 unfold gv
 split
 · rename_i b
   by_cases hb:b=want
   · rw [h2 (by rw [hb])]
   · simp [hb]
 · rfl
 · rfl
theorem b7H (x:AV) (w:Bool) (v:AV):(gV x w v).weak=gV x w v.weak:=by
 unfold gV
 cases x with
 | bool c=>dsimp only; split <;> rfl
 | _=>rfl
theorem b3w (x:AV) (w:Bool) (v:AV):(gV x w v).strip=gV x w v.strip:=by
 unfold gV
 cases x with
 | bool c=>dsimp only; split <;> rfl
 | _=>rfl
theorem b1A (x:AV) (w:Bool) (v:AV):(gV x w v).stripB=gV x w v.stripB:=by
 unfold gV
 cases x with
 | bool c=>dsimp only; split <;> rfl
 | _=>rfl
theorem b9x (call:b9) (a b bx:AV) (st:St):p1 (q7 call [.bool true,a,b] bx st)=if a.plain then some a else none:=by
 unfold q7; dsimp only; by_cases h:a.plain=true <;> simp [h,p1]
theorem b71 (call:b9) (a b bx:AV) (st:St):p1 (q7 call [.bool false,a,b] bx st)=if b.plain then some b else none:=by
 unfold q7; dsimp only; by_cases h:b.plain=true <;> simp [h,p1]
theorem b6U (call:b9) (c d:Bool) (bx:AV) (st:St):p1 (q7 call [.bool c,.bool true,gV (.bool c) false (.bool d)] bx st)=some (.bool (c || d)):=by
 cases c <;> rfl
theorem b36 (call:b9) (c d:Bool) (bx:AV) (st:St):p1 (q7 call [.bool c,gV (.bool c) true (.bool d),.bool false] bx st)=some (.bool (c && d)):=by
 cases c <;> rfl

theorem b1e (b:Bool):(AV.bool b).weak=.bool b:=b8 rfl
theorem b3U (k:IntKind) (n:Int):(AV.int k n).weak=.int k n:=b8 rfl
theorem b4q (s:List Nat):(AV.str s).weak=.str s:=b8 rfl
theorem b2f (o:Bool) (xs:List (List AV)):(AV.list o xs).weak=.list false xs:=b8 rfl
theorem b27 (o f:Nat):(AV.ptr o f).weak=.ptr o f:=b8 rfl
theorem b1p:AV.nilp.weak=.nilp:=b8 rfl
theorem b1D:AV.nils.weak=.nils:=b8 rfl
theorem b6i (cs:List AV):(AV.ro cs).weak=.ro cs:=b8 rfl
theorem b3r (i f:Nat):(AV.loc i f).weak=.loc i f:=b8 rfl
theorem b38 (o:Nat):(AV.map o).weak=.map o:=b8 rfl
theorem b1i:AV.nilm.weak=.nilm:=b8 rfl
theorem b1t (f:Nat) (a b:List AV):(AV.func f a b).weak=.func f a b:=b8 rfl
theorem b1S:AV.nilf.weak=.nilf:=b8 rfl
theorem E3 (cs:List AV):(AV.agg cs).weak=.agg (cs.map AV.weak1):=b8 rfl
theorem b7v (o f n s:Nat):(AV.sl o f n s).weak=.sl o f n s:=b8 rfl
theorem a9A (t:Nat) (v:AV):(AV.iface t v).weak=.iface t v:=b8 rfl
theorem b2c:AV.nili.weak=.nili:=b8 rfl
theorem a9B (vs:List AV):(AV.tuple vs).weak=.tuple vs:=b8 rfl
theorem a8M:AV.undef.weak=.undef:=b8 rfl
theorem b47 (cs:List AV):(AV.box cs).weak=.box cs:=b8 rfl
theorem a9z (b:Bool):(AV.bool b).weak1=.bool b:=b8 rfl
theorem b2E (k:IntKind) (n:Int):(AV.int k n).weak1=.int k n:=b8 rfl
theorem b1U (s:List Nat):(AV.str s).weak1=.str s:=b8 rfl
theorem a9F (o:Bool) (xs:List (List AV)):(AV.list o xs).weak1=.list false xs:=b8 rfl
theorem b4w (o f n s:Nat):(AV.sl o f n s).weak1=.sl o f n s:=b8 rfl
theorem b0c (f:Nat) (a b:List AV):(AV.func f a b).weak1=.func f a b:=b8 rfl
theorem b2y (o f:Nat):(AV.ptr o f).weak1=.ptr o f:=b8 rfl
theorem a9l:AV.nilp.weak1=.nilp:=b8 rfl
theorem b0H:AV.nils.weak1=.nils:=b8 rfl
theorem P0 (o:Nat):(AV.map o).weak1=.map o:=b8 rfl
theorem b0l:AV.nilm.weak1=.nilm:=b8 rfl
theorem a9y (b:Bool):(AV.bool b).strip=.bool b:=b8 rfl
theorem b2t (k:IntKind) (n:Int):(AV.int k n).strip=.int k n:=b8 rfl
theorem b10 (s:List Nat):(AV.str s).strip=.str s:=b8 rfl
theorem a8u (o:Bool) (xs:List (List AV)):(AV.list o xs).strip=.list o xs:=b8 rfl
theorem b1n (o f:Nat):(AV.ptr o f).strip=.ptr o f:=b8 rfl
theorem a8S:AV.nilp.strip=.nilp:=b8 rfl
theorem a8W:AV.nils.strip=.nils:=b8 rfl
theorem b4s (cs:List AV):(AV.ro cs).strip=.ro cs:=b8 rfl
theorem b2x (i f:Nat):(AV.loc i f).strip=.undef:=b8 rfl
theorem b1z (o:Nat):(AV.map o).strip=.map o:=b8 rfl
theorem a9g:AV.nilm.strip=.nilm:=b8 rfl
theorem a8s (f:Nat) (a b:List AV):(AV.func f a b).strip=.func f a b:=b8 rfl
theorem a9m:AV.nilf.strip=.nilf:=b8 rfl
theorem b1W (cs:List AV):(AV.agg cs).strip=.agg cs:=b8 rfl
theorem b3n (o f n s:Nat):(AV.sl o f n s).strip=.sl o f n s:=b8 rfl
theorem a63 (vs:List AV):(AV.tuple vs).strip=.tuple vs:=b8 rfl
theorem a68:AV.undef.strip=.undef:=b8 rfl
theorem a7k (b:Bool):(AV.bool b).stripB=.bool b:=b8 rfl
theorem a8P (k:IntKind) (n:Int):(AV.int k n).stripB=.int k n:=b8 rfl
theorem b0q (s:List Nat):(AV.str s).stripB=.str s:=b8 rfl
theorem a7p (o:Bool) (xs:List (List AV)):(AV.list o xs).stripB=.list o xs:=b8 rfl
theorem a9e (o f:Nat):(AV.ptr o f).stripB=.ptr o f:=b8 rfl
theorem a7a:AV.nilp.stripB=.nilp:=b8 rfl
theorem a64:AV.nils.stripB=.nils:=b8 rfl
theorem b1C (cs:List AV):(AV.ro cs).stripB=.ro cs:=b8 rfl
theorem a9T (i f:Nat):(AV.loc i f).stripB=.loc i f:=b8 rfl
theorem b0E (o:Nat):(AV.map o).stripB=.map o:=b8 rfl
theorem a6J:AV.nilm.stripB=.nilm:=b8 rfl
theorem a6M (f:Nat) (a b:List AV):(AV.func f a b).stripB=.func f a b:=b8 rfl
theorem a7s:AV.nilf.stripB=.nilf:=b8 rfl
theorem a9E (cs:List AV):(AV.agg cs).stripB=.agg cs:=b8 rfl
theorem a9O (xs:List (List AV)):(AV.fresh xs).weak=.fresh xs:=b8 rfl
theorem a6H (xs:List (List AV)):(AV.fresh xs).strip=.fresh xs:=b8 rfl
theorem a6b (xs:List (List AV)):(AV.fresh xs).stripB=.fresh xs:=b8 rfl
theorem b08 (o f n s:Nat):(AV.sl o f n s).stripB=.sl o f n s:=b8 rfl
theorem a6s (vs:List AV):(AV.tuple vs).stripB=.tuple vs:=b8 rfl
theorem a6j:AV.undef.stripB=.undef:=b8 rfl

/-! what comes behind, as constants that wait: nothing of it is reckoned ahead of its time -/
def c0q {α:Type} (K:α→Option Out) (g:List AV→St→Option Out) (a:α):Option Out:=Go.Cb.seqK (K a) g
def c0z {α:Type} (id:Nat) (K:α→Option Out) (a:α):Option Out:=Go.Cb.blkK id (K a)
theorem b7X {α:Type} (K:α→Option Out) (g:List AV→St→Option Out) (a:α):c0q K g a=Go.Cb.seqK (K a) g:=b8 rfl
theorem c0u {α:Type} (id:Nat) (K:α→Option Out) (a:α):c0z id K a=Go.Cb.blkK id (K a):=b8 rfl
theorem a7l {α:Type} (x:Option α) (f:α→Option Out) (g:List AV→St→Option Out):Go.Cb.seqK (Go.Cb.obind x f) g=Go.Cb.obind x (c0q f g):=by cases x <;> rfl
theorem a62 {α:Type} (id:Nat) (x:Option α) (f:α→Option Out):Go.Cb.blkK id (Go.Cb.obind x f)=Go.Cb.obind x (c0z id f):=by cases x <;> rfl

def a04 (call:b9) (n:Nat) (a:ACode) (fr:List AV) (st:St) (_:Unit):Option Out:=d9 call n a fr st
def b3E (A:Unit→Option Out) (g:List AV→St→Option Out) (u:Unit):Option Out:=Go.Cb.seqK (A u) g
def b4V (id:Nat) (A:Unit→Option Out) (u:Unit):Option Out:=Go.Cb.blkK id (A u)
theorem b8S (call:b9) (n:Nat) (a:ACode) (fr:List AV) (st:St) (u:Unit):a04 call n a fr st u=d9 call n a fr st:=b8 rfl
theorem b8O (A:Unit→Option Out) (g:List AV→St→Option Out) (u:Unit):b3E A g u=Go.Cb.seqK (A u) g:=b8 rfl
theorem c0K (id:Nat) (A:Unit→Option Out) (u:Unit):b4V id A u=Go.Cb.blkK id (A u):=b8 rfl
def brT (c:AV) (A B:Unit→Option Out):Option Out:=match c with
 | .bool true=>A ()
 | .bool false=>B ()
 | _=>none
theorem b4G (A B:Unit→Option Out):brT (.bool true) A B=A ():=b8 rfl
theorem b2C (A B:Unit→Option Out):brT (.bool false) A B=B ():=b8 rfl
theorem U5 {c c':AV} {A B:Unit→Option Out} (h:c=c'):brT c A B=brT c' A B:=by rw [h]
theorem b2W (c:AV) (A B:Unit→Option Out) (g:List AV→St→Option Out):Go.Cb.seqK (brT c A B) g=brT c (b3E A g) (b3E B g):=by
 cases c <;> try rfl
 rename_i b; cases b <;> rfl
theorem b4u (id:Nat) (c:AV) (A B:Unit→Option Out):Go.Cb.blkK id (brT c A B)=brT c (b4V id A) (b4V id B):=by
 cases c <;> try rfl
 rename_i b; cases b <;> rfl
theorem b8C (call:b9) (n:Nat) (c:AV) (a b:ACode) (fr:List AV) (st:St):Go.Cb.br c (d9 call n a fr st) (d9 call n b fr st)=brT c (a04 call n a fr st) (a04 call n b fr st):=by
 cases c <;> try rfl
theorem a9I (call:b9) (n:Nat) (kill:List Nat) (ps:List AOper) (c:Opd) (a b:ACode) (fr:List AV) (st:St) :
 d9 call n (.test kill ps c a b) fr st=a3U call ps ⟨e8 kill fr,fun _=>.undef,st⟩ fun σ=>brT (c.read σ) (a04 call n a σ.fr σ.st) (a04 call n b σ.fr σ.st):=by
 rw [a1P]
 simp only [b8C]
def a9K (call:b9) (n:Nat) (x:ACode) (fr:List AV) (st:St):Option Out:=d9 call n (.loop x) fr st
theorem b0a (call:b9) (n:Nat) (x:ACode) (fr:List AV) (st:St):d9 call n (.loop x) fr st=Go.Cb.obind (a9K call n x fr st) some:=by
 unfold a9K; cases d9 call n (.loop x) fr st <;> rfl

theorem WC.br {c:Bool} {A B:Nat→Unit→Option Out} {Q:Out→Prop} (ht:c=true→WC (fun n=>A n ()) Q) (hf:c=false→WC (fun n=>B n ()) Q):WC (fun n=>brT (.bool c) (A n) (B n)) Q:=by
 cases c with
 | true=>exact ht rfl
 | false=>exact hf rfl
theorem WC.loopR {tbl:Nat→Option AFn} {β:Type} {x:ACode} {K:Nat→Out→Option β} {Q:β→Prop} (I:Nat→List AV→St→Prop) {m:Nat} {fr:List AV} {st:St} (h0:I m fr st)
 (hI:∀ m fr st,I m fr st→WC (fun n=>d9 (k5 tbl n) n x fr st) (fun o=>(∃ m' fr' st',o=(.normal,fr',st')∧m' < m∧I m' fr' st')∨(o.1≠.normal∧WC (fun n=>K n o) Q))) :
 WC (fun n=>Go.Cb.obind (a9K (k5 tbl n) n x fr st) (K n)) Q:=WC.obind (WC.loop I h0 hI) fun _ ho=>ho
theorem WC.g2 {β:Type} {c want:Bool} {st:St} {E:Nat→Option (AV×St)} {k:Nat→AV×St→Option β} {Q:β→Prop} (ht:c=want→WC (fun n=>Go.Cb.obind (E n) (k n)) Q) (hf:c=!want→WC (fun n=>k n (.tuple [],st)) Q) :
 WC (fun n=>Go.Cb.obind (gv2 (.bool c) want st (E n)) (k n)) Q:=by
 by_cases h:c=want
 · subst h
   have e:∀ n,gv2 (.bool c) c st (E n)=E n:=fun n=>by cases c <;> rfl
   simp only [e]
   exact ht rfl
 · have h':c=!want:=by cases c <;> cases want <;> simp_all
   have e:∀ n,gv2 (.bool c) want st (E n)=some (.tuple [],st):=fun n=>by subst h'; cases want <;> rfl
   simp only [e,l9]
   exact hf h'
end Go.Cb
/-
 THE ABSTRACT MACHINE, part 37: what operations come to, form by form; all of it under one name.
-/
set_option maxRecDepth 4000
set_option linter.unusedVariables false
set_option linter.unusedSimpArgs false
namespace Go.Cb
def W (a:AV):AV:=AV.weak (AV.stripB a)
def brE (c:AV) (call:b9) (n:Nat) (a b:ACode) (fr:List AV) (st:St):Option Out:=brT c (a04 call n a fr st) (a04 call n b fr st)
def m1 {β:Type} (a:AV) (f:AV→Option β):Option β:=obind (p1 (some (a,AV.undef,([]:St)))) f
def gm {β:Type} (x:AV) (w:Bool) (a:AV) (f:AV→Option β):Option β:=obind (gv x w (some a)) f
theorem Z1 {β:Type} {a a':AV} {f:AV→Option β} (h:a=a'):m1 a f=m1 a' f:=by rw [h]
theorem a0e {β:Type} {x x' a a':AV} {w:Bool} {f:AV→Option β} (h1:x=x') (h2:x'=.bool w→a=a'):gm x w a f=gm x' w a' f:=by
 unfold gm
 rw [P5 (e:=some a) (e':=some a') h1 (fun h=>by rw [h2 h])]
end Go.Cb
namespace Go.Cb.R
open Go.Cb
theorem c7a (call:b9) (bx:AV) (st:St) (a:AV):S5 call [a] bx st=some (a,bx,st):=b8 rfl
theorem a8D (call:b9) (bx:AV) (st:St) (o f:Nat):r6 call [.ptr o f] bx st=some (.ptr o f,bx,st):=b8 rfl
theorem a9M (call:b9) (bx:AV) (st:St) (o f:Nat):r6 call [.loc o f] bx st=some (.loc o f,bx,st):=b8 rfl
theorem b1x (call:b9) (bx:AV) (st:St) (cs:List AV):r6 call [.ro cs] bx st=some (.ro cs,bx,st):=b8 rfl
theorem a7d (call:b9) (bx:AV) (st:St) (f:Nat) (a b:List AV):r6 call [.func f a b] bx st=some (.func f a b,bx,st):=b8 rfl
theorem b6D (call:b9) (st:St) (zero:List AV):J3 zero call [] .undef st=some (.undef,.box zero,st):=b8 rfl
theorem b8s (call:b9) (st:St) (a:AV):K4 call [a] .undef st=if a.plain then some (.undef,.box a.cellsW,st) else none:=b8 rfl
theorem b23 (call:b9) (bx:AV) (st:St) (zero:List AV):z7 zero call [] bx st=some (.ptr st.length 0,bx,st++[.cells zero]):=b8 rfl
theorem b8T (call:b9) (bx:AV) (st:St) (a:AV):F3 call [a] bx st=if a.plain then some (.ptr st.length 0,bx,st++[.cells a.cellsW]) else none:=b8 rfl
theorem b5v (call:b9) (bx:AV) (st:St) (zero:List AV) (offs:List (Nat×Nat)) (as:List AV):E4 zero offs call as bx st=(o9 offs as zero).map fun cs=>(.agg cs,bx,st):=b8 rfl
theorem b3G (call:b9) (bx:AV) (st:St) (sz:Nat) (zero:List (List AV)) (at_:List Nat) (as:List AV):D2 sz zero at_ call as bx st=(n8 sz at_ as zero).map fun rs=>(.list true rs,bx,st):=b8 rfl
theorem c0d (call:b9) (st:St) (i off n:Nat) (agg:Bool) (cs:List AV):C2 i agg n call [.loc i off] (.box cs) st=(g8 agg n (cs.drop off)).map (fun v=>(v,.box cs,st)):=by unfold C2; simp only [if_true]
theorem b85 (call:b9) (bx:AV) (st:St) (o off n:Nat) (agg:Bool):q8 agg n call [.ptr o off] bx st=match st[o]? with|some (.cells cs)=>(g8 agg n (cs.drop off)).map (fun v=>(v,bx,st))|_=>none:=b8 rfl
theorem b98 (call:b9) (bx:AV) (st:St) (n:Nat) (agg:Bool) (cs:List AV):F1 agg n call [.ro cs] bx st=(g8 agg n cs).map (fun v=>(v,bx,st)):=b8 rfl
theorem b52 (call:b9) (bx:AV) (st:St) (n:Nat) (agg:Bool) (cs:List AV):r7 agg n call [.ro cs] bx st=(g8 agg n cs).map (fun v=>(v,bx,st)):=b8 rfl
theorem b42 (call:b9) (bx:AV) (st:St) (o off n:Nat) (agg:Bool):r7 agg n call [.ptr o off] bx st=match st[o]? with|some (.cells cs)=>(g8 agg n (cs.drop off)).map (fun v=>(v,bx,st))|_=>none:=b8 rfl
theorem b6k (call:b9) (st:St) (i off:Nat) (cs:List AV):E5 i call [.loc i off] (.box cs) st=match cs[off]? with|some c=>some (c,.box (cs.set off c.weak1),st)|none=>none:=by unfold E5; simp only [if_true]; rfl
theorem b6B (call:b9) (bx:AV) (st:St) (o off:Nat):r5 call [.ptr o off] bx st=match st[o]? with|some (.cells cs)=>(match cs[off]? with|some c=>some (c,bx,st.set o (.cells (cs.set off c.weak1)))|none=>none)|_=>none:=b8 rfl
theorem c0T (call:b9) (st:St) (i n off:Nat) (x:AV) (cs:List AV):F0 i n call [.loc i off,x] (.box cs) st=if x.plain=true∧x.cells.length=n∧off+n≤cs.length then some (.tuple [],.box (m3 cs off x.cells),st) else none:=by unfold F0; simp only [true_and]
theorem b8Q (call:b9) (bx:AV) (st:St) (o off n:Nat) (x:AV):s8 n call [.ptr o off,x] bx st=match st[o]? with|some (.cells cs)=>(if x.plain=true∧x.cells.length=n∧off+n≤cs.length then some (.tuple [],bx,st.set o (.cells (m3 cs off x.cells))) else none)|_=>none:=by unfold s8; simp only [fL_eq]; rfl
theorem b7A (call:b9) (bx:AV) (st:St) (off o f:Nat):G4 off call [.ptr o f] bx st=some (.ptr o (f+off),bx,st):=b8 rfl
theorem b5L (call:b9) (bx:AV) (st:St) (off o f:Nat):G4 off call [.loc o f] bx st=some (.loc o (f+off),bx,st):=b8 rfl
theorem b8w (call:b9) (bx:AV) (st:St) (off:Nat) (cs:List AV):G4 off call [.ro cs] bx st=some (.ro (cs.drop off),bx,st):=b8 rfl
theorem c2R (call:b9) (bx:AV) (st:St) (off n:Nat) (agg:Bool) (cs:List AV):J5 off n agg call [.agg cs] bx st=if off+n≤cs.length then (g8 agg n (cs.drop off)).map (fun v=>(v,bx,st)) else none:=b8 rfl
theorem c1b (call:b9) (bx:AV) (st:St) (sz:Nat) (w:Bool) (xs:List (List AV)) (k:IntKind) (i:Int):E1 sz call [.list w xs,.int k i] bx st=if 0≤i then (match xs[i.toNat]? with|some r=>if r.length=sz then some (.ro r,bx,st) else none|none=>none) else none:=b8 rfl
theorem b99 (call:b9) (bx:AV) (st:St) (sz o f n s:Nat) (k:IntKind) (i:Int):E1 sz call [.sl o f n s,.int k i] bx st=if 0≤i∧i < (n:Int)∧s=sz then some (.ptr o (f+i.toNat*sz),bx,st) else none:=b8 rfl
theorem b1J (call:b9) (bx:AV) (st:St):r8 call [.nils] bx st=some (.int .i64 0,bx,st):=b8 rfl
theorem b5J (call:b9) (bx:AV) (st:St) (o f n s:Nat):r8 call [.sl o f n s] bx st=some (.int .i64 n,bx,st):=b8 rfl
theorem b2A (call:b9) (bx:AV) (st:St) (sz:Nat) (zero:List (List AV)) (at_:List Nat) (as:List AV):B1 sz zero at_ call as bx st=(l3 sz at_ as zero).map fun rs=>(.fresh rs,bx,st):=b8 rfl
theorem b2b (call:b9) (bx:AV) (st:St) (sz:Nat) (zero:List (List AV)) (at_:List Nat) (as:List AV):z8 sz zero at_ call as bx st=(l3 sz at_ as zero).map fun rs=>(.sl st.length 0 zero.length sz,bx,st++[.cells rs.flatten]):=b8 rfl
theorem b8m (call:b9) (bx:AV) (st:St) (k k':IntKind) (a b:Int):K1 call [.int k a,.int k' b] bx st=if k=k' then some (.int k (a9b a b),bx,st) else none:=b8 rfl
theorem b78 (call:b9) (bx:AV) (st:St) (neg:Bool) (k k':IntKind) (a b:Int) (s t:List Nat):K2 neg call [.agg [.int k a,.str s],.agg [.int k' b,.str t]] bx st=if k=k' then some (.bool (a3D neg a b s t),bx,st) else none:=b8 rfl
theorem a7i (sz:Nat) (rs:List (List AV)):l3 sz [] [] rs=some rs:=b8 rfl
theorem a7g (sz i:Nat) (is:List Nat) (p:AV) (ps:List AV) (rs:List (List AV)):l3 sz (i::is) (p::ps) rs=if p.plain=true∧p.cells.length=sz∧i < rs.length then l3 sz is ps (rs.set i (p.cells.map AV.cellW1)) else none:=b8 rfl
theorem b22 (call:b9) (bx:AV) (st:St) (sz bytes:Nat) (ys:List (List AV)) (gs:List AV):q6 sz bytes call (.list true []::.fresh ys::gs) bx st=if ys.isEmpty=false∧i8 sz ys=true∧ys.length*bytes≤2 ^ 47∧C6 none st.length gs=true then some (.sl st.length 0 ys.length sz,bx,st++[.cells ys.flatten]) else none:=b8 rfl
theorem b2L (call:b9) (bx:AV) (st:St) (sz bytes:Nat) (ys:List (List AV)) (gs:List AV):q6 sz bytes call (.nils::.fresh ys::gs) bx st=if ys.isEmpty=false∧i8 sz ys=true∧ys.length*bytes≤2 ^ 47∧C6 none st.length gs=true then some (.sl st.length 0 ys.length sz,bx,st++[.cells ys.flatten]) else none:=b8 rfl
theorem b7M (call:b9) (bx:AV) (st:St) (sz bytes o n s:Nat) (ys:List (List AV)) (gs:List AV):q6 sz bytes call (.sl o 0 n s::.fresh ys::gs) bx st=match st[o]? with|some (.cells xs)=>(if s=sz∧ys.isEmpty=false∧i8 sz ys=true∧xs.length=n*sz∧(n+ys.length)*bytes≤2 ^ 47∧C6 (some o) st.length gs=true then some (.sl st.length 0 (n+ys.length) sz,bx,st.set o .dead++[.cells (xs++ys.flatten)]) else none)|_=>none:=b8 rfl
theorem b7i (o:Option Nat) (n:Nat):C6 o n []=true:=b8 rfl
theorem b6v (o:Option Nat) (n p f:Nat) (gs:List AV):C6 o n (.ptr p f::gs)=(Nat.blt p n && (match o with|some o=>!Nat.beq p o|none=>true) && C6 o n gs):=b8 rfl
theorem b90 {α:Type}:([]:List (List α)).flatten=[]:=b8 rfl
theorem b8Y {α:Type} (a:List α) (l:List (List α)):(a::l).flatten=a++l.flatten:=b8 rfl
theorem c1g (call:b9) (bx:AV) (st:St) (w:Bool) (xs:List (List AV)):J9 call [.list w xs] bx st=(y8 xs).map fun s=>(.str s,bx,st):=b8 rfl
theorem b2o:y8 []=some []:=b8 rfl
theorem b1Z (n:Int) (rs:List (List AV)):y8 ([.int .u8 n]::rs)=if 0≤n∧n < 256 then (y8 rs).map (n.toNat::·) else none:=b8 rfl
theorem b6F (call:b9) (bx:AV) (st:St) (len sz:Nat) (cs:List AV) (k:IntKind) (i:Int):w9 len sz call [.ro cs,.int k i] bx st=if 0≤i∧i < (len:Int) then some (.ro (cs.drop (i.toNat*sz)),bx,st) else none:=b8 rfl
theorem b4o (call:b9) (bx:AV) (st:St) (len sz o f:Nat) (k:IntKind) (i:Int):w9 len sz call [.ptr o f,.int k i] bx st=if 0≤i∧i < (len:Int) then some (.ptr o (f+i.toNat*sz),bx,st) else none:=b8 rfl
theorem b4a (call:b9) (bx:AV) (st:St) (len sz o f:Nat) (k:IntKind) (i:Int):w9 len sz call [.loc o f,.int k i] bx st=if 0≤i∧i < (len:Int) then some (.loc o (f+i.toNat*sz),bx,st) else none:=b8 rfl
theorem b94 (call:b9) (bx:AV) (st:St) (s:List Nat) (k:IntKind) (i:Int):D6 call [.str s,.int k i] bx st=if 0≤i then (match s[i.toNat]? with|some b=>some (.int .u8 b,bx,st)|none=>none) else none:=b8 rfl
theorem c1Z (call:b9) (bx:AV) (st:St) (lo hi:Bool) (s:List Nat) (r:List AV):I5 lo hi call (.str s::r) bx st=(q9 lo hi r s.length).map fun p=>(.str ((s.take p.2).drop p.1),bx,st):=b8 rfl
theorem b8t (call:b9) (bx:AV) (st:St) (sz:Nat) (lo hi:Bool) (o f n s:Nat) (r:List AV):F5 sz lo hi call (.sl o f n s::r) bx st=if s=sz then (slB lo hi r n).map fun p=>(.sl o (f+p.1*sz) (p.2 - p.1) s,bx,st) else none:=b8 rfl
theorem c2l (call:b9) (bx:AV) (st:St) (sz:Nat) (lo hi:Bool) (w:Bool) (xs:List (List AV)) (r:List AV):F5 sz lo hi call (.list w xs::r) bx st=if i8 sz xs then (q9 lo hi r xs.length).map fun p=>(.list false ((xs.take p.2).drop p.1),bx,st) else none:=b8 rfl
theorem c2N (call:b9) (bx:AV) (st:St) (sz:Nat) (w:Bool) (xs:List (List AV)) (k:IntKind) (l:Int):N8 sz call [.list w xs,.int k l] bx st=if i8 sz xs=true∧0≤l∧l < xs.length then some (.list w (xs.drop l.toNat),bx,st) else none:=b8 rfl
theorem c1V (call:b9) (bx:AV) (st:St) (w:Bool) (xs:List (List AV)):M0 call [.list w xs] bx st=some (.list true [],bx,st):=b8 rfl
theorem c2T (call:b9) (bx:AV) (st:St) (len sz:Nat) (lo hi:Bool) (cs r:List AV):J7 len sz lo hi call (.ro cs::r) bx st=if cs.length=len*sz then (q9 lo hi r len).map fun p=>(.list false (((K0 sz len cs).take p.2).drop p.1),bx,st) else none:=b8 rfl
theorem c2d (call:b9) (bx:AV) (st:St) (op:BinOp) (a b:AV):p9 op call [a,b] bx st=(k4 op a b).map (fun v=>(v,bx,st)):=b8 rfl
theorem c0D (call:b9) (bx:AV) (st:St) (op:BinOp) (a b:AV):I2 op call [a,b] bx st=(a11 op a b).map (fun v=>(v,bx,st)):=b8 rfl
theorem c0P (call:b9) (bx:AV) (st:St) (op:BinOp) (a b:AV):D7 op call [a,b] bx st=(Q2 op a b).map (fun v=>(v,bx,st)):=b8 rfl
theorem b8M (k:IntKind) (a b:Int):k4 .add (.int k a) (.int k b)=some (.int k (k9 k (O6 a b))):=by simp only [k4,if_true]
theorem b9t (k:IntKind) (a b:Int):k4 .sub (.int k a) (.int k b)=some (.int k (k9 k (a36 a b))):=by simp only [k4,if_true]
theorem c0v (k:IntKind) (a b:Int):k4 .mul (.int k a) (.int k b)=some (.int k (k9 k (a*b))):=by simp only [k4,if_true]
theorem b8J (k:IntKind) (a b:Int):k4 .quo (.int k a) (.int k b)=if b=0 then none else some (.int k (k.wrap (a.tdiv b))):=by simp only [k4,if_true]
theorem c0J (k:IntKind) (a b:Int):k4 .rem (.int k a) (.int k b)=if b=0 then none else some (.int k (a.tmod b)):=by simp only [k4,if_true]
theorem b91 (k:IntKind) (a b:Int):k4 .eql (.int k a) (.int k b)=some (.bool (eqI a b)):=by simp only [k4,if_true]
theorem b70 (k:IntKind) (a b:Int):k4 .neq (.int k a) (.int k b)=some (.bool !(eqI a b)):=by simp only [k4,if_true]
theorem b82 (k:IntKind) (a b:Int):k4 .lss (.int k a) (.int k b)=some (.bool (ltI a b)):=by simp only [k4,if_true]
theorem b96 (k:IntKind) (a b:Int):k4 .leq (.int k a) (.int k b)=some (.bool !(ltI b a)):=by simp only [k4,if_true]
theorem b9B (k:IntKind) (a b:Int):k4 .gtr (.int k a) (.int k b)=some (.bool (ltI b a)):=by simp only [k4,if_true]
theorem c0W (k:IntKind) (a b:Int):k4 .geq (.int k a) (.int k b)=some (.bool !(ltI a b)):=by simp only [k4,if_true]
theorem b9j (a b:List Nat):k4 .add (.str a) (.str b)=if a.length+b.length≤2 ^ 62 then some (.str (a++b)) else none:=b8 rfl
theorem b73 (a b:List Nat):k4 .eql (.str a) (.str b)=some (.bool (eqN a b)):=b8 rfl
theorem b8K (a b:List Nat):k4 .neq (.str a) (.str b)=some (.bool !(eqN a b)):=b8 rfl
theorem b9g (a b:List Nat):k4 .lss (.str a) (.str b)=some (.bool (a0j a b)):=b8 rfl
theorem b8l (a b:Bool):a11 .eql (.bool a) (.bool b)=some (.bool (a == b)):=b8 rfl
theorem b95 (a b:Bool):a11 .neq (.bool a) (.bool b)=some (.bool !(a == b)):=b8 rfl
theorem b6V (o f:Nat):Q2 .eql (.ptr o f) .nilp=some (.bool false):=b8 rfl
theorem b5u (o f:Nat):Q2 .eql .nilp (.ptr o f)=some (.bool false):=b8 rfl
theorem b6J:Q2 .eql .nilp .nilp=some (.bool true):=b8 rfl
theorem b7a (o f:Nat):Q2 .neq (.ptr o f) .nilp=some (.bool true):=b8 rfl
theorem b6s (o f:Nat):Q2 .neq .nilp (.ptr o f)=some (.bool true):=b8 rfl
theorem b5W:Q2 .neq .nilp .nilp=some (.bool false):=b8 rfl
theorem c0S (call:b9) (bx:AV) (st:St) (b:Bool):O0 .not call [.bool b] bx st=some (.bool !b,bx,st):=b8 rfl
theorem b9h (call:b9) (bx:AV) (st:St) (k:IntKind) (n:Int):O0 .neg call [.int k n] bx st=some (.int k (k9 k (0 - n)),bx,st):=b8 rfl
theorem c0h (call:b9) (bx:AV) (st:St) (k k':IntKind) (n:Int):H4 k call [.int k' n] bx st=some (.int k (k9 k n),bx,st):=b8 rfl
theorem c1r (call:b9) (bx:AV) (st:St) (f n:Nat) (as:List AV):L3 f n call as bx st=if m7 as then some (.func f ((as.map AV.weak).take n) ((as.map AV.weak).drop n),bx,st) else none:=b8 rfl
theorem c02 (call:b9) (bx:AV) (st:St):M2 call [] bx st=some (.map st.length,bx,st++[.map []]):=b8 rfl
theorem c2G (call:b9) (bx:AV) (st:St) (i:Nat) (vs:List AV):H0 i call [.tuple vs] bx st=match vs[i]? with|some v=>some (v.weak,bx,st)|none=>none:=b8 rfl
theorem b8z (call:b9) (bx:AV) (st:St) (s:List Nat):I1 call [.str s] bx st=some (.int .i64 s.length,bx,st):=b8 rfl
theorem b8p (call:b9) (bx:AV) (st:St) (w:Bool) (xs:List (List AV)):r8 call [.list w xs] bx st=some (.int .i64 xs.length,bx,st):=b8 rfl
theorem c1j (call:b9) (bx:AV) (st:St) (sz bytes:Nat) (w:Bool) (xs ys:List (List AV)):J6 sz bytes call [.list true xs,.list w ys] bx st=if i8 sz xs && i8 sz ys && decide ((xs.length+ys.length)*bytes≤2 ^ 47) then some (.list true (xs++ys),bx,st) else none:=b8 rfl
theorem b01 (n:Nat) (cs:List AV):g8 true n cs=if n≤cs.length then some (.agg ((cs.take n).map AV.weak1)) else none:=b8 rfl
theorem b17 (n:Nat) (c:AV) (cs:List AV):g8 false n (c::cs)=some c.weak1:=b8 rfl
theorem a9q (cs:List AV):o9 [] [] cs=some cs:=b8 rfl
theorem a9Z (off n:Nat) (offs:List (Nat×Nat)) (p:AV) (ps cs:List AV):o9 ((off,n)::offs) (p::ps) cs=if p.plain=true∧p.cells.length=n∧off+n≤cs.length then o9 offs ps (m3 cs off p.cells) else none:=b8 rfl
theorem a8R (sz:Nat) (rs:List (List AV)):n8 sz [] [] rs=some rs:=b8 rfl
theorem a9H (sz i:Nat) (is:List Nat) (p:AV) (ps:List AV) (rs:List (List AV)):n8 sz (i::is) (p::ps) rs=if p.plain=true∧p.cells.length=sz∧i < rs.length then n8 sz is ps (rs.set i (p.cells.map AV.weak1)) else none:=b8 rfl
theorem b3k (cs:List AV) (off:Nat) (new:List AV):m3 cs off new=cs.take off++new++cs.drop (off+new.length):=b8 rfl
theorem b2v (n:Nat):q9 false false [] n=some (0,n):=b8 rfl
theorem b2F (l:AV) (n:Nat):q9 true false [l] n=(F6 l n).map fun l=>(l,n):=b8 rfl
theorem b2q (h:AV) (n:Nat):q9 false true [h] n=(F6 h n).map fun h=>(0,h):=b8 rfl
theorem b1V (l h:AV) (n:Nat):q9 true true [l,h] n=match F6 h n with|some h=>(F6 l h).map (fun l=>(l,h))|none=>none:=b8 rfl
theorem b68 (k:IntKind) (i:Int) (top:Nat):F6 (.int k i) top=if 0≤i∧i≤(top:Int) then some i.toNat else none:=b8 rfl
theorem b3t (sz:Nat):i8 sz []=true:=b8 rfl
theorem b4l (sz:Nat) (r:List AV) (rs:List (List AV)):i8 sz (r::rs)=(r.length == sz):=b8 rfl
theorem b6a (i:Nat) (cs:List AV):b5n i (.box cs)=.loc i 0:=b8 rfl
theorem b0u (b:Bool):AV.plain (.bool b)=true:=b8 rfl
theorem b0O (b:Bool):AV.cells (.bool b)=[.bool b]:=b8 rfl
theorem a6Y (b:Bool):AV.cellW1 (.bool b)=.bool b:=b8 rfl
theorem a6Q (b:Bool):AV.cellsW (.bool b)=[.bool b]:=b8 rfl
theorem b2u (k:IntKind) (n:Int):AV.plain (.int k n)=true:=b8 rfl
theorem b2i (k:IntKind) (n:Int):AV.cells (.int k n)=[.int k n]:=b8 rfl
theorem a9u (k:IntKind) (n:Int):AV.cellW1 (.int k n)=.int k n:=b8 rfl
theorem a8V (k:IntKind) (n:Int):AV.cellsW (.int k n)=[.int k n]:=b8 rfl
theorem b06 (s:List Nat):AV.plain (.str s)=true:=b8 rfl
theorem b2g (s:List Nat):AV.cells (.str s)=[.str s]:=b8 rfl
theorem b0z (s:List Nat):AV.cellW1 (.str s)=.str s:=b8 rfl
theorem a8w (s:List Nat):AV.cellsW (.str s)=[.str s]:=b8 rfl
theorem a9o (w:Bool) (xs:List (List AV)):AV.plain (.list w xs)=true:=b8 rfl
theorem a9G (w:Bool) (xs:List (List AV)):AV.cells (.list w xs)=[.list w xs]:=b8 rfl
theorem b1R (o f:Nat):AV.plain (.ptr o f)=true:=b8 rfl
theorem b1L (o f:Nat):AV.cells (.ptr o f)=[.ptr o f]:=b8 rfl
theorem a8Z (o f:Nat):AV.cellW1 (.ptr o f)=.ptr o f:=b8 rfl
theorem b0t (o f:Nat):AV.cellsW (.ptr o f)=[.ptr o f]:=b8 rfl
theorem a9w :AV.plain (.nilp)=true:=b8 rfl
theorem a8A :AV.cells (.nilp)=[.nilp]:=b8 rfl
theorem a7m :AV.cellW1 (.nilp)=.nilp:=b8 rfl
theorem a7e :AV.cellsW (.nilp)=[.nilp]:=b8 rfl
theorem b3C (cs:List AV):AV.plain (.ro cs)=true:=b8 rfl
theorem b4F (cs:List AV):AV.cells (.ro cs)=[.ro cs]:=b8 rfl
theorem b2K (cs:List AV):AV.cellW1 (.ro cs)=.ro cs:=b8 rfl
theorem b1N (cs:List AV):AV.cellsW (.ro cs)=[.ro cs]:=b8 rfl
theorem b14 (o:Nat):AV.plain (.map o)=true:=b8 rfl
theorem b2I (o:Nat):AV.cells (.map o)=[.map o]:=b8 rfl
theorem a8O (o:Nat):AV.cellW1 (.map o)=.map o:=b8 rfl
theorem b0b (o:Nat):AV.cellsW (.map o)=[.map o]:=b8 rfl
theorem a9h :AV.plain (.nilm)=true:=b8 rfl
theorem a9v :AV.cells (.nilm)=[.nilm]:=b8 rfl
theorem a6V :AV.cellW1 (.nilm)=.nilm:=b8 rfl
theorem a6K :AV.cellsW (.nilm)=[.nilm]:=b8 rfl
theorem b0s (f:Nat) (a b:List AV):AV.plain (.func f a b)=true:=b8 rfl
theorem b0M (f:Nat) (a b:List AV):AV.cells (.func f a b)=[.func f a b]:=b8 rfl
theorem a7u (f:Nat) (a b:List AV):AV.cellW1 (.func f a b)=.func f a b:=b8 rfl
theorem a6P (f:Nat) (a b:List AV):AV.cellsW (.func f a b)=[.func f a b]:=b8 rfl
theorem a9P :AV.plain (.nilf)=true:=b8 rfl
theorem a9C :AV.cells (.nilf)=[.nilf]:=b8 rfl
theorem a7r :AV.cellW1 (.nilf)=.nilf:=b8 rfl
theorem a6R :AV.cellsW (.nilf)=[.nilf]:=b8 rfl
theorem b3Q (o f n s:Nat):AV.plain (.sl o f n s)=true:=b8 rfl
theorem b3v (o f n s:Nat):AV.cells (.sl o f n s)=[.sl o f n s]:=b8 rfl
theorem b1h (o f n s:Nat):AV.cellW1 (.sl o f n s)=.sl o f n s:=b8 rfl
theorem b1g (o f n s:Nat):AV.cellsW (.sl o f n s)=[.sl o f n s]:=b8 rfl
theorem a6O (t:Nat) (v:AV):AV.plain (.iface t v)=true:=b8 rfl
theorem a7o (t:Nat) (v:AV):AV.cells (.iface t v)=[.iface t v]:=b8 rfl
theorem a5f (t:Nat) (v:AV):AV.cellW1 (.iface t v)=.iface t v:=b8 rfl
theorem a6u (t:Nat) (v:AV):AV.cellsW (.iface t v)=[.iface t v]:=b8 rfl
theorem b0B :AV.plain (.nili)=true:=b8 rfl
theorem b0o :AV.cells (.nili)=[.nili]:=b8 rfl
theorem a65 :AV.cellW1 (.nili)=.nili:=b8 rfl
theorem a6X :AV.cellsW (.nili)=[.nili]:=b8 rfl
theorem a8U :AV.plain (.nils)=true:=b8 rfl
theorem b0F :AV.cells (.nils)=[.nils]:=b8 rfl
theorem a6Z :AV.cellW1 (.nils)=.nils:=b8 rfl
theorem a69 :AV.cellsW (.nils)=[.nils]:=b8 rfl
theorem a7n (w:Bool) (xs:List (List AV)):AV.cellW1 (.list w xs)=.list (w && xs.isEmpty) xs:=b8 rfl
theorem b2h (cs:List AV):AV.plain (.agg cs)=true:=b8 rfl
theorem b2w (cs:List AV):AV.cells (.agg cs)=cs:=b8 rfl
theorem a9L (cs:List AV):AV.cellsW (.agg cs)=cs:=b8 rfl
theorem a7j (w:Bool) (xs:List (List AV)):AV.cellsW (.list w xs)=[.list (w && xs.isEmpty) xs]:=b8 rfl
theorem a8T:m7 []=true:=b8 rfl
theorem a8L (a:AV) (as:List AV):m7 (a::as)=(a.plain && m7 as):=b8 rfl
theorem c1q {α β:Type} (f:α→β):List.map f []=[]:=b8 rfl
theorem c2E {α β:Type} (f:α→β) (a:α) (l:List α):List.map f (a::l)=f a::l.map f:=b8 rfl
theorem b9C {α:Type} (l:List α):List.drop 0 l=l:=b8 rfl
theorem b74 {α:Type} (n:Nat) (a:α) (l:List α):List.drop (n+1) (a::l)=l.drop n:=b8 rfl
theorem b81 {α:Type} (n:Nat):List.drop n ([]:List α)=[]:=by cases n <;> rfl
theorem b7W {α:Type} (l:List α):List.take 0 l=[]:=b8 rfl
theorem c0l {α:Type} (n:Nat) (a:α) (l:List α):List.take (n+1) (a::l)=a::l.take n:=b8 rfl
theorem c0a {α:Type} (n:Nat):List.take n ([]:List α)=[]:=by cases n <;> rfl
theorem c1S {α:Type}:([]:List α).length=0:=b8 rfl
theorem c2K {α:Type} (a:α) (l:List α):(a::l).length=l.length+1:=b8 rfl
theorem c1R {α:Type} (a:α) (l m:List α):(a::l)++m=a::(l++m):=b8 rfl
theorem c2V {α:Type} (l:List α):[]++l=l:=b8 rfl
theorem b5U {α:Type} (l:List α):l++[]=l:=List.append_nil l
theorem c2Q {α:Type} (a:α) (l:List α):(a::l)[0]?=some a:=b8 rfl
theorem c1w {α:Type} (n:Nat) (a:α) (l:List α):(a::l)[n+1]?=l[n]?:=b8 rfl
theorem c2D {α:Type} (a b:α) (l:List α):(a::l).set 0 b=b::l:=b8 rfl
theorem c1D {α:Type} (n:Nat) (a b:α) (l:List α):(a::l).set (n+1) b=a::l.set n b:=b8 rfl
theorem c1O {α:Type} (a:α):List.replicate 0 a=[]:=b8 rfl
theorem c1B {α:Type} (n:Nat) (a:α):List.replicate (n+1) a=a::List.replicate n a:=b8 rfl
theorem b8G {α β:Type} (f:α→β) (a:α):Option.map f (some a)=some (f a):=b8 rfl
theorem c0O {α β:Type} (f:α→β):Option.map f none=none:=b8 rfl
theorem c2s {α:Type}:([]:List α).isEmpty=true:=b8 rfl
theorem c1Y {α:Type} (a:α) (l:List α):(a::l).isEmpty=false:=b8 rfl
theorem c1v {α:Type} (a b:α):(if True then a else b)=a:=if_pos trivial
theorem c2j {α:Type} (a b:α):(if False then a else b)=b:=if_neg (fun h=>h)
theorem c00 {α:Type} (a b:α):(if true=true then a else b)=a:=if_pos rfl
theorem c2L {α:Type} (a b:α):(if false=true then a else b)=b:=if_neg (fun h=>by cases h)
theorem c0G:(true=false)=False:=by simp
theorem b8A:(false=true)=False:=by simp
theorem c2a:(!true)=false:=b8 rfl
theorem c2u:(!false)=true:=b8 rfl
theorem c2f (b:Bool):(true && b)=b:=b8 rfl
theorem c1L (b:Bool):(b && true)=b:=by cases b <;> rfl
theorem c2c (b:Bool):(false && b)=false:=b8 rfl
theorem c2p (b:Bool):(b && false)=false:=by cases b <;> rfl
theorem c5T (b:Bool):(true || b)=true:=b8 rfl
theorem c3a (b:Bool):(b || true)=true:=by cases b <;> rfl
theorem c4P (b:Bool):(false || b)=b:=b8 rfl
theorem c7g (b:Bool):(b || false)=b:=by cases b <;> rfl
theorem c1k (p:Prop):(p∧True)=p:=by simp
theorem c1T (p:Prop):(True∧p)=p:=by simp
theorem c1I:decide True=true:=b8 rfl
theorem c2w:decide False=false:=b8 rfl
theorem eqs {α:Type} (a:α):(a=a)=True:=by simp
theorem nn (n:Nat):(0≤(n:Int))=True:=by simp
theorem tn (n:Nat):(n:Int).toNat=n:=Int.toNat_natCast n
theorem b8W (m n:Nat):((m:Int)≤(n:Int))=(m≤n):=by simp
theorem c0j (n:Nat):(n≤n)=True:=by simp
theorem c67 (i j:Nat):ltI (i:Int) (j:Int)=decide (i < j):=ltN i j
theorem c3W (i j:Nat):eqI (i:Int) (j:Int)=decide (i=j):=c6M i j
theorem c2e (c:AV) (call:b9) (n:Nat) (a b:ACode) (fr:List AV) (st:St):brE c call n a b fr st=brT c (a04 call n a fr st) (a04 call n b fr st):=b8 rfl
theorem c53:(0 < (1:Nat))=True:=by simp
theorem c6X:(0 < (3:Nat))=True:=by simp
theorem c4r:(1 < (3:Nat))=True:=by simp
theorem c51:(2 < (3:Nat))=True:=by simp
theorem il0:(0≤(0:Int))=True:=by simp
theorem it0:(0:Int).toNat=0:=b8 rfl
theorem il1:(0≤(1:Int))=True:=by simp
theorem it1:(1:Int).toNat=1:=b8 rfl
theorem il2:(0≤(2:Int))=True:=by simp
theorem it2:(2:Int).toNat=2:=b8 rfl
theorem m41:4*1=(4:Nat):=b8 rfl
theorem W_e (a:AV):W a=AV.weak (AV.stripB a):=b8 rfl
theorem c3Y {β:Type} (a:AV) (f:AV→Option β):m1 a f=f a:=b8 rfl
theorem b5O {β:Type} (c w:Bool) (a:AV) (f:AV→Option β):gm (.bool c) w a f=f (gV (.bool c) w a):=by unfold gm; rw [a8h,l9]
theorem b4J {β:Type} (x:AV) (w b want:Bool) (a:AV) (f:AV→Option β):gm (gV x w (.bool b)) want a f=f (gV (gV x w (.bool b)) want a):=by unfold gm; rw [a5x,l9]
theorem b7E {β:Type} (w:Bool) (a:AV) (f:AV→Option β):gm (.tuple []) w a f=f (.tuple []):=by unfold gm; rw [a7G,l9]
theorem c2z (n:Nat):0+n=n:=Nat.zero_add n
theorem c2r (n:Nat):n+0=n:=b8 rfl
theorem b0J (n:Nat):(n == n)=true:=by simp
end Go.Cb.R
namespace Go.Cb
open Go.Cb.R
set_option linter.defProp false in
def SS:=And.intro (And.intro (And.intro (And.intro (And.intro (And.intro (And.intro (And.intro (@exec_seqK) (@b2k)) (And.intro (@b2N) (And.intro (@b1K) (@b19)))) (And.intro (And.intro (@a2A) (And.intro (@b05) (@b4Z))) (And.intro (@a4n) (And.intro (@a4D) (@b0w))))) (And.intro (And.intro (And.intro (@a7h) (@b7X)) (And.intro (@c0u) (And.intro (@a7l) (@a62)))) (And.intro (And.intro (@b8S) (And.intro (@b8O) (@c0K))) (And.intro (@b4G) (And.intro (@b2C) (@b2W)))))) (And.intro (And.intro (And.intro (And.intro (@b4u) (@b0a)) (And.intro (@b6c) (And.intro (@a2t) (@l9)))) (And.intro (And.intro (@c2W) (And.intro (@c1u) (@c2P))) (And.intro (@c1i) (And.intro (@a7G) (@c0Q))))) (And.intro (And.intro (And.intro (@b8a) (@c0g)) (And.intro (@b8L) (And.intro (@b4j) (@c2y)))) (And.intro (And.intro (@c2A) (And.intro (@c1t) (@c1z))) (And.intro (@b5G) (And.intro (@a8h) (@a5x))))))) (And.intro (And.intro (And.intro (And.intro (And.intro (@b7H) (@b3w)) (And.intro (@b1A) (And.intro (@b9x) (@b71)))) (And.intro (And.intro (@b6U) (And.intro (@b36) (@b1e))) (And.intro (@b3U) (And.intro (@b4q) (@b2f))))) (And.intro (And.intro (And.intro (@b27) (@b1p)) (And.intro (@b1D) (And.intro (@b6i) (@b3r)))) (And.intro (And.intro (@b38) (And.intro (@b1i) (@b1t))) (And.intro (@b1S) (And.intro (@E3) (@b7v)))))) (And.intro (And.intro (And.intro (And.intro (@a9A) (@b2c)) (And.intro (@a9B) (And.intro (@a8M) (@b47)))) (And.intro (And.intro (@a9z) (And.intro (@b2E) (@b1U))) (And.intro (@a9F) (And.intro (@b4w) (@b0c))))) (And.intro (And.intro (And.intro (@b2y) (And.intro (@a9l) (@b0H))) (And.intro (@P0) (And.intro (@b0l) (@a9y)))) (And.intro (And.intro (@b2t) (And.intro (@b10) (@a8u))) (And.intro (@b1n) (And.intro (@a8S) (@a8W)))))))) (And.intro (And.intro (And.intro (And.intro (And.intro (And.intro (@b4s) (@b2x)) (And.intro (@b1z) (And.intro (@a9g) (@a8s)))) (And.intro (And.intro (@a9m) (And.intro (@b1W) (@b3n))) (And.intro (@a63) (And.intro (@a68) (@a7k))))) (And.intro (And.intro (And.intro (@a8P) (@b0q)) (And.intro (@a7p) (And.intro (@a9e) (@a7a)))) (And.intro (And.intro (@a64) (And.intro (@b1C) (@a9T))) (And.intro (@b0E) (And.intro (@a6J) (@a6M)))))) (And.intro (And.intro (And.intro (And.intro (@a7s) (@a9E)) (And.intro (@a9O) (And.intro (@a6H) (@a6b)))) (And.intro (And.intro (@b08) (And.intro (@a6s) (@a6j))) (And.intro (@c7a) (And.intro (@a8D) (@a9M))))) (And.intro (And.intro (And.intro (@b1x) (And.intro (@a7d) (@b6D))) (And.intro (@b8s) (And.intro (@b23) (@b8T)))) (And.intro (And.intro (@b5v) (And.intro (@b3G) (@c0d))) (And.intro (@b85) (And.intro (@b98) (@b52))))))) (And.intro (And.intro (And.intro (And.intro (And.intro (@b42) (@b6k)) (And.intro (@b6B) (And.intro (@c0T) (@b8Q)))) (And.intro (And.intro (@b7A) (And.intro (@b5L) (@b8w))) (And.intro (@c2R) (And.intro (@c1b) (@b99))))) (And.intro (And.intro (And.intro (@b1J) (@b5J)) (And.intro (@b2A) (And.intro (@b2b) (@b8m)))) (And.intro (And.intro (@b78) (And.intro (@a7i) (@a7g))) (And.intro (@b22) (And.intro (@b2L) (@b7M)))))) (And.intro (And.intro (And.intro (And.intro (@b7i) (@b6v)) (And.intro (@b90) (And.intro (@b8Y) (@c1g)))) (And.intro (And.intro (@b2o) (And.intro (@b1Z) (@b6F))) (And.intro (@b4o) (And.intro (@b4a) (@b94))))) (And.intro (And.intro (And.intro (@c1Z) (And.intro (@b8t) (@c2l))) (And.intro (@c2N) (And.intro (@c1V) (@c2T)))) (And.intro (And.intro (@c2d) (And.intro (@c0D) (@c0P))) (And.intro (@b8M) (And.intro (@b9t) (@c0v))))))))) (And.intro (And.intro (And.intro (And.intro (And.intro (And.intro (And.intro (@b8J) (@c0J)) (And.intro (@b91) (And.intro (@b70) (@b82)))) (And.intro (And.intro (@b96) (And.intro (@b9B) (@c0W))) (And.intro (@b9j) (And.intro (@b73) (@b8K))))) (And.intro (And.intro (And.intro (@b9g) (@b8l)) (And.intro (@b95) (And.intro (@b6V) (@b5u)))) (And.intro (And.intro (@b6J) (And.intro (@b7a) (@b6s))) (And.intro (@b5W) (And.intro (@c0S) (@b9h)))))) (And.intro (And.intro (And.intro (And.intro (@c0h) (@c1r)) (And.intro (@c02) (And.intro (@c2G) (@b8z)))) (And.intro (And.intro (@b8p) (And.intro (@c1j) (@b01))) (And.intro (@b17) (And.intro (@a9q) (@a9Z))))) (And.intro (And.intro (And.intro (@a8R) (@a9H)) (And.intro (@b3k) (And.intro (@b2v) (@b2F)))) (And.intro (And.intro (@b2q) (And.intro (@b1V) (@b68))) (And.intro (@b3t) (And.intro (@b4l) (@b6a))))))) (And.intro (And.intro (And.intro (And.intro (And.intro (@b0u) (@b0O)) (And.intro (@a6Y) (And.intro (@a6Q) (@b2u)))) (And.intro (And.intro (@b2i) (And.intro (@a9u) (@a8V))) (And.intro (@b06) (And.intro (@b2g) (@b0z))))) (And.intro (And.intro (And.intro (@a8w) (@a9o)) (And.intro (@a9G) (And.intro (@b1R) (@b1L)))) (And.intro (And.intro (@a8Z) (And.intro (@b0t) (@a9w))) (And.intro (@a8A) (And.intro (@a7m) (@a7e)))))) (And.intro (And.intro (And.intro (And.intro (@b3C) (@b4F)) (And.intro (@b2K) (And.intro (@b1N) (@b14)))) (And.intro (And.intro (@b2I) (And.intro (@a8O) (@b0b))) (And.intro (@a9h) (And.intro (@a9v) (@a6V))))) (And.intro (And.intro (And.intro (@a6K) (And.intro (@b0s) (@b0M))) (And.intro (@a7u) (And.intro (@a6P) (@a9P)))) (And.intro (And.intro (@a9C) (And.intro (@a7r) (@a6R))) (And.intro (@b3Q) (And.intro (@b3v) (@b1h)))))))) (And.intro (And.intro (And.intro (And.intro (And.intro (And.intro (@b1g) (@a6O)) (And.intro (@a7o) (And.intro (@a5f) (@a6u)))) (And.intro (And.intro (@b0B) (And.intro (@b0o) (@a65))) (And.intro (@a6X) (And.intro (@a8U) (@b0F))))) (And.intro (And.intro (And.intro (@a6Z) (@a69)) (And.intro (@a7n) (And.intro (@b2h) (@b2w)))) (And.intro (And.intro (@a9L) (And.intro (@a7j) (@a8T))) (And.intro (@a8L) (And.intro (@c1q) (@c2E)))))) (And.intro (And.intro (And.intro (And.intro (@b9C) (@b74)) (And.intro (@b81) (And.intro (@b7W) (@c0l)))) (And.intro (And.intro (@c0a) (And.intro (@c1S) (@c2K))) (And.intro (@c1R) (And.intro (@c2V) (@b5U))))) (And.intro (And.intro (And.intro (@c2Q) (And.intro (@c1w) (@c2D))) (And.intro (@c1D) (And.intro (@c1O) (@c1B)))) (And.intro (And.intro (@b8G) (And.intro (@c0O) (@c2s))) (And.intro (@c1Y) (And.intro (@c1v) (@c2j))))))) (And.intro (And.intro (And.intro (And.intro (And.intro (@c00) (@c2L)) (And.intro (@c0G) (And.intro (@b8A) (@c2a)))) (And.intro (And.intro (@c2u) (And.intro (@c2f) (@c1L))) (And.intro (@c2c) (And.intro (@c2p) (@c5T))))) (And.intro (And.intro (And.intro (@c3a) (@c4P)) (And.intro (@c7g) (And.intro (@c1k) (@c1T)))) (And.intro (And.intro (@c1I) (And.intro (@c2w) (@eqs))) (And.intro (@nn) (And.intro (@tn) (@b8W)))))) (And.intro (And.intro (And.intro (And.intro (@c0j) (@c67)) (And.intro (@c3W) (And.intro (@c2e) (@c53)))) (And.intro (And.intro (@c6X) (And.intro (@c4r) (@c51))) (And.intro (@il0) (And.intro (@it0) (@il1))))) (And.intro (And.intro (And.intro (@it1) (And.intro (@il2) (@it2))) (And.intro (@m41) (And.intro (@W_e) (@c3Y)))) (And.intro (And.intro (@b5O) (And.intro (@b4J) (@b7E))) (And.intro (@c2z) (And.intro (@c2r) (@b0J)))))))))
end Go.Cb
/-
 THE ABSTRACT MACHINE, part 48: running told by rules, operation by operation, in place of printed chains.
-/
set_option maxRecDepth 4000
set_option linter.unusedSimpArgs false
set_option linter.unusedVariables false
namespace Go.Cb.V
open Go Go.Cb
def d8 (call:b9) (ops:List AOper) (σ:Sig) (k:Sig→Option Out):Option Out:=obind (i6 call ops σ) k
theorem runR_congr {call:b9} {ops:List AOper} {σ σ':Sig} {k:Sig→Option Out} (h:σ=σ'):d8 call ops σ k=d8 call ops σ' k:=by rw [h]
theorem b87 (call:b9) (σ:Sig) (k:Sig→Option Out):d8 call [] σ k=k σ:=b8 rfl
theorem Y1 (call:b9) (o:AOper) (os:List AOper) (σ:Sig) (k:Sig→Option Out):d8 call (o::os) σ k=obind (e9 call o σ) fun σ=>d8 call os σ k:=by
 unfold d8
 simp only [i6]
 cases e9 call o σ <;> rfl
theorem T9:∀ (as:List Opd) (σ:Sig),(c0 as σ).st=σ.st
 | [],_=>rfl
 | x::xs,σ=>by rw [c0,T9 xs]; cases x <;> rfl
section
variable (call:b9) (d:Dst) (as:List Opd) (os:List AOper) (σ:Sig) (k:Sig→Option Out)
theorem l7 {K:Kind} (h1:K.setSt=false):d8 call (⟨d,K,as,none,none⟩::os) σ k=obind (p1 (sem K call (as.map (·.read σ)) .undef σ.st)) fun x=>d8 call os (d.put x (c0 as σ)) k:=by
 rw [Y1]
 simp only [e9]
 rw [H9]
 dsimp only
 cases hs:sem K call (as.map (·.read σ)) .undef σ.st with
 | none=>rfl
 | some x =>
  obtain ⟨r,b,st⟩:=x
  obtain rfl:=a1W h1 hs
  simp only [p1,l9]
  have e:({ c0 as σ with st:=σ.st }:Sig)=c0 as σ:=by
   have:=T9 as σ
   cases h:c0 as σ
   rw [h] at this
   simp only at this
   rw [this]
  rw [e]
theorem L1 {K:Kind}:d8 call (⟨d,K,as,none,none⟩::os) σ k=obind (p2 (sem K call (as.map (·.read σ)) .undef σ.st)) fun x=>d8 call os (d.put x.1 { c0 as σ with st:=x.2 }) k:=by
 rw [Y1]
 simp only [e9]
 rw [H9]
 dsimp only
 cases hs:sem K call (as.map (·.read σ)) .undef σ.st with
 | none=>rfl
 | some x =>
  obtain ⟨r,b,st⟩:=x
  simp only [p2,l9]
theorem a4J {K:Kind} (i:Nat):d8 call (⟨d,K,as,some i,none⟩::os) σ k=obind (sem K call (as.map (·.read σ)) (σ.fr.getD i .undef) σ.st) fun x=>d8 call os (d.put x.1 { c0 as σ with fr:=(c0 as σ).fr.set i x.2.1,st:=x.2.2 }) k:=by
 rw [Y1]
 simp only [e9]
 rw [H9]
 dsimp only
 cases hs:sem K call (as.map (·.read σ)) (σ.fr.getD i .undef) σ.st with
 | none=>rfl
 | some x =>
  obtain ⟨r,b,st⟩:=x
  simp only [l9]
end
theorem c01 {call:b9} {d:Dst} {as:List Opd} {os:List AOper} {σ:Sig} {k:Sig→Option Out} {K:Kind} {box:Option Nat} (h:(K.setSt || K.alters || e7 as)=false) :
 d8 call (⟨d,K,as,box,none⟩::os) σ k=obind (p1 (sem K call (as.map (·.read σ)) (goK.boxOf' box σ) σ.st)) fun r=>d8 call os (d.put r σ) k:=by
 rw [Y1,← a1r]
 simp only [a2u,goK,h]
theorem l6 {call:b9} {d:Dst} {as:List Opd} {os:List AOper} {σ:Sig} {k:Sig→Option Out} {K:Kind} {box:Option Nat} {x:Opd} {w:Bool} (h:(K.setSt || K.alters || e7 as)=false) :
 d8 call (⟨d,K,as,box,some (x,w)⟩::os) σ k=obind (gv (x.read σ) w (p1 (sem K call (as.map (·.read σ)) (goK.boxOf' box σ) σ.st))) fun r=>d8 call os (d.put r σ) k:=by
 rw [Y1,← a1r]
 simp only [a2u,h]
theorem I0 {call:b9} {d:Dst} {as:List Opd} {os:List AOper} {σ:Sig} {k:Sig→Option Out} {K:Kind} {box:Option Nat} {x:Opd} {w:Bool} (h1:K.setSt=true) (h2:K.alters=false) (h:e7 as=false) :
 d8 call (⟨d,K,as,box,some (x,w)⟩::os) σ k=obind (gv2 (x.read σ) w σ.st (p2 (sem K call (as.map (·.read σ)) (goK.boxOf' box σ) σ.st))) fun r=>d8 call os (d.put r.1 { σ with st:=r.2 }) k:=by
 rw [Y1,← a1r]
 simp only [a2u,h1,h2,h,Bool.true_or,Bool.or_false]
theorem c3S:e7 []=false:=b8 rfl
theorem c48 (s:Nat) (xs:List Opd):e7 (.t s::xs)=e7 xs:=b8 rfl
theorem c5A (s:Nat) (xs:List Opd):e7 (.v s::xs)=e7 xs:=b8 rfl
theorem c4i (s:Nat) (xs:List Opd):e7 (.l s::xs)=e7 xs:=b8 rfl
theorem c7k (a:AV) (xs:List Opd):e7 (.c a::xs)=e7 xs:=b8 rfl
theorem b0T (call:b9) (n:Nat) (kill:List Nat) (ps:List AOper) (fr:List AV) (st:St) :
 d9 call n (.reg kill ps) fr st=d8 call ps ⟨e8 kill fr,fun _=>.undef,st⟩ fun σ=>some (.normal,σ.fr,σ.st):=by
 rw [b3e,S4]; rfl
theorem a8G (call:b9) (n:Nat) (kill:List Nat) (ps:List AOper) (c:Opd) (a b:ACode) (fr:List AV) (st:St) :
 d9 call n (.test kill ps c a b) fr st=d8 call ps ⟨e8 kill fr,fun _=>.undef,st⟩ fun σ=>brE (c.read σ) call n a b σ.fr σ.st:=by
 rw [a9I,S4]; rfl
theorem c6T (s:Nat) (fr:List AV) (τ:Nat→AV) (st:St):Opd.read (.t s) ⟨fr,τ,st⟩=(τ s).weak:=b8 rfl
theorem c09 (s:Nat) (fr:List AV) (τ:Nat→AV) (st:St):Opd.read (.ts s) ⟨fr,τ,st⟩=τ s:=b8 rfl
theorem c3J (s:Nat) (fr:List AV) (τ:Nat→AV) (st:St):Opd.read (.v s) ⟨fr,τ,st⟩=(fr.getD s .undef).weak:=b8 rfl
theorem c1K (s:Nat) (fr:List AV) (τ:Nat→AV) (st:St):Opd.read (.vs s) ⟨fr,τ,st⟩=fr.getD s .undef:=b8 rfl
theorem c4V (s:Nat) (fr:List AV) (τ:Nat→AV) (st:St):Opd.read (.l s) ⟨fr,τ,st⟩=b5n s (fr.getD s .undef):=b8 rfl
theorem c5p (a:AV) (σ:Sig):Opd.read (.c a) σ=a:=b8 rfl
theorem c1o (τ:Nat→AV) (s:Nat) (a:AV) (j:Nat):m6 τ s a j=if j=s then a else τ j:=by
 unfold m6
 by_cases h:j=s
 · subst h; simp
 · rw [if_neg h,if_neg]; intro e; exact h (Nat.eq_of_beq_eq_true e)
theorem put_t (s:Nat) (a:AV) (fr:List AV) (τ:Nat→AV) (st:St):Dst.put (.t s) a ⟨fr,τ,st⟩=⟨fr,m6 τ s a.stripB,st⟩:=b8 rfl
theorem put_v (s:Nat) (a:AV) (fr:List AV) (τ:Nat→AV) (st:St):Dst.put (.v s) a ⟨fr,τ,st⟩=⟨fr.set s a.strip,τ,st⟩:=b8 rfl
theorem c1M (a:AV) (σ:Sig):Dst.put .none a σ=σ:=b8 rfl
theorem c2k (a:AV) (σ:Sig):Dst.put .bx a σ=σ:=b8 rfl
theorem c32 (σ:Sig):c0 [] σ=σ:=b8 rfl
theorem c5B (x:Opd) (xs:List Opd) (σ:Sig):c0 (x::xs) σ=c0 xs (x.spend σ):=b8 rfl
theorem c6r (s:Nat) (σ:Sig):Opd.spend (.t s) σ=σ:=b8 rfl
theorem c3g (s:Nat) (σ:Sig):Opd.spend (.v s) σ=σ:=b8 rfl
theorem c2Z (s:Nat) (σ:Sig):Opd.spend (.l s) σ=σ:=b8 rfl
theorem c5u (a:AV) (σ:Sig):Opd.spend (.c a) σ=σ:=b8 rfl
theorem c1A (s:Nat) (fr:List AV) (τ:Nat→AV) (st:St):Opd.spend (.ts s) ⟨fr,τ,st⟩=⟨fr,m6 τ s (τ s).weak,st⟩:=b8 rfl
theorem c1d (s:Nat) (fr:List AV) (τ:Nat→AV) (st:St):Opd.spend (.vs s) ⟨fr,τ,st⟩=⟨fr.set s (fr.getD s .undef).weak,τ,st⟩:=b8 rfl
theorem c5C (a d:AV) (l:List AV):(a::l).getD 0 d=a:=b8 rfl
theorem c3t (a d:AV) (l:List AV) (n:Nat):(a::l).getD (n+1) d=l.getD n d:=b8 rfl
theorem c29 (fr:List AV):e8 [] fr=fr:=b8 rfl
theorem c5r (i:Nat) (is:List Nat) (fr:List AV):e8 (i::is) fr=e8 is (fr.set i .undef):=b8 rfl
section
variable (call:b9) (d:Dst) (as:List Opd) (os:List AOper) (fr:List AV) (τ:Nat→AV) (s:St) (k:Sig→Option Out)
theorem c3O :d8 call (⟨d,.mv,as,none,none⟩::os) ⟨fr,τ,s⟩ k=obind (p1 (S5 call (as.map (·.read ⟨fr,τ,s⟩)) .undef s)) fun x=>d8 call os (d.put x (c0 as ⟨fr,τ,s⟩)) k:=l7 call d as os ⟨fr,τ,s⟩ k rfl
theorem b9f :d8 call (⟨d,.pick,as,none,none⟩::os) ⟨fr,τ,s⟩ k=obind (p1 (q7 call (as.map (·.read ⟨fr,τ,s⟩)) .undef s)) fun x=>d8 call os (d.put x (c0 as ⟨fr,τ,s⟩)) k:=l7 call d as os ⟨fr,τ,s⟩ k rfl
theorem b29 :d8 call (⟨d,.nilchk,as,none,none⟩::os) ⟨fr,τ,s⟩ k=obind (p1 (r6 call (as.map (·.read ⟨fr,τ,s⟩)) .undef s)) fun x=>d8 call os (d.put x (c0 as ⟨fr,τ,s⟩)) k:=l7 call d as os ⟨fr,τ,s⟩ k rfl
theorem b6R (z:List AV) (o:List (Nat×Nat)):d8 call (⟨d,.build z o,as,none,none⟩::os) ⟨fr,τ,s⟩ k=obind (p1 (E4 z o call (as.map (·.read ⟨fr,τ,s⟩)) .undef s)) fun x=>d8 call os (d.put x (c0 as ⟨fr,τ,s⟩)) k:=l7 call d as os ⟨fr,τ,s⟩ k rfl
theorem b4T (q:Nat) (z:List (List AV)) (t:List Nat):d8 call (⟨d,.bslice q z t,as,none,none⟩::os) ⟨fr,τ,s⟩ k=obind (p1 (D2 q z t call (as.map (·.read ⟨fr,τ,s⟩)) .undef s)) fun x=>d8 call os (d.put x (c0 as ⟨fr,τ,s⟩)) k:=l7 call d as os ⟨fr,τ,s⟩ k rfl
theorem b1O (q:Nat) (z:List (List AV)) (t:List Nat):d8 call (⟨d,.bsliceM q z t,as,none,none⟩::os) ⟨fr,τ,s⟩ k=obind (p1 (B1 q z t call (as.map (·.read ⟨fr,τ,s⟩)) .undef s)) fun x=>d8 call os (d.put x (c0 as ⟨fr,τ,s⟩)) k:=l7 call d as os ⟨fr,τ,s⟩ k rfl
theorem c0w (g:Bool) (n:Nat):d8 call (⟨d,.ldSt g n,as,none,none⟩::os) ⟨fr,τ,s⟩ k=obind (p1 (q8 g n call (as.map (·.read ⟨fr,τ,s⟩)) .undef s)) fun x=>d8 call os (d.put x (c0 as ⟨fr,τ,s⟩)) k:=l7 call d as os ⟨fr,τ,s⟩ k rfl
theorem c0k (g:Bool) (n:Nat):d8 call (⟨d,.ldRo g n,as,none,none⟩::os) ⟨fr,τ,s⟩ k=obind (p1 (F1 g n call (as.map (·.read ⟨fr,τ,s⟩)) .undef s)) fun x=>d8 call os (d.put x (c0 as ⟨fr,τ,s⟩)) k:=l7 call d as os ⟨fr,τ,s⟩ k rfl
theorem c0x (g:Bool) (n:Nat):d8 call (⟨d,.ldAn g n,as,none,none⟩::os) ⟨fr,τ,s⟩ k=obind (p1 (r7 g n call (as.map (·.read ⟨fr,τ,s⟩)) .undef s)) fun x=>d8 call os (d.put x (c0 as ⟨fr,τ,s⟩)) k:=l7 call d as os ⟨fr,τ,s⟩ k rfl
theorem b7c (g:Bool) (n:Nat):d8 call (⟨d,.ldStR g n,as,none,none⟩::os) ⟨fr,τ,s⟩ k=obind (p1 (t8 g n call (as.map (·.read ⟨fr,τ,s⟩)) .undef s)) fun x=>d8 call os (d.put x (c0 as ⟨fr,τ,s⟩)) k:=l7 call d as os ⟨fr,τ,s⟩ k rfl
theorem c2M (n:Nat):d8 call (⟨d,.fad n,as,none,none⟩::os) ⟨fr,τ,s⟩ k=obind (p1 (G4 n call (as.map (·.read ⟨fr,τ,s⟩)) .undef s)) fun x=>d8 call os (d.put x (c0 as ⟨fr,τ,s⟩)) k:=l7 call d as os ⟨fr,τ,s⟩ k rfl
theorem c2q (o n:Nat) (g:Bool):d8 call (⟨d,.fld o n g,as,none,none⟩::os) ⟨fr,τ,s⟩ k=obind (p1 (J5 o n g call (as.map (·.read ⟨fr,τ,s⟩)) .undef s)) fun x=>d8 call os (d.put x (c0 as ⟨fr,τ,s⟩)) k:=l7 call d as os ⟨fr,τ,s⟩ k rfl
theorem c1F (n:Nat):d8 call (⟨d,.iad n,as,none,none⟩::os) ⟨fr,τ,s⟩ k=obind (p1 (E1 n call (as.map (·.read ⟨fr,τ,s⟩)) .undef s)) fun x=>d8 call os (d.put x (c0 as ⟨fr,τ,s⟩)) k:=l7 call d as os ⟨fr,τ,s⟩ k rfl
theorem b8F (l n:Nat):d8 call (⟨d,.iadA l n,as,none,none⟩::os) ⟨fr,τ,s⟩ k=obind (p1 (w9 l n call (as.map (·.read ⟨fr,τ,s⟩)) .undef s)) fun x=>d8 call os (d.put x (c0 as ⟨fr,τ,s⟩)) k:=l7 call d as os ⟨fr,τ,s⟩ k rfl
theorem b8o :d8 call (⟨d,.idxS,as,none,none⟩::os) ⟨fr,τ,s⟩ k=obind (p1 (D6 call (as.map (·.read ⟨fr,τ,s⟩)) .undef s)) fun x=>d8 call os (d.put x (c0 as ⟨fr,τ,s⟩)) k:=l7 call d as os ⟨fr,τ,s⟩ k rfl
theorem c1C (a b:Bool):d8 call (⟨d,.slS a b,as,none,none⟩::os) ⟨fr,τ,s⟩ k=obind (p1 (I5 a b call (as.map (·.read ⟨fr,τ,s⟩)) .undef s)) fun x=>d8 call os (d.put x (c0 as ⟨fr,τ,s⟩)) k:=l7 call d as os ⟨fr,τ,s⟩ k rfl
theorem c1X (n:Nat) (a b:Bool):d8 call (⟨d,.slL n a b,as,none,none⟩::os) ⟨fr,τ,s⟩ k=obind (p1 (F5 n a b call (as.map (·.read ⟨fr,τ,s⟩)) .undef s)) fun x=>d8 call os (d.put x (c0 as ⟨fr,τ,s⟩)) k:=l7 call d as os ⟨fr,τ,s⟩ k rfl
theorem c1U (n:Nat):d8 call (⟨d,.slO n,as,none,none⟩::os) ⟨fr,τ,s⟩ k=obind (p1 (N8 n call (as.map (·.read ⟨fr,τ,s⟩)) .undef s)) fun x=>d8 call os (d.put x (c0 as ⟨fr,τ,s⟩)) k:=l7 call d as os ⟨fr,τ,s⟩ k rfl
theorem c1f :d8 call (⟨d,.slZ,as,none,none⟩::os) ⟨fr,τ,s⟩ k=obind (p1 (M0 call (as.map (·.read ⟨fr,τ,s⟩)) .undef s)) fun x=>d8 call os (d.put x (c0 as ⟨fr,τ,s⟩)) k:=l7 call d as os ⟨fr,τ,s⟩ k rfl
theorem c2H (l n:Nat) (a b:Bool):d8 call (⟨d,.slA l n a b,as,none,none⟩::os) ⟨fr,τ,s⟩ k=obind (p1 (J7 l n a b call (as.map (·.read ⟨fr,τ,s⟩)) .undef s)) fun x=>d8 call os (d.put x (c0 as ⟨fr,τ,s⟩)) k:=l7 call d as os ⟨fr,τ,s⟩ k rfl
theorem c1E (o:BinOp):d8 call (⟨d,.bin o,as,none,none⟩::os) ⟨fr,τ,s⟩ k=obind (p1 (p9 o call (as.map (·.read ⟨fr,τ,s⟩)) .undef s)) fun x=>d8 call os (d.put x (c0 as ⟨fr,τ,s⟩)) k:=l7 call d as os ⟨fr,τ,s⟩ k rfl
theorem b9H (o:BinOp):d8 call (⟨d,.binB o,as,none,none⟩::os) ⟨fr,τ,s⟩ k=obind (p1 (I2 o call (as.map (·.read ⟨fr,τ,s⟩)) .undef s)) fun x=>d8 call os (d.put x (c0 as ⟨fr,τ,s⟩)) k:=l7 call d as os ⟨fr,τ,s⟩ k rfl
theorem b9c (o:BinOp):d8 call (⟨d,.binP o,as,none,none⟩::os) ⟨fr,τ,s⟩ k=obind (p1 (D7 o call (as.map (·.read ⟨fr,τ,s⟩)) .undef s)) fun x=>d8 call os (d.put x (c0 as ⟨fr,τ,s⟩)) k:=l7 call d as os ⟨fr,τ,s⟩ k rfl
theorem c7e (o:UnOp):d8 call (⟨d,.un o,as,none,none⟩::os) ⟨fr,τ,s⟩ k=obind (p1 (O0 o call (as.map (·.read ⟨fr,τ,s⟩)) .undef s)) fun x=>d8 call os (d.put x (c0 as ⟨fr,τ,s⟩)) k:=l7 call d as os ⟨fr,τ,s⟩ k rfl
theorem b9p (t:IntKind):d8 call (⟨d,.conv t,as,none,none⟩::os) ⟨fr,τ,s⟩ k=obind (p1 (H4 t call (as.map (·.read ⟨fr,τ,s⟩)) .undef s)) fun x=>d8 call os (d.put x (c0 as ⟨fr,τ,s⟩)) k:=l7 call d as os ⟨fr,τ,s⟩ k rfl
theorem c2t (f n:Nat):d8 call (⟨d,.mkF f n,as,none,none⟩::os) ⟨fr,τ,s⟩ k=obind (p1 (L3 f n call (as.map (·.read ⟨fr,τ,s⟩)) .undef s)) fun x=>d8 call os (d.put x (c0 as ⟨fr,τ,s⟩)) k:=l7 call d as os ⟨fr,τ,s⟩ k rfl
theorem c0o (a:Nat) (z:List AV) (b c:Bool):d8 call (⟨d,.mget a z b c,as,none,none⟩::os) ⟨fr,τ,s⟩ k=obind (p1 (K6 a z b c call (as.map (·.read ⟨fr,τ,s⟩)) .undef s)) fun x=>d8 call os (d.put x (c0 as ⟨fr,τ,s⟩)) k:=l7 call d as os ⟨fr,τ,s⟩ k rfl
theorem c1Q (n:Nat):d8 call (⟨d,.ext n,as,none,none⟩::os) ⟨fr,τ,s⟩ k=obind (p1 (H0 n call (as.map (·.read ⟨fr,τ,s⟩)) .undef s)) fun x=>d8 call os (d.put x (c0 as ⟨fr,τ,s⟩)) k:=l7 call d as os ⟨fr,τ,s⟩ k rfl
theorem b9S :d8 call (⟨d,.lenS,as,none,none⟩::os) ⟨fr,τ,s⟩ k=obind (p1 (I1 call (as.map (·.read ⟨fr,τ,s⟩)) .undef s)) fun x=>d8 call os (d.put x (c0 as ⟨fr,τ,s⟩)) k:=l7 call d as os ⟨fr,τ,s⟩ k rfl
theorem b9r :d8 call (⟨d,.lenL,as,none,none⟩::os) ⟨fr,τ,s⟩ k=obind (p1 (r8 call (as.map (·.read ⟨fr,τ,s⟩)) .undef s)) fun x=>d8 call os (d.put x (c0 as ⟨fr,τ,s⟩)) k:=l7 call d as os ⟨fr,τ,s⟩ k rfl
theorem c06 (n b:Nat):d8 call (⟨d,.app n b,as,none,none⟩::os) ⟨fr,τ,s⟩ k=obind (p1 (J6 n b call (as.map (·.read ⟨fr,τ,s⟩)) .undef s)) fun x=>d8 call os (d.put x (c0 as ⟨fr,τ,s⟩)) k:=l7 call d as os ⟨fr,τ,s⟩ k rfl
theorem c2m :d8 call (⟨d,.b2s,as,none,none⟩::os) ⟨fr,τ,s⟩ k=obind (p1 (J9 call (as.map (·.read ⟨fr,τ,s⟩)) .undef s)) fun x=>d8 call os (d.put x (c0 as ⟨fr,τ,s⟩)) k:=l7 call d as os ⟨fr,τ,s⟩ k rfl
theorem b59 (z:List AV) (o:List (Nat×Nat)) (x:Opd) (w:Bool) (h:e7 as=false):d8 call (⟨d,.build z o,as,none,some (x,w)⟩::os) ⟨fr,τ,s⟩ k=obind (gv (x.read ⟨fr,τ,s⟩) w (p1 (E4 z o call (as.map (·.read ⟨fr,τ,s⟩)) .undef s))) fun r=>d8 call os (d.put r ⟨fr,τ,s⟩) k:=l6 (by rw [h]; rfl)
theorem b4c (q:Nat) (z:List (List AV)) (t:List Nat) (x:Opd) (w:Bool) (h:e7 as=false):d8 call (⟨d,.bslice q z t,as,none,some (x,w)⟩::os) ⟨fr,τ,s⟩ k=obind (gv (x.read ⟨fr,τ,s⟩) w (p1 (D2 q z t call (as.map (·.read ⟨fr,τ,s⟩)) .undef s))) fun r=>d8 call os (d.put r ⟨fr,τ,s⟩) k:=l6 (by rw [h]; rfl)
theorem b1F (q:Nat) (z:List (List AV)) (t:List Nat) (x:Opd) (w:Bool) (h:e7 as=false):d8 call (⟨d,.bsliceM q z t,as,none,some (x,w)⟩::os) ⟨fr,τ,s⟩ k=obind (gv (x.read ⟨fr,τ,s⟩) w (p1 (B1 q z t call (as.map (·.read ⟨fr,τ,s⟩)) .undef s))) fun r=>d8 call os (d.put r ⟨fr,τ,s⟩) k:=l6 (by rw [h]; rfl)
theorem b7U (g:Bool) (n:Nat) (x:Opd) (w:Bool) (h:e7 as=false):d8 call (⟨d,.ldSt g n,as,none,some (x,w)⟩::os) ⟨fr,τ,s⟩ k=obind (gv (x.read ⟨fr,τ,s⟩) w (p1 (q8 g n call (as.map (·.read ⟨fr,τ,s⟩)) .undef s))) fun r=>d8 call os (d.put r ⟨fr,τ,s⟩) k:=l6 (by rw [h]; rfl)
theorem b9W (g:Bool) (n:Nat) (x:Opd) (w:Bool) (h:e7 as=false):d8 call (⟨d,.ldRo g n,as,none,some (x,w)⟩::os) ⟨fr,τ,s⟩ k=obind (gv (x.read ⟨fr,τ,s⟩) w (p1 (F1 g n call (as.map (·.read ⟨fr,τ,s⟩)) .undef s))) fun r=>d8 call os (d.put r ⟨fr,τ,s⟩) k:=l6 (by rw [h]; rfl)
theorem c0i (g:Bool) (n:Nat) (x:Opd) (w:Bool) (h:e7 as=false):d8 call (⟨d,.ldAn g n,as,none,some (x,w)⟩::os) ⟨fr,τ,s⟩ k=obind (gv (x.read ⟨fr,τ,s⟩) w (p1 (r7 g n call (as.map (·.read ⟨fr,τ,s⟩)) .undef s))) fun r=>d8 call os (d.put r ⟨fr,τ,s⟩) k:=l6 (by rw [h]; rfl)
theorem b7s (g:Bool) (n:Nat) (x:Opd) (w:Bool) (h:e7 as=false):d8 call (⟨d,.ldStR g n,as,none,some (x,w)⟩::os) ⟨fr,τ,s⟩ k=obind (gv (x.read ⟨fr,τ,s⟩) w (p1 (t8 g n call (as.map (·.read ⟨fr,τ,s⟩)) .undef s))) fun r=>d8 call os (d.put r ⟨fr,τ,s⟩) k:=l6 (by rw [h]; rfl)
theorem c2S (n:Nat) (x:Opd) (w:Bool) (h:e7 as=false):d8 call (⟨d,.fad n,as,none,some (x,w)⟩::os) ⟨fr,τ,s⟩ k=obind (gv (x.read ⟨fr,τ,s⟩) w (p1 (G4 n call (as.map (·.read ⟨fr,τ,s⟩)) .undef s))) fun r=>d8 call os (d.put r ⟨fr,τ,s⟩) k:=l6 (by rw [h]; rfl)
theorem c1p (o n:Nat) (g:Bool) (x:Opd) (w:Bool) (h:e7 as=false):d8 call (⟨d,.fld o n g,as,none,some (x,w)⟩::os) ⟨fr,τ,s⟩ k=obind (gv (x.read ⟨fr,τ,s⟩) w (p1 (J5 o n g call (as.map (·.read ⟨fr,τ,s⟩)) .undef s))) fun r=>d8 call os (d.put r ⟨fr,τ,s⟩) k:=l6 (by rw [h]; rfl)
theorem c1c (n:Nat) (x:Opd) (w:Bool) (h:e7 as=false):d8 call (⟨d,.iad n,as,none,some (x,w)⟩::os) ⟨fr,τ,s⟩ k=obind (gv (x.read ⟨fr,τ,s⟩) w (p1 (E1 n call (as.map (·.read ⟨fr,τ,s⟩)) .undef s))) fun r=>d8 call os (d.put r ⟨fr,τ,s⟩) k:=l6 (by rw [h]; rfl)
theorem b9U (l n:Nat) (x:Opd) (w:Bool) (h:e7 as=false):d8 call (⟨d,.iadA l n,as,none,some (x,w)⟩::os) ⟨fr,τ,s⟩ k=obind (gv (x.read ⟨fr,τ,s⟩) w (p1 (w9 l n call (as.map (·.read ⟨fr,τ,s⟩)) .undef s))) fun r=>d8 call os (d.put r ⟨fr,τ,s⟩) k:=l6 (by rw [h]; rfl)
theorem c1l (a b:Bool) (x:Opd) (w:Bool) (h:e7 as=false):d8 call (⟨d,.slS a b,as,none,some (x,w)⟩::os) ⟨fr,τ,s⟩ k=obind (gv (x.read ⟨fr,τ,s⟩) w (p1 (I5 a b call (as.map (·.read ⟨fr,τ,s⟩)) .undef s))) fun r=>d8 call os (d.put r ⟨fr,τ,s⟩) k:=l6 (by rw [h]; rfl)
theorem c04 (n:Nat) (a b:Bool) (x:Opd) (w:Bool) (h:e7 as=false):d8 call (⟨d,.slL n a b,as,none,some (x,w)⟩::os) ⟨fr,τ,s⟩ k=obind (gv (x.read ⟨fr,τ,s⟩) w (p1 (F5 n a b call (as.map (·.read ⟨fr,τ,s⟩)) .undef s))) fun r=>d8 call os (d.put r ⟨fr,τ,s⟩) k:=l6 (by rw [h]; rfl)
theorem c1W (l n:Nat) (a b:Bool) (x:Opd) (w:Bool) (h:e7 as=false):d8 call (⟨d,.slA l n a b,as,none,some (x,w)⟩::os) ⟨fr,τ,s⟩ k=obind (gv (x.read ⟨fr,τ,s⟩) w (p1 (J7 l n a b call (as.map (·.read ⟨fr,τ,s⟩)) .undef s))) fun r=>d8 call os (d.put r ⟨fr,τ,s⟩) k:=l6 (by rw [h]; rfl)
theorem c0Z (o:BinOp) (x:Opd) (w:Bool) (h:e7 as=false):d8 call (⟨d,.bin o,as,none,some (x,w)⟩::os) ⟨fr,τ,s⟩ k=obind (gv (x.read ⟨fr,τ,s⟩) w (p1 (p9 o call (as.map (·.read ⟨fr,τ,s⟩)) .undef s))) fun r=>d8 call os (d.put r ⟨fr,τ,s⟩) k:=l6 (by rw [h]; rfl)
theorem b9O (o:BinOp) (x:Opd) (w:Bool) (h:e7 as=false):d8 call (⟨d,.binB o,as,none,some (x,w)⟩::os) ⟨fr,τ,s⟩ k=obind (gv (x.read ⟨fr,τ,s⟩) w (p1 (I2 o call (as.map (·.read ⟨fr,τ,s⟩)) .undef s))) fun r=>d8 call os (d.put r ⟨fr,τ,s⟩) k:=l6 (by rw [h]; rfl)
theorem c0r (o:BinOp) (x:Opd) (w:Bool) (h:e7 as=false):d8 call (⟨d,.binP o,as,none,some (x,w)⟩::os) ⟨fr,τ,s⟩ k=obind (gv (x.read ⟨fr,τ,s⟩) w (p1 (D7 o call (as.map (·.read ⟨fr,τ,s⟩)) .undef s))) fun r=>d8 call os (d.put r ⟨fr,τ,s⟩) k:=l6 (by rw [h]; rfl)
theorem c3h (o:UnOp) (x:Opd) (w:Bool) (h:e7 as=false):d8 call (⟨d,.un o,as,none,some (x,w)⟩::os) ⟨fr,τ,s⟩ k=obind (gv (x.read ⟨fr,τ,s⟩) w (p1 (O0 o call (as.map (·.read ⟨fr,τ,s⟩)) .undef s))) fun r=>d8 call os (d.put r ⟨fr,τ,s⟩) k:=l6 (by rw [h]; rfl)
theorem b9o (t:IntKind) (x:Opd) (w:Bool) (h:e7 as=false):d8 call (⟨d,.conv t,as,none,some (x,w)⟩::os) ⟨fr,τ,s⟩ k=obind (gv (x.read ⟨fr,τ,s⟩) w (p1 (H4 t call (as.map (·.read ⟨fr,τ,s⟩)) .undef s))) fun r=>d8 call os (d.put r ⟨fr,τ,s⟩) k:=l6 (by rw [h]; rfl)
theorem c08 (f n:Nat) (x:Opd) (w:Bool) (h:e7 as=false):d8 call (⟨d,.mkF f n,as,none,some (x,w)⟩::os) ⟨fr,τ,s⟩ k=obind (gv (x.read ⟨fr,τ,s⟩) w (p1 (L3 f n call (as.map (·.read ⟨fr,τ,s⟩)) .undef s))) fun r=>d8 call os (d.put r ⟨fr,τ,s⟩) k:=l6 (by rw [h]; rfl)
theorem b83 (a:Nat) (z:List AV) (b c:Bool) (x:Opd) (w:Bool) (h:e7 as=false):d8 call (⟨d,.mget a z b c,as,none,some (x,w)⟩::os) ⟨fr,τ,s⟩ k=obind (gv (x.read ⟨fr,τ,s⟩) w (p1 (K6 a z b c call (as.map (·.read ⟨fr,τ,s⟩)) .undef s))) fun r=>d8 call os (d.put r ⟨fr,τ,s⟩) k:=l6 (by rw [h]; rfl)
theorem c1G (n:Nat) (x:Opd) (w:Bool) (h:e7 as=false):d8 call (⟨d,.ext n,as,none,some (x,w)⟩::os) ⟨fr,τ,s⟩ k=obind (gv (x.read ⟨fr,τ,s⟩) w (p1 (H0 n call (as.map (·.read ⟨fr,τ,s⟩)) .undef s))) fun r=>d8 call os (d.put r ⟨fr,τ,s⟩) k:=l6 (by rw [h]; rfl)
theorem c2g (n b:Nat) (x:Opd) (w:Bool) (h:e7 as=false):d8 call (⟨d,.app n b,as,none,some (x,w)⟩::os) ⟨fr,τ,s⟩ k=obind (gv (x.read ⟨fr,τ,s⟩) w (p1 (J6 n b call (as.map (·.read ⟨fr,τ,s⟩)) .undef s))) fun r=>d8 call os (d.put r ⟨fr,τ,s⟩) k:=l6 (by rw [h]; rfl)
theorem b9k (i:Nat) (g:Bool) (n:Nat) (j:Nat) (h:e7 as=false):d8 call (⟨d,.ldLc i g n,as,some j,none⟩::os) ⟨fr,τ,s⟩ k=obind (p1 (C2 i g n call (as.map (·.read ⟨fr,τ,s⟩)) (fr.getD j .undef) s)) fun r=>d8 call os (d.put r ⟨fr,τ,s⟩) k:=c01 (by rw [h]; rfl)
theorem b7x (i:Nat) (g:Bool) (n:Nat) (j:Nat) (x:Opd) (w:Bool) (h:e7 as=false):d8 call (⟨d,.ldLc i g n,as,some j,some (x,w)⟩::os) ⟨fr,τ,s⟩ k=obind (gv (x.read ⟨fr,τ,s⟩) w (p1 (C2 i g n call (as.map (·.read ⟨fr,τ,s⟩)) (fr.getD j .undef) s))) fun r=>d8 call os (d.put r ⟨fr,τ,s⟩) k:=l6 (by rw [h]; rfl)
theorem b3j (z:List AV):d8 call (⟨d,.allocO z,as,none,none⟩::os) ⟨fr,τ,s⟩ k=obind (p2 (z7 z call (as.map (·.read ⟨fr,τ,s⟩)) .undef s)) fun x=>d8 call os (d.put x.1 { c0 as ⟨fr,τ,s⟩ with st:=x.2 }) k:=L1 call d as os ⟨fr,τ,s⟩ k
theorem b1y (z:List AV) (x:Opd) (w:Bool) (h:e7 as=false):d8 call (⟨d,.allocO z,as,none,some (x,w)⟩::os) ⟨fr,τ,s⟩ k=obind (gv2 (x.read ⟨fr,τ,s⟩) w s (p2 (z7 z call (as.map (·.read ⟨fr,τ,s⟩)) .undef s))) fun r=>d8 call os (d.put r.1 ⟨fr,τ,r.2⟩) k:=I0 rfl rfl h
theorem b86:d8 call (⟨d,.boxO,as,none,none⟩::os) ⟨fr,τ,s⟩ k=obind (p2 (F3 call (as.map (·.read ⟨fr,τ,s⟩)) .undef s)) fun x=>d8 call os (d.put x.1 { c0 as ⟨fr,τ,s⟩ with st:=x.2 }) k:=L1 call d as os ⟨fr,τ,s⟩ k
theorem b6I (x:Opd) (w:Bool) (h:e7 as=false):d8 call (⟨d,.boxO,as,none,some (x,w)⟩::os) ⟨fr,τ,s⟩ k=obind (gv2 (x.read ⟨fr,τ,s⟩) w s (p2 (F3 call (as.map (·.read ⟨fr,τ,s⟩)) .undef s))) fun r=>d8 call os (d.put r.1 ⟨fr,τ,r.2⟩) k:=I0 rfl rfl h
theorem b2J (q:Nat) (z:List (List AV)) (t:List Nat):d8 call (⟨d,.bsliceO q z t,as,none,none⟩::os) ⟨fr,τ,s⟩ k=obind (p2 (z8 q z t call (as.map (·.read ⟨fr,τ,s⟩)) .undef s)) fun x=>d8 call os (d.put x.1 { c0 as ⟨fr,τ,s⟩ with st:=x.2 }) k:=L1 call d as os ⟨fr,τ,s⟩ k
theorem a9i (q:Nat) (z:List (List AV)) (t:List Nat) (x:Opd) (w:Bool) (h:e7 as=false):d8 call (⟨d,.bsliceO q z t,as,none,some (x,w)⟩::os) ⟨fr,τ,s⟩ k=obind (gv2 (x.read ⟨fr,τ,s⟩) w s (p2 (z8 q z t call (as.map (·.read ⟨fr,τ,s⟩)) .undef s))) fun r=>d8 call os (d.put r.1 ⟨fr,τ,r.2⟩) k:=I0 rfl rfl h
theorem b9q (n b:Nat):d8 call (⟨d,.appM n b,as,none,none⟩::os) ⟨fr,τ,s⟩ k=obind (p2 (q6 n b call (as.map (·.read ⟨fr,τ,s⟩)) .undef s)) fun x=>d8 call os (d.put x.1 { c0 as ⟨fr,τ,s⟩ with st:=x.2 }) k:=L1 call d as os ⟨fr,τ,s⟩ k
theorem b6A (n b:Nat) (x:Opd) (w:Bool) (h:e7 as=false):d8 call (⟨d,.appM n b,as,none,some (x,w)⟩::os) ⟨fr,τ,s⟩ k=obind (gv2 (x.read ⟨fr,τ,s⟩) w s (p2 (q6 n b call (as.map (·.read ⟨fr,τ,s⟩)) .undef s))) fun r=>d8 call os (d.put r.1 ⟨fr,τ,r.2⟩) k:=I0 rfl rfl h
theorem b41 (n:Nat):d8 call (⟨d,.ldStSR n,as,none,none⟩::os) ⟨fr,τ,s⟩ k=obind (p2 (s7 n call (as.map (·.read ⟨fr,τ,s⟩)) .undef s)) fun x=>d8 call os (d.put x.1 { c0 as ⟨fr,τ,s⟩ with st:=x.2 }) k:=L1 call d as os ⟨fr,τ,s⟩ k
theorem b2B (n:Nat) (x:Opd) (w:Bool) (h:e7 as=false):d8 call (⟨d,.ldStSR n,as,none,some (x,w)⟩::os) ⟨fr,τ,s⟩ k=obind (gv2 (x.read ⟨fr,τ,s⟩) w s (p2 (s7 n call (as.map (·.read ⟨fr,τ,s⟩)) .undef s))) fun r=>d8 call os (d.put r.1 ⟨fr,τ,r.2⟩) k:=I0 rfl rfl h
theorem b7G (n:Nat):d8 call (⟨d,.stStA n,as,none,none⟩::os) ⟨fr,τ,s⟩ k=obind (p2 (s4 n call (as.map (·.read ⟨fr,τ,s⟩)) .undef s)) fun x=>d8 call os (d.put x.1 { c0 as ⟨fr,τ,s⟩ with st:=x.2 }) k:=L1 call d as os ⟨fr,τ,s⟩ k
theorem b49 (n:Nat) (x:Opd) (w:Bool) (h:e7 as=false):d8 call (⟨d,.stStA n,as,none,some (x,w)⟩::os) ⟨fr,τ,s⟩ k=obind (gv2 (x.read ⟨fr,τ,s⟩) w s (p2 (s4 n call (as.map (·.read ⟨fr,τ,s⟩)) .undef s))) fun r=>d8 call os (d.put r.1 ⟨fr,τ,r.2⟩) k:=I0 rfl rfl h
theorem b60 (f m:Nat):d8 call (⟨d,.callA f m,as,none,none⟩::os) ⟨fr,τ,s⟩ k=obind (p2 (r9 f m call (as.map (·.read ⟨fr,τ,s⟩)) .undef s)) fun x=>d8 call os (d.put x.1 { c0 as ⟨fr,τ,s⟩ with st:=x.2 }) k:=L1 call d as os ⟨fr,τ,s⟩ k
theorem b3g (f m:Nat) (x:Opd) (w:Bool) (h:e7 as=false):d8 call (⟨d,.callA f m,as,none,some (x,w)⟩::os) ⟨fr,τ,s⟩ k=obind (gv2 (x.read ⟨fr,τ,s⟩) w s (p2 (r9 f m call (as.map (·.read ⟨fr,τ,s⟩)) .undef s))) fun r=>d8 call os (d.put r.1 ⟨fr,τ,r.2⟩) k:=I0 rfl rfl h
theorem b5E:d8 call (⟨d,.ldStS,as,none,none⟩::os) ⟨fr,τ,s⟩ k=obind (p2 (r5 call (as.map (·.read ⟨fr,τ,s⟩)) .undef s)) fun x=>d8 call os (d.put x.1 { c0 as ⟨fr,τ,s⟩ with st:=x.2 }) k:=L1 call d as os ⟨fr,τ,s⟩ k
theorem b3B (x:Opd) (w:Bool) (h:e7 as=false):d8 call (⟨d,.ldStS,as,none,some (x,w)⟩::os) ⟨fr,τ,s⟩ k=obind (gv2 (x.read ⟨fr,τ,s⟩) w s (p2 (r5 call (as.map (·.read ⟨fr,τ,s⟩)) .undef s))) fun r=>d8 call os (d.put r.1 ⟨fr,τ,r.2⟩) k:=I0 rfl rfl h
theorem b8B (n:Nat):d8 call (⟨d,.stSt n,as,none,none⟩::os) ⟨fr,τ,s⟩ k=obind (p2 (s8 n call (as.map (·.read ⟨fr,τ,s⟩)) .undef s)) fun x=>d8 call os (d.put x.1 { c0 as ⟨fr,τ,s⟩ with st:=x.2 }) k:=L1 call d as os ⟨fr,τ,s⟩ k
theorem b6z (n:Nat) (x:Opd) (w:Bool) (h:e7 as=false):d8 call (⟨d,.stSt n,as,none,some (x,w)⟩::os) ⟨fr,τ,s⟩ k=obind (gv2 (x.read ⟨fr,τ,s⟩) w s (p2 (s8 n call (as.map (·.read ⟨fr,τ,s⟩)) .undef s))) fun r=>d8 call os (d.put r.1 ⟨fr,τ,r.2⟩) k:=I0 rfl rfl h
theorem c1a:d8 call (⟨d,.mkM,as,none,none⟩::os) ⟨fr,τ,s⟩ k=obind (p2 (M2 call (as.map (·.read ⟨fr,τ,s⟩)) .undef s)) fun x=>d8 call os (d.put x.1 { c0 as ⟨fr,τ,s⟩ with st:=x.2 }) k:=L1 call d as os ⟨fr,τ,s⟩ k
theorem c0R (x:Opd) (w:Bool) (h:e7 as=false):d8 call (⟨d,.mkM,as,none,some (x,w)⟩::os) ⟨fr,τ,s⟩ k=obind (gv2 (x.read ⟨fr,τ,s⟩) w s (p2 (M2 call (as.map (·.read ⟨fr,τ,s⟩)) .undef s))) fun r=>d8 call os (d.put r.1 ⟨fr,τ,r.2⟩) k:=I0 rfl rfl h
theorem b8j (n:Nat):d8 call (⟨d,.mdel n,as,none,none⟩::os) ⟨fr,τ,s⟩ k=obind (p2 (F2 n call (as.map (·.read ⟨fr,τ,s⟩)) .undef s)) fun x=>d8 call os (d.put x.1 { c0 as ⟨fr,τ,s⟩ with st:=x.2 }) k:=L1 call d as os ⟨fr,τ,s⟩ k
theorem c0H (n:Nat):d8 call (⟨d,.mset n,as,none,none⟩::os) ⟨fr,τ,s⟩ k=obind (p2 (D5 n call (as.map (·.read ⟨fr,τ,s⟩)) .undef s)) fun x=>d8 call os (d.put x.1 { c0 as ⟨fr,τ,s⟩ with st:=x.2 }) k:=L1 call d as os ⟨fr,τ,s⟩ k
theorem b7h (n:Nat) (x:Opd) (w:Bool) (h:e7 as=false):d8 call (⟨d,.mset n,as,none,some (x,w)⟩::os) ⟨fr,τ,s⟩ k=obind (gv2 (x.read ⟨fr,τ,s⟩) w s (p2 (D5 n call (as.map (·.read ⟨fr,τ,s⟩)) .undef s))) fun r=>d8 call os (d.put r.1 ⟨fr,τ,r.2⟩) k:=I0 rfl rfl h
theorem b9N (f:Nat):d8 call (⟨d,.call f,as,none,none⟩::os) ⟨fr,τ,s⟩ k=obind (p2 (n6 f call (as.map (·.read ⟨fr,τ,s⟩)) .undef s)) fun x=>d8 call os (d.put x.1 { c0 as ⟨fr,τ,s⟩ with st:=x.2 }) k:=L1 call d as os ⟨fr,τ,s⟩ k
theorem b6u (f:Nat) (x:Opd) (w:Bool) (h:e7 as=false):d8 call (⟨d,.call f,as,none,some (x,w)⟩::os) ⟨fr,τ,s⟩ k=obind (gv2 (x.read ⟨fr,τ,s⟩) w s (p2 (n6 f call (as.map (·.read ⟨fr,τ,s⟩)) .undef s))) fun r=>d8 call os (d.put r.1 ⟨fr,τ,r.2⟩) k:=I0 rfl rfl h
theorem b6t:d8 call (⟨d,.callV,as,none,none⟩::os) ⟨fr,τ,s⟩ k=obind (p2 (v7 call (as.map (·.read ⟨fr,τ,s⟩)) .undef s)) fun x=>d8 call os (d.put x.1 { c0 as ⟨fr,τ,s⟩ with st:=x.2 }) k:=L1 call d as os ⟨fr,τ,s⟩ k
theorem b4C (x:Opd) (w:Bool) (h:e7 as=false):d8 call (⟨d,.callV,as,none,some (x,w)⟩::os) ⟨fr,τ,s⟩ k=obind (gv2 (x.read ⟨fr,τ,s⟩) w s (p2 (v7 call (as.map (·.read ⟨fr,τ,s⟩)) .undef s))) fun r=>d8 call os (d.put r.1 ⟨fr,τ,r.2⟩) k:=I0 rfl rfl h
theorem b5B (z:List AV) (j:Nat):d8 call (⟨d,.alloc z,as,some j,none⟩::os) ⟨fr,τ,s⟩ k=obind (J3 z call (as.map (·.read ⟨fr,τ,s⟩)) (fr.getD j .undef) s) fun x=>d8 call os (d.put x.1 { c0 as ⟨fr,τ,s⟩ with fr:=(c0 as ⟨fr,τ,s⟩).fr.set j x.2.1,st:=x.2.2 }) k:=a4J call d as os ⟨fr,τ,s⟩ k j
theorem b9K (j:Nat):d8 call (⟨d,.boxV,as,some j,none⟩::os) ⟨fr,τ,s⟩ k=obind (K4 call (as.map (·.read ⟨fr,τ,s⟩)) (fr.getD j .undef) s) fun x=>d8 call os (d.put x.1 { c0 as ⟨fr,τ,s⟩ with fr:=(c0 as ⟨fr,τ,s⟩).fr.set j x.2.1,st:=x.2.2 }) k:=a4J call d as os ⟨fr,τ,s⟩ k j
theorem b6n (i:Nat) (j:Nat):d8 call (⟨d,.ldLcS i,as,some j,none⟩::os) ⟨fr,τ,s⟩ k=obind (E5 i call (as.map (·.read ⟨fr,τ,s⟩)) (fr.getD j .undef) s) fun x=>d8 call os (d.put x.1 { c0 as ⟨fr,τ,s⟩ with fr:=(c0 as ⟨fr,τ,s⟩).fr.set j x.2.1,st:=x.2.2 }) k:=a4J call d as os ⟨fr,τ,s⟩ k j
theorem b9X (i n:Nat) (j:Nat):d8 call (⟨d,.stLc i n,as,some j,none⟩::os) ⟨fr,τ,s⟩ k=obind (F0 i n call (as.map (·.read ⟨fr,τ,s⟩)) (fr.getD j .undef) s) fun x=>d8 call os (d.put x.1 { c0 as ⟨fr,τ,s⟩ with fr:=(c0 as ⟨fr,τ,s⟩).fr.set j x.2.1,st:=x.2.2 }) k:=a4J call d as os ⟨fr,τ,s⟩ k j
theorem c5b (x:Opd) (w:Bool) (h:e7 as=false):d8 call (⟨d,.mv,as,none,some (x,w)⟩::os) ⟨fr,τ,s⟩ k=obind (gv (x.read ⟨fr,τ,s⟩) w (p1 (S5 call (as.map (·.read ⟨fr,τ,s⟩)) .undef s))) fun r=>d8 call os (d.put r ⟨fr,τ,s⟩) k:=l6 (by rw [h]; rfl)
theorem c0F (x:Opd) (w:Bool) (h:e7 as=false):d8 call (⟨d,.pick,as,none,some (x,w)⟩::os) ⟨fr,τ,s⟩ k=obind (gv (x.read ⟨fr,τ,s⟩) w (p1 (q7 call (as.map (·.read ⟨fr,τ,s⟩)) .undef s))) fun r=>d8 call os (d.put r ⟨fr,τ,s⟩) k:=l6 (by rw [h]; rfl)
theorem b25 (x:Opd) (w:Bool) (h:e7 as=false):d8 call (⟨d,.nilchk,as,none,some (x,w)⟩::os) ⟨fr,τ,s⟩ k=obind (gv (x.read ⟨fr,τ,s⟩) w (p1 (r6 call (as.map (·.read ⟨fr,τ,s⟩)) .undef s))) fun r=>d8 call os (d.put r ⟨fr,τ,s⟩) k:=l6 (by rw [h]; rfl)
theorem b92 (x:Opd) (w:Bool) (h:e7 as=false):d8 call (⟨d,.idxS,as,none,some (x,w)⟩::os) ⟨fr,τ,s⟩ k=obind (gv (x.read ⟨fr,τ,s⟩) w (p1 (D6 call (as.map (·.read ⟨fr,τ,s⟩)) .undef s))) fun r=>d8 call os (d.put r ⟨fr,τ,s⟩) k:=l6 (by rw [h]; rfl)
theorem c1x (x:Opd) (w:Bool) (h:e7 as=false):d8 call (⟨d,.slZ,as,none,some (x,w)⟩::os) ⟨fr,τ,s⟩ k=obind (gv (x.read ⟨fr,τ,s⟩) w (p1 (M0 call (as.map (·.read ⟨fr,τ,s⟩)) .undef s))) fun r=>d8 call os (d.put r ⟨fr,τ,s⟩) k:=l6 (by rw [h]; rfl)
theorem b8Z (x:Opd) (w:Bool) (h:e7 as=false):d8 call (⟨d,.lenS,as,none,some (x,w)⟩::os) ⟨fr,τ,s⟩ k=obind (gv (x.read ⟨fr,τ,s⟩) w (p1 (I1 call (as.map (·.read ⟨fr,τ,s⟩)) .undef s))) fun r=>d8 call os (d.put r ⟨fr,τ,s⟩) k:=l6 (by rw [h]; rfl)
theorem b9D (x:Opd) (w:Bool) (h:e7 as=false):d8 call (⟨d,.lenL,as,none,some (x,w)⟩::os) ⟨fr,τ,s⟩ k=obind (gv (x.read ⟨fr,τ,s⟩) w (p1 (r8 call (as.map (·.read ⟨fr,τ,s⟩)) .undef s))) fun r=>d8 call os (d.put r ⟨fr,τ,s⟩) k:=l6 (by rw [h]; rfl)
theorem c1P (x:Opd) (w:Bool) (h:e7 as=false):d8 call (⟨d,.b2s,as,none,some (x,w)⟩::os) ⟨fr,τ,s⟩ k=obind (gv (x.read ⟨fr,τ,s⟩) w (p1 (J9 call (as.map (·.read ⟨fr,τ,s⟩)) .undef s))) fun r=>d8 call os (d.put r ⟨fr,τ,s⟩) k:=l6 (by rw [h]; rfl)
end
set_option linter.defProp false in
def VV:=And.intro (And.intro @b8j @c1U) (And.intro (And.intro (And.intro (And.intro (And.intro (And.intro @b87 (And.intro @b0T @a8G)) (And.intro (And.intro @c6T @c09) (And.intro @c3J @c1K))) (And.intro (And.intro (And.intro @c4V @c5p) (And.intro @c1o @put_t)) (And.intro (And.intro @put_v @c1M) (And.intro @c2k @c32)))) (And.intro (And.intro (And.intro (And.intro @c5B @c6r) (And.intro @c3g @c2Z)) (And.intro (And.intro @c5u @c1A) (And.intro @c1d @c5C))) (And.intro (And.intro (And.intro @c3t @c29) (And.intro @c5r @c3O)) (And.intro (And.intro @b9f @b29) (And.intro @b6R @b4T))))) (And.intro (And.intro (And.intro (And.intro @b1O (And.intro @c0w @c0k)) (And.intro (And.intro @c0x @b7c) (And.intro @c2M @c2q))) (And.intro (And.intro (And.intro @c1F @b8F) (And.intro @b8o @c1C)) (And.intro (And.intro @c1X @c1f) (And.intro @c2H @c1E)))) (And.intro (And.intro (And.intro (And.intro @b9H @b9c) (And.intro @c7e @b9p)) (And.intro (And.intro @c2t @c0o) (And.intro @c1Q @b9S))) (And.intro (And.intro (And.intro @b9r @c06) (And.intro @c2m @b59)) (And.intro (And.intro @b4c @b1F) (And.intro @b7U @b9W)))))) (And.intro (And.intro (And.intro (And.intro (And.intro @c0i (And.intro @b7s @c2S)) (And.intro (And.intro @c1p @c1c) (And.intro @b9U @c1l))) (And.intro (And.intro (And.intro @c04 @c1W) (And.intro @c0Z @b9O)) (And.intro (And.intro @c0r @c3h) (And.intro @b9o @c08)))) (And.intro (And.intro (And.intro (And.intro @b83 @c1G) (And.intro @c2g @b9k)) (And.intro (And.intro @b7x @b3j) (And.intro @b1y @b86))) (And.intro (And.intro (And.intro @b6I @b2J) (And.intro @a9i @b9q)) (And.intro (And.intro @b6A @b41) (And.intro @b2B @b7G))))) (And.intro (And.intro (And.intro (And.intro (And.intro @b49 @b60) (And.intro @b3g @b5E)) (And.intro (And.intro @b3B @b8B) (And.intro @b6z @c1a))) (And.intro (And.intro (And.intro @c0R @c0H) (And.intro @b7h @b9N)) (And.intro (And.intro @b6u @b6t) (And.intro @b4C @b5B)))) (And.intro (And.intro (And.intro (And.intro @b9K @b6n) (And.intro @b9X @c3S)) (And.intro (And.intro @c48 @c5A) (And.intro @c4i @c7k))) (And.intro (And.intro (And.intro @c5b @c0F) (And.intro @b25 @b92)) (And.intro (And.intro @c1x @b8Z) (And.intro @b9D @c1P)))))))
end Go.Cb.V
/-
 THE ABSTRACT MACHINE, part 60: the same run at a store whose objects lie elsewhere.
-/
set_option maxRecDepth 4000
set_option linter.unusedVariables false
set_option linter.unusedSimpArgs false
namespace Go.Cb
mutual
def AV.rn (ρ:Nat→Nat):AV→AV
 | .undef=>.undef
 | .bool b=>.bool b
 | .int k n=>.int k n
 | .str s=>.str s
 | .list o xs=>.list o (N4 ρ xs)
 | .ptr o f=>.ptr (ρ o) f
 | .nilp=>.nilp
 | .ro cs=>.ro (I3 ρ cs)
 | .loc i f=>.loc i f
 | .box cs=>.box (I3 ρ cs)
 | .map o=>.map (ρ o)
 | .nilm=>.nilm
 | .func f a c=>.func f (I3 ρ a) (I3 ρ c)
 | .nilf=>.nilf
 | .agg cs=>.agg (I3 ρ cs)
 | .tuple vs=>.tuple (I3 ρ vs)
 | .iface t v=>.iface t (v.rn ρ)
 | .nili=>.nili
 | .sl o f n s=>.sl (ρ o) f n s
 | .fresh xs=>.fresh (N4 ρ xs)
 | .nils=>.nils
def I3 (ρ:Nat→Nat):List AV→List AV
 | []=>[]
 | a::as=>a.rn ρ::I3 ρ as
def N4 (ρ:Nat→Nat):List (List AV)→List (List AV)
 | []=>[]
 | r::rs=>I3 ρ r::N4 ρ rs
end
def Obj.rn (ρ:Nat→Nat):Obj→Obj
 | .cells cs=>.cells (cs.map (AV.rn ρ))
 | .map es=>.map (es.map fun e=>(e.1.rn ρ,e.2.rn ρ))
 | .dead=>.dead
structure Rn where
 ρ:Nat→Nat
 ms:St→St
 G:St→Prop
 inj:∀ {a b:Nat},ρ a=ρ b ↔ a=b
 len:∀ {st:St},G st→ρ st.length=(ms st).length
 get:∀ {st:St},G st→∀ o:Nat,(ms st)[ρ o]?=(st[o]?).map (Obj.rn ρ)
 app:∀ {st:St} {x:Obj},G st→G (st++[x])
 apps:∀ {st:St},G st→∀ x:Obj,ms (st++[x])=ms st++[x.rn ρ]
 set:∀ {st:St} {o:Nat} {x:Obj},G st→G (st.set o x)
 sets:∀ {st:St},G st→∀ (o:Nat) (x:Obj),ms (st.set o x)=(ms st).set (ρ o) (x.rn ρ)

namespace RN
open Classical
section
variable {R:Rn}
theorem k6:∀ as:List AV,I3 R.ρ as=as.map (AV.rn R.ρ)
 | []=>rfl
 | a::as=>by rw [I3,k6 as]; rfl
theorem n7:∀ rs:List (List AV),N4 R.ρ rs=rs.map (·.map (AV.rn R.ρ))
 | []=>rfl
 | r::rs=>by rw [N4,n7 rs,k6]; rfl
theorem b1P {a b:Nat}:Nat.beq a b=false ↔ a≠b:=by
 rw [← Bool.not_eq_true,Nat.beq_eq]
theorem a1p (a:AV):(a.weak1).rn R.ρ=(a.rn R.ρ).weak1:=by cases a <;> simp only [AV.weak1,AV.rn]
theorem O9 (cs:List AV):(cs.map AV.weak1).map (AV.rn R.ρ)=(cs.map (AV.rn R.ρ)).map AV.weak1:=by
 rw [List.map_map,List.map_map]
 exact List.map_congr_left fun a _=>a1p a
theorem N1 (a:AV):(a.weak).rn R.ρ=(a.rn R.ρ).weak:=by
 cases a <;> simp only [AV.weak,AV.rn,k6,O9]
theorem a3h (cs:List AV):(cs.map AV.weak).map (AV.rn R.ρ)=(cs.map (AV.rn R.ρ)).map AV.weak:=by
 rw [List.map_map,List.map_map]
 exact List.map_congr_left fun a _=>N1 a
theorem a0c (a:AV):(a.rn R.ρ).cells=a.cells.map (AV.rn R.ρ):=by cases a <;> simp only [AV.cells,AV.rn,k6,List.map_cons,List.map_nil]
theorem a4k (a:AV):(a.rn R.ρ).cellsW=a.cellsW.map (AV.rn R.ρ):=by
 cases a <;> simp only [AV.cellsW,AV.rn,k6,n7,List.map_cons,List.map_nil,List.isEmpty_map]
theorem b12 (a:AV):(a.rn R.ρ).cellW1=a.cellW1.rn R.ρ:=by
 cases a <;> simp only [AV.cellW1,AV.rn,k6,n7,List.isEmpty_map]
theorem b0e (cs:List AV):(cs.map (AV.rn R.ρ)).map AV.cellW1=(cs.map AV.cellW1).map (AV.rn R.ρ):=by
 rw [List.map_map,List.map_map]
 exact List.map_congr_left fun a _=>b12 a
theorem G6 (a:AV):(a.rn R.ρ).plain=a.plain:=by cases a <;> rfl
theorem S9:∀ as:List AV,m7 (as.map (AV.rn R.ρ))=m7 as
 | []=>rfl
 | a::as=>by rw [List.map_cons,m7,m7,G6,S9 as]
theorem b4X (a:AV):(a.strip).rn R.ρ=(a.rn R.ρ).strip:=by cases a <;> rfl
theorem b2D (a:AV):(a.stripB).rn R.ρ=(a.rn R.ρ).stripB:=by cases a <;> rfl
theorem C7 (ag:Bool) (n:Nat) (cs:List AV):g8 ag n (cs.map (AV.rn R.ρ))=(g8 ag n cs).map (AV.rn R.ρ):=by
 unfold g8
 rw [List.length_map]
 split
 · split
   · rw [Option.map_some,← List.map_take,AV.rn,k6,O9]
   · rfl
 · cases cs with
   | nil=>rfl
   | cons c cs=>rw [List.map_cons]; dsimp only; rw [Option.map_some,a1p]
theorem P2 (n:Nat) (cs:List AV):(cs.map (AV.rn R.ρ)).drop n=(cs.drop n).map (AV.rn R.ρ):=(List.map_drop).symm
theorem a1U (cs new:List AV) (off:Nat):m3 (cs.map (AV.rn R.ρ)) off (new.map (AV.rn R.ρ))=(m3 cs off new).map (AV.rn R.ρ):=by
 unfold m3
 rw [List.map_append,List.map_append,List.length_map,List.map_take,List.map_drop]
theorem F9 (sz:Nat) (xs:List (List AV)):i8 sz (xs.map (·.map (AV.rn R.ρ)))=i8 sz xs:=by
 cases xs with
 | nil=>rfl
 | cons r rs=>simp only [List.map_cons,i8,List.length_map]
theorem a2G:∀ (offs:List (Nat×Nat)) (ps cs out:List AV),o9 offs ps cs=some out→o9 offs (ps.map (AV.rn R.ρ)) (cs.map (AV.rn R.ρ))=some (out.map (AV.rn R.ρ))
 | [],[],cs,out,h=>by simp only [o9] at h ⊢; cases h; rfl
 | (off,n)::offs,p::ps,cs,out,h=>by
  rw [o9] at h
  split at h
  · rename_i hc
    rw [List.map_cons,o9,G6,a0c,List.length_map,List.length_map,if_pos hc,a1U]
    exact a2G offs ps _ out h
  · cases h
 | [],_::_,_,_,h=>by simp [o9] at h
 | _::_,[],_,_,h=>by simp [o9] at h
theorem a2B (sz:Nat):∀ (is:List Nat) (ps:List AV) (rs out:List (List AV)),n8 sz is ps rs=some out→n8 sz is (ps.map (AV.rn R.ρ)) (rs.map (·.map (AV.rn R.ρ)))=some (out.map (·.map (AV.rn R.ρ)))
 | [],[],rs,out,h=>by simp only [n8] at h ⊢; cases h; rfl
 | i::is,p::ps,rs,out,h=>by
  rw [n8] at h
  split at h
  · rename_i hc
    rw [List.map_cons,n8,G6,a0c,List.length_map,List.length_map,if_pos hc,← O9,← List.map_set]
    exact a2B sz is ps _ out h
  · cases h
 | [],_::_,_,_,h=>by simp [n8] at h
 | _::_,[],_,_,h=>by simp [n8] at h
theorem Z2 (sz:Nat):∀ (is:List Nat) (ps:List AV) (rs out:List (List AV)),l3 sz is ps rs=some out→l3 sz is (ps.map (AV.rn R.ρ)) (rs.map (·.map (AV.rn R.ρ)))=some (out.map (·.map (AV.rn R.ρ)))
 | [],[],rs,out,h=>by simp only [l3] at h ⊢; cases h; rfl
 | i::is,p::ps,rs,out,h=>by
  rw [l3] at h
  split at h
  · rename_i hc
    rw [List.map_cons,l3,G6,a0c,List.length_map,List.length_map,if_pos hc,b0e,← List.map_set]
    exact Z2 sz is ps _ out h
  · cases h
 | [],_::_,_,_,h=>by simp [l3] at h
 | _::_,[],_,_,h=>by simp [l3] at h
theorem b3z (x:AV) (n:Nat):F6 (x.rn R.ρ) n=F6 x n:=by cases x <;> rfl
theorem a0n (lo hi:Bool) (as:List AV) (n:Nat):q9 lo hi (as.map (AV.rn R.ρ)) n=q9 lo hi as n:=by
 cases lo <;> cases hi <;> rcases as with _|⟨a,_|⟨b,_|⟨c,as⟩⟩⟩ <;> simp only [List.map_cons,List.map_nil,q9,b3z]
theorem a6A (kc:Nat) (a b:AV):v6 kc (a.rn R.ρ) (b.rn R.ρ)=v6 kc a b:=by
 cases a <;> cases b <;> rfl
theorem a1h (kc:Nat) (k:AV):∀ (es:List (AV×AV)) (i:Nat),n4 kc (k.rn R.ρ) (es.map fun e=>(e.1.rn R.ρ,e.2.rn R.ρ)) i=(n4 kc k es i).map (Option.map fun r=>(r.1,r.2.rn R.ρ))
 | [],_=>rfl
 | (k',v)::es,i=>by
  rw [List.map_cons,n4,n4,a6A]
  cases v6 kc k k' with
  | none=>rfl
  | some b=>cases b with
   | true=>rfl
   | false=>exact a1h kc k es (i+1)
theorem a3n:∀ xs:List (List AV),y8 (xs.map (·.map (AV.rn R.ρ)))=y8 xs
 | []=>rfl
 | []::_=>rfl
 | [a]::rs=>by
  have ih:=a3n rs
  cases a <;> simp only [List.map_cons,List.map_nil,AV.rn,y8]
  rename_i k n
  cases k <;> simp only [y8]
  rw [ih]
 | (a::b::c)::r=>by
  have h:∀ (x y:AV) (u:List AV) (w:List (List AV)),y8 ((x::y::u)::w)=none:=fun x y u w=>by cases x <;> simp only [y8]
  rw [List.map_cons,List.map_cons,List.map_cons,h,h]
theorem a4m (sz:Nat):∀ (n:Nat) (cs:List AV),K0 sz n (cs.map (AV.rn R.ρ))=(K0 sz n cs).map (·.map (AV.rn R.ρ))
 | 0,_=>rfl
 | n+1,cs=>by rw [K0,K0,List.map_cons,P2,a4m sz n,List.map_take]
theorem X5 (xs:List (List AV)):(xs.map (·.map (AV.rn R.ρ))).flatten=xs.flatten.map (AV.rn R.ρ):=by rw [List.map_flatten]
theorem b5s (op:BinOp) (a b r:AV) (h:k4 op a b=some r):k4 op (a.rn R.ρ) (b.rn R.ρ)=some (r.rn R.ρ):=by
 have hr:r.rn R.ρ=r:=by
  unfold k4 at h
  split at h
  · cases op <;> dsimp only at h <;> (repeat' split at h) <;> first|(cases h; rfl)|cases h
  · cases op <;> dsimp only at h <;> (repeat' split at h) <;> first|(cases h; rfl)|cases h
  · cases h
 rw [hr,← h]
 unfold k4 at h
 split at h
 · rfl
 · rfl
 · cases h
theorem a0t (a:AV):I4 (a.rn R.ρ)=(I4 a).map R.ρ:=by cases a <;> rfl
end

section
variable {R:Rn}
def rnR (R:Rn) (r:AV×AV×St):AV×AV×St:=(r.1.rn R.ρ,r.2.1.rn R.ρ,R.ms r.2.2)
def N5 (R:Rn) (call:b9):Prop:=∀ f as st r st',R.G st→call f as st=some (r,st')→call f (as.map (AV.rn R.ρ)) (R.ms st)=some (r.rn R.ρ,R.ms st')∧R.G st'
def SemRn (R:Rn) (f:List AV→AV→St→Option (AV×AV×St)) (as:List AV) (bx:AV) (st:St):Prop :=
 ∀ r,f as bx st=some r→f (as.map (AV.rn R.ρ)) (bx.rn R.ρ) (R.ms st)=some (rnR R r)∧R.G r.2.2

mutual
def _root_.Go.Cb.AV.shu:AV→Bool
 | .list _ xs=>X7 xs
 | .ptr ..=>false
 | .ro cs=>I9 cs
 | .box cs=>I9 cs
 | .map _=>false
 | .func _ a c=>I9 a && I9 c
 | .agg cs=>I9 cs
 | .tuple vs=>I9 vs
 | .iface _ v=>v.shu
 | .sl ..=>false
 | .fresh xs=>X7 xs
 | _=>true
def I9:List AV→Bool
 | []=>true
 | a::as=>a.shu && I9 as
def X7:List (List AV)→Bool
 | []=>true
 | r::rs=>I9 r && X7 rs
end
end
mutual
theorem a5n (f:Nat→Nat):∀ a:AV,a.shu=true→a.rn f=a
 | .undef,_=>rfl
 | .bool b,_=>rfl
 | .int k n,_=>rfl
 | .str s,_=>rfl
 | .list o xs,h=>by rw [AV.rn,R9 _ xs (by simpa [AV.shu] using h)]
 | .ptr o f,h=>by simp [AV.shu] at h
 | .nilp,_=>rfl
 | .ro cs,h=>by rw [AV.rn,C3 _ cs (by simpa [AV.shu] using h)]
 | .loc i f,_=>rfl
 | .box cs,h=>by rw [AV.rn,C3 _ cs (by simpa [AV.shu] using h)]
 | .map o,h=>by simp [AV.shu] at h
 | .nilm,_=>rfl
 | .func f a c,h=>by
  simp only [AV.shu,Bool.and_eq_true] at h
  rw [AV.rn,C3 _ a h.1,C3 _ c h.2]
 | .nilf,_=>rfl
 | .agg cs,h=>by rw [AV.rn,C3 _ cs (by simpa [AV.shu] using h)]
 | .tuple vs,h=>by rw [AV.rn,C3 _ vs (by simpa [AV.shu] using h)]
 | .iface t v,h=>by rw [AV.rn,a5n _ v (by simpa [AV.shu] using h)]
 | .nili,_=>rfl
 | .sl o f n s,h=>by simp [AV.shu] at h
 | .fresh xs,h=>by rw [AV.rn,R9 _ xs (by simpa [AV.shu] using h)]
 | .nils,_=>rfl
theorem C3 (f:Nat→Nat):∀ as:List AV,I9 as=true→I3 f as=as
 | [],_=>rfl
 | a::as,h=>by
  simp only [I9,Bool.and_eq_true] at h
  rw [I3,a5n _ a h.1,C3 _ as h.2]
theorem R9 (f:Nat→Nat):∀ rs:List (List AV),X7 rs=true→N4 f rs=rs
 | [],_=>rfl
 | r::rs,h=>by
  simp only [X7,Bool.and_eq_true] at h
  rw [N4,C3 _ r h.1,R9 _ rs h.2]
end
def _root_.Go.Cb.Kind.shu:Kind→Bool
 | .alloc z|.allocO z|.build z _|.mget _ z _ _=>I9 z
 | .bslice _ z _|.bsliceM _ z _|.bsliceO _ z _=>X7 z
 | _=>true
section
variable {R:Rn}
theorem a7J {st st':St} (h:R.G st) (h':R.G st'):∀ gs:List AV,kept st st' gs=true→kept (R.ms st) (R.ms st') (gs.map (AV.rn R.ρ))=true
 | [],_=>rfl
 | g::gs,hk=>by
  rw [List.map_cons]
  simp only [kept,Bool.and_eq_true] at hk ⊢
  refine ⟨?_,a7J h h' gs hk.2⟩
  have hk:=hk.1
  rw [a0t]
  cases hr:I4 g with
  | none=>rw [hr] at hk; cases hk
  | some p =>
   rw [hr] at hk
   simp only [Option.map_some,R.get h,R.get h'] at hk ⊢
   cases h1:st[p]? with
   | none=>rw [h1] at hk; cases hk
   | some a =>
    cases h2:st'[p]? with
    | none=>rw [h1,h2] at hk; cases hk
    | some b =>
     rw [h1,h2] at hk
     simp only [Option.map_some] at hk ⊢
     rw [(V4 _ _).1 hk]
     exact (V4 _ _).2 rfl
theorem O8 {st:St} (h:R.G st) (o:Option Nat):∀ gs:List AV,C6 o st.length gs=true→C6 (o.map R.ρ) (R.ms st).length (gs.map (AV.rn R.ρ))=true
 | [],_=>rfl
 | g::gs,hk=>by
  rw [List.map_cons]
  simp only [C6,Bool.and_eq_true] at hk ⊢
  refine ⟨?_,O8 h o gs hk.2⟩
  have hk:=hk.1
  rw [a0t]
  cases hr:I4 g with
  | none=>rw [hr] at hk; cases hk
  | some p =>
   rw [hr] at hk
   simp only [Option.map_some,Bool.and_eq_true] at hk ⊢
   obtain ⟨h1,h2⟩:=hk
   refine ⟨?_,?_⟩
   · rw [Nat.blt_eq] at h1 ⊢
     have hg:=R.get h p
     rw [List.getElem?_eq_getElem h1,Option.map_some] at hg
     exact (List.getElem?_eq_some_iff.1 hg).1
   · cases o with
     | none=>rfl
     | some q =>
      simp only [Option.map_some,Bool.not_eq_true',b1P] at h2 ⊢
      exact fun e=>h2 (R.inj.1 e)
end
end RN
end Go.Cb
/-
 THE ABSTRACT MACHINE, part 61: the same run at a store whose objects lie elsewhere: operations.
-/
set_option maxRecDepth 4000
set_option linter.unusedVariables false
set_option linter.unusedSimpArgs false
namespace Go.Cb

namespace RN
open Classical
section
variable {R:Rn} {call:b9} {as:List AV} {bx:AV} {st:St}
theorem m2 {α β:Type} {x:Option α} {f:α→β} {r:β} (h:x.map f=some r):∃ a,x=some a∧f a=r:=Option.map_eq_some_iff.1 h
theorem SemRn.of (hL:R.G st) {f:List AV→AV→St→Option (AV×AV×St)} (h:∀ r b s,f as bx st=some (r,b,s)→s=st∧f (as.map (AV.rn R.ρ)) (bx.rn R.ρ) (R.ms st)=some (r.rn R.ρ,b.rn R.ρ,R.ms st)):SemRn R f as bx st:=by
 rintro ⟨r,b,s⟩ hr
 obtain ⟨rfl,h2⟩:=h r b s hr
 exact ⟨h2,hL⟩
theorem c1h (hL:R.G st):SemRn R (S5 call) as bx st:=SemRn.of hL fun r b s h=>by
 unfold S5 at h
 split at h
 · cases h; exact ⟨rfl,rfl⟩
 · cases h
theorem b5x (hL:R.G st):SemRn R (q7 call) as bx st:=SemRn.of hL fun r b s h=>by
 unfold q7 at h
 split at h
 · rename_i c x y
   have:AV.rn R.ρ (.bool c)=.bool c:=rfl
   simp only [q7,List.map_cons,List.map_nil,AV.rn,G6]
   split at h
   · rename_i hc
     rw [if_pos hc]
     split at h
     · rename_i hp; rw [if_pos hp]; cases h; exact ⟨rfl,rfl⟩
     · cases h
   · rename_i hc
     rw [if_neg hc]
     split at h
     · rename_i hp; rw [if_pos hp]; cases h; exact ⟨rfl,rfl⟩
     · cases h
 · cases h
theorem b0Y (hL:R.G st):SemRn R (r6 call) as bx st:=SemRn.of hL fun r b s h=>by
 unfold r6 at h
 split at h <;> first|(cases h; exact ⟨rfl,rfl⟩)|cases h
theorem b3N {z:List AV} (hz:I9 z=true) (hL:R.G st):SemRn R (J3 z call) as bx st:=SemRn.of hL fun r b s h=>by
 unfold J3 at h
 split at h
 · cases h
   refine ⟨rfl,?_⟩
   show some (AV.undef,AV.box z,_)=some (AV.undef,AV.box (I3 R.ρ z),_)
   rw [C3 _ _ hz]
 · cases h
theorem b6Y (hL:R.G st):SemRn R (K4 call) as bx st:=SemRn.of hL fun r b s h=>by
 unfold K4 at h
 split at h
 · rename_i a
   split at h
   · rename_i hp
     cases h
     refine ⟨rfl,?_⟩
     simp only [K4,List.map_cons,List.map_nil,AV.rn,G6,hp,if_true,a4k,k6]
   · cases h
 · cases h
theorem b4i {z:List AV} {offs:List (Nat×Nat)} (hz:I9 z=true) (hL:R.G st):SemRn R (E4 z offs call) as bx st:=SemRn.of hL fun r b s h=>by
 unfold E4 at h ⊢
 obtain ⟨cs,h1,h2⟩:=m2 h
 cases h2
 refine ⟨rfl,?_⟩
 have:=a2G (R:=R) offs as z cs h1
 rw [← k6 z,C3 _ _ hz] at this
 rw [this,Option.map_some,AV.rn,k6]
theorem b16 {n:Nat} {z:List (List AV)} {at_:List Nat} (hz:X7 z=true) (hL:R.G st):SemRn R (D2 n z at_ call) as bx st:=SemRn.of hL fun r b s h=>by
 unfold D2 at h ⊢
 obtain ⟨cs,h1,h2⟩:=m2 h
 cases h2
 refine ⟨rfl,?_⟩
 have:=a2B (R:=R) n at_ as z cs h1
 rw [← n7 z,R9 _ _ hz] at this
 rw [this,Option.map_some,AV.rn,n7]
theorem a8Y {n:Nat} {z:List (List AV)} {at_:List Nat} (hz:X7 z=true) (hL:R.G st):SemRn R (B1 n z at_ call) as bx st:=SemRn.of hL fun r b s h=>by
 unfold B1 at h ⊢
 obtain ⟨cs,h1,h2⟩:=m2 h
 cases h2
 refine ⟨rfl,?_⟩
 have:=Z2 (R:=R) n at_ as z cs h1
 rw [← n7 z,R9 _ _ hz] at this
 rw [this,Option.map_some,AV.rn,n7]
theorem b0i {n:Nat} {z:List (List AV)} {at_:List Nat} (hz:X7 z=true) (hL:R.G st):SemRn R (z8 n z at_ call) as bx st:=by
 rintro r h
 unfold z8 at h ⊢
 obtain ⟨cs,h1,rfl⟩:=m2 h
 have:=Z2 (R:=R) n at_ as z cs h1
 rw [← n7 z,R9 _ _ hz] at this
 refine ⟨?_,(by first|exact R.app hL|exact R.app (R.set hL)|exact R.set hL)⟩
 rw [this,Option.map_some,rnR,R.apps hL,AV.rn,R.len hL]
 simp only [Obj.rn,X5]
theorem b7L (hL:R.G st):SemRn R (K1 call) as bx st:=SemRn.of hL fun r b s h=>by
 unfold K1 at h
 split at h
 · rename_i k a k' c
   split at h
   · rename_i hk; cases h; subst hk; exact ⟨rfl,by simp only [K1,List.map_cons,List.map_nil,AV.rn,if_true]⟩
   · cases h
 · cases h
theorem b5I {neg:Bool} (hL:R.G st):SemRn R (K2 neg call) as bx st:=SemRn.of hL fun r b s h=>by
 unfold K2 at h
 split at h
 · split at h
   · rename_i hk; cases h; subst hk; exact ⟨rfl,by simp only [K2,List.map_cons,List.map_nil,AV.rn,I3,if_true]⟩
   · cases h
 · cases h
theorem b6d {i n:Nat} {ag:Bool} (hL:R.G st):SemRn R (C2 i ag n call) as bx st:=SemRn.of hL fun r b s h=>by
 unfold C2 at h
 split at h
 · rename_i j off cs
   split at h
   · rename_i hj
     obtain ⟨a,h1,h2⟩:=m2 h
     cases h2
     refine ⟨rfl,?_⟩
     simp only [C2,List.map_cons,List.map_nil,AV.rn,hj,if_true,k6,P2,C7,h1,Option.map_some]
   · cases h
 · cases h
theorem M7 {o:Nat} {cs:List AV} (hL:R.G st) (h:st[o]?=some (.cells cs)):(R.ms st)[R.ρ o]?=some (.cells (cs.map (AV.rn R.ρ))):=by rw [R.get hL,h]; rfl
theorem a8B {o:Nat} {es:List (AV×AV)} (hL:R.G st) (h:st[o]?=some (.map es)):(R.ms st)[R.ρ o]?=some (.map (es.map fun e=>(e.1.rn R.ρ,e.2.rn R.ρ))):=by rw [R.get hL,h]; rfl
theorem a8a {n:Nat} {ag:Bool} (hL:R.G st):SemRn R (q8 ag n call) as bx st:=SemRn.of hL fun r b s h=>by
 unfold q8 at h
 split at h
 · rename_i o off
   split at h
   · rename_i cs hc
     obtain ⟨a,h1,h2⟩:=m2 h
     cases h2
     refine ⟨rfl,?_⟩
     simp only [q8,List.map_cons,List.map_nil,AV.rn,M7 hL hc,P2,C7,h1,Option.map_some]
   · cases h
 · cases h
theorem b67 {n:Nat} {ag:Bool} (hL:R.G st):SemRn R (F1 ag n call) as bx st:=SemRn.of hL fun r b s h=>by
 unfold F1 at h
 split at h
 · obtain ⟨a,h1,h2⟩:=m2 h
   cases h2
   refine ⟨rfl,?_⟩
   simp only [F1,List.map_cons,List.map_nil,AV.rn,k6,C7,h1,Option.map_some]
 · cases h
theorem b7Q {n:Nat} {ag:Bool} (hL:R.G st):SemRn R (r7 ag n call) as bx st:=SemRn.of hL fun r b s h=>by
 unfold r7 at h
 split at h
 · obtain ⟨a,h1,h2⟩:=m2 h
   cases h2
   refine ⟨rfl,?_⟩
   simp only [r7,List.map_cons,List.map_nil,AV.rn,k6,C7,h1,Option.map_some]
 · rename_i o off
   split at h
   · rename_i cs hc
     obtain ⟨a,h1,h2⟩:=m2 h
     cases h2
     refine ⟨rfl,?_⟩
     simp only [r7,List.map_cons,List.map_nil,AV.rn,M7 hL hc,P2,C7,h1,Option.map_some]
   · cases h
 · cases h
theorem b3T {i:Nat} (hL:R.G st):SemRn R (E5 i call) as bx st:=SemRn.of hL fun r b s h=>by
 unfold E5 at h
 split at h
 · rename_i j off cs
   split at h
   · rename_i hj
     split at h
     · rename_i c hc
       cases h
       refine ⟨rfl,?_⟩
       simp only [E5,List.map_cons,List.map_nil,AV.rn,hj,if_true,k6,List.getElem?_map,hc,Option.map_some,List.map_set,a1p]
     · cases h
   · cases h
 · cases h
theorem a5H (hL:R.G st):SemRn R (r5 call) as bx st:=by
 rintro ⟨r,b,s⟩ h
 unfold r5 at h
 split at h
 · rename_i o off
   split at h
   · rename_i cs hc
     split at h
     · rename_i c hcc
       cases h
       refine ⟨?_,(by first|exact hL|exact R.set hL)⟩
       simp only [r5,List.map_cons,List.map_nil,AV.rn,M7 hL hc,List.getElem?_map,hcc,Option.map_some,rnR,R.sets hL,Obj.rn,List.map_set,a1p]
     · cases h
   · cases h
 · cases h
theorem b6m {i n:Nat} (hL:R.G st):SemRn R (F0 i n call) as bx st:=SemRn.of hL fun r b s h=>by
 unfold F0 at h
 split at h
 · rename_i j off x cs
   split at h
   · rename_i hc
     cases h
     refine ⟨rfl,?_⟩
     simp only [F0,List.map_cons,List.map_nil,AV.rn,G6,a0c,List.length_map,k6]
     rw [if_pos hc,a1U]
   · cases h
 · cases h
theorem a8d {n:Nat} (hL:R.G st):SemRn R (s8 n call) as bx st:=by
 rintro ⟨r,b,s⟩ h
 unfold s8 at h
 split at h
 · rename_i o off x
   split at h
   · rename_i cs hc
     split at h
     · rename_i hp
       rw [fL_eq] at h
       cases h
       refine ⟨?_,(by first|exact hL|exact R.set hL)⟩
       simp only [s8,List.map_cons,List.map_nil,AV.rn,M7 hL hc,G6,a0c,List.length_map,fL_eq]
       rw [if_pos hp,a1U,rnR,R.sets hL]
       rfl
     · cases h
   · cases h
 · cases h
theorem c0V {n:Nat} (hL:R.G st):SemRn R (G4 n call) as bx st:=SemRn.of hL fun r b s h=>by
 unfold G4 at h
 split at h
 · cases h; exact ⟨rfl,rfl⟩
 · cases h; exact ⟨rfl,rfl⟩
 · cases h; exact ⟨rfl,by simp only [G4,List.map_cons,List.map_nil,AV.rn,k6,P2]⟩
 · cases h
theorem c0f {o n:Nat} {ag:Bool} (hL:R.G st):SemRn R (J5 o n ag call) as bx st:=SemRn.of hL fun r b s h=>by
 unfold J5 at h
 split at h
 · split at h
   · rename_i hc
     obtain ⟨a,h1,h2⟩:=m2 h
     cases h2
     refine ⟨rfl,?_⟩
     simp only [J5,List.map_cons,List.map_nil,AV.rn,k6,List.length_map,hc,if_true,P2,C7,h1,Option.map_some]
   · cases h
 · cases h
theorem b93 {n:Nat} (hL:R.G st):SemRn R (E1 n call) as bx st:=SemRn.of hL fun r b s h=>by
 unfold E1 at h
 split at h
 · rename_i xs k i
   split at h
   · rename_i h0
     split at h
     · rename_i r' hr
       split at h
       · rename_i hl
         cases h
         refine ⟨rfl,?_⟩
         simp only [E1,List.map_cons,List.map_nil,AV.rn,n7,h0,if_true,List.getElem?_map,hr,Option.map_some,List.length_map,hl,k6]
       · cases h
     · cases h
   · cases h
 · rename_i h0
   split at h
   · rename_i hc
     cases h
     refine ⟨rfl,?_⟩
     simp only [E1,List.map_cons,List.map_nil,AV.rn]
     rw [if_pos hc]
   · cases h
 · cases h
theorem b7l {l n:Nat} (hL:R.G st):SemRn R (w9 l n call) as bx st:=SemRn.of hL fun r b s h=>by
 unfold w9 at h
 split at h
 · split at h
   · rename_i hc; cases h; refine ⟨rfl,?_⟩; simp only [w9,List.map_cons,List.map_nil,AV.rn,k6]; rw [if_pos hc,P2]
   · cases h
 · split at h
   · rename_i hc; cases h; refine ⟨rfl,?_⟩; simp only [w9,List.map_cons,List.map_nil,AV.rn]; rw [if_pos hc]
   · cases h
 · split at h
   · rename_i hc; cases h; refine ⟨rfl,?_⟩; simp only [w9,List.map_cons,List.map_nil,AV.rn]; rw [if_pos hc]
   · cases h
 · cases h
theorem b7D (hL:R.G st):SemRn R (D6 call) as bx st:=SemRn.of hL fun r b s h=>by
 unfold D6 at h
 split at h
 · split at h
   · rename_i h0
     split at h
     · rename_i hb; cases h; refine ⟨rfl,?_⟩; simp only [D6,List.map_cons,List.map_nil,AV.rn,h0,if_true,hb]
     · cases h
   · cases h
 · cases h
theorem b8b {lo hi:Bool} (hL:R.G st):SemRn R (I5 lo hi call) as bx st:=SemRn.of hL fun r b s h=>by
 unfold I5 at h
 split at h
 · obtain ⟨p,h1,h2⟩:=m2 h
   cases h2
   refine ⟨rfl,?_⟩
   simp only [I5,List.map_cons,AV.rn,a0n,h1,Option.map_some]
 · cases h
theorem c0p {n:Nat} {lo hi:Bool} (hL:R.G st):SemRn R (F5 n lo hi call) as bx st:=SemRn.of hL fun r b s h=>by
 unfold F5 at h
 split at h
 · split at h
   · rename_i hr
     obtain ⟨p,h1,h2⟩:=m2 h
     cases h2
     refine ⟨rfl,?_⟩
     simp only [F5,List.map_cons,AV.rn,n7,F9,hr,if_true,List.length_map,a0n,h1,Option.map_some,List.map_take,List.map_drop]
   · cases h
 · split at h
   · rename_i hr
     obtain ⟨p,h1,h2⟩:=m2 h
     cases h2
     refine ⟨rfl,?_⟩
     simp only [F5,List.map_cons,AV.rn,hr,if_true]
     unfold slB at h1 ⊢
     rw [a0n,h1]
     rfl
   · cases h
 · cases h
theorem b9Z {n:Nat} (hL:R.G st):SemRn R (N8 n call) as bx st:=SemRn.of hL fun r b s h=>by
 unfold N8 at h
 split at h
 · split at h
   · rename_i hr
     cases h
     refine ⟨rfl,?_⟩
     simp only [N8,List.map_cons,List.map_nil,AV.rn,n7,F9,hr,List.length_map,List.map_drop,if_true,and_self,true_and]
   · cases h
 · cases h
theorem c0B (hL:R.G st):SemRn R (M0 call) as bx st:=SemRn.of hL fun r b s h=>by
 unfold M0 at h
 split at h
 · cases h; exact ⟨rfl,rfl⟩
 · cases h
theorem b9n {l n:Nat} {lo hi:Bool} (hL:R.G st):SemRn R (J7 l n lo hi call) as bx st:=SemRn.of hL fun r b s h=>by
 unfold J7 at h
 split at h
 · split at h
   · rename_i hr
     obtain ⟨p,h1,h2⟩:=m2 h
     cases h2
     refine ⟨rfl,?_⟩
     simp only [J7,List.map_cons,AV.rn,k6,List.length_map,hr,if_true,a0n,h1,Option.map_some,a4m,n7,List.map_take,List.map_drop]
   · cases h
 · cases h
theorem b9F {op:BinOp} (hL:R.G st):SemRn R (p9 op call) as bx st:=SemRn.of hL fun r b s h=>by
 unfold p9 at h
 split at h
 · obtain ⟨p,h1,h2⟩:=m2 h
   cases h2
   refine ⟨rfl,?_⟩
   simp only [p9,List.map_cons,List.map_nil,b5s op _ _ _ h1,Option.map_some]
 · cases h
theorem b6g {op:BinOp} (hL:R.G st):SemRn R (I2 op call) as bx st:=SemRn.of hL fun r b s h=>by
 unfold I2 at h
 split at h
 · rename_i x y
   obtain ⟨p,h1,h2⟩:=m2 h
   cases h2
   refine ⟨rfl,?_⟩
   unfold a11 at h1
   split at h1
   · split at h1 <;> first|(cases h1; rfl)|cases h1
   · cases h1
 · cases h
theorem b5K {op:BinOp} (hL:R.G st):SemRn R (D7 op call) as bx st:=SemRn.of hL fun r b s h=>by
 unfold D7 at h
 split at h
 · rename_i x y
   obtain ⟨p,h1,h2⟩:=m2 h
   cases h2
   refine ⟨rfl,?_⟩
   unfold Q2 at h1
   split at h1
   all_goals first|cases h1|skip
   all_goals (split at h1 <;> first|(cases h1; rfl)|cases h1)
 · cases h
theorem c2B {op:UnOp} (hL:R.G st):SemRn R (O0 op call) as bx st:=SemRn.of hL fun r b s h=>by
 unfold O0 at h
 split at h <;> first|(cases h; exact ⟨rfl,rfl⟩)|cases h
theorem b5w {k:IntKind} (hL:R.G st):SemRn R (H4 k call) as bx st:=SemRn.of hL fun r b s h=>by
 unfold H4 at h
 split at h <;> first|(cases h; exact ⟨rfl,rfl⟩)|cases h
theorem c0y {f n:Nat} (hL:R.G st):SemRn R (L3 f n call) as bx st:=SemRn.of hL fun r b s h=>by
 unfold L3 at h ⊢
 split at h
 · rename_i hp
   cases h
   refine ⟨rfl,?_⟩
   rw [S9,if_pos hp,AV.rn,k6,k6,← a3h,List.map_take,List.map_drop]
 · cases h
theorem b9J (hL:R.G st):SemRn R (M2 call) as bx st:=by
 rintro ⟨r,b,s⟩ h
 unfold M2 at h
 split at h
 · cases h
   refine ⟨?_,(by first|exact R.app hL|exact R.app (R.set hL)|exact R.set hL)⟩
   simp only [M2,List.map_nil,rnR,R.apps hL,AV.rn,R.len hL]
   rfl
 · cases h
theorem b13 {z:List AV} (hz:I9 z=true) (hL:R.G st):SemRn R (z7 z call) as bx st:=by
 rintro ⟨r,b,s⟩ h
 unfold z7 at h
 split at h
 · cases h
   refine ⟨?_,(by first|exact R.app hL|exact R.app (R.set hL)|exact R.set hL)⟩
   simp only [z7,List.map_nil,rnR,R.apps hL,AV.rn,R.len hL,Obj.rn,← k6,C3 _ _ hz]
 · cases h
theorem b7B (hL:R.G st):SemRn R (F3 call) as bx st:=by
 rintro ⟨r,b,s⟩ h
 unfold F3 at h
 split at h
 · split at h
   · rename_i hp
     cases h
     refine ⟨?_,(by first|exact R.app hL|exact R.app (R.set hL)|exact R.set hL)⟩
     simp only [F3,List.map_cons,List.map_nil,G6,hp,if_true,rnR,R.apps hL,AV.rn,R.len hL,Obj.rn,a4k]
   · cases h
 · cases h
end
end RN
end Go.Cb
/-
 THE ABSTRACT MACHINE, part 62: the same run at a store whose objects lie elsewhere: code, calls.
-/
set_option maxRecDepth 4000
set_option linter.unusedVariables false
set_option linter.unusedSimpArgs false
namespace Go.Cb

namespace RN
open Classical
section
variable {R:Rn} {call:b9} {as:List AV} {bx:AV} {st:St}
theorem b7m {kc:Nat} {z:List AV} {ag ok:Bool} (hz:I9 z=true) (hL:R.G st):SemRn R (K6 kc z ag ok call) as bx st:=SemRn.of hL fun r b s h=>by
 have hz':z.map (AV.rn R.ρ)=z:=by rw [← k6,C3 _ _ hz]
 have key:∀ (k:AV) (es:List (AV×AV)),(match n4 kc k es 0 with
  | some r=>match (match r with|some (_,v)=>some v|none=>g8 ag z.length z) with
   | some v=>some (if ok then AV.tuple [v,.bool r.isSome] else v,bx,st)
   | none=>none
  | none=>none)=some (r,b,s)→s=st∧(match n4 kc (k.rn R.ρ) (es.map fun e=>(e.1.rn R.ρ,e.2.rn R.ρ)) 0 with
  | some r=>match (match r with|some (_,v)=>some v|none=>g8 ag z.length z) with
   | some v=>some (if ok then AV.tuple [v,.bool r.isSome] else v,bx.rn R.ρ,R.ms st)
   | none=>none
  | none=>none)=some (r.rn R.ρ,b.rn R.ρ,R.ms st):=by
  intro k es h
  rw [a1h]
  cases hm:n4 kc k es 0 with
  | none=>rw [hm] at h; cases h
  | some o =>
   rw [hm] at h
   cases o with
   | some p =>
    obtain ⟨i,v⟩:=p
    dsimp only [Option.map_some] at h ⊢
    cases h
    refine ⟨rfl,?_⟩
    cases ok <;> rfl
   | none =>
    dsimp only [Option.map_some,Option.map_none] at h ⊢
    have ht:=C7 (R:=R) ag z.length z
    rw [hz'] at ht
    cases hv:g8 ag z.length z with
    | none=>rw [hv] at h; cases h
    | some v =>
     rw [hv] at h ht
     have e:v.rn R.ρ=v:=by simpa using ht.symm
     dsimp only at h ⊢
     cases h
     refine ⟨rfl,?_⟩
     cases ok
     · simp only [Bool.false_eq_true,if_false,e]
     · simp only [if_true,AV.rn,I3,e]
 unfold K6 at h ⊢
 dsimp only at h ⊢
 split at h
 · rename_i k
   exact key k [] h
 · rename_i o k
   split at h
   · rename_i es ho
     simp only [List.map_cons,List.map_nil,AV.rn,a8B hL ho]
     exact key k es h
   · cases h
 · cases h
theorem a4r {α β:Type} (f:α→β):∀ (l:List α) (i:Nat),(l.eraseIdx i).map f=(l.map f).eraseIdx i
 | [],_=>rfl
 | _::_,0=>rfl
 | x::l,i+1=>congrArg (f x::·) (a4r f l i)
theorem b6h {kc:Nat} (hL:R.G st):SemRn R (F2 kc call) as bx st:=by
 rintro ⟨r,b,s⟩ h
 unfold F2 at h
 split at h
 · rename_i o k
   split at h
   · rename_i es ho
     simp only [F2,List.map_cons,List.map_nil,AV.rn,a8B hL ho,a1h]
     cases hm:n4 kc k es 0 with
     | none=>rw [hm] at h; cases h
     | some q =>
      rw [hm] at h
      cases q with
      | some p =>
       obtain ⟨i,w⟩:=p
       dsimp only [Option.map_some] at h ⊢
       cases h
       refine ⟨?_,(by first|exact hL|exact R.set hL)⟩
       simp only [rnR,R.sets hL,Obj.rn,a4r]
       rfl
      | none =>
       dsimp only [Option.map_some,Option.map_none] at h ⊢
       cases h
       refine ⟨?_,(by first|exact hL|exact R.set hL)⟩
       simp only [rnR,R.sets hL,Obj.rn]
       rfl
   · cases h
 · cases h
theorem b7q {kc:Nat} (hL:R.G st):SemRn R (D5 kc call) as bx st:=by
 rintro ⟨r,b,s⟩ h
 unfold D5 at h
 split at h
 · rename_i o k v
   split at h
   · rename_i hp
     split at h
     · rename_i es ho
       simp only [D5,List.map_cons,List.map_nil,AV.rn,G6,hp,if_true,a8B hL ho,a1h]
       cases hm:n4 kc k es 0 with
       | none=>rw [hm] at h; cases h
       | some q =>
        rw [hm] at h
        cases q with
        | some p =>
         obtain ⟨i,w⟩:=p
         dsimp only [Option.map_some] at h ⊢
         cases h
         refine ⟨?_,(by first|exact hL|exact R.set hL)⟩
         simp only [rnR,R.sets hL,Obj.rn,List.map_set,N1]
         rfl
        | none =>
         dsimp only [Option.map_some,Option.map_none] at h ⊢
         rw [a6A]
         cases hk:v6 kc k k with
         | none=>rw [hk] at h; cases h
         | some e =>
          rw [hk] at h
          simp only [Option.bind_some] at h ⊢
          cases h
          refine ⟨?_,(by first|exact hL|exact R.set hL)⟩
          simp only [rnR,R.sets hL,Obj.rn,List.map_append,List.map_cons,List.map_nil,N1]
          rfl
     · cases h
   · cases h
 · cases h
theorem b8V {i:Nat} (hL:R.G st):SemRn R (H0 i call) as bx st:=SemRn.of hL fun r b s h=>by
 unfold H0 at h
 split at h
 · split at h
   · rename_i v hv
     cases h
     refine ⟨rfl,?_⟩
     simp only [H0,List.map_cons,List.map_nil,AV.rn,k6,List.getElem?_map,hv,Option.map_some,N1]
   · cases h
 · cases h
theorem a8f {f:Nat} (hc:N5 R call) (hL:R.G st):SemRn R (n6 f call) as bx st:=by
 rintro ⟨r,b,s⟩ h
 unfold n6 at h ⊢
 split at h
 · rename_i hp
   obtain ⟨⟨v,s'⟩,h1,h2⟩:=m2 h
   cases h2
   obtain ⟨h3,h4⟩:=hc _ _ _ _ _ hL h1
   refine ⟨?_,h4⟩
   rw [S9,if_pos hp,← a3h,h3]
   rfl
 · cases h
theorem b4B (hc:N5 R call) (hL:R.G st):SemRn R (v7 call) as bx st:=by
 rintro ⟨r,b,s⟩ h
 unfold v7 at h
 split at h
 · rename_i f first caps as'
   split at h
   · rename_i hp
     obtain ⟨⟨v,s'⟩,h1,h2⟩:=m2 h
     cases h2
     obtain ⟨h3,h4⟩:=hc _ _ _ _ _ hL h1
     refine ⟨?_,h4⟩
     simp only [v7,List.map_cons,AV.rn,k6]
     rw [S9,if_pos hp,← List.map_append,← List.map_append,← a3h,h3]
     rfl
   · cases h
 · cases h
theorem b4D {f m:Nat} (hc:N5 R call) (hL:R.G st):SemRn R (r9 f m call) as bx st:=by
 rintro ⟨r,b,s⟩ h
 unfold r9 at h ⊢
 cases hq:n6 f call (as.take m) bx st with
 | none=>rw [hq] at h; cases h
 | some x =>
  obtain ⟨v,b',s'⟩:=x
  rw [hq] at h
  dsimp only at h
  obtain ⟨h3,h4⟩:=a8f hc hL _ hq
  split at h
  · rename_i hk
    cases h
    refine ⟨?_,h4⟩
    rw [← List.map_take,h3,← List.map_drop]
    have hk':=a7J (R:=R) hL h4 _ hk
    simp only [rnR]
    exact if_pos hk'
  · cases h
theorem b5V (hL:R.G st):SemRn R (I1 call) as bx st:=SemRn.of hL fun r b s h=>by
 unfold I1 at h
 split at h <;> first|(cases h; exact ⟨rfl,rfl⟩)|cases h
theorem b7o (hL:R.G st):SemRn R (r8 call) as bx st:=SemRn.of hL fun r b s h=>by
 unfold r8 at h
 split at h
 · cases h; exact ⟨rfl,by simp only [r8,List.map_cons,List.map_nil,AV.rn,n7,List.length_map]⟩
 · cases h; exact ⟨rfl,rfl⟩
 · cases h; exact ⟨rfl,rfl⟩
 · cases h
theorem b8d {n b':Nat} (hL:R.G st):SemRn R (J6 n b' call) as bx st:=SemRn.of hL fun r b s h=>by
 unfold J6 at h
 split at h
 · split at h
   · rename_i hc
     cases h
     refine ⟨rfl,?_⟩
     simp only [J6,List.map_cons,List.map_nil,AV.rn,n7,F9,List.length_map]
     rw [if_pos hc,List.map_append]
   · cases h
 · cases h
theorem b6y {n b':Nat} (hL:R.G st):SemRn R (q6 n b' call) as bx st:=by
 rintro ⟨r,b,s⟩ h
 unfold q6 at h
 split at h
 · split at h
   · rename_i hc
     cases h
     refine ⟨?_,(by first|exact R.app hL|exact R.app (R.set hL)|exact R.set hL)⟩
     have ha:=O8 (R:=R) hL none _ hc.2.2.2
     simp only [Option.map_none] at ha
     simp only [q6,List.map_cons,AV.rn,n7,List.isEmpty_map,F9,List.length_map,List.map_nil]
     rw [if_pos ⟨hc.1,hc.2.1,hc.2.2.1,ha⟩]
     simp only [rnR,AV.rn,R.apps hL,R.len hL,Obj.rn,X5]
   · cases h
 · split at h
   · rename_i hc
     cases h
     refine ⟨?_,(by first|exact R.app hL|exact R.app (R.set hL)|exact R.set hL)⟩
     have ha:=O8 (R:=R) hL none _ hc.2.2.2
     simp only [Option.map_none] at ha
     simp only [q6,List.map_cons,AV.rn,n7,List.isEmpty_map,F9,List.length_map]
     rw [if_pos ⟨hc.1,hc.2.1,hc.2.2.1,ha⟩]
     simp only [rnR,AV.rn,R.apps hL,R.len hL,Obj.rn,X5]
   · cases h
 · split at h
   · rename_i hc
     cases h
     refine ⟨?_,hL⟩
     have ha:=O8 (R:=R) hL none _ hc
     simp only [Option.map_none] at ha
     simp only [q6,List.map_cons,AV.rn]
     rw [if_pos ha]
     simp only [rnR,AV.rn]
   · cases h
 · rename_i o k sz ys gs
   split at h
   · rename_i xs ho
     split at h
     · rename_i hc
       cases h
       refine ⟨?_,(by first|exact R.app hL|exact R.app (R.set hL)|exact R.set hL)⟩
       have ha:=O8 (R:=R) hL (some o) _ hc.2.2.2.2.2
       simp only [Option.map_some] at ha
       simp only [q6,List.map_cons,AV.rn,n7,List.isEmpty_map,F9,List.length_map,M7 hL ho]
       rw [if_pos ⟨hc.1,hc.2.1,hc.2.2.1,hc.2.2.2.1,hc.2.2.2.2.1,ha⟩]
       simp only [rnR,AV.rn,R.apps (st:=st.set o .dead) ((by first|exact hL|exact R.set hL)),R.sets hL,R.len hL,Obj.rn,X5,List.map_append]
     · cases h
   · cases h
 · split at h
   · rename_i hc
     cases h
     refine ⟨?_,hL⟩
     have ha:=O8 (R:=R) hL none _ hc
     simp only [Option.map_none] at ha
     simp only [q6,List.map_cons,AV.rn]
     rw [if_pos ha]
     simp only [rnR,AV.rn]
   · cases h
 · cases h
theorem b7f {b':Nat} (hL:R.G st):SemRn R (N0 b' call) as bx st:=SemRn.of hL fun r b s h=>by
 unfold N0 at h
 split at h
 · rename_i xs
   split at h
   · rename_i hc
     cases h
     refine ⟨rfl,?_⟩
     simp only [N0,List.map_cons,List.map_nil,AV.rn,n7,F9,List.length_map]
     rw [if_pos hc]
   · cases h
 · rename_i xs o n
   split at h
   · rename_i cs ho
     split at h
     · rename_i hc
       cases h
       refine ⟨rfl,?_⟩
       simp only [N0,List.map_cons,List.map_nil,AV.rn,n7,F9,List.length_map,M7 hL ho]
       rw [if_pos hc]
       simp only [rnR,AV.rn,n7,List.map_append,List.map_map]
       rfl
     · cases h
   · cases h
 · cases h
theorem b9u (hL:R.G st):SemRn R (J9 call) as bx st:=SemRn.of hL fun r b s h=>by
 unfold J9 at h
 split at h
 · obtain ⟨a,h1,h2⟩:=m2 h
   cases h2
   refine ⟨rfl,?_⟩
   simp only [J9,List.map_cons,List.map_nil,AV.rn,n7,a3n,h1,Option.map_some]
 · cases h
theorem b4K {n:Nat} {ag:Bool} (hL:R.G st):SemRn R (t8 ag n call) as bx st:=by
 rintro x h
 unfold t8 at h
 split at h
 · rename_i o off r
   split at h
   · rename_i p hp
     split at h
     · rename_i he
       obtain ⟨h1,h2⟩:=a8a (call:=call) hL _ h
       refine ⟨?_,h2⟩
       have e:o=p:=by simpa using he
       subst e
       simp only [t8,List.map_cons,List.map_nil,AV.rn,a0t,hp,Option.map_some]
       rw [if_pos (by simp)]
       exact h1
     · cases h
   · cases h
 · cases h
theorem b1c {n:Nat} (hL:R.G st):SemRn R (s7 n call) as bx st:=by
 rintro x h
 unfold s7 at h
 split at h
 · rename_i o off p f
   split at h
   · rename_i he
     obtain ⟨h1,h2⟩:=a5H (call:=call) hL _ h
     refine ⟨?_,h2⟩
     have e:o=p:=by simpa using he.1
     subst e
     simp only [s7,List.map_cons,List.map_nil,AV.rn]
     rw [if_pos ⟨by simp,he.2⟩]
     exact h1
   · cases h
 · cases h
theorem b2Z {n:Nat} (hL:R.G st):SemRn R (s4 n call) as bx st:=by
 rintro x h
 unfold s4 at h
 split at h
 · rename_i o off y r gs
   split at h
   · rename_i p hp
     split at h
     · rename_i he
       obtain ⟨h1,h2⟩:=a8d (call:=call) hL _ h
       refine ⟨?_,h2⟩
       have e:o=p:=by simpa using he.1
       subst e
       have ha:=O8 (R:=R) hL (some o) _ he.2
       simp only [s4,List.map_cons,AV.rn,a0t,hp,Option.map_some] at ha ⊢
       rw [if_pos ⟨by simp,ha⟩]
       exact h1
     · cases h
   · cases h
 · cases h
theorem b8v {k:Kind} (hk:k.shu=true) (hc:N5 R call) (hL:R.G st):SemRn R (sem k call) as bx st:=by
 cases k
 case mv=>exact c1h (call:=call) hL
 case pick=>exact b5x (call:=call) hL
 case nilchk=>exact b0Y (call:=call) hL
 case alloc z=>exact b3N (call:=call) hk hL
 case allocO z=>exact b13 (call:=call) hk hL
 case boxV=>exact b6Y (call:=call) hL
 case boxO=>exact b7B (call:=call) hL
 case build z o=>exact b4i (call:=call) hk hL
 case bslice n z a=>exact b16 (call:=call) hk hL
 case bsliceM n z a=>exact a8Y (call:=call) hk hL
 case bsliceO n z a=>exact b0i (call:=call) hk hL
 case min2=>exact b7L (call:=call) hL
 case stuck=>intro r h; cases h
 case eqIS neg=>exact b5I (call:=call) hL
 case ldLc=>exact b6d (call:=call) hL
 case ldSt=>exact a8a (call:=call) hL
 case ldRo=>exact b67 (call:=call) hL
 case ldAn=>exact b7Q (call:=call) hL
 case ldLcS=>exact b3T (call:=call) hL
 case ldStS=>exact a5H (call:=call) hL
 case ldStR=>exact b4K (call:=call) hL
 case ldStSR=>exact b1c (call:=call) hL
 case stStA=>exact b2Z (call:=call) hL
 case callA=>exact b4D (call:=call) hc hL
 case stLc=>exact b6m (call:=call) hL
 case stSt=>exact a8d (call:=call) hL
 case fad=>exact c0V (call:=call) hL
 case fld=>exact c0f (call:=call) hL
 case iad=>exact b93 (call:=call) hL
 case iadA=>exact b7l (call:=call) hL
 case idxS=>exact b7D (call:=call) hL
 case slS=>exact b8b (call:=call) hL
 case slL=>exact c0p (call:=call) hL
 case slZ=>exact c0B (call:=call) hL
 case slA=>exact b9n (call:=call) hL
 case bin=>exact b9F (call:=call) hL
 case binB=>exact b6g (call:=call) hL
 case binP=>exact b5K (call:=call) hL
 case un=>exact c2B (call:=call) hL
 case conv=>exact b5w (call:=call) hL
 case mkF=>exact c0y (call:=call) hL
 case mkM=>exact b9J (call:=call) hL
 case mget=>exact b7m (call:=call) hk hL
 case mset=>exact b7q (call:=call) hL
 case mdel=>exact b6h (call:=call) hL
 case slO=>exact b9Z (call:=call) hL
 case ext=>exact b8V (call:=call) hL
 case call=>exact a8f (call:=call) hc hL
 case callV=>exact b4B (call:=call) hc hL
 case lenS=>exact b5V (call:=call) hL
 case lenL=>exact b7o (call:=call) hL
 case app=>exact b8d (call:=call) hL
 case appM=>exact b6y (call:=call) hL
 case appA=>exact b7f (call:=call) hL
 case b2s=>exact b9u (call:=call) hL
end
def _root_.Go.Cb.Opd.shu:Opd→Bool
 | .c a=>a.shu
 | _=>true
def _root_.Go.Cb.AOper.shu (o:AOper):Bool:=o.kind.shu && o.args.all Opd.shu && (match o.guard with|some (x,_)=>x.shu|none=>true)
def _root_.Go.Cb.ACode.shu:ACode→Bool
 | .reg _ ops=>ops.all AOper.shu
 | .test _ ops c a b=>ops.all AOper.shu && c.shu && a.shu && b.shu
 | .seq a b=>a.shu && b.shu
 | .blk _ a=>a.shu
 | .loop a=>a.shu
 | .either _ a b=>a.shu && b.shu
 | _=>true
section
variable {R:Rn} {call:b9}
def _root_.Go.Cb.Sig.rn (R:Rn) (σ:Sig):Sig:=⟨σ.fr.map (AV.rn R.ρ),fun j=>(σ.τ j).rn R.ρ,R.ms σ.st⟩
theorem M5 (fr:List AV) (i:Nat):(fr.map (AV.rn R.ρ)).getD i AV.undef=(fr.getD i AV.undef).rn R.ρ:=by
 simp only [List.getD_eq_getElem?_getD,List.getElem?_map]
 cases fr[i]? <;> rfl
theorem a4e {x:Opd} (hx:x.shu=true) (σ:Sig):x.read (σ.rn R)=(x.read σ).rn R.ρ:=by
 cases x with
 | t s=>exact (N1 _).symm
 | ts s=>rfl
 | v i=>show ((σ.fr.map _).getD i AV.undef).weak=_; rw [M5,← N1]; rfl
 | vs i=>exact M5 _ _
 | l i =>
  show (match (σ.fr.map _).getD i AV.undef with|.box _=>AV.loc i 0|_=>AV.undef)=(match σ.fr.getD i AV.undef with|.box _=>AV.loc i 0|_=>AV.undef).rn R.ρ
  rw [M5]
  cases σ.fr.getD i AV.undef <;> rfl
 | c a=>exact (a5n _ _ hx).symm
theorem b4S (x:Opd) (σ:Sig):x.spend (σ.rn R)=(x.spend σ).rn R:=by
 cases x with
 | ts s =>
  show Sig.mk _ _ _=Sig.mk _ _ _
  congr 1
  funext j
  show m6 _ _ _ _=(m6 _ _ _ _).rn R.ρ
  unfold m6
  split
  · exact (N1 _).symm
  · rfl
 | vs i =>
  show Sig.mk _ _ _=Sig.mk _ _ _
  congr 1
  show (σ.fr.map _).set i ((σ.fr.map _).getD i AV.undef).weak=(σ.fr.set i (σ.fr.getD i AV.undef).weak).map _
  rw [M5,List.map_set,N1]
 | _=>rfl
theorem a2F:∀ (xs:List Opd) (σ:Sig),c0 xs (σ.rn R)=(c0 xs σ).rn R
 | [],_=>rfl
 | x::xs,σ=>by rw [c0,c0,b4S,a2F xs]
theorem a6y (d:Dst) (a:AV) (σ:Sig):d.put (a.rn R.ρ) (σ.rn R)=(d.put a σ).rn R:=by
 cases d with
 | none=>rfl
 | bx=>rfl
 | t s =>
  show Sig.mk _ _ _=Sig.mk _ _ _
  congr 1
  funext j
  show m6 _ _ _ _=(m6 _ _ _ _).rn R.ρ
  unfold m6
  split
  · exact (b2D _).symm
  · rfl
 | v i =>
  show Sig.mk _ _ _=Sig.mk _ _ _
  congr 1
  show (σ.fr.map _).set i (a.rn R.ρ).strip=(σ.fr.set i a.strip).map _
  rw [List.map_set,b4X]
theorem a5s:∀ {xs:List Opd},xs.all Opd.shu=true→∀ σ:Sig,xs.map (·.read (σ.rn R))=(xs.map (·.read σ)).map (AV.rn R.ρ)
 | [],_,_=>rfl
 | x::xs,h,σ=>by
  simp only [List.all_cons,Bool.and_eq_true] at h
  rw [List.map_cons,List.map_cons,List.map_cons,a4e h.1,a5s h.2]
theorem a8g (hc:N5 R call) {o:AOper} (ho:o.shu=true) {σ σ':Sig} (hL:R.G σ.st) (h:t7 call o σ=some σ'):t7 call o (σ.rn R)=some (σ'.rn R)∧R.G σ'.st:=by
 have hst:∀ (d:Dst) (a:AV) (σ:Sig),(d.put a σ).st=σ.st:=fun d a σ=>by cases d <;> rfl
 unfold AOper.shu at ho
 simp only [Bool.and_eq_true] at ho
 obtain ⟨⟨hk,ha⟩,_⟩:=ho
 obtain ⟨r,b,s,hs,rfl⟩:=i7 h
 have hb:m9 o (σ.rn R)=(m9 o σ).rn R.ρ:=by
  unfold m9
  cases o.box with
  | none=>rfl
  | some i=>exact M5 _ _
 obtain ⟨h1,h2⟩:=b8v (R:=R) hk hc hL _ hs
 rw [← a5s ha,← hb] at h1
 refine ⟨?_,by rw [hst]; exact h2⟩
 rw [a0R h1,a2F]
 refine congrArg some (Eq.trans ?_ (a6y (R:=R) o.dst r _))
 refine congrArg (o.dst.put _) ?_
 show Sig.mk _ _ _=Sig.mk _ _ _
 congr 1
 cases o.box with
 | none=>rfl
 | some i=>exact List.map_set.symm
theorem b1k (hc:N5 R call) {o:AOper} (ho:o.shu=true) {σ σ':Sig} (hL:R.G σ.st) (h:e9 call o σ=some σ'):e9 call o (σ.rn R)=some (σ'.rn R)∧R.G σ'.st:=by
 have hst:∀ (d:Dst) (a:AV) (σ:Sig),(d.put a σ).st=σ.st:=fun d a σ=>by cases d <;> rfl
 unfold e9 at h ⊢
 cases hg:o.guard with
 | none=>rw [hg] at h; exact a8g hc ho hL h
 | some xw =>
  obtain ⟨x,w⟩:=xw
  rw [hg] at h
  have hx:x.shu=true:=by
   unfold AOper.shu at ho
   simp only [Bool.and_eq_true,hg] at ho
   exact ho.2
  dsimp only at h ⊢
  rw [a4e hx]
  cases hr:x.read σ <;> rw [hr] at h <;> try cases h
  · dsimp only [AV.rn] at h ⊢
    split at h
    · rename_i hb; rw [if_pos hb]; exact a8g hc ho hL h
    · rename_i hb; rw [if_neg hb]; cases h; exact ⟨congrArg some (a6y (R:=R) o.dst (.tuple []) σ),by rw [hst]; exact hL⟩
  · rename_i vs
    cases vs with
    | nil=>dsimp only at h; cases h; exact ⟨congrArg some (a6y (R:=R) o.dst (.tuple []) σ),by rw [hst]; exact hL⟩
    | cons v vs=>cases h
theorem a1M (hc:N5 R call):∀ {os:List AOper},os.all AOper.shu=true→∀ {σ σ':Sig},R.G σ.st→i6 call os σ=some σ'→i6 call os (σ.rn R)=some (σ'.rn R)∧R.G σ'.st
 | [],_,σ,σ',hL,h=>by simp only [i6] at h ⊢; cases h; exact ⟨rfl,hL⟩
 | o::os,ho,σ,σ',hL,h=>by
  simp only [List.all_cons,Bool.and_eq_true] at ho
  simp only [i6] at h ⊢
  cases hs:e9 call o σ with
  | none=>rw [hs] at h; cases h
  | some σ1 =>
   rw [hs] at h
   obtain ⟨h1,h2⟩:=b1k hc ho.1 hL hs
   rw [h1]
   exact a1M hc ho.2 h2 h
theorem X8:∀ (is:List Nat) (fr:List AV),e8 is (fr.map (AV.rn R.ρ))=(e8 is fr).map (AV.rn R.ρ)
 | [],_=>rfl
 | i::is,fr=>by
  rw [e8,e8,← X8 is,List.map_set]
  rfl
def a0v (R:Rn) (o:Out):Out:=(o.1,o.2.1.map (AV.rn R.ρ),R.ms o.2.2)
theorem a7M {body:List AV→St→Option Out} (hb:∀ fr st o,R.G st→body fr st=some o→body (fr.map (AV.rn R.ρ)) (R.ms st)=some (a0v R o)∧R.G o.2.2) :
 ∀ (n:Nat) {fr:List AV} {st:St} {o:Out},R.G st→B2 body n fr st=some o→B2 body n (fr.map (AV.rn R.ρ)) (R.ms st)=some (a0v R o)∧R.G o.2.2
 | 0,_,_,_,_,h=>by simp [B2] at h
 | n+1,fr,st,o,hL,h=>by
  simp only [B2] at h ⊢
  cases hq:body fr st with
  | none=>rw [hq] at h; cases h
  | some x =>
   obtain ⟨e,fr1,st1⟩:=x
   rw [hq] at h
   obtain ⟨h1,h2⟩:=hb _ _ _ hL hq
   rw [h1]
   cases e with
   | normal=>exact a7M hb n h2 h
   | exit id=>cases h; exact ⟨rfl,h2⟩
   | ret=>cases h; exact ⟨rfl,h2⟩
theorem M4 (hc:N5 R call) (n:Nat):∀ {x:ACode},x.shu=true→∀ {fr:List AV} {st:St} {o:Out},R.G st→d9 call n x fr st=some o→d9 call n x (fr.map (AV.rn R.ρ)) (R.ms st)=some (a0v R o)∧R.G o.2.2
 | .skip,_,_,_,_,hL,h=>by simp only [d9] at h ⊢; cases h; exact ⟨rfl,hL⟩
 | .exit _,_,_,_,_,hL,h=>by simp only [d9] at h ⊢; cases h; exact ⟨rfl,hL⟩
 | .ret,_,_,_,_,hL,h=>by simp only [d9] at h ⊢; cases h; exact ⟨rfl,hL⟩
 | .reg kill ops,hs,fr,st,o,hL,h=>by
  simp only [d9,fL_eq] at h ⊢
  cases hq:i6 call ops ⟨e8 kill fr,fun _=>.undef,st⟩ with
  | none=>simp [hq] at h
  | some σ =>
   obtain ⟨h1,h2⟩:=a1M hc hs hL hq
   simp only [hq] at h
   cases h
   have e:(Sig.rn R ⟨e8 kill fr,fun _=>.undef,st⟩)=⟨e8 kill (fr.map (AV.rn R.ρ)),fun _=>.undef,R.ms st⟩:=by
    rw [X8]; rfl
   rw [e] at h1
   rw [h1]
   exact ⟨rfl,h2⟩
 | .test kill ops c a b,hs,fr,st,o,hL,h=>by
  simp only [ACode.shu,Bool.and_eq_true] at hs
  obtain ⟨⟨⟨h1,h2⟩,h3⟩,h4⟩:=hs
  rw [a1P] at h ⊢
  rw [S4] at h ⊢
  cases hq:i6 call ops ⟨e8 kill fr,fun _=>.undef,st⟩ with
  | none=>rw [hq] at h; cases h
  | some σ =>
   obtain ⟨k1,k2⟩:=a1M hc h1 hL hq
   have e:(Sig.rn R ⟨e8 kill fr,fun _=>.undef,st⟩)=⟨e8 kill (fr.map (AV.rn R.ρ)),fun _=>.undef,R.ms st⟩:=by
    rw [X8]; rfl
   rw [e] at k1
   rw [hq,l9] at h
   rw [k1,l9,a4e h2]
   unfold br at h ⊢
   cases hr:c.read σ <;> rw [hr] at h <;> try cases h
   rename_i bb
   cases bb
   · exact M4 hc n h4 k2 h
   · exact M4 hc n h3 k2 h
 | .either kill a b,hs,fr,st,o,hL,h=>by
  simp only [ACode.shu,Bool.and_eq_true] at hs
  simp only [d9] at h ⊢
  obtain ⟨oa,ob,ea,eb,ka,kb⟩:=X0 h
  obtain ⟨a1,a2⟩:=M4 hc n hs.1 hL ea
  obtain ⟨b1,b2⟩:=M4 hc n hs.2 hL eb
  have hk:∀ x:Out,B8 kill (a0v R x)=a0v R (B8 kill x):=fun x=>by
   unfold B8 a0v
   rw [X8]
  rw [a1,b1,a3s (by rw [hk,hk,ka,kb]),hk,ka]
  refine ⟨rfl,?_⟩
  rw [← ka]
  exact a2
 | .seq a b,hs,fr,st,o,hL,h=>by
  simp only [ACode.shu,Bool.and_eq_true] at hs
  rw [exec_seqK] at h ⊢
  cases hq:d9 call n a fr st with
  | none=>rw [hq] at h; cases h
  | some x =>
   obtain ⟨e,fr1,st1⟩:=x
   obtain ⟨h1,h2⟩:=M4 hc n hs.1 hL hq
   rw [hq] at h
   rw [h1]
   cases e with
   | normal=>exact M4 hc n hs.2 h2 h
   | exit id=>cases h; exact ⟨rfl,h2⟩
   | ret=>cases h; exact ⟨rfl,h2⟩
 | .blk id a,hs,fr,st,o,hL,h=>by
  simp only [d9] at h ⊢
  cases hq:d9 call n a fr st with
  | none=>rw [hq] at h; cases h
  | some x =>
   obtain ⟨e,fr1,st1⟩:=x
   obtain ⟨h1,h2⟩:=M4 hc n (x:=a) hs hL hq
   rw [hq] at h
   rw [h1]
   cases e with
   | normal=>cases h; exact ⟨rfl,h2⟩
   | exit id'=>cases h; exact ⟨rfl,h2⟩
   | ret=>cases h; exact ⟨rfl,h2⟩
 | .loop a,hs,fr,st,o,hL,h=>by
  simp only [d9] at h ⊢
  exact a7M (fun fr st o hL h=>M4 hc n (x:=a) hs hL h) n hL h
def ExtRn (e:List AV→St→Option (AV×St)):Prop:=∀ (R:Rn) as st r st',R.G st→e as st=some (r,st')→e (as.map (AV.rn R.ρ)) (R.ms st)=some (r.rn R.ρ,R.ms st')∧R.G st'
def TblRn (tbl:Nat→Option AFn):Prop:=∀ f fn,tbl f=some fn→fn.code.shu=true∧∀ e,fn.ext=some e→ExtRn e
theorem b1l (r:ResK) (fr:List AV) {st:St} (hL:R.G st):r.get (fr.map (AV.rn R.ρ)) (R.ms st)=(r.get fr st).map (AV.rn R.ρ):=by
 cases r with
 | po i ag n =>
  simp only [ResK.get]
  rw [M5]
  cases fr.getD i AV.undef <;> try rfl
  rename_i o off
  simp only [AV.rn]
  rw [R.get hL]
  cases st[o]? with
  | none=>rfl
  | some ob =>
   cases ob with
   | cells cs=>simp only [Option.map_some,Obj.rn,P2,C7]
   | map _=>rfl
   | dead=>rfl
 | v i=>show some _=some _; rw [M5,← N1]
 | vs i=>show some _=some _; rw [M5]
 | bx i ag n =>
  simp only [ResK.get]
  rw [M5]
  cases fr.getD i AV.undef <;> try rfl
  rename_i cs
  simp only [AV.rn,k6,C7]
theorem a1O {st:St} (hL:R.G st):∀ (rs:List ResK) (fr:List AV),t6 rs (fr.map (AV.rn R.ρ)) (R.ms st)=(t6 rs fr st).map (·.map (AV.rn R.ρ))
 | [],_=>rfl
 | r::rs,fr=>by
  rw [t6,t6,b1l r fr hL,a1O hL rs]
  cases r.get fr st <;> cases t6 rs fr st <;> rfl
theorem b8i (hc:N5 R call) (n:Nat) {fn:AFn} (hf:fn.code.shu=true) {as:List AV} {st st':St} {r:AV} (hL:R.G st) (h:fn.run call n as st=some (r,st')):fn.run call n (as.map (AV.rn R.ρ)) (R.ms st)=some (r.rn R.ρ,R.ms st')∧R.G st':=by
 have hl:as.length=fn.np:=by
  unfold AFn.run at h
  split at h
  · assumption
  · cases h
 rw [Z8 _ _ _ _ _ hl] at h
 rw [Z8 _ _ _ _ _ (by rw [List.length_map]; exact hl)]
 cases hq:d9 call n fn.code (as++List.replicate (fn.nv - fn.np) .undef) st with
 | none=>rw [hq] at h; cases h
 | some o =>
  obtain ⟨e,fr,s⟩:=o
  obtain ⟨h1,h2⟩:=M4 hc n hf hL hq
  rw [hq] at h
  rw [List.map_append,List.map_replicate] at h1
  rw [show AV.rn R.ρ .undef=.undef from rfl] at h1
  rw [h1]
  cases e with
  | exit id=>cases h
  | normal =>
   simp only [finK,a0v,a1O (show R.G s from h2)] at h ⊢
   cases hg:t6 fn.results fr s with
   | none=>rw [hg] at h; cases h
   | some vs =>
    rw [hg] at h
    match vs,h with
    | [],h=>cases h; exact ⟨rfl,h2⟩
    | [v],h=>cases h; exact ⟨rfl,h2⟩
    | v::w::vs,h=>cases h; exact ⟨by simp only [Option.map_some,List.map_cons,AV.rn,k6,I3],h2⟩
  | ret =>
   simp only [finK,a0v,a1O (show R.G s from h2)] at h ⊢
   cases hg:t6 fn.results fr s with
   | none=>rw [hg] at h; cases h
   | some vs =>
    rw [hg] at h
    match vs,h with
    | [],h=>cases h; exact ⟨rfl,h2⟩
    | [v],h=>cases h; exact ⟨rfl,h2⟩
    | v::w::vs,h=>cases h; exact ⟨by simp only [Option.map_some,List.map_cons,AV.rn,k6,I3],h2⟩
theorem a4Z {tbl:Nat→Option AFn} (ht:TblRn tbl):∀ n,N5 R (k5 tbl n)
 | 0,_,_,_,_,_,_,h=>by simp [k5] at h
 | n+1,f,as,st,r,st',hL,h=>by
  simp only [k5] at h ⊢
  cases htb:tbl f with
  | none=>simp [htb] at h
  | some fn =>
   simp only [htb] at h ⊢
   obtain ⟨h1,h2⟩:=ht f fn htb
   cases he:fn.ext with
   | some e=>simp only [he] at h ⊢; exact h2 e he R _ _ _ _ hL h
   | none =>
    simp only [he] at h ⊢
    exact b8i (a4Z ht n) n h1 hL h
theorem c1n {tbl:Nat→Option AFn} (ht:TblRn tbl) {f:Nat} {as:List AV} {st:St} {r:AV} {st':St} (hG:R.G st) (h:Ev tbl f as st r st'):Ev tbl f (as.map (AV.rn R.ρ)) (R.ms st) (r.rn R.ρ) (R.ms st')∧R.G st':=by
 obtain ⟨n,hn⟩:=h
 obtain ⟨h1,h2⟩:=a4Z ht n _ _ _ _ _ hG hn
 exact ⟨⟨n,h1⟩,h2⟩
end
end RN
end Go.Cb
/-
 THE ABSTRACT MACHINE, part 63: an answer in a small store holds in any store that has its objects somewhere; what else is there stays.
-/
set_option maxRecDepth 4000
set_option linter.unusedVariables false
namespace Go.Cb
namespace RN
section
variable (T:St) (n:Nat) (q:Nat→Nat)
def rho (a:Nat):Nat:=if a < n then q a else a - n+T.length
def low (st:St) (j:Nat):Obj:=match (List.range n).find? fun i=>Nat.beq (q i) j with
 | some i=>((st[i]?).getD .dead).rn (rho T n q)
 | none=>(T[j]?).getD .dead
def mst (st:St):St:=(List.range T.length).map (low T n q st)++(st.drop n).map (Obj.rn (rho T n q))
variable {T n q} (hi:∀ a b,a < n→b < n→q a=q b→a=b) (hl:∀ a,a < n→q a < T.length)
include hi in
theorem b5t {a:Nat} (ha:a < n):(List.range n).find? (fun i=>Nat.beq (q i) (q a))=some a:=by
 cases h:(List.range n).find? (fun i=>Nat.beq (q i) (q a)) with
 | none =>
  have:=List.find?_eq_none.1 h a (List.mem_range.2 ha)
  simp at this
 | some b =>
  have h1:=List.find?_some h
  have h2:=List.mem_range.1 (List.mem_of_find?_eq_some h)
  rw [hi b a h2 ha (Nat.eq_of_beq_eq_true h1)]
theorem c0X {j:Nat} (hj:∀ a,a < n→q a≠j):(List.range n).find? (fun i=>Nat.beq (q i) j)=none:=by
 rw [List.find?_eq_none]
 intro x hx hb
 exact hj x (List.mem_range.1 hx) (Nat.eq_of_beq_eq_true hb)
include hi hl in
theorem a7v {a b:Nat}:rho T n q a=rho T n q b ↔ a=b:=by
 refine ⟨fun h=>?_,fun h=>h ▸ rfl⟩
 unfold rho at h
 split at h <;> split at h <;> rename_i h1 h2
 · exact hi a b h1 h2 h
 · have:=hl a h1; omega
 · have:=hl b h2; omega
 · omega
theorem a2r {st:St}:(mst T n q st).length=T.length+(st.length - n):=by simp [mst]
include hi hl in
theorem a0T {st:St} (hs:n≤st.length) (o:Nat):(mst T n q st)[rho T n q o]?=(st[o]?).map (Obj.rn (rho T n q)):=by
 unfold mst
 by_cases ho:o < n
 · have e:rho T n q o=q o:=by unfold rho; rw [if_pos ho]
   have hq:=hl o ho
   rw [e,List.getElem?_append_left (by simpa using hq),List.getElem?_map,List.getElem?_range hq]
   have:(st[o]?)=some st[o]:=List.getElem?_eq_getElem (by omega)
   rw [this,Option.map_some,Option.map_some,low,b5t hi ho]
   dsimp only
   rw [this]
   rfl
 · have e:rho T n q o=o - n+T.length:=by unfold rho; rw [if_neg ho]
   rw [e,List.getElem?_append_right (by simp),List.getElem?_map,List.getElem?_drop]
   congr 2
   simp
   omega
theorem a0u {st:St} {j:Nat} (hj:j < T.length) (hn:∀ a,a < n→q a≠j):(mst T n q st)[j]?=T[j]?:=by
 unfold mst
 rw [List.getElem?_append_left (by simpa using hj),List.getElem?_map,List.getElem?_range hj,Option.map_some,low,c0X hn,List.getElem?_eq_getElem hj]
 rfl
include hi hl in
theorem b6l {st:St} (hs:n≤st.length) (o:Nat) (x:Obj):mst T n q (st.set o x)=(mst T n q st).set (rho T n q o) (x.rn (rho T n q)):=by
 apply List.ext_getElem?
 intro j
 by_cases hj:∃ i,j=rho T n q i
 · obtain ⟨i,rfl⟩:=hj
   rw [a0T hi hl (by simpa using hs),List.getElem?_set,List.getElem?_set]
   by_cases e:o=i
   · subst e
     rw [if_pos rfl,if_pos rfl,a2r]
     by_cases h:o < st.length
     · have:rho T n q o < T.length+(st.length - n):=by
        unfold rho
        split
        · rename_i h1; have:=hl o h1; omega
        · omega
       rw [if_pos h,if_pos this]; rfl
     · have:¬ rho T n q o < T.length+(st.length - n):=by
        unfold rho
        rw [if_neg (by omega)]
        omega
       rw [if_neg h,if_neg this]; rfl
   · rw [if_neg e,if_neg (fun h=>e ((a7v hi hl).1 h)),a0T hi hl hs]
 · have hne:rho T n q o≠j:=fun e=>hj ⟨o,e.symm⟩
   rw [List.getElem?_set,if_neg hne]
   by_cases hjl:j < T.length
   · have hn:∀ a,a < n→q a≠j:=fun a ha e=>hj ⟨a,by unfold rho; rw [if_pos ha,e]⟩
     rw [a0u hjl hn,a0u hjl hn]
   · exfalso
     exact hj ⟨j - T.length+n,by unfold rho; rw [if_neg (by omega)]; omega⟩
def a8I:Rn where
 ρ:=rho T n q
 ms:=mst T n q
 G:=fun st=>n≤st.length
 inj:=a7v hi hl
 len:=fun {st} hs=>by
  rw [a2r]; unfold rho; rw [if_neg (by omega)]; omega
 get:=fun hs o=>a0T hi hl hs o
 app:=fun {st x} hs=>by simp; omega
 apps:=fun {st} hs x=>by
  unfold mst
  rw [List.drop_append_of_le_length hs,List.map_append,← List.append_assoc]
  congr 2
  refine List.map_congr_left fun j _=>?_
  unfold low
  cases h:(List.range n).find? (fun i=>Nat.beq (q i) j) with
  | none=>rfl
  | some i =>
   have:=List.mem_range.1 (List.mem_of_find?_eq_some h)
   dsimp only
   rw [List.getElem?_append_left (by omega)]
 set:=fun {st o x} hs=>by simpa using hs
 sets:=fun hs o x=>b6l hi hl hs o x
include hi hl in
theorem Ev.framed {tbl:Nat→Option AFn} (ht:TblRn tbl) {f:Nat} {as:List AV} {st:St} {r:AV} {st':St} (hn:n=st.length) (hT:∀ a,a < n→T[q a]?=(st[a]?).map (Obj.rn (rho T n q))) (h:Ev tbl f as st r st') :
 ∃ T',Ev tbl f (as.map (AV.rn (rho T n q))) T (r.rn (rho T n q)) T'∧T.length≤T'.length∧(∀ j,j < T.length→(∀ a,a < n→q a≠j)→T'[j]?=T[j]?)∧∀ o,T'[rho T n q o]?=(st'[o]?).map (Obj.rn (rho T n q)):=by
 obtain ⟨h1,h2⟩:=c1n (R:=a8I hi hl) ht (show n≤st.length by omega) h
 have e:mst T n q st=T:=by
  apply List.ext_getElem?
  intro j
  by_cases hj:∃ a,a < n∧q a=j
  · obtain ⟨a,ha,rfl⟩:=hj
    have:=a0T (T:=T) hi hl (st:=st) (by omega) a
    rw [show rho T n q a=q a by unfold rho; rw [if_pos ha]] at this
    rw [this,hT a ha]
  · have hn':∀ a,a < n→q a≠j:=fun a ha e=>hj ⟨a,ha,e⟩
    by_cases hjl:j < T.length
    · exact a0u hjl hn'
    · rw [List.getElem?_eq_none (by rw [a2r]; omega),List.getElem?_eq_none (by omega)]
 have h1:Ev tbl f (as.map (AV.rn (rho T n q))) (mst T n q st) (r.rn (rho T n q)) (mst T n q st'):=h1
 rw [e] at h1
 exact ⟨_,h1,by rw [a2r]; omega,fun j hj hn'=>a0u hj hn',fun o=>a0T hi hl h2 o⟩
end
end RN
end Go.Cb
