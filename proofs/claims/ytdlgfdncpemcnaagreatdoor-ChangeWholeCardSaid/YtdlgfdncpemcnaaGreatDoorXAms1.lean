import Derived.Test.YtdlgfdncpemcnaaGreatDoorXAm1
import Derived.WalkKit
import Derived.Deep.MidRow
import Derived.Laws.StructEq
import Derived.MapKept
import Derived.Laws.BytesArg
import Derived.Great.BuildSlice
set_option maxRecDepth 4000
set_option linter.all false
namespace Go.Cb
structure Gh where
 n:Nat
 m:Nat→Nat
 cl:Nat→Nat→Prop
 sr:Nat→Option (Nat×Option Nat)
 cp:Nat→Nat
abbrev ad (b f:Nat):Addr:=⟨b,f,none⟩
mutual
def Rel (g:Gh) (w:World):AV→Value→Prop
 | .undef,_=>True
 | .bool b,v=>v=.bool b
 | .int k n,v=>v=.int k n
 | .str s,v=>∃ b:ByteArray,v=.string b∧b.data.toList.map UInt8.toNat=s
 | .list _ xs,v=>∃ a n cap,v=.slice a n cap∧n=xs.length∧n≤cap∧(a=none→cap=0)∧(xs≠[]→∃ b f j,a=some (ad b f)∧RelRows g w b f j xs)
 | .ptr o f,v=>o < g.n∧v=.pointer (some (ad (g.m o) f))
 | .nilp,v=>v=.pointer none
 | .ro cs,v=>∃ b f,v=.pointer (some (ad b f))∧RelCells g w b f cs
 | .loc _ _,_=>False
 | .box _,_=>False
 | .map o,v=>o < g.n∧v=.map (some (g.m o))
 | .nilm,v=>v=.map none
 | .func f first i,v=>∃ a b:Array Value,v=.func (.func f) a b∧RelL g w first a.toList∧RelL g w i b.toList
 | .nilf,v=>v=.nilFunc
 | .agg cs,v=>∃ a:Array Value,v=.agg a∧RelL g w cs a.toList∧∀ c∈a.toList,c.oneCell'=true
 | .tuple vs,v=>∃ a:Array Value,v=.tuple a∧RelL g w vs a.toList
 | .iface t x,v=>∃ y,v=.iface t y∧Rel g w x y
 | .nili,v=>v=.nilIface
 | .nils,v=>v=.slice none 0 0
 | .sl o f n j,v=>o < g.n∧∃ cap,v=.slice (some (ad (g.m o) f)) n cap∧n≤cap∧f+cap*j=g.cp o
 | .fresh xs,v=>∃ b n cap j,v=.slice (some (ad b 0)) n cap∧n=xs.length∧n≤cap∧RelRows g w b 0 j xs∧∀ (k:Nat) (ys:List (List AV)),xs.flatten[k]?=some (.list true ys)→g.cl b k∧∃ a n,w.cell? (ad b k)=some (.slice a n n)
def RelL (g:Gh) (w:World):List AV→List Value→Prop
 | [],vs=>vs=[]
 | c::cs,vs=>∃ v r,vs=v::r∧Rel g w c v∧RelL g w cs r
def RelCells (g:Gh) (w:World) (b f:Nat):List AV→Prop
 | []=>True
 | c::cs=>(∃ v,w.cell? (ad b f)=some v∧v.oneCell'=true∧g.cl b f∧Rel g w c v)∧RelCells g w b (f+1) cs
def RelRows (g:Gh) (w:World) (b f i:Nat):List (List AV)→Prop
 | []=>True
 | r::rs=>r.length=i∧RelCells g w b f r∧RelRows g w b (f+i) i rs
end
structure Ext (g:Gh) (w:World) (g':Gh) (w':World):Prop where
 n:g.n≤g'.n
 m:∀ o,o < g.n→g'.m o=g.m o
 cp:∀ o,o < g.n→g'.cp o=g.cp o
 cl:∀ b f,g.cl b f→g'.cl b f
 cell:∀ b f,g.cl b f→w'.cell? (ad b f)=w.cell? (ad b f)
theorem Ext.refl (g:Gh) (w:World):Ext g w g w:=⟨AJ _,fun _ _=>rfl,fun _ _=>rfl,fun _ _ h=>h,fun _ _ _=>rfl⟩
theorem Ext.trans {g g' i:Gh} {w w' t:World} (h:Ext g w g' w') (j:Ext g' w' i t):Ext g w i t :=
 ⟨Nat.le_trans h.n j.n,fun o l=>(j.m o (Nat.lt_of_lt_of_le l h.n)).trans (h.m o l),fun o l=>(j.cp o (Nat.lt_of_lt_of_le l h.n)).trans (h.cp o l),fun b f c=>j.cl b f (h.cl b f c),
  fun b f c=>(j.cell b f (h.cl b f c)).trans (h.cell b f c)⟩
section
variable {g g':Gh} {w w':World} (h:Ext g w g' w')
include h
mutual
theorem Rel.ext:∀ (a:AV) (v:Value),Rel g w a v→Rel g' w' a v
 | .undef,_,_=>by simp[Rel]
 | .bool _,_,r=>by simpa[Rel]using r
 | .int _ _,_,r=>by simpa[Rel]using r
 | .str _,_,r=>by simpa[Rel]using r
 | .list _ xs,_,r=>by simp only[Rel]at r ⊢;obtain⟨a,n,cap,l,t,B,D,E⟩:=r;exact⟨a,n,cap,l,t,B,D,fun M=>let ⟨b,f,j,e,z⟩:=E M; ⟨b,f,j,e,RelRows.ext b f j xs z⟩⟩
 | .ptr _ _,_,r=>by simp only[Rel]at r ⊢;exact⟨Nat.lt_of_lt_of_le r.1 h.n,by rw[h.m _ r.1]; exact r.2⟩
 | .nilp,_,r=>by simpa[Rel]using r
 | .ro cs,_,r=>by simp only[Rel]at r ⊢;obtain⟨b,f,e,z⟩:=r;exact⟨b,f,e,RelCells.ext b f cs z⟩
 | .loc _ _,_,r=>by simp[Rel]at r
 | .box _,_,r=>by simp[Rel]at r
 | .map _,_,r=>by simp only[Rel]at r ⊢;exact⟨Nat.lt_of_lt_of_le r.1 h.n,by rw[h.m _ r.1]; exact r.2⟩
 | .nilm,_,r=>by simpa[Rel]using r
 | .func _ x y,_,r=>by simp only[Rel]at r ⊢;obtain⟨a,b,e,i,u⟩:=r;exact⟨a,b,e,RelL.ext x _ i,RelL.ext y _ u⟩
 | .nilf,_,r=>by simpa[Rel]using r
 | .agg cs,_,r=>by simp only[Rel]at r ⊢;obtain⟨a,e,i,u⟩:=r;exact⟨a,e,RelL.ext cs _ i,u⟩
 | .tuple vs,_,r=>by simp only[Rel]at r ⊢;obtain⟨a,e,i⟩:=r;exact⟨a,e,RelL.ext vs _ i⟩
 | .iface _ x,_,r=>by simp only[Rel]at r ⊢;obtain⟨y,e,i⟩:=r;exact⟨y,e,Rel.ext x _ i⟩
 | .nili,_,r=>by simpa[Rel]using r
 | .nils,_,r=>by simpa[Rel]using r
 | .sl _ _ _ _,_,r=>by simp only[Rel]at r ⊢;exact⟨Nat.lt_of_lt_of_le r.1 h.n,by rw[h.m _ r.1,h.cp _ r.1]; exact r.2⟩
 | .fresh xs,_,r=>by simp only[Rel]at r ⊢;obtain⟨b,n,cap,j,e,I,G,J,F⟩:=r;exact⟨b,n,cap,j,e,I,G,RelRows.ext b 0 j xs J,fun k ys hk=>let ⟨l,a,m,t⟩:=F k ys hk; ⟨h.cl _ _ l,a,m,(h.cell _ _ l).trans t⟩⟩
theorem RelL.ext:∀ (as:List AV) (vs:List Value),RelL g w as vs→RelL g' w' as vs
 | [],_,r=>by simpa[RelL]using r
 | a::as,_,r=>by simp only[RelL]at r ⊢;obtain⟨v,l,e,i,j⟩:=r;exact⟨v,l,e,Rel.ext a v i,RelL.ext as l j⟩
theorem RelCells.ext:∀ (b f:Nat) (cs:List AV),RelCells g w b f cs→RelCells g' w' b f cs
 | _,_,[],_=>by simp[RelCells]
 | b,f,c::cs,r=>by simp only[RelCells]at r ⊢;obtain⟨⟨v,e,o,cl,i⟩,j⟩:=r;exact⟨⟨v,(h.cell b f cl).trans e,o,h.cl b f cl,Rel.ext c v i⟩,RelCells.ext b (f+1) cs j⟩
theorem RelRows.ext:∀ (b f i:Nat) (xs:List (List AV)),RelRows g w b f i xs→RelRows g' w' b f i xs
 | _,_,_,[],_=>by simp[RelRows]
 | b,f,i,x::xs,r=>by simp only[RelRows]at r ⊢;obtain⟨e,j,l⟩:=r;exact⟨e,RelCells.ext b f x j,RelRows.ext b (f+i) i xs l⟩
end
end
theorem Rel.weak1 {g:Gh} {w:World}:∀ {a:AV} {v:Value},Rel g w a v→Rel g w a.weak1 v:=by intro a v h;cases a<;>first|exact h|(simp only[AV.weak1,Rel]at h ⊢; exact h)
theorem RelL.weak1 {g:Gh} {w:World}:∀ {as:List AV} {vs:List Value},RelL g w as vs→RelL g w (as.map AV.weak1) vs
 | [],_,h=>h
 | a::as,_,h=>by simp only[RelL,AG]at h ⊢;obtain⟨v,r,e,i,j⟩:=h;exact⟨v,r,e,i.weak1,RelL.weak1 j⟩
theorem Rel.weak {g:Gh} {w:World} {a:AV} {v:Value} (h:Rel g w a v):Rel g w a.weak v:=by
 cases a<;>first
  | exact h
  | (simp only[AV.weak,Rel]at h ⊢; exact h)
  | (simp only[AV.weak,Rel]at h ⊢
     obtain⟨x,e,i,j⟩:=h;exact⟨x,e,i.weak1,j⟩)
theorem RelL.length {g:Gh} {w:World}:∀ {as:List AV} {vs:List Value},RelL g w as vs→as.length=vs.length
 | [],_,h=>by simp[RelL]at h; simp[h]
 | a::as,_,h=>by simp only[RelL]at h;obtain⟨v,r,rfl,_,i⟩:=h;simp[RelL.length i]
theorem RelL.get {g:Gh} {w:World}:∀ {as:List AV} {vs:List Value},RelL g w as vs→∀ {i:Nat} {a:AV},as[i]?=some a→∃ v,vs[i]?=some v∧Rel g w a v
 | [],_,_,_,_,hi=>by simp at hi
 | a::as,_,h,i,b,hi=>by
  simp only[RelL]at h;obtain⟨v,r,rfl,j,l⟩:=h;cases i with
  | zero=>simp at hi; subst hi; exact⟨v,rfl,j⟩
  | succ i=>simpa using RelL.get l (by simpa using hi)
theorem RelL.of_get {g:Gh} {w:World}:∀ {as:List AV} {vs:List Value},as.length=vs.length→(∀ (i:Nat) (a:AV) (v:Value),as[i]?=some a→vs[i]?=some v→Rel g w a v)→RelL g w as vs
 | [],[],_,_=>by simp[RelL]
 | a::as,v::vs,hl,h=>by simp only[RelL];exact⟨v,vs,rfl,h 0 a v rfl rfl,RelL.of_get (by simpa using hl) fun i a v j l=>h (i+1) a v (by simpa using j) (by simpa using l)⟩
theorem RelL.append {g:Gh} {w:World}:∀ {as i:List AV} {vs us:List Value},RelL g w as vs→RelL g w i us→RelL g w (as++i) (vs++us)
 | [],_,_,_,h,h'=>by simp[RelL]at h; subst h; simpa using h'
 | a::as,_,_,_,h,h'=>by simp only[RelL,List.cons_append]at h ⊢;obtain⟨v,r,rfl,j,l⟩:=h;exact⟨v,r++_,rfl,j,RelL.append l h'⟩
theorem RelL.take {g:Gh} {w:World}:∀ {as:List AV} {vs:List Value} (n:Nat),RelL g w as vs→RelL g w (as.take n) (vs.take n)
 | [],_,n,h=>by simp[RelL]at h; subst h; simp[RelL]
 | a::as,_,0,h=>by simp[RelL]
 | a::as,_,n+1,h=>by simp only[RelL,List.take_succ_cons]at h ⊢;obtain⟨v,r,rfl,i,j⟩:=h;exact⟨v,r.take n,rfl,i,RelL.take n j⟩
theorem RelL.drop {g:Gh} {w:World}:∀ {as:List AV} {vs:List Value} (n:Nat),RelL g w as vs→RelL g w (as.drop n) (vs.drop n)
 | [],_,n,h=>by simp[RelL]at h; subst h; simp[RelL]
 | a::as,_,0,h=>by simpa using h
 | a::as,_,n+1,h=>by simp only[RelL,List.drop_succ_cons]at h ⊢;obtain⟨v,r,rfl,_,i⟩:=h;exact RelL.drop n i
theorem RelCells.drop {g:Gh} {w:World} {b:Nat}:∀ {cs:List AV} {f:Nat} (n:Nat),RelCells g w b f cs→RelCells g w b (f+n) (cs.drop n)
 | [],_,n,_=>by simp[RelCells]
 | c::cs,f,0,h=>h
 | c::cs,f,n+1,h=>by simp only[RelCells]at h;have:=RelCells.drop n h.2;rw[List.drop_succ_cons,show f+(n+1)=f+1+n by omega];exact this
theorem RelCells.take {g:Gh} {w:World} {b:Nat}:∀ {cs:List AV} {f:Nat} (n:Nat),RelCells g w b f cs→RelCells g w b f (cs.take n)
 | [],_,n,_=>by simp[RelCells]
 | c::cs,f,0,h=>by simp[RelCells]
 | c::cs,f,n+1,h=>by simp only[RelCells,List.take_succ_cons]at h ⊢;exact⟨h.1,RelCells.take n h.2⟩
theorem RelCells.get {g:Gh} {w:World} {b:Nat}:∀ {cs:List AV} {f i:Nat} {c:AV},RelCells g w b f cs→cs[i]?=some c →
 ∃ v,w.cell? (ad b (f+i))=some v∧v.oneCell'=true∧g.cl b (f+i)∧Rel g w c v
 | [],_,_,_,_,hi=>by simp at hi
 | a::cs,f,i,c,h,hi=>by
  simp only[RelCells]at h;cases i with
  | zero=>simp at hi; subst hi; exact h.1
  | succ i =>have:=RelCells.get h.2 (i:=i) (by simpa using hi);rw[show f+(i+1)=f+1+i by omega]; exact this
theorem RelRows.get {g:Gh} {w:World} {b j:Nat}:∀ {xs:List (List AV)} {f i:Nat} {r:List AV},RelRows g w b f j xs→xs[i]?=some r →
 r.length=j∧RelCells g w b (f+i*j) r
 | [],_,_,_,_,hi=>by simp at hi
 | a::xs,f,i,r,h,hi=>by
  simp only[RelRows]at h;cases i with
  | zero=>simp at hi; subst hi; exact⟨h.1,by simpa using h.2.1⟩
  | succ i =>have:=RelRows.get h.2.2 (i:=i) (by simpa using hi);rw[show f+(i+1)*j=f+j+i*j by rw[Nat.succ_mul]; omega]; exact this
theorem RelRows.drop {g:Gh} {w:World} {b i:Nat}:∀ {xs:List (List AV)} {f:Nat} (n:Nat),RelRows g w b f i xs→RelRows g w b (f+n*i) i (xs.drop n)
 | [],_,n,_=>by simp[RelRows]
 | c::cs,f,0,h=>by simpa using h
 | c::cs,f,n+1,h=>by simp only[RelRows]at h;have:=RelRows.drop n h.2.2;rw[List.drop_succ_cons,show f+(n+1)*i=f+i+n*i by rw[Nat.succ_mul]; omega];exact this
theorem RelRows.take {g:Gh} {w:World} {b i:Nat}:∀ {xs:List (List AV)} {f:Nat} (n:Nat),RelRows g w b f i xs→RelRows g w b f i (xs.take n)
 | [],_,n,_=>by simp[RelRows]
 | c::cs,f,0,h=>by simp[RelRows]
 | c::cs,f,n+1,h=>by simp only[RelRows,List.take_succ_cons]at h ⊢;exact⟨h.1,h.2.1,RelRows.take n h.2.2⟩
theorem RelRows.append {g:Gh} {w:World} {b i:Nat}:∀ {xs ys:List (List AV)} {f:Nat},RelRows g w b f i xs→RelRows g w b (f+xs.length*i) i ys→RelRows g w b f i (xs++ys)
 | [],_,_,_,h=>by simpa using h
 | x::xs,ys,f,h,h'=>by simp only[RelRows,List.cons_append]at h ⊢;refine⟨h.1,h.2.1,RelRows.append h.2.2 ?_⟩;rw[show f+i+xs.length*i=f+(x::xs).length*i by simp[Nat.succ_mul]; omega];exact h'
theorem RelRows.all {g:Gh} {w:World} {b j:Nat} {xs:List (List AV)} {f:Nat} (h:RelRows g w b f j xs):∀ r∈xs,r.length=j:=by intro r l;obtain⟨i,hi⟩:=List.mem_iff_getElem?.1 l;exact(h.get hi).1
end Go.Cb
namespace Go.Cb
def Own (g:Gh) (w:World) (mine:Nat→Prop) (xs:List (List AV)) (v:Value):Prop :=
 (∃ a n,v=.slice a n n) ∨
 ∃ b n cap i arr T,v=.slice (some (ad b 0)) n cap∧mine b∧xs≠[]∧(∀ r∈xs,r.length=i)∧w.heap[b]?=some (.cells arr T (0,0)) ∧
  arr.size=cap*i∧cap≤maxLen∧∀ f,n*i≤f→¬ g.cl b f
def OwnC (g:Gh) (w:World) (mine:Nat→Prop) (c:AV) (v:Value):Prop:=∀ xs,c=.list true xs→Own g w mine xs v
def OwnN (c:AV) (v:Value):Prop:=∀ xs,c=.list true xs→∃ a n,v=.slice a n n
def g7R (a:AV) (v:Value):Prop:=∀ cs,a=.agg cs→∀ vs:Array Value,v=.agg vs→∀ (k:Nat) (c:AV) (u:Value),cs[k]?=some c→vs[k]?=some u→OwnN c u
inductive Pl where
 | var (i:Nat)|tmp (s:Nat)|cell (i k:Nat)|box (i:Nat)|fly
 deriving DecidableEq
structure ValOK (g:Gh) (w:World) (mine:Nat→Prop) (a:AV) (v:Value):Prop where
 rel:Rel g w a v
 own:OwnC g w mine a v
 agg:g7R a v
def BoxOK (g:Gh) (w:World) (pr:Nat→Option Pl) (b i:Nat) (cs:List AV):Prop :=
 pr b=some (.box i)∧(∀ f,¬ g.cl b f)∧∃ arr T,w.heap[b]?=some (.cells arr T (0,0))∧RelL g w cs arr.toList∧(∀ c∈arr.toList,c.oneCell'=true) ∧
  ∀ (k:Nat) (c:AV) (v:Value),cs[k]?=some c→arr[k]?=some v→OwnC g w (fun b'=>pr b'=some (.cell i k)) c v
def VarOK (g:Gh) (w:World) (pr:Nat→Option Pl) (bx:Nat→Nat) (i:Nat) (a:AV) (v:Value):Prop :=
 match a with
 | .box cs=>v=.pointer (some (ad (bx i) 0))∧BoxOK g w pr (bx i) i cs
 | .loc ..=>False
 | a=>ValOK g w (fun b=>pr b=some (.var i)) a v
def TmpOK (g:Gh) (w:World) (pr:Nat→Option Pl) (bx:Nat→Nat) (fr:List AV) (s:Nat) (a:AV) (v:Value):Prop :=
 match a with
 | .box _=>False
 | .loc j off=>(∃ cs,fr.getD j .undef=.box cs)∧v=.pointer (some (ad (bx j) off))
 | a=>ValOK g w (fun b=>pr b=some (.tmp s)) a v
structure FR (A:Nat→Prop) (g:Gh) (w:World) (pr:Nat→Option Pl) (bx:Nat→Nat) (slots bxs:List Nat) (nt:Nat) (fr:List AV) (τ:Nat→AV) (tmps:Array Value):Prop where
 size:tmps.size=nt
 len:fr.length=slots.length
 var:∀ i s,slots[i]?=some s→VarOK g w pr bx i (fr.getD i .undef) (tmps.getD s undef)
 tmp:∀ s,s ∉ slots→TmpOK g w pr bx fr s (τ s) (tmps.getD s undef)
 prv:∀ b p,pr b=some p→g.sr b=none∧b < w.heap.size∧A b
 bxs:∀ i cs,fr.getD i .undef=.box cs→i∈bxs
inductive RelM (g:Gh) (w:World):List (AV×AV)→List MapEntry→Prop where
 | nil:RelM g w [] []
 | cons {k v:AV} {e:MapEntry} {es:List (AV×AV)} {l:List MapEntry} (hk:Rel g w k e.key) (hv:Rel g w v e.val) (hn:v.weak=v) (h:RelM g w es l):RelM g w ((k,v)::es) (e::l)
def ObjOK (g:Gh) (w:World) (o:Nat):Obj→Prop
 | .cells cs=>g.sr (g.m o)=some (o,none)∧(∀ f,¬ g.cl (g.m o) f)∧∃ arr T,w.heap[g.m o]?=some (.cells arr T (0,0))∧arr.size=g.cp o∧RelL g w cs (arr.toList.take cs.length) ∧
  (∀ c∈arr.toList.take cs.length,c.oneCell'=true)∧∀ (k:Nat) (c:AV) (v:Value),cs[k]?=some c→arr[k]?=some v→OwnC g w (fun b=>g.sr b=some (o,some k)) c v
 | .map es=>g.sr (g.m o)=some (o,none)∧(∀ f,¬ g.cl (g.m o) f)∧∃ i clock,w.heap[g.m o]?=some (.map i clock)∧RelM g w es i.toList
 | .dead=>True
structure SRel (g:Gh) (w:World) (st:St):Prop where
 n:g.n=st.length
 obj:∀ o ob,st[o]?=some ob→ObjOK g w o ob
 inn:∀ b p,g.sr b=some p→b < w.heap.size
 cli:∀ b f,g.cl b f→b < w.heap.size
def H2 (g:Gh) (w:World) (g':Gh) (w':World) (b:Nat):Prop:=w'.heap[b]?=w.heap[b]?∧∀ f,g'.cl b f→g.cl b f
structure Env (w w':World):Prop where
 os:w'.os=w.os
 out:w'.output=w.output
theorem Env.refl (w:World):Env w w:=⟨rfl,rfl⟩
theorem Env.trans {w w' i:World} (h:Env w w') (j:Env w' i) (hs:w.heap.size≤w'.heap.size:=by first|exact AJ _|assumption):Env w i:=⟨j.os.trans h.os,j.out.trans h.out⟩
theorem Env.drawn {w w':World} (h:w'.heap=w.heap) (i:w'.os=w.os) (j:w'.output=w.output):Env w w':=⟨i,j⟩
theorem Env.alloc (w:World) (i:_root_.Go.Obj) (h:∀ c t z,i=.cells c t z→z=(0,0)):Env w (w.alloc i):=⟨rfl,rfl⟩
theorem Env.setRow (w:World) (b:Nat) (cs:Array Value):Env w (w.setRow b cs):=⟨rfl,rfl⟩
structure Tr (A:Nat→Prop) (g:Gh) (w:World) (g':Gh) (w':World):Prop where
 ext:Ext g w g' w'
 size:w.heap.size≤w'.heap.size
 env:Env w w'
 keep:∀ b,b < w.heap.size→g.sr b=none→¬ A b→H2 g w g' w' b∧g'.sr b=none
theorem Tr.refl (A:Nat→Prop) (g:Gh) (w:World):Tr A g w g w:=⟨Ext.refl g w,AJ _,Env.refl w,fun _ _ h _=>⟨⟨rfl,fun _ h=>h⟩,h⟩⟩
theorem Tr.trans {A:Nat→Prop} {g g' i:Gh} {w w' j:World} (h:Tr A g w g' w') (l:Tr A g' w' i j):Tr A g w i j :=
 ⟨h.ext.trans l.ext,Nat.le_trans h.size l.size,h.env.trans l.env h.size,fun b u hs t=>by obtain⟨⟨x,c1⟩,B⟩:=h.keep b u hs t;obtain⟨⟨y,v⟩,D⟩:=l.keep b (Nat.lt_of_lt_of_le u h.size) B t;exact⟨⟨y.trans x,fun f z=>c1 f (v f z)⟩,D⟩⟩
theorem Tr.wider {A B:Nat→Prop} {g g':Gh} {w w':World} (h:Tr A g w g' w') (i:∀ b,A b→B b):Tr B g w g' w' :=
 ⟨h.ext,h.size,h.env,fun b t hs j=>h.keep b t hs (fun l=>j (i b l))⟩
theorem Own.mono {g g':Gh} {w w':World} {mine i:Nat→Prop} {xs:List (List AV)} {v:Value} (h:Own g w mine xs v)
 (E:∀ b,mine b→i b∧H2 g w g' w' b):Own g' w' i xs v:=by
 rcases h with h|⟨b,n,cap,I,arr,T,e,x,G,F,D,hs,y,l⟩
 · exact .inl h
 · obtain⟨u,z,j⟩:=E b x;exact .inr ⟨b,n,cap,I,arr,T,e,u,G,F,z.trans D,hs,y,fun f B t=>l f B (j f t)⟩
theorem OwnC.mono {g g':Gh} {w w':World} {mine i:Nat→Prop} {c:AV} {v:Value} (h:OwnC g w mine c v)
 (j:∀ b,mine b→i b∧H2 g w g' w' b):OwnC g' w' i c v:=fun xs e=>(h xs e).mono j
theorem ValOK.mono {g g':Gh} {w w':World} {mine i:Nat→Prop} {a:AV} {v:Value} (h:ValOK g w mine a v) (j:Ext g w g' w')
 (l:∀ b,mine b→i b∧H2 g w g' w' b):ValOK g' w' i a v:=⟨h.rel.ext j,h.own.mono l,h.agg⟩
theorem BoxOK.mono {g g':Gh} {w w':World} {pr j:Nat→Option Pl} {b i:Nat} {cs:List AV} (h:BoxOK g w pr b i cs) (G:Ext g w g' w')
 (t:∀ b p,pr b=some p→(p=.box i∨∃ k,p=.cell i k)→j b=some p∧H2 g w g' w' b):BoxOK g' w' j b i cs:=by
 obtain⟨x,y,arr,T,z,B,D,E⟩:=h;obtain⟨p1,u,c1⟩:=t b _ x (.inl rfl);exact⟨p1,fun f I=>y f (c1 f I),arr,T,u.trans z,RelL.ext G _ _ B,D,fun k c v F J=>(E k c v F J).mono fun b' l=>t b' _ l (.inr ⟨k,rfl⟩)⟩
theorem VarOK.mono {g g':Gh} {w w':World} {pr t:Nat→Option Pl} {bx j:Nat→Nat} {i:Nat} {a:AV} {v:Value} (h:VarOK g w pr bx i a v) (x:Ext g w g' w')
 (y:∀ b p,pr b=some p→(p=.var i∨p=.box i∨∃ k,p=.cell i k)→t b=some p∧H2 g w g' w' b) (l:∀ cs,a=.box cs→j i=bx i):VarOK g' w' t j i a v:=by
 cases a<;>first
  | exact ValOK.mono h x fun b u=>y b _ u (.inl rfl)
  | exact h
  | (rename_i cs
     refine⟨by rw[l cs rfl]; exact h.1,?_⟩;rw[l cs rfl];exact BoxOK.mono h.2 x fun b p u z=>y b p u (.inr z))
theorem TmpOK.mono {g g':Gh} {w w':World} {pr t:Nat→Option Pl} {bx i:Nat→Nat} {fr l:List AV} {s:Nat} {a:AV} {v:Value} (h:TmpOK g w pr bx fr s a v) (D:Ext g w g' w')
 (E:∀ b,pr b=some (.tmp s)→t b=some (.tmp s)∧H2 g w g' w' b) (x:∀ j cs,fr.getD j .undef=.box cs→i j=bx j∧∃ u,l.getD j .undef=.box u):TmpOK g' w' t i l s a v:=by
 cases a<;>first
  | exact ValOK.mono h D E
  | exact h
  | (obtain⟨⟨cs,B⟩,F⟩:=h
     obtain⟨y,z⟩:=x _ cs B;exact⟨z,by rw[y]; exact F⟩)
theorem FR.evolve {A:Nat→Prop} {g g':Gh} {w w':World} {pr:Nat→Option Pl} {bx:Nat→Nat} {slots bxs:List Nat} {nt:Nat} {fr:List AV} {τ:Nat→AV} {tmps:Array Value}
 (h:FR A g w pr bx slots bxs nt fr τ tmps) (t:Tr (fun _=>False) g w g' w'):FR A g' w' pr bx slots bxs nt fr τ tmps:=by
 have key:∀ b p,pr b=some p→H2 g w g' w' b∧g'.sr b=none:=fun b p l=>by obtain⟨u,v,_⟩:=h.prv b p l;exact t.keep b v u (fun x=>x)
 exact⟨h.size,h.len,fun i s hs=>(h.var i s hs).mono t.ext (fun b p l _=>⟨l,(key b p l).1⟩) (fun _ _=>rfl),
  fun s hs=>(h.tmp s hs).mono t.ext (fun b l=>⟨l,(key b _ l).1⟩) (fun j cs y=>⟨rfl,cs,y⟩),
  fun b p l=>⟨(key b p l).2,Nat.lt_of_lt_of_le (h.prv b p l).2.1 t.size,(h.prv b p l).2.2⟩,h.bxs⟩
theorem RelM.ext {g g':Gh} {w w':World} (i:Ext g w g' w') {es:List (AV×AV)} {l:List MapEntry} (h:RelM g w es l):RelM g' w' es l:=by
 induction h with
 | nil=>exact .nil
 | cons hk t j _ u=>exact .cons (hk.ext i) (t.ext i) j u
theorem ObjOK.mono {g g':Gh} {w w':World} {o:Nat} {I:Obj} (G:o < g.n) (h:ObjOK g w o I) (l:Ext g w g' w')
 (F:∀ b k,g.sr b=some (o,k)→g'.sr b=some (o,k)∧H2 g w g' w' b):ObjOK g' w' o I:=by
 cases I with
 | cells cs =>obtain⟨x,y,arr,T,z,E,J,M,N⟩:=h;obtain⟨p1,u,c1⟩:=F _ _ x;have i:=l.m o G;refine⟨by rw[i]; exact p1,fun f t=>y f (c1 f (by rw[i]at t; exact t)),arr,T,by rw[i]; exact u.trans z,by rw[l.cp o G]; exact E,RelL.ext l _ _ J,M,fun k c v D O=>(N k c v D O).mono fun b' B=>F b' _ B⟩
 | map es =>obtain⟨x,D,j,clock,y,z⟩:=h;obtain⟨p1,u,c1⟩:=F _ _ x;have i:=l.m o G;exact⟨by rw[i]; exact p1,fun f t=>D f (c1 f (by rw[i]at t; exact t)),j,clock,by rw[i]; exact u.trans y,z.ext l⟩
 | dead=>trivial
theorem SRel.evolve {g g':Gh} {w w':World} {st:St} (h:SRel g w st) (x:Ext g w g' w') (B:g'.n=g.n) (j:w.heap.size≤w'.heap.size)
 (z:∀ b p,g.sr b=some p→g'.sr b=some p∧H2 g w g' w' b) (u:∀ b p,g'.sr b=some p→g.sr b=some p) (t:∀ b f,g'.cl b f→g.cl b f∨b < w'.heap.size):SRel g' w' st :=
 ⟨B.trans h.n,fun o D i=>(h.obj o D i).mono (by rw[h.n]; exact(AB.1 i).1) x fun b k l=>z b _ l,
  fun b p l=>Nat.lt_of_lt_of_le (h.inn b p (u b p l)) j,fun b f y=>(t b f y).elim (fun v=>Nat.lt_of_lt_of_le (h.cli b f v) j) id⟩
theorem E1 {tmps:Array Value} {s:Nat} {v:Value} (h:s < tmps.size):(tmps.setIfInBounds s v).getD s undef=v:=by simp[Array.getD_eq_getD_getElem?,h]
theorem H9 {tmps:Array Value} {s t:Nat} {v:Value} (h:t≠s):(tmps.setIfInBounds s v).getD t undef=tmps.getD t undef:=by simp[Array.getD_eq_getD_getElem?,Ne.symm h]
theorem m7 {fr:List AV} {i:Nat} {a:AV} (h:i < fr.length):(fr.set i a).getD i .undef=a:=by simp[h]
theorem l3 {fr:List AV} {i j:Nat} {a:AV} (h:j≠i):(fr.set i a).getD j .undef=fr.getD j .undef:=by simp[Ne.symm h]
section
variable {A:Nat→Prop} {g:Gh} {w:World} {pr:Nat→Option Pl} {bx:Nat→Nat} {slots bxs:List Nat} {nt:Nat} {fr:List AV} {τ:Nat→AV} {tmps:Array Value}
theorem b2f (l:slots.Nodup) {i j s t:Nat} (hi:slots[i]?=some s) (y:slots[j]?=some t) (h:i≠j):s≠t:=by intro e;subst e;obtain⟨x,u⟩:=AB.1 hi;obtain⟨z,v⟩:=AB.1 y;exact h ((List.getElem_inj l).1 (u.trans v.symm))
theorem FR.put_t (h:FR A g w pr bx slots bxs nt fr τ tmps) {s:Nat} (hs:s ∉ slots) (u:s < nt) {a:AV} {v:Value} (x:TmpOK g w pr bx fr s a v) :
 FR A g w pr bx slots bxs nt fr (q9 τ s a) (tmps.setIfInBounds s v):=by
 refine⟨by simpa using h.size,h.len,fun i t j=>?_,fun t j=>?_,h.prv,h.bxs⟩
 · have l:t≠s:=fun e=>hs (e ▸ List.mem_of_getElem? j)
   rw[H9 l]; exact h.var i t j
 · by_cases e:t=s
   · subst e;rw[E1 (by rw[h.size]; exact u)];simpa[q9]using x
   · rw[H9 e];have:q9 τ s a t=τ t:=by simp[q9,e]
     rw[this]; exact h.tmp t j
theorem FR.put_v (h:FR A g w pr bx slots bxs nt fr τ tmps) (E:slots.Nodup) (B:∀ s∈slots,s < nt) {i s:Nat} (hs:slots[i]?=some s) (z:i ∉ bxs) {a:AV} {v:Value}
 (G:VarOK g w pr bx i a v) (D:∀ cs,a≠.box cs):FR A g w pr bx slots bxs nt (fr.set i a) τ (tmps.setIfInBounds s v):=by
 have hi:i < fr.length:=by rw[h.len]; exact(AB.1 hs).1
 have y:∀ j cs,fr.getD j .undef=.box cs→(fr.set i a).getD j .undef=.box cs:=fun j cs l=>by
  have:j≠i:=fun e=>z (e ▸ h.bxs j cs l)
  rw[l3 this]; exact l
 refine⟨by simpa using h.size,by simpa using h.len,fun j t u=>?_,fun t u=>?_,h.prv,fun j cs l=>?_⟩
 · by_cases e:j=i
   · subst e;obtain rfl:t=s:=Option.some.inj (u.symm.trans hs);rw[E1 (by rw[h.size]; exact B t (List.mem_of_getElem? u)),m7 hi];exact G
   · rw[H9 (b2f E u hs e),l3 e]; exact h.var j t u
 · have F:t≠s:=fun e=>u (e ▸ List.mem_of_getElem? hs)
   rw[H9 F];exact(h.tmp t u).mono (Ext.refl g w) (fun b z=>⟨z,rfl,fun _ x=>x⟩) (fun j cs l=>⟨rfl,cs,y j cs l⟩)
 · by_cases e:j=i
   · subst e; rw[m7 hi]at l; exact absurd l (D cs)
   · rw[l3 e]at l; exact h.bxs j cs l
theorem ValOK.of_weak {mine:Nat→Prop} {a:AV} {v:Value} (h:Rel g w a v):ValOK g w mine a.weak v:=by
 refine⟨h.weak,fun xs e=>?_,fun cs e vs _ k c u i _ xs l=>?_⟩
 · cases a<;>simp[AV.weak]at e
 · cases a<;>simp[AV.weak]at e;subst e;rw[AQ]at i;cases j:(‹List AV›)[k]? with
   | none=>simp[j]at i
   | some d =>simp[j]at i;subst i;cases d<;>simp[AV.weak1]at l
end
end Go.Cb
namespace Go.Cb
@[simp] theorem fN_eq {α:Type} (m:Nat) (k:Nat→α):fN m k=k m:=by cases m<;>rfl
@[simp] theorem fI_eq {α:Type} (n:Int) (k:Int→α):fI n k=k n:=by cases n<;>simp[fI]
@[simp] theorem fL_eq {α β:Type} (l:List α) (k:List α→β):fL l k=k l:=by
 induction l generalizing k with
 | nil=>rfl
 | cons a l ih=>simp[fL,ih]
@[simp] theorem fLN_eq {β:Type} (l:List Nat) (k:List Nat→β):fLN l k=k l:=by
 induction l generalizing k with
 | nil=>rfl
 | cons a l ih=>simp[fLN,ih]
@[simp] theorem fV_eq {α:Type} (v:AV) (k:AV→α):fV v k=k v:=by cases v<;>first|rfl|(rename_i b; cases b<;>rfl)|(rename_i b _; cases b<;>rfl)
@[simp] theorem fNew_eq {α:Type} (v:AV) (k:AV→α):a2g v k=k v:=by cases v<;>simp[a2g]
theorem b4w {α:Type} (xs:List Opd) (σ:Sig) (k:List AV→α):a4A xs σ k=k (xs.map (·.read σ)):=by
 induction xs generalizing k with
 | nil=>rfl
 | cons x xs i=>simp[a4A,i]
theorem J4 (call:d8) (o:AOper) (σ:Sig):y9 call o σ =
 match sem o.kind call (o.args.map (·.read σ)) (match o.box with|some i=>σ.fr.getD i .undef|none=>.undef) σ.st with
 | some (r,bx,st) =>
  let σ:=d9 o.args σ
  match o.box with
  | some i=>some (o.dst.put r { σ with fr:=σ.fr.set i bx,st })
  | none=>some (o.dst.put r { σ with st })
 | none=>none:=by
 unfold y9;rw[b4w];cases sem o.kind call (o.args.map (·.read σ)) (match o.box with|some i=>σ.fr.getD i .undef|none=>.undef) σ.st with
 | none=>rfl
 | some x =>
  obtain⟨r,bx,st⟩:=x;dsimp only;have j:∀ {α:Type} (k:AV→α),(if o.kind.fresh=true then a2g r else fV r) k=k r:=fun k=>by split<;>simp
  have l:∀ {α:Type} (k:AV→α),(if o.kind.alters=true then a2g bx else fV bx) k=k bx:=fun k=>by split<;>simp
  rw[j];cases o.box with
  | none=>rfl
  | some i=>dsimp only; rw[l]
structure Cx where
 P:Program
 slots:List Nat
 bxs:List Nat
 nt:Nat
 gt:List (Nat×List AV)
 A:Nat→Prop
def a6g:List AV→List AV→Bool
 | [],[]=>true
 | .str a::x,.str b::y=>a == b && a6g x y
 | _,_=>false
def a0d:Value→AV→Bool
 | .bool b,.bool c=>b == c
 | .int k n,.int i m=>decide (k=i) && decide (n=m)
 | .string s,.str l=>s.data.toList.map UInt8.toNat == l
 | .slice none 0 0,.list true []=>true
 | .slice none 0 0,.nils=>true
 | .pointer none,.nilp=>true
 | .map none,.nilm=>true
 | .nilFunc,.nilf=>true
 | .nilIface,.nili=>true
 | _,_=>false
def C6:List Value→List AV→Bool
 | [],[]=>true
 | v::vs,a::as=>a0d v a && C6 vs as
 | _,_=>false
def a3F:Value→AV→Bool
 | .agg vs,.agg as=>C6 vs.toList as
 | .slice none 0 0,.nils=>true
 | v,a=>a0d v a
section
variable (c:Cx)
def B3 (x:Operand) (p:Opd):Bool :=
 match x,p with
 | .tmp s,.t j=>s == j && !c.slots.contains s
 | .tmp s,.ts j=>s == j && !c.slots.contains s
 | .tmp s,.v i=>c.slots[i]? == some s
 | .tmp s,.vs i=>c.slots[i]? == some s
 | .tmp s,.l i=>c.slots[i]? == some s
 | .const v,.c a=>a3F v a
 | .func f,.c (.func f' [] [])=>f == f'
 | .global g,.c (.ro cs)=>c.gt.any fun e=>e.1 == g && a6g e.2 cs
 | _,_=>false
def Opd.steals:Opd→Bool
 | .ts _|.vs _=>true
 | _=>false
def M0 (x:Operand) (p:Opd):Bool:=B3 c x p && !p.steals
def a0R:List Operand→List Opd→Bool
 | [],[]=>true
 | x::xs,p::ps=>M0 c x p && a0R xs ps
 | _,_=>false
def q6 (d:Option Tmp) (p:Dst):Bool :=
 match d,p with
 | none,.none=>true
 | some s,.t j=>s == j && !c.slots.contains s && decide (s < c.nt)
 | some s,.v i=>c.slots[i]? == some s && !c.bxs.contains i
 | _,_=>false
def s4 (t:TypeId):Option Bool :=
 match c.P.underlying t with
 | some (.struct _)|some (.array _ _)=>some true
 | some _=>some false
 | none=>none
def r5 (t:TypeId):Option Nat:=(c.P.info? t).map (·.size)
def Z5 (t:TypeId) (f:Nat):Option Field :=
 match c.P.underlying t with
 | some (.struct i)=>i[f]?
 | _=>none
end
end Go.Cb
namespace Go.Cb
def Globs (gt:List (Nat×List AV)) (g:Gh) (w:World):Prop:=∀ e∈gt,RelCells g w e.1 0 e.2∧g.cl e.1 e.2.length∧w.cell? (ad e.1 e.2.length)=none
theorem Globs.ext {gt:List (Nat×List AV)} {g g':Gh} {w w':World} (h:Globs gt g w) (j:Ext g w g' w'):Globs gt g' w' :=
 fun e i=>⟨RelCells.ext j _ _ _ (h e i).1,j.cl _ _ (h e i).2.1,(j.cell _ _ (h e i).2.1).trans (h e i).2.2⟩
structure S (c:Cx) (g:Gh) (w:World) (pr:Nat→Option Pl) (bx:Nat→Nat) (σ:Sig) (a:Act):Prop where
 fr:FR c.A g w pr bx c.slots c.bxs c.nt σ.fr σ.τ a.tmps
 st:SRel g w σ.st
 gl:Globs c.gt g w
 fresh:∀ b,w.heap.size≤b→c.A b
 stA:∀ b p,g.sr b=some p→c.A b
def ArgOK (g:Gh) (w:World) (bx:Nat→Nat) (fr:List AV) (mine:Nat→Prop) (a:AV) (v:Value):Prop :=
 match a with
 | .loc j off=>(∃ cs,fr.getD j .undef=.box cs)∧v=.pointer (some (ad (bx j) off))
 | .box _=>True
 | a=>ValOK g w mine a v
abbrev No:Nat→Prop:=fun _=>False
theorem a8g:∀ {x y:List AV},a6g x y=true→x=y
 | [],[],_=>rfl
 | .str a::x,.str b::y,h=>by simp only[a6g,AA,beq_iff_eq]at h;rw[h.1,a8g h.2]
theorem ValOK.mk' {g:Gh} {w:World} {mine:Nat→Prop} {a:AV} {v:Value} (h:Rel g w a v) (i:∀ xs,a≠.list true xs) (j:∀ cs,a≠.agg cs):ValOK g w mine a v :=
 ⟨h,fun xs e=>absurd e (i xs),fun cs e=>absurd e (j cs)⟩
theorem a5e {v:Value} {a:AV} (h:a0d v a=true) (g:Gh) (w:World):ValOK g w No a v:=by
 unfold a0d at h;split at h
 · simp only[beq_iff_eq]at h;subst h;exact ValOK.mk' (by simp[Rel]) (by simp) (by simp)
 · simp only[AA,decide_eq_true_eq]at h;obtain⟨rfl,rfl⟩:=h;exact ValOK.mk' (by simp[Rel]) (by simp) (by simp)
 · simp only[beq_iff_eq]at h;exact ValOK.mk' (by simp only[Rel]; exact⟨_,rfl,h⟩) (by simp) (by simp)
 · exact⟨by simp only[Rel]; exact⟨none,0,0,rfl,rfl,AJ _,fun _=>rfl,fun h=>absurd rfl h⟩,fun _ _=>.inl ⟨_,_,rfl⟩,fun _ e=>(by cases e)⟩
 · exact ValOK.mk' (by simp[Rel]) (by simp) (by simp)
 · exact ValOK.mk' (by simp[Rel]) (by simp) (by simp)
 · exact ValOK.mk' (by simp[Rel]) (by simp) (by simp)
 · exact ValOK.mk' (by simp[Rel]) (by simp) (by simp)
 · exact ValOK.mk' (by simp[Rel]) (by simp) (by simp)
 · cases h
theorem b02 {v:Value} {a:AV} (h:a0d v a=true):v.oneCell'=true:=by unfold a0d at h;split at h<;>first|rfl|cases h
theorem F9:∀ {vs:List Value} {as:List AV},C6 vs as=true→∀ (g:Gh) (w:World),RelL g w as vs∧(∀ v∈vs,v.oneCell'=true) ∧
 ∀ (k:Nat) (a:AV) (v:Value),as[k]?=some a→vs[k]?=some v→OwnN a v
 | [],[],_,g,w=>by simp[RelL]
 | v::vs,a::as,h,g,w=>by
  simp only[C6,AA]at h;obtain⟨j,t⟩:=h;obtain⟨x,y,z⟩:=F9 t g w;have l:=a5e j g w;refine⟨by simp only[RelL]; exact⟨v,vs,rfl,l.rel,x⟩,?_,?_⟩
  · intro u hu;rcases List.mem_cons.1 hu with rfl|hu
    · exact b02 j
    · exact y u hu
  · intro k b u i hu;cases k with
    | zero =>
     simp at i hu;subst i; subst hu;intro xs e;rcases l.own xs e with h|⟨_,_,_,_,_,_,_,h,_⟩
     · exact h
     · exact h.elim
    | succ k=>exact z k b u (by simpa using i) (by simpa using hu)
theorem b4D {v:Value} {a:AV} (h:a3F v a=true) (g:Gh) (w:World):ValOK g w No a v:=by
 unfold a3F at h;split at h
 · rename_i vs as;obtain⟨j,l,t⟩:=F9 h g w;refine⟨by simp only[Rel]; exact⟨vs,rfl,j,l⟩,fun xs e=>(by cases e),fun cs e us i k c u x hu=>?_⟩;cases e; cases i;exact t k c u x (by simpa using hu)
 · exact ValOK.mk' (by simp[Rel]) (by simp) (by simp)
 · exact a5e h g w
theorem b2Y {v:Value} {a:AV} (h:a3F v a=true) (g:Gh) (w:World) (bx:Nat→Nat) (fr:List AV):ArgOK g w bx fr No a v:=by have i:=b4D h g w;cases a<;>first|exact i|trivial|(unfold a3F at h; split at h<;>first|(rename_i e; cases e; done)|(unfold a0d at h; split at h<;>simp_all))
section
variable {c:Cx} {g:Gh} {w:World} {pr:Nat→Option Pl} {bx:Nat→Nat} {σ:Sig} {a:Act}
theorem N6 {l:List Nat} {s:Nat} (h:(!l.contains s)=true):s ∉ l:=by simpa using h
theorem VarOK.arg {i:Nat} {b:AV} {v:Value} (h:VarOK g w pr bx i b v):ArgOK g w bx σ.fr No b.weak v:=by cases b<;>first|exact ValOK.of_weak (ValOK.rel h)|exact h.elim|trivial
theorem TmpOK.arg {s:Nat} {b:AV} {v:Value} (h:TmpOK g w pr bx σ.fr s b v):ArgOK g w bx σ.fr No b.weak v:=by cases b<;>first|exact ValOK.of_weak (ValOK.rel h)|exact h|trivial
theorem N4 (h:S c g w pr bx σ a) {x:Operand} {p:Opd} (j:M0 c x p=true):ArgOK g w bx σ.fr No (p.read σ) (a.eval x):=by
 simp only[M0,AA]at j;obtain⟨j,hs⟩:=j;unfold B3 at j;split at j
 · simp only[AA,beq_iff_eq]at j;obtain⟨rfl,B⟩:=j;exact(h.fr.tmp _ (N6 B)).arg
 · simp[Opd.steals]at hs
 · exact(h.fr.var _ _ (by simpa using j)).arg
 · simp[Opd.steals]at hs
 · rename_i s i;have t:=h.fr.var i s (by simpa using j);simp only[Opd.read,Act.eval];cases l:σ.fr.getD i .undef<;>rw[l]at t<;>first
    | exact⟨⟨_,l⟩,t.1⟩
    | exact ValOK.mk' (by simp[Rel]) (by simp) (by simp)
 · rename_i v b;simp only[Opd.read,Act.eval];exact b2Y j g w bx σ.fr
 · simp only[beq_iff_eq]at j;subst j;exact(show ValOK g w No (.func _ [] []) _ from ValOK.mk' (by simp[Act.eval,Rel,RelL]) (by simp) (by simp))
 · rename_i gi cs;simp only[List.any_eq_true,AA,beq_iff_eq]at j;obtain⟨e,z,u,y⟩:=j;have:=(h.gl e z).1;rw[u,a8g y]at this;exact(show ValOK g w No (.ro cs) _ from ValOK.mk' (by simp only[Act.eval,Rel]; exact⟨gi,0,rfl,this⟩) (by simp) (by simp))
 · cases j
inductive ArgsOK (g:Gh) (w:World) (bx:Nat→Nat) (fr:List AV):List AV→List Value→Prop where
 | nil:ArgsOK g w bx fr [] []
 | cons {a:AV} {v:Value} {as:List AV} {vs:List Value} (h:ArgOK g w bx fr No a v) (t:ArgsOK g w bx fr as vs):ArgsOK g w bx fr (a::as) (v::vs)
theorem P0 (h:S c g w pr bx σ a):∀ {xs:List Operand} {i:List Opd},a0R c xs i=true→ArgsOK g w bx σ.fr (i.map (·.read σ)) (xs.map a.eval)
 | [],[],_=>.nil
 | x::xs,p::i,hp=>by simp only[a0R,AA]at hp;exact .cons (N4 h hp.1) (P0 h hp.2)
theorem B9:∀ {xs:List Operand} {i:List Opd},a0R c xs i=true→d9 i σ=σ
 | [],[],_=>rfl
 | x::xs,p::i,hp=>by
  simp only[a0R,M0,Bool.and_eq_true]at hp;simp only[d9];have:p.spend σ=σ:=by have:=hp.1.2;cases p<;>simp_all [Opd.steals,Opd.spend]
  rw[this];exact B9 hp.2
def Post (c:Cx) (g:Gh) (w:World) (a:Act) (σ':Sig) (next:Act→World→Prop):Prop :=
 ∀ i w' g' l j,i.defers=a.defers→S c g' w' l j σ' i→Tr c.A g w g' w'→next i w'
structure Fx (c:Cx):Prop where
 nd:c.slots.Nodup
 lt:∀ s∈c.slots,s < c.nt
theorem s7 (a:Act) (d:Option Tmp) (v:Value):(a.put d v).defers=a.defers:=by cases d<;>rfl
theorem ValOK.undef {mine:Nat→Prop} {v:Value}:ValOK g w mine .undef v:=ValOK.mk' (by simp[Rel]) (by simp) (by simp)
theorem ArgOK.tmp {mine:Nat→Prop} {s:Nat} {b:AV} {v:Value} (h:ArgOK g w bx σ.fr mine b v) (j:∀ b,mine b→pr b=some (.tmp s)):TmpOK g w pr bx σ.fr s b.stripB v:=by
 cases b<;>first
  | exact ValOK.mono h (Ext.refl g w) fun b i=>⟨j b i,rfl,fun _ x=>x⟩
  | exact h
  | exact ValOK.undef
theorem ArgOK.var {mine:Nat→Prop} {i:Nat} {b:AV} {v:Value} (h:ArgOK g w bx σ.fr mine b v) (l:∀ b,mine b→pr b=some (.var i)):VarOK g w pr bx i b.strip v:=by
 cases b<;>first
  | exact ValOK.mono h (Ext.refl g w) fun b j=>⟨l b j,rfl,fun _ x=>x⟩
  | exact ValOK.undef
def Dst.pl:Dst→Pl
 | .t s=>.tmp s
 | .v i=>.var i
 | _=>.tmp 0
theorem V0 (l:Fx c) (h:S c g w pr bx σ a) {d:Option Tmp} {p:Dst} (j:q6 c d p=true) {mine:Nat→Prop} {r:AV} {v:Value} (u:ArgOK g w bx σ.fr mine r v)
 (t:∀ b,mine b→pr b=some p.pl):S c g w pr bx (p.put r σ) (a.put d v):=by
 unfold q6 at j;split at j
 · exact h
 · rename_i s y;simp only[AA,beq_iff_eq,decide_eq_true_eq]at j;obtain⟨⟨rfl,x⟩,hl⟩:=j;exact⟨h.fr.put_t (N6 x) hl (u.tmp t),h.st,h.gl,h.fresh,h.stA⟩
 · rename_i s i;simp only[AA,beq_iff_eq]at j;refine⟨h.fr.put_v l.nd l.lt j.1 (N6 j.2) (u.var t) ?_,h.st,h.gl,h.fresh,h.stA⟩;intro cs e;cases r<;>simp[AV.strip]at e
 · cases j
theorem b2k (j:Fx c) (h:S c g w pr bx σ a) {o:Oper} {p:Dst} (l:q6 c o.dst p=true) {r:AV} {v:Value}
 (i:(execOp a.eval o).run c.P w=.ok (.value v) w) (u:ArgOK g w bx σ.fr No r v) {next:Act→World→Prop} {Q:Exit→Act→World→Prop}
 (t:Post c g w a (p.put r σ) next):o.wp c.P a w next Q:=by
 unfold Oper.wp;rw[i];exact t _ _ g pr bx (s7 _ _ _) (V0 j h l u fun _ x=>x.elim) (Tr.refl _ _ _)
end
end Go.Cb
namespace Go.Cb
theorem blt_eq (a b:Nat):Nat.blt a b=decide (a < b):=by rw[Bool.eq_iff_iff,Nat.blt_eq]; simp
theorem wrap_i64 {n:Int} (i:-9223372036854775808≤n) (j:n < 9223372036854775808):IntKind.i64.wrap n=n:=by simp only[IntKind.wrap,IntKind.signed,IntKind.bits];simp only[show((2:Int) ^ 64)=18446744073709551616 from by decide,show((2:Int) ^ (64 - 1))=9223372036854775808 from by decide,Bool.true_and,decide_eq_true_eq];omega
theorem a5w {n:Int} (i:-2147483648≤n) (j:n < 2147483648):IntKind.i32.wrap n=n:=by simp only[IntKind.wrap,IntKind.signed,IntKind.bits];simp only[show((2:Int) ^ 32)=4294967296 from by decide,show((2:Int) ^ (32 - 1))=2147483648 from by decide,Bool.true_and,decide_eq_true_eq];omega
theorem d0w {n:Int} (i:0≤n) (j:n < 256):IntKind.u8.wrap n=n:=by unfold IntKind.wrap;rw[show IntKind.u8.signed=false from rfl];simp only[Bool.false_and,Bool.false_eq_true,if_false];exact Int.emod_eq_of_lt i j
theorem b9h {n:Int} (i:0≤n) (j:n < 18446744073709551616):IntKind.u64.wrap n=n:=by unfold IntKind.wrap;rw[show IntKind.u64.signed=false from rfl];simp only[Bool.false_and,Bool.false_eq_true,if_false];exact Int.emod_eq_of_lt i j
theorem R8 (k:IntKind) (n:Int):A0 k n=k.wrap n:=by
 unfold A0;split
 case h_7=>rfl
 case h_1 =>
  rw[blt_eq];split
  · rename_i m h;have h:=of_decide_eq_true h;exact(wrap_i64 (by simp only[Int.ofNat_eq_natCast]; omega) (by simp only[Int.ofNat_eq_natCast]; omega)).symm
  · rfl
 case h_2 =>
  rw[blt_eq];split
  · rename_i m h;have h:=of_decide_eq_true h;exact(wrap_i64 (by simp only[Int.negSucc_eq]; omega) (by simp only[Int.negSucc_eq]; omega)).symm
  · rfl
 case h_3 =>
  rw[blt_eq];split
  · rename_i m h;have h:=of_decide_eq_true h;exact(d0w (by simp only[Int.ofNat_eq_natCast]; omega) (by simp only[Int.ofNat_eq_natCast]; omega)).symm
  · rfl
 case h_4 =>
  rw[blt_eq];split
  · rename_i m h;have h:=of_decide_eq_true h;exact(b9h (by simp only[Int.ofNat_eq_natCast]; omega) (by simp only[Int.ofNat_eq_natCast]; omega)).symm
  · rfl
 case h_5 =>
  rw[blt_eq];split
  · rename_i m h;have h:=of_decide_eq_true h;exact(a5w (by simp only[Int.ofNat_eq_natCast]; omega) (by simp only[Int.ofNat_eq_natCast]; omega)).symm
  · rfl
 case h_6 =>
  rw[blt_eq];split
  · rename_i m h;have h:=of_decide_eq_true h;exact(a5w (by simp only[Int.negSucc_eq]; omega) (by simp only[Int.negSucc_eq]; omega)).symm
  · rfl
@[simp] theorem eqI_eq (a b:Int):eqI a b=(a == b):=by cases a<;>cases b<;>simp only[eqI]<;>rw[Bool.eq_iff_iff]<;>simp only[Nat.beq_eq,beq_iff_eq,Int.ofNat_eq_natCast,Int.negSucc_eq,Bool.false_eq_true,false_iff]<;>omega
@[simp] theorem ltI_eq (a b:Int):ltI a b=decide (a < b):=by cases a<;>cases b<;>simp only[ltI,blt_eq]<;>rw[Bool.eq_iff_iff]<;>simp<;>omega
@[simp] theorem addI_eq (a b:Int):a6U a b=a+b:=by cases a<;>cases b<;>rfl
@[simp] theorem subI_eq (a b:Int):a9Q a b=a - b:=by
 cases a<;>cases b<;>simp only[a9Q]<;>try rfl
 rename_i m n;split
 · rename_i h;have:=Nat.le_of_ble_eq_true h;show((m - n:Nat):Int)=(m:Int) - (n:Int);omega
 · rfl
theorem a3w:∀ a b:List Nat,eqN a b=(a == b)
 | [],[]=>rfl
 | [],_::_=>rfl
 | _::_,[]=>rfl
 | x::a,y::b=>by simp only[eqN,a3w a b]; rw[Bool.eq_iff_iff]; simp
mutual
theorem a5v:∀ (a b:AV),F7 a b=true↔a=b
 | .undef,b=>by cases b<;>simp[F7]
 | .bool x,b=>by cases b<;>simp[F7]
 | .int k x,b=>by cases b<;>simp[F7]
 | .str x,b=>by cases b<;>simp[F7,a3w]
 | .list o xs,b=>by cases b<;>simp[F7];rw[a2N];intro _;rfl
 | .ptr o f,b=>by cases b<;>simp[F7]
 | .nilp,b=>by cases b<;>simp[F7]
 | .ro xs,b=>by cases b<;>simp[F7];rw[D1]
 | .loc o f,b=>by cases b<;>simp[F7]
 | .box xs,b=>by cases b<;>simp[F7];rw[D1]
 | .map o,b=>by cases b<;>simp[F7]
 | .nilm,b=>by cases b<;>simp[F7]
 | .func f xs ys,b=>by cases b<;>simp[F7,and_assoc];rw[D1,D1];intro _;rfl
 | .nilf,b=>by cases b<;>simp[F7]
 | .agg xs,b=>by cases b<;>simp[F7];rw[D1]
 | .tuple xs,b=>by cases b<;>simp[F7];rw[D1]
 | .iface t x,b=>by cases b<;>simp[F7];rw[a5v];intro _;rfl
 | .nili,b=>by cases b<;>simp[F7]
 | .nils,b=>by cases b<;>simp[F7]
 | .sl o f n s,b=>by cases b<;>simp[F7,and_assoc]
 | .fresh xs,b=>by cases b<;>simp[F7];rw[a2N]
theorem D1:∀ (a b:List AV),O6 a b=true↔a=b
 | [],b=>by cases b<;>simp[O6]
 | x::xs,b=>by cases b<;>simp[O6];rw[a5v,D1]
theorem a2N:∀ (a b:List (List AV)),a2p a b=true↔a=b
 | [],b=>by cases b<;>simp[a2p]
 | x::xs,b=>by cases b<;>simp[a2p];rw[D1,a2N]
end
theorem a8Y:∀ (a b:List (AV×AV)),a6W a b=true↔a=b
 | [],b=>by cases b<;>simp[a6W]
 | (x,y)::xs,b=>by
  cases b with
  | nil=>simp[a6W]
  | cons z zs=>obtain⟨i,z2⟩:=z; simp[a6W,a5v,a8Y]
theorem a0s (a b:Obj):a8B a b=true↔a=b:=by cases a<;>cases b<;>simp[a8B,D1,a8Y]
theorem a8J:∀ (a b:St),b0y a b=true↔a=b
 | [],b=>by cases b<;>simp[b0y]
 | x::xs,b=>by cases b<;>simp[b0y,a0s,a8J]
theorem b9l (a b:Ex):a7e a b=true↔a=b:=by cases a<;>cases b<;>simp[a7e]
theorem a8a (a b:Out):a8u a b=true↔a=b:=by obtain⟨a1,a2,a3⟩:=a;obtain⟨i,j,l⟩:=b;simp[a8u,D1,a8J,b9l,and_assoc]
theorem a0U {kill:List Nat} {x y:Option Out} {o:Out} (h:a4E kill x y=some o):∃ a b,x=some a∧y=some b∧B7 kill a=o∧B7 kill b=o:=by
 unfold a4E at h;split at h
 · split at h
   · rename_i a b i;simp only[AC]at h;exact⟨a,b,rfl,rfl,h,((a8a _ _).1 i).symm.trans h⟩
   · cases h
 · cases h
theorem a3f {kill:List Nat} {a b:Out} (h:B7 kill a=B7 kill b):a4E kill (some a) (some b)=some (B7 kill a):=by unfold a4E;dsimp only;rw[if_pos ((a8a _ _).2 h)]
def l9 (c:Cx) (g:Gh) (w:World) (bx:Nat→Nat) (fr:List AV) (a:Act) (o:Oper) (r:AV):Prop :=
 ∃ v,(execOp a.eval o).run c.P w=.ok (.value v) w∧ArgOK g w bx fr No r v
theorem E9 {P:Program} {t:TypeId} {n:Nat} (h:(P.info? t).map (·.size)=some n) (w:World):(sizeOf t).run P w=.ok n w:=by obtain⟨i,hi,j⟩:=AK.1 h;simp[sizeOf,typeInfo,hi,j]
theorem a1E {P:Program} {t:TypeId} {b:Bool} (c:Cx) (l:c.P=P) (h:s4 c t=some b) (w:World):(isAgg t).run P w=.ok b w:=by
 subst l;unfold s4 at h;unfold isAgg;split at h
 · rename_i u hu; simp at h; subst h; simp[run_underlying hu]
 · rename_i n e hu; simp at h; subst h; simp[run_underlying hu]
 · rename_i d i j hu;simp at h; subst h;simp only[Sem.run_bind,run_underlying hu,Result.andThen_ok];cases d<;>first|rfl|exact(i _ rfl).elim|exact(j _ _ rfl).elim
 · cases h
theorem Addr.add_ad (b f n:Nat):(ad b f).add n=ad b (f+n):=by
 unfold Addr.add;split
 · rename_i h; subst h; rfl
 · rfl
section
variable {c:Cx} {g:Gh} {w:World} {pr:Nat→Option Pl} {bx:Nat→Nat} {σ:Sig} {a:Act} {o:Oper} {call:d8} {b b' r:AV} {st st':St}
theorem ArgOK.rel {fr:List AV} {mine:Nat→Prop} {x:AV} {v:Value} (h:ArgOK g w bx fr mine x v) (j:∀ i f,x≠.loc i f) (l:∀ cs,x≠.box cs):Rel g w x v:=by cases x<;>first|exact ValOK.rel h|exact absurd rfl (j _ _)|exact absurd rfl (l _)
theorem ArgOK.plain {fr:List AV} {mine:Nat→Prop} {x:AV} {v:Value} (h:ArgOK g w bx fr mine x v) (i:x.plain=true):ValOK g w mine x v:=by cases x<;>first|exact h|(simp[AV.plain]at i)
theorem ArgOK.of_val {fr:List AV} {mine:Nat→Prop} {x:AV} {v:Value} (h:ValOK g w mine x v) (j:∀ i f,x≠.loc i f):ArgOK g w bx fr mine x v:=by cases x<;>first|exact h|exact absurd rfl (j _ _)|trivial
theorem ArgsOK.one {fr:List AV} {as:List AV} {v:Value} (h:ArgsOK g w bx fr as [v]):∃ p,as=[p]∧ArgOK g w bx fr No p v:=by cases h with|cons i h=>cases h; exact⟨_,rfl,i⟩
theorem ArgsOK.two {fr:List AV} {as:List AV} {v u:Value} (h:ArgsOK g w bx fr as [v,u]):∃ p q,as=[p,q]∧ArgOK g w bx fr No p v∧ArgOK g w bx fr No q u:=by cases h with|cons i h=>obtain⟨q,rfl,j⟩:=ArgsOK.one h; exact⟨_,q,rfl,i,j⟩
theorem ArgsOK.three {fr:List AV} {as:List AV} {v u t:Value} (h:ArgsOK g w bx fr as [v,u,t]) :
 ∃ p q s,as=[p,q,s]∧ArgOK g w bx fr No p v∧ArgOK g w bx fr No q u∧ArgOK g w bx fr No s t:=by
 cases h with|cons i h=>obtain⟨q,s,rfl,j,l⟩:=ArgsOK.two h; exact⟨_,q,s,rfl,i,j,l⟩
variable {fr:List AV} {as:List AV}
theorem b9T {x y z:Operand} (B:o.op=.pick x y z) (G:ArgsOK g w bx fr as [a.eval x,a.eval y,a.eval z])
 (hs:A9 call as b st=some (r,b',st')):l9 c g w bx fr a o r∧b'=b∧st'=st:=by
 obtain⟨p,q,s,rfl,D,E,F⟩:=G.three;unfold A9 at hs;split at hs
 · rename_i t I J i;simp only[AM,and_true]at i;obtain⟨rfl,rfl,rfl⟩:=i;have v:a.eval x=.bool t:=by simpa[Rel]using D.rel (by simp) (by simp)
   have key:∀ (u:AV) (l:Value),ArgOK g w bx fr No u l→(if u.plain=true then some (u,b,st)else none)=some (r,b',st')→ArgOK g w bx fr No r l∧b'=b∧st'=st:=by
    intro u l hu j;split at j
    · simp only[AC,AH]at j;obtain⟨rfl,rfl,rfl⟩:=j;exact⟨hu,rfl,rfl⟩
    · cases j
   cases t with
   | true=>obtain⟨k1,k2,k3⟩:=key q _ E (by simpa using hs); exact⟨⟨a.eval y,by simp[execOp,B,v,asBool],k1⟩,k2,k3⟩
   | false=>obtain⟨k1,k2,k3⟩:=key s _ F (by simpa using hs); exact⟨⟨a.eval z,by simp[execOp,B,v,asBool],k1⟩,k2,k3⟩
 · cases hs
theorem b4e {x:Operand} (l:o.op=.nilCheck x) (t:ArgsOK g w bx fr as [a.eval x])
 (hs:B6 call as b st=some (r,b',st')):l9 c g w bx fr a o r∧b'=b∧st'=st:=by
 obtain⟨p,rfl,j⟩:=t.one;unfold B6 at hs;split at hs<;>try cases hs
 · rename_i k f i;simp only[AM,and_true]at i; subst i;have e:=j.rel (by simp) (by simp);simp only[Rel]at e;exact⟨⟨a.eval x,by simp[execOp,l,e.2],j⟩,rfl,rfl⟩
 · rename_i k f i;simp only[AM,and_true]at i; subst i;exact⟨⟨a.eval x,by simp[execOp,l,j.2],j⟩,rfl,rfl⟩
 · rename_i cs i;simp only[AM,and_true]at i; subst i;have e:=j.rel (by simp) (by simp);simp only[Rel]at e;obtain⟨bb,f,e,_⟩:=e;exact⟨⟨a.eval x,by simp[execOp,l,e],j⟩,rfl,rfl⟩
 · rename_i f u v i;simp only[AM,and_true]at i; subst i;have e:=j.rel (by simp) (by simp);simp only[Rel]at e;obtain⟨a1,a2,e,_⟩:=e;exact⟨⟨a.eval x,by simp[execOp,l,e],j⟩,rfl,rfl⟩
theorem a1X {s:TypeId} {f:Nat} {j:Field} {n:Nat} {bb l:Nat} (i:Z5 c s f=some j) (u:r5 c j.type=some n) (t:n≠0) :
 (Instr.fieldAt s (.pointer (some (ad bb l))) f).run c.P w=.ok (.pointer (some (ad bb (l+j.offset)))) w:=by
 unfold Z5 at i;split at i
 · rename_i v hu;simp[Instr.fieldAt,run_underlying hu,i,Instr.sureAddr,fieldPlace,E9 (w:=w) u,t,Addr.add_ad]
 · cases i
theorem d3C {s:TypeId} {x:Operand} {f:Nat} {j:Field} {n off:Nat} (z:o.op=.fieldAddr s x f) (v:Z5 c s f=some j) (y:r5 c j.type=some n) (u:n≠0) (l:j.offset=off)
 (D:ArgsOK g w bx fr as [a.eval x]) (hs:K6 off call as b st=some (r,b',st')):l9 c g w bx fr a o r∧b'=b∧st'=st:=by
 obtain⟨p,rfl,t⟩:=D.one;subst l;unfold K6 at hs;split at hs<;>try cases hs
 · rename_i k f i;simp only[AM,and_true]at i; subst i;have e:=t.rel (by simp) (by simp);simp only[Rel]at e;exact⟨⟨.pointer (some (ad (g.m k) (f+j.offset))),by simp only[execOp,z,e.2,Sem.run_bind,a1X (c:=c) v y u,Result.andThen_ok,Sem.run_pure],ValOK.mk' (by simp[Rel,e.1]) (by simp) (by simp)⟩,rfl,rfl⟩
 · rename_i k f i;simp only[AM,and_true]at i; subst i;exact⟨⟨.pointer (some (ad (bx k) (f+j.offset))),by simp only[execOp,z,t.2,Sem.run_bind,a1X (c:=c) v y u,Result.andThen_ok,Sem.run_pure],⟨t.1,rfl⟩⟩,rfl,rfl⟩
 · rename_i cs i;simp only[AM,and_true]at i; subst i;have e:=t.rel (by simp) (by simp);simp only[Rel]at e;obtain⟨bb,f,e,B⟩:=e;exact⟨⟨.pointer (some (ad bb (f+j.offset))),by simp only[execOp,z,e,Sem.run_bind,a1X (c:=c) v y u,Result.andThen_ok,Sem.run_pure],ValOK.mk' (by simp only[Rel]; exact⟨bb,_,rfl,B.drop _⟩) (by simp) (by simp)⟩,rfl,rfl⟩
theorem d10 {x:Operand} {i:Nat} (y:o.op=.extract x i) (z:ArgsOK g w bx fr as [a.eval x])
 (hs:M7 i call as b st=some (r,b',st')):l9 c g w bx fr a o r∧b'=b∧st'=st:=by
 obtain⟨p,rfl,t⟩:=z.one;unfold M7 at hs;split at hs
 · rename_i vs l;simp only[AM,and_true]at l; subst l;have e:=t.rel (by simp) (by simp);simp only[Rel]at e;obtain⟨arr,e,hl⟩:=e;split at hs
   · rename_i u hu;obtain⟨v,B,j⟩:=hl.get hu;simp only[AC,AH]at hs;obtain⟨rfl,rfl,rfl⟩:=hs;refine⟨⟨v,?_,ArgOK.of_val (ValOK.of_weak j) ?_⟩,rfl,rfl⟩
     · have:arr[i]?=some v:=by simpa using B
       simp[execOp,y,e,Instr.extract,this]
     · intro i f; cases u<;>simp[AV.weak]<;>simp[Rel]at j
   · cases hs
 · cases hs
theorem e5T {t:TypeId} {x:Operand} {op:UnOp} (l:o.op=.unOp op t x) (u:ArgsOK g w bx fr as [a.eval x])
 (hs:W2 op call as b st=some (r,b',st')):l9 c g w bx fr a o r∧b'=b∧st'=st:=by
 obtain⟨p,rfl,j⟩:=u.one;unfold W2 at hs;split at hs<;>try cases hs
 · rename_i t i;simp only[AM,and_true]at i; subst i;have e:a.eval x=.bool t:=by simpa[Rel]using j.rel (by simp) (by simp)
   exact⟨⟨.bool !t,by simp[execOp,l,e,Op.unary],ValOK.mk' (by simp[Rel]) (by simp) (by simp)⟩,rfl,rfl⟩
 · rename_i k n i;simp only[AM,and_true]at i; subst i;have e:a.eval x=.int k n:=by simpa[Rel]using j.rel (by simp) (by simp)
   exact⟨⟨.int k (k.wrap (0 - n)),by simp[execOp,l,e,Op.unary,Op.intArith],ValOK.mk' (by simp only[Rel,R8]) (by simp) (by simp)⟩,rfl,rfl⟩
end
end Go.Cb
namespace Go.Cb
section
variable {c:Cx} {g:Gh} {w:World} {pr:Nat→Option Pl} {bx:Nat→Nat} {a:Act} {o:Oper} {call:d8} {b b' r:AV} {st st':St} {fr as:List AV}
theorem a9m {x:AV} {v:Value} (h:Rel g w x v) (i:v.oneCell'=true):ArgOK g w bx fr No x.weak1 v:=by
 cases x
 case agg cs =>simp only[Rel]at h;obtain⟨y,rfl,_⟩:=h;simp[Value.oneCell']at i
 case loc=>simp[Rel]at h
 case box=>simp[Rel]at h
 all_goals exact ValOK.mk' (Rel.weak1 h) (by simp[AV.weak1]) (by simp[AV.weak1])
theorem b1R {cs:List AV} {us:List Value} (h:RelL g w cs us) (i:∀ u∈us,u.oneCell'=true):ArgOK g w bx fr No (.agg (cs.map AV.weak1)) (.agg us.toArray):=by
 refine⟨by simp only[Rel]; exact⟨us.toArray,rfl,by simpa using h.weak1,by simpa using i⟩,fun xs e=>(by cases e),fun v e vs _ k d u j _ xs t=>?_⟩;simp only[AV.agg.injEq]at e;subst e;rw[AQ]at j;cases i:cs[k]? with
 | none=>simp[i]at j
 | some l =>simp[i]at j;subst j;cases l<;>simp[AV.weak1]at t
theorem RelCells.vals:∀ {cs:List AV} {bb f:Nat},RelCells g w bb f cs→∃ us,RelL g w cs us∧w.rangeAt bb f us∧(∀ u∈us,u.oneCell'=true)∧∀ j,j < us.length→g.cl bb (f+j)
 | [],_,_,_=>⟨[],by simp[RelL],fun j v h=>by simp at h,by simp,by simp⟩
 | x::cs,bb,f,h=>by
  simp only[RelCells]at h;obtain⟨⟨v,B,i,t,z⟩,l⟩:=h;obtain⟨us,D,E,F,G⟩:=RelCells.vals l;refine⟨v::us,by simp only[RelL]; exact⟨v,us,rfl,z,D⟩,fun j u hu=>?_,?_,fun j y=>?_⟩
  · cases j with
    | zero=>simp at hu; subst hu; exact B
    | succ j=>rw[show f+(j+1)=f+1+j by omega]; exact E j u (by simpa using hu)
  · intro u hu;rcases List.mem_cons.1 hu with rfl|hu
    · exact i
    · exact F u hu
  · cases j with
    | zero=>exact t
    | succ j=>rw[show f+(j+1)=f+1+j by omega]; exact G j (by simpa using y)
theorem a5d {bb:Nat} {arr:Array Value} {T:TypeId} {z:Nat×Nat} (h:w.heap[bb]?=some (.cells arr T z)) (off:Nat):w.rangeAt bb off (arr.toList.drop off):=by intro j v i;rw[cell_of_row w bb (off+j) arr T z h];simpa using i
theorem a4f {bb:Nat} {arr:Array Value} {T:TypeId} {z:Nat×Nat} (h:w.heap[bb]?=some (.cells arr T z)) (n off:Nat):w.rangeAt bb off ((arr.toList.take n).drop off):=by
 intro j v i;rw[cell_of_row w bb (off+j) arr T z h];rw[List.getElem?_drop,List.getElem?_take]at i;split at i
 · simpa using i
 · cases i
theorem Y6 {t:TypeId} {x:Operand} {bb f n:Nat} {D:Bool} {cs:List AV} {us:List Value} (J:o.op=.load t x) (i:s4 c t=some D) (O:r5 c t=some n)
 (M:a.eval x=.pointer (some (ad bb f))) (hl:RelL g w cs us) (I:w.rangeAt bb f us) (G:∀ u∈us,u.oneCell'=true) (l:j0 D n cs=some r):l9 c g w bx fr a o r:=by
 cases D with
 | true =>
  simp only[j0,if_true]at l;split at l
  · rename_i E;simp only[AC]at l;subst l;have B:n≤us.length:=by rw[← hl.length]; exact E
    obtain⟨d,hu,N⟩:∃ d,c.P.underlying t=some d∧d.isRow=true:=by unfold s4 at i;split at i<;>first|exact⟨_,‹_›,rfl⟩|simp at i
    refine⟨.agg (us.take n).toArray,?_,b1R (hl.take n) fun u hu=>G u (List.mem_of_mem_take hu)⟩;have F:=run_loadAt_mid (P:=c.P) w bb f t (us.take n) d (fun j v z=>I j v (by
     rw[List.getElem?_take]at z; split at z
     · exact z
     · cases z)) hu N (by rw[show(c.P.info? t).map (·.size)=some n from O,AO,Nat.min_eq_left B])
    simp only[execOp,J,M,Sem.run_bind,F,Result.andThen_ok,Sem.run_pure]
  · cases l
 | false =>
  simp only[j0,Bool.false_eq_true,if_false]at l;cases cs with
  | nil=>simp at l
  | cons y ys =>
   simp only[AC]at l;subst l;simp only[RelL]at hl;obtain⟨v,S,rfl,F,_⟩:=hl;refine⟨v,?_,a9m F (G v (by simp))⟩;have z:w.cell? (ad bb f)=some v:=by simpa using I 0 v rfl
   simp[execOp,J,M,Instr.loadAt,Instr.sureAddr,loadVar,a1E c rfl i,z]
theorem a9T {t:TypeId} {x:Operand} {l:Bool} {n:Nat} (D:o.op=.load t x) (j:s4 c t=some l) (B:r5 c t=some n) (E:ArgsOK g w bx fr as [a.eval x])
 (hs:J7 l n call as b st=some (r,b',st')):l9 c g w bx fr a o r∧b'=b∧st'=st:=by
 obtain⟨p,rfl,y⟩:=E.one;unfold J7 at hs;split at hs
 · rename_i cs i;simp only[AM,and_true]at i; subst i;obtain⟨v,F,u⟩:=AK.1 hs;simp only[AH]at u;obtain⟨rfl,rfl,rfl⟩:=u;have e:=y.rel (by simp) (by simp);simp only[Rel]at e;obtain⟨bb,f,e,z⟩:=e;obtain⟨us,G,I,J,_⟩:=z.vals;exact⟨Y6 D j B e G I J F,rfl,rfl⟩
 · cases hs
theorem b8k {τ:Nat→AV} (h:FR c.A g w pr bx c.slots c.bxs c.nt fr τ a.tmps) {i:Nat} {t:TypeId} {x:Operand} {E:Bool} {n:Nat} {s:Nat} (hi:c.slots[i]?=some s) (N:o.op=.load t x) (B:s4 c t=some E) (M:r5 c t=some n) (O:ArgsOK g w bx fr as [a.eval x])
 (hs:G4 i E n call as (fr.getD i .undef) st=some (r,b',st')):l9 c g w bx fr a o r∧b'=fr.getD i .undef∧st'=st:=by
 obtain⟨p,rfl,G⟩:=O.one;unfold G4 at hs;split at hs
 · rename_i j off cs y I;simp only[AM,and_true]at y; subst y;split at hs
   · rename_i D;subst D;obtain⟨v,S,F⟩:=AK.1 hs;simp only[AH]at F;obtain⟨rfl,rfl,rfl⟩:=F;have l:=h.var i s hi;rw[I]at l;obtain⟨_,_,_,arr,T,J,hl,z,_⟩:=l;exact⟨Y6 N B M G.2 (hl.drop off) (a5d J off) (fun u hu=>z u (List.mem_of_mem_drop hu)) S,rfl,rfl⟩
   · cases hs
 · cases hs
theorem a9F (h:SRel g w st) {t:TypeId} {x:Operand} {z:Bool} {n:Nat} (G:o.op=.load t x) (l:s4 c t=some z) (F:r5 c t=some n) (I:ArgsOK g w bx fr as [a.eval x])
 (hs:B0 z n call as b st=some (r,b',st')):l9 c g w bx fr a o r∧b'=b∧st'=st:=by
 obtain⟨p,rfl,D⟩:=I.one;unfold B0 at hs;split at hs
 · rename_i M off i;simp only[AM,and_true]at i; subst i;split at hs
   · rename_i cs y;obtain⟨v,J,B⟩:=AK.1 hs;simp only[AH]at B;obtain⟨rfl,rfl,rfl⟩:=B;have e:=D.rel (by simp) (by simp);simp only[Rel]at e;obtain⟨_,_,arr,T,E,_,hl,j,_⟩:=h.obj _ _ y;exact⟨Y6 G l F e.2 (hl.drop off) (a4f E cs.length off) (fun u hu=>j u (List.mem_of_mem_drop hu)) J,rfl,rfl⟩
   · cases hs
 · cases hs
theorem b7K (h:SRel g w st) {t:TypeId} {x:Operand} {j:Bool} {n:Nat} (u:o.op=.load t x) (i:s4 c t=some j) (l:r5 c t=some n) (v:ArgsOK g w bx fr as [a.eval x])
 (hs:D3 j n call as b st=some (r,b',st')):l9 c g w bx fr a o r∧b'=b∧st'=st:=by
 unfold D3 at hs;split at hs
 · exact a9T (call:=call) u i l v hs
 · exact a9F (call:=call) h u i l v hs
 · cases hs
theorem b78 {t:TypeId} {l:Bool} {n off:Nat} {cs:List AV} {arr:Array Value} (j:s4 c t=some l) (G:r5 c t=some n)
 (hl:RelL g w cs arr.toList) (B:∀ u∈arr.toList,u.oneCell'=true) (z:off+n≤cs.length) (i:j0 l n (cs.drop off)=some r) :
 ∃ v,(part t arr off).run c.P w=.ok v w∧ArgOK g w bx fr No r v:=by
 cases l with
 | true =>
  simp only[j0,if_true]at i;split at i
  · rename_i E;simp only[AC]at i;subst i;refine⟨.agg (arr.extract off (off+n)),?_,?_⟩
    · simp[part,a1E c rfl j,E9 (w:=w) G]
    · have e:arr.extract off (off+n)=((arr.toList.drop off).take n).toArray:=by apply Array.ext';simp[Array.toList_extract]
      rw[e];exact b1R ((hl.drop off).take n) fun u hu=>B u (List.mem_of_mem_drop (List.mem_of_mem_take hu))
  · cases i
 | false =>
  simp only[j0,Bool.false_eq_true,if_false]at i;have x:=hl.drop off;cases D:cs.drop off with
  | nil=>simp[D]at i
  | cons y ys =>
   rw[D]at i x;simp only[AC]at i;subst i;simp only[RelL]at x;obtain⟨v,us,hu,I,_⟩:=x;have F:arr[off]?=some v:=by
    have:(arr.toList.drop off)[0]?=some v:=by rw[hu]; rfl
    simpa using this
   refine⟨v,by simp[part,a1E c rfl j,F],a9m I (B v ?_)⟩;rw[Array.mem_toList_iff];exact Array.mem_of_getElem? F
theorem d3X {s:TypeId} {x:Operand} {f:Nat} {l:Field} {n off:Nat} {E:Bool} (J:o.op=.field s x f) (t:Z5 c s f=some l) (z:s4 c l.type=some E) (I:r5 c l.type=some n) (j:l.offset=off)
 (M:ArgsOK g w bx fr as [a.eval x]) (hs:P8 off n E call as b st=some (r,b',st')):l9 c g w bx fr a o r∧b'=b∧st'=st:=by
 obtain⟨p,rfl,G⟩:=M.one;subst j;unfold P8 at hs;split at hs
 · rename_i cs i;simp only[AM,and_true]at i; subst i;split at hs
   · rename_i B;obtain⟨v,N,F⟩:=AK.1 hs;simp only[AH]at F;obtain⟨rfl,rfl,rfl⟩:=F;have e:=G.rel (by simp) (by simp);simp only[Rel]at e;obtain⟨arr,e,hl,y⟩:=e;obtain⟨u,hu,hk⟩:=b78 (c:=c) (bx:=bx) (fr:=fr) z I hl y B N;unfold Z5 at t;split at t
     · rename_i O D;exact⟨⟨u,by simp[execOp,J,e,Instr.field,run_underlying D,t,asAgg,hu],hk⟩,rfl,rfl⟩
     · cases t
   · cases hs
 · cases hs
theorem b8b {t:TypeId} {x:Operand} {at_:Array TypeId} (v:o.op=.call { callee:=.builtin .len,args:=#[x],argTypes:=at_ }) (u:at_[0]?=some t) (hu:c.P.underlying t=some .string)
 (y:ArgsOK g w bx fr as [a.eval x]) (hs:N7 call as b st=some (r,b',st')):l9 c g w bx fr a o r∧b'=b∧st'=st:=by
 obtain⟨p,rfl,l⟩:=y.one;unfold N7 at hs;split at hs
 · rename_i s i;simp only[AM,and_true]at i; subst i;simp only[AC,AH]at hs;obtain⟨rfl,rfl,rfl⟩:=hs;have e:=l.rel (by simp) (by simp);simp only[Rel]at e;obtain⟨j,e,rfl⟩:=e;refine⟨⟨.int .i64 j.size,?_,ValOK.mk' (by simp only[Rel,AF]; rfl) (by simp) (by simp)⟩,rfl,rfl⟩;simp[execOp,v,resolve,invoke,builtin,Builtin.len_,u,run_underlying hu,e,goInt]
 · cases hs
theorem b9o {t e:TypeId} {x:Operand} {at_:Array TypeId} (u:o.op=.call { callee:=.builtin .len,args:=#[x],argTypes:=at_ }) (l:at_[0]?=some t) (hu:c.P.underlying t=some (.slice e))
 (y:ArgsOK g w bx fr as [a.eval x]) (hs:G2 call as b st=some (r,b',st')):l9 c g w bx fr a o r∧b'=b∧st'=st:=by
 obtain⟨p,rfl,j⟩:=y.one;unfold G2 at hs;split at hs
 · rename_i own xs i;simp only[AM,and_true]at i; subst i;simp only[AC,AH]at hs;obtain⟨rfl,rfl,rfl⟩:=hs;have e:=j.rel (by simp) (by simp);simp only[Rel]at e;obtain⟨v,n,cap,e,rfl,_⟩:=e;refine⟨⟨.int .i64 xs.length,?_,ValOK.mk' (by simp[Rel]) (by simp) (by simp)⟩,rfl,rfl⟩;simp[execOp,u,resolve,invoke,builtin,Builtin.len_,l,run_underlying hu,e,goInt]
 · rename_i z f n B i;simp only[AM,and_true]at i; subst i;simp only[AC,AH]at hs;obtain⟨rfl,rfl,rfl⟩:=hs;have e:=j.rel (by simp) (by simp);simp only[Rel]at e;obtain⟨_,cap,e,_⟩:=e;refine⟨⟨.int .i64 n,?_,ValOK.mk' (by simp[Rel]) (by simp) (by simp)⟩,rfl,rfl⟩;simp[execOp,u,resolve,invoke,builtin,Builtin.len_,l,run_underlying hu,e,goInt]
 · rename_i i;simp only[AM,and_true]at i; subst i;simp only[AC,AH]at hs;obtain⟨rfl,rfl,rfl⟩:=hs;have e:=j.rel (by simp) (by simp);simp only[Rel]at e;refine⟨⟨.int .i64 0,?_,ValOK.mk' (by simp[Rel]) (by simp) (by simp)⟩,rfl,rfl⟩;simp[execOp,u,resolve,invoke,builtin,Builtin.len_,l,run_underlying hu,e,goInt]
 · cases hs
theorem b84 {x y:Operand} {at_:Array TypeId} (v:o.op=.call { callee:=.builtin .min,args:=#[x,y],argTypes:=at_ })
 (z:ArgsOK g w bx fr as [a.eval x,a.eval y]) (hs:R3 call as b st=some (r,b',st')):l9 c g w bx fr a o r∧b'=b∧st'=st:=by
 obtain⟨p,q,rfl,t,u⟩:=z.two;unfold R3 at hs;split at hs
 · rename_i k m B n i;simp only[AM,and_true]at i;obtain⟨rfl,rfl⟩:=i;split at hs
   · rename_i hk;subst hk;simp only[AC,AH]at hs;obtain⟨rfl,rfl,rfl⟩:=hs;have j:a.eval x=.int k m:=by simpa[Rel]using t.rel (by simp) (by simp)
     have l:a.eval y=.int k n:=by simpa[Rel]using u.rel (by simp) (by simp)
     refine⟨⟨.int k (b22 m n),?_,ValOK.mk' (by simp[Rel]) (by simp) (by simp)⟩,rfl,rfl⟩;simp[execOp,v,resolve,invoke,builtin,Builtin.min_,Builtin.min2,j,l,b22]
   · cases hs
 · cases hs
theorem c1Q {t e:TypeId} {x i:Operand} {G:Nat} (O:o.op=.indexAddr t x i) (hu:c.P.underlying t=some (.slice e)) (N:r5 c e=some G)
 (Y:ArgsOK g w bx fr as [a.eval x,a.eval i]) (hs:I1 G call as b st=some (r,b',st')):l9 c g w bx fr a o r∧b'=b∧st'=st:=by
 obtain⟨p,q,rfl,I,J⟩:=Y.two;unfold I1 at hs;split at hs
 · rename_i own xs k B j;simp only[AM,and_true]at j;obtain⟨rfl,rfl⟩:=j;have F:a.eval i=.int k B:=by simpa[Rel]using J.rel (by simp) (by simp)
   have l:=I.rel (by simp) (by simp);simp only[Rel]at l;obtain⟨a0,n,cap,l,rfl,_,_,Z⟩:=l;split at hs
   · rename_i v;split at hs
     · rename_i row u;split at hs
       · rename_i M;simp only[AC,AH]at hs;obtain⟨rfl,rfl,rfl⟩:=hs;obtain⟨y,_⟩:=AB.1 u;obtain⟨bb,f,E,rfl,z⟩:=Z (by intro T; subst T; simp at y);obtain⟨W,V⟩:=z.get u;obtain rfl:E=G:=by omega
         have D:B < (xs.length:Int):=by omega
         refine⟨⟨.pointer (some (ad bb (f+B.toNat*E))),?_,ValOK.mk' (by simp only[Rel]; exact⟨bb,_,rfl,V⟩) (by simp) (by simp)⟩,rfl,rfl⟩;simp[execOp,O,l,F,Instr.indexAt,asIntOf,run_underlying hu,E9 (w:=w) N,v,D,Addr.add_ad]
       · cases hs
     · cases hs
   · cases hs
 · rename_i oo f n s k B j;simp only[AM,and_true]at j;obtain⟨rfl,rfl⟩:=j;have F:a.eval i=.int k B:=by simpa[Rel]using J.rel (by simp) (by simp)
   have l:=I.rel (by simp) (by simp);simp only[Rel]at l;obtain⟨S,cap,l,_⟩:=l;split at hs
   · rename_i U;obtain⟨v,y,rfl⟩:=U;simp only[AC,AH]at hs;obtain⟨rfl,rfl,rfl⟩:=hs;refine⟨⟨.pointer (some (ad (g.m oo) (f+B.toNat*s))),?_,ValOK.mk' (by simp only[Rel]; exact⟨S,trivial⟩) (by simp) (by simp)⟩,rfl,rfl⟩;simp[execOp,O,l,F,Instr.indexAt,asIntOf,run_underlying hu,E9 (w:=w) N,v,y,Addr.add_ad]
   · cases hs
 · cases hs
theorem b95 {t e:TypeId} {x i:Operand} {len D:Nat} (G:o.op=.indexAddr t x i) (hu:c.P.underlying t=some (.array len e)) (F:r5 c e=some D)
 (I:ArgsOK g w bx fr as [a.eval x,a.eval i]) (hs:E0 len D call as b st=some (r,b',st')):l9 c g w bx fr a o r∧b'=b∧st'=st:=by
 obtain⟨p,q,rfl,z,B⟩:=I.two;have run:∀ (bb f:Nat) (k:IntKind) (l:Int),a.eval x=.pointer (some (ad bb f))→a.eval i=.int k l→0≤l∧l < (len:Int) →
  (execOp a.eval o).run c.P w=.ok (.value (.pointer (some (ad bb (f+l.toNat*D))))) w:=by
  intro bb f k l u y v;simp[execOp,G,u,y,Instr.indexAt,asIntOf,run_underlying hu,Instr.sureAddr,E9 (w:=w) F,v.1,v.2,Addr.add_ad]
 unfold E0 at hs;split at hs
 · rename_i cs k l j;simp only[AM,and_true]at j;obtain⟨rfl,rfl⟩:=j;have y:a.eval i=.int k l:=by simpa[Rel]using B.rel (by simp) (by simp)
   have u:=z.rel (by simp) (by simp);simp only[Rel]at u;obtain⟨bb,f,u,E⟩:=u;split at hs
   · rename_i v;simp only[AC,AH]at hs;obtain⟨rfl,rfl,rfl⟩:=hs;exact⟨⟨_,run bb f k l u y v,ValOK.mk' (by simp only[Rel]; exact⟨bb,_,rfl,E.drop _⟩) (by simp) (by simp)⟩,rfl,rfl⟩
   · cases hs
 · rename_i J f k l j;simp only[AM,and_true]at j;obtain⟨rfl,rfl⟩:=j;have y:a.eval i=.int k l:=by simpa[Rel]using B.rel (by simp) (by simp)
   have u:=z.rel (by simp) (by simp);simp only[Rel]at u;split at hs
   · rename_i v;simp only[AC,AH]at hs;obtain⟨rfl,rfl,rfl⟩:=hs;exact⟨⟨_,run _ f k l u.2 y v,ValOK.mk' (by simp[Rel,u.1]) (by simp) (by simp)⟩,rfl,rfl⟩
   · cases hs
 · rename_i J f k l j;simp only[AM,and_true]at j;obtain⟨rfl,rfl⟩:=j;have y:a.eval i=.int k l:=by simpa[Rel]using B.rel (by simp) (by simp)
   split at hs
   · rename_i v;simp only[AC,AH]at hs;obtain⟨rfl,rfl,rfl⟩:=hs;exact⟨⟨_,run _ f k l z.2 y v,⟨z.1,rfl⟩⟩,rfl,rfl⟩
   · cases hs
 · cases hs
theorem b8a {t:TypeId} {x i:Operand} (N:o.op=.index t x i) (hu:c.P.underlying t=some .string)
 (O:ArgsOK g w bx fr as [a.eval x,a.eval i]) (hs:H8 call as b st=some (r,b',st')):l9 c g w bx fr a o r∧b'=b∧st'=st:=by
 obtain⟨p,q,rfl,J,M⟩:=O.two;unfold H8 at hs;split at hs
 · rename_i s k z j;simp only[AM,and_true]at j;obtain⟨rfl,rfl⟩:=j;have I:a.eval i=.int k z:=by simpa[Rel]using M.rel (by simp) (by simp)
   have v:=J.rel (by simp) (by simp);simp only[Rel]at v;obtain⟨B,v,rfl⟩:=v;split at hs
   · rename_i D;split at hs
     · rename_i n G;simp only[AC,AH]at hs;obtain⟨rfl,rfl,rfl⟩:=hs;rw[AQ]at G;obtain⟨y,E,rfl⟩:=AK.1 G;have F:B[z.toNat]?=some y:=by
        obtain⟨l,E⟩:=AB.1 E;have u:z.toNat < B.size:=by rw[Array.length_toList]at l; exact l
        rw[getElem?_pos B z.toNat u];rw[← E]; rfl
       refine⟨⟨.int .u8 y.toNat,?_,ValOK.mk' (by simp[Rel]) (by simp) (by simp)⟩,rfl,rfl⟩;simp[execOp,N,v,I,Instr.index,asIntOf,run_underlying hu,D,F]
     · cases hs
   · cases hs
 · cases hs
theorem b7Y {t u:TypeId} {x:Operand} {k:IntKind} {k0:IntKind} (y:o.op=.convert t u x) (j:c.P.underlying t=some (.int k0)) (hu:c.P.underlying u=some (.int k))
 (z:ArgsOK g w bx fr as [a.eval x]) (hs:O1 k call as b st=some (r,b',st')):l9 c g w bx fr a o r∧b'=b∧st'=st:=by
 obtain⟨p,rfl,l⟩:=z.one;unfold O1 at hs;split at hs
 · rename_i k1 n i;simp only[AM,and_true]at i; subst i;simp only[AC,AH]at hs;obtain⟨rfl,rfl,rfl⟩:=hs;have e:a.eval x=.int k1 n:=by simpa[Rel]using l.rel (by simp) (by simp)
   have v:(convert t u (.int k1 n)).run c.P w=.ok (.int k (k.wrap n)) w:=by unfold convert;rw[Sem.run_bind,run_underlying j,Result.andThen_ok,Sem.run_bind,run_underlying hu,Result.andThen_ok];rfl
   refine⟨⟨.int k (k.wrap n),?_,ValOK.mk' ?_ (by simp) (by simp)⟩,rfl,rfl⟩
   · simp only[execOp,y,e,Sem.run_bind,v,Result.andThen_ok,Sem.run_pure]
   · rw[R8]; simp only[Rel]
 · cases hs
end
end Go.Cb
namespace Go.Cb
theorem a3l {a b:List UInt8} (h:a.map UInt8.toNat=b.map UInt8.toNat):a=b:=by
 induction a generalizing b with
 | nil=>cases b<;>simp_all
 | cons x a i =>
  cases b with
  | nil=>simp at h
  | cons y b =>simp only[AG,AM]at h;rw[UInt8.toNat_inj.1 h.1,i h.2]
theorem b2g (a b:List UInt8):eqN (a.map UInt8.toNat) (b.map UInt8.toNat)=(a == b):=by rw[a3w,Bool.eq_iff_iff];simp only[beq_iff_eq];exact⟨a3l,fun h=>by rw[h]⟩
theorem a8d:∀ a b:List UInt8,l5 (a.map UInt8.toNat) (b.map UInt8.toNat)=Op.bytesLess a b
 | [],[]=>rfl
 | [],_::_=>rfl
 | _::_,[]=>rfl
 | x::a,y::b=>by
  simp only[AG,l5,Op.bytesLess,a8d a b,blt_eq];congr 1
  · rw[Bool.eq_iff_iff,AA,AA];simp[UInt8.toNat_inj]
section
variable {c:Cx} {g:Gh} {w:World} {pr:Nat→Option Pl} {bx:Nat→Nat} {a:Act} {o:Oper} {call:d8} {b b' r:AV} {st st':St} {fr as:List AV}
theorem c7V {t E:TypeId} {x y:Operand} {op:BinOp} {k j:IntKind} {m n:Int} (D:o.op=.binOp op t x y E) (u:a.eval x=.int k m) (B:a.eval y=.int j n)
 (hs:l8 op (.int k m) (.int j n)=some r):∃ v,(execOp a.eval o).run c.P w=.ok (.value v) w∧ValOK g w No r v:=by
 have key:∀ v,(binOp op t (.int k m) (.int j n)).run c.P w=.ok v w→(execOp a.eval o).run c.P w=.ok (.value v) w:=by
  intro v h;have hg:(eqGuard op t x y (.int k m) (.int j n)).run c.P w=.ok () w:=by cases op<;>rfl
  simp only[execOp,D,u,B,Sem.run_bind,hg,h,Result.andThen_ok,Sem.run_pure]
 have int:∀ l z,r=.int l z→ValOK g w No r (.int l z):=fun l z e=>by rw[e]; exact ValOK.mk' (by simp[Rel]) (by simp) (by simp)
 have bool:∀ z,r=.bool z→ValOK g w No r (.bool z):=fun z e=>by rw[e]; exact ValOK.mk' (by simp[Rel]) (by simp) (by simp)
 unfold l8 at hs;by_cases hk:k=j
 · subst hk;cases op<;>simp only[if_true]at hs
   case shl=>split at hs<;>simp at hs; rename_i i; exact⟨_,key _ (by simp[binOp,Op.shift,i]),int _ _ hs.symm⟩
   case shr=>split at hs<;>simp at hs; rename_i i; exact⟨_,key _ (by simp[binOp,Op.shift,i]),int _ _ hs.symm⟩
   case add=>simp[R8]at hs; exact⟨_,key _ (by simp[binOp,Op.intArith]),int _ _ hs.symm⟩
   case sub=>simp[R8]at hs; exact⟨_,key _ (by simp[binOp,Op.intArith]),int _ _ hs.symm⟩
   case mul=>simp[R8]at hs; exact⟨_,key _ (by simp[binOp,Op.intArith]),int _ _ hs.symm⟩
   case quo=>split at hs<;>simp at hs; rename_i i; exact⟨_,key _ (by simp[binOp,Op.intDiv,i]),int _ _ hs.symm⟩
   case rem=>split at hs<;>simp at hs; rename_i i; exact⟨_,key _ (by simp[binOp,Op.intDiv,i]),int _ _ hs.symm⟩
   case and=>simp at hs; exact⟨_,key _ (by simp[binOp,Op.intBits]),int _ _ hs.symm⟩
   case or=>simp at hs; exact⟨_,key _ (by simp[binOp,Op.intBits]),int _ _ hs.symm⟩
   case eql=>simp at hs; exact⟨_,key _ (by simp[binOp,Op.intCmp]),bool _ hs.symm⟩
   case neq=>simp at hs; exact⟨_,key _ (by simp[binOp,Op.intCmp,bne]),bool _ hs.symm⟩
   case lss=>simp at hs; exact⟨_,key _ (by simp[binOp,Op.intCmp]),bool _ hs.symm⟩
   case leq=>simp at hs; exact⟨.bool (decide (m≤n)),key _ (by simp[binOp,Op.intCmp]),bool _ (by rw[← hs]; congr 1; rw[Bool.eq_iff_iff]; simp)⟩
   case gtr=>simp at hs; exact⟨_,key _ (by simp[binOp,Op.intCmp]),bool _ hs.symm⟩
   case geq=>simp at hs; exact⟨.bool (decide (m ≥ n)),key _ (by simp[binOp,Op.intCmp]),bool _ (by rw[← hs]; congr 1; rw[Bool.eq_iff_iff]; simp)⟩
   all_goals simp at hs
 · cases op<;>simp only[hk,if_false]at hs
   case shl=>split at hs<;>simp at hs; rename_i i; exact⟨_,key _ (by simp[binOp,Op.shift,i]),int _ _ hs.symm⟩
   case shr=>split at hs<;>simp at hs; rename_i i; exact⟨_,key _ (by simp[binOp,Op.shift,i]),int _ _ hs.symm⟩
   all_goals simp at hs
theorem d3r {t J:TypeId} {x y:Operand} {op:BinOp} {s u:ByteArray} (I:o.op=.binOp op t x y J) (l:a.eval x=.string s) (B:a.eval y=.string u)
 (hs:l8 op (.str (s.data.toList.map UInt8.toNat)) (.str (u.data.toList.map UInt8.toNat))=some r):∃ v,(execOp a.eval o).run c.P w=.ok (.value v) w∧ValOK g w No r v:=by
 have key:∀ v,(binOp op t (.string s) (.string u)).run c.P w=.ok v w→(execOp a.eval o).run c.P w=.ok (.value v) w:=by
  intro v h;have hg:(eqGuard op t x y (.string s) (.string u)).run c.P w=.ok () w:=by cases op<;>rfl
  simp only[execOp,I,l,B,Sem.run_bind,hg,h,Result.andThen_ok,Sem.run_pure]
 have bool:∀ z,r=.bool z→ValOK g w No r (.bool z):=fun z e=>by rw[e]; exact ValOK.mk' (by simp[Rel]) (by simp) (by simp)
 unfold l8 at hs;cases op<;>simp only[b2g,a8d,AC]at hs
 case add =>
  split at hs<;>simp at hs;rename_i j;refine⟨.string (s++u),key _ ?_,?_⟩
  · have i:¬ (((s.size+u.size:Nat):Int) > IntKind.i64.max):=by
     simp only[AF,Array.length_toList]at j;have D:s.data.size=s.size:=rfl;have E:u.data.size=u.size:=rfl;have F:IntKind.i64.max=9223372036854775807:=by decide
     rw[F];have G:(2:Nat) ^ 62=4611686018427387904:=by decide
     rw[G,D,E]at j;omega
    show(Op.stringOp .add s u).run c.P w=_;simp only[Op.stringOp,if_neg i,Sem.run_pure]
  · rw[← hs];refine ValOK.mk' ?_ (by simp) (by simp);simp only[Rel];exact⟨s++u,rfl,by simp[ByteArray.data_append]⟩
 case eql=>exact⟨_,key _ (by simp[binOp,Op.stringOp,ByteArray.toList_eq]),bool _ hs.symm⟩
 case neq=>exact⟨_,key _ (by simp[binOp,Op.stringOp,ByteArray.toList_eq]),bool _ hs.symm⟩
 case lss=>exact⟨_,key _ (by simp[binOp,Op.stringOp,ByteArray.toList_eq]),bool _ hs.symm⟩
 case leq=>exact⟨_,key _ (by simp[binOp,Op.stringOp,ByteArray.toList_eq]),bool _ hs.symm⟩
 case gtr=>exact⟨_,key _ (by simp only[binOp,Op.stringOp,ByteArray.toList_eq,Sem.run_pure]),bool _ hs.symm⟩
 case geq=>exact⟨_,key _ (by simp[binOp,Op.stringOp,ByteArray.toList_eq]),bool _ hs.symm⟩
 all_goals simp at hs
theorem a0f {P:Program} {w:World} {k:IntKind} {t:TypeId} {cs:Array Value} {off:Nat} {v:Value} (hu:P.underlying t=some (.int k)∨P.underlying t=some .string) (i:cs[off]?=some v):(part t cs off).run P w=.ok v w:=by rcases hu with hu|hu<;>simp[part,isAgg,run_underlying hu,i]
theorem b8X {t yt:TypeId} {x y:Operand} {neg:Bool} {f0 f1:Field} {k0:IntKind} (T:o.op=.binOp (if neg then .neq else .eql) t x y yt) (S:c.P.eqGuardType c.P.depth t=false) (D:c.P.stoodInHeld t=false)
 (hu:c.P.underlying t=some (.struct #[f0,f1])) (n0:f0.name≠ "_") (n1:f1.name≠ "_") (o0:f0.offset=0) (o1:f1.offset=1) (M:c.P.underlying f0.type=some (.int k0)) (N:c.P.underlying f1.type=some .string)
 (hr:ArgsOK g w bx fr as [a.eval x,a.eval y]) (hs:Q6 neg call as b st=some (r,b',st')):l9 c g w bx fr a o r∧b'=b∧st'=st:=by
 obtain⟨p,q,rfl,Y,Z⟩:=hr.two;unfold Q6 at hs;split at hs
 case h_2=>cases hs
 rename_i k m s k' n u l;simp only[AM,and_true]at l;obtain⟨rfl,rfl⟩:=l;split at hs
 case isFalse=>cases hs
 rename_i hk;subst hk;simp only[AC,AH]at hs;obtain⟨rfl,rfl,rfl⟩:=hs;have i:=Y.rel (by simp) (by simp);have j:=Z.rel (by simp) (by simp);simp only[Rel,RelL]at i j;obtain⟨xs,i,⟨_,_,V,rfl,_,_,rfl,⟨v,rfl,z⟩,rfl⟩,_⟩:=i;obtain⟨ys,j,⟨_,_,W,rfl,_,_,rfl,⟨cs,rfl,B⟩,rfl⟩,_⟩:=j;have F:xs[0]?=some (.int k m):=by rw[← Array.getElem?_toList,V]; rfl
 have G:xs[1]?=some (.string v):=by rw[← Array.getElem?_toList,V]; rfl
 have I:ys[0]?=some (.int k n):=by rw[← Array.getElem?_toList,W]; rfl
 have J:ys[1]?=some (.string cs):=by rw[← Array.getElem?_toList,W]; rfl
 have O:c.P.fieldsOf t=#[f0,f1]:=by unfold Program.fieldsOf; rw[hu]
 have E:(v.toList == cs.toList)=eqN s u:=by rw[a3w,← z,← B,ByteArray.toList_eq,ByteArray.toList_eq,Bool.eq_iff_iff];simp only[beq_iff_eq];exact⟨fun h=>by rw[h],fun h=>a3l h⟩
 have U:(Op.equalIn 10000 t (.agg xs) (.agg ys)).run c.P w=.ok (eqI m n && eqN s u) w:=by
  rw[show(10000:Nat)=9999+1 from rfl,run_equalIn_struct w 9999 t xs ys (by rw[hu,O]) D,O];simp only[Op.eqFields,n0,n1,o0,o1,ne_eq,not_false_eq_true,if_true,Sem.run_bind,a0f (.inl M) F,a0f (.inl M) I,Result.andThen_ok];rw[show(9999:Nat)=9998+1 from rfl,run_equalIn_int w 9998 f0.type k k0 m n M];have p1:=a0f (w:=w) (k:=.i64) (.inr N) G;have p2:=a0f (w:=w) (k:=.i64) (.inr N) J;simp only[Result.andThen_ok,← eqI_eq];cases eqI m n with
  | false=>simp
  | true =>simp only[Bool.not_true,Bool.false_eq_true,if_false,Sem.run_bind,p1,p2,Result.andThen_ok,run_equalIn_string w 9998 f1.type v cs N,E];cases eqN s u<;>simp
 refine⟨⟨.bool (a6r neg m n s u),?_,ValOK.mk' (by simp[Rel]) (by simp) (by simp)⟩,rfl,rfl⟩;cases neg with
 | false=>simp[execOp,T,i,j,run_eqGuard_agg w .eql t x y xs ys S,run_eql_struct w t xs ys,U,a6r]
 | true=>simp[execOp,T,i,j,run_eqGuard_agg w .neq t x y xs ys S,run_neq_struct w t xs ys,U,a6r]
theorem c76 {t M:TypeId} {x y:Operand} {op:BinOp} (F:o.op=.binOp op t x y M) (I:ArgsOK g w bx fr as [a.eval x,a.eval y])
 (hs:z6 op call as b st=some (r,b',st')):l9 c g w bx fr a o r∧b'=b∧st'=st:=by
 obtain⟨p,q,rfl,B,D⟩:=I.two;simp only[z6]at hs;obtain⟨v,j,E⟩:=AK.1 hs;simp only[AH]at E;obtain⟨rfl,rfl,rfl⟩:=E;have G:∀ i f,v≠.loc i f:=by
  intro i f e;subst e;unfold l8 at j;split at j
  · cases op<;>simp at j<;>(first|(split at j<;>simp at j)|skip)<;>(first|(split at j<;>simp at j)|skip)
  · cases op<;>simp at j
  · cases j
 unfold l8 at j;split at j
 · rename_i k m J n;have l:a.eval x=.int k m:=by simpa[Rel]using B.rel (by simp) (by simp)
   have z:a.eval y=.int J n:=by simpa[Rel]using D.rel (by simp) (by simp)
   obtain⟨u,hu,hk⟩:=c7V (c:=c) (g:=g) (w:=w) F l z (r:=v) (by unfold l8; exact j);exact⟨⟨u,hu,ArgOK.of_val hk G⟩,rfl,rfl⟩
 · have l:=B.rel (by simp) (by simp);have z:=D.rel (by simp) (by simp);simp only[Rel]at l z;obtain⟨s,l,rfl⟩:=l;obtain⟨u,z,rfl⟩:=z;obtain⟨u,hu,hk⟩:=d3r (c:=c) (g:=g) (w:=w) F l z (r:=v) (by unfold l8; exact j);exact⟨⟨u,hu,ArgOK.of_val hk G⟩,rfl,rfl⟩
 · cases j
theorem P2 (t:TypeId) (x y:Value):Op.equal t x y=Op.equalIn (9999+1) t x y:=rfl
theorem b73 {t G:TypeId} {x y:Operand} {op:BinOp} (B:o.op=.binOp op t x y G) (hu:c.P.underlying t=some .bool) (F:ArgsOK g w bx fr as [a.eval x,a.eval y])
 (hs:N8 op call as b st=some (r,b',st')):l9 c g w bx fr a o r∧b'=b∧st'=st:=by
 obtain⟨p,q,rfl,D,E⟩:=F.two;simp only[N8]at hs;obtain⟨v,i,z⟩:=AK.1 hs;simp only[AH]at z;obtain⟨rfl,rfl,rfl⟩:=z;unfold a4y at i;split at i
 · rename_i m n;have l:a.eval x=.bool m:=by simpa[Rel]using D.rel (by simp) (by simp)
   have u:a.eval y=.bool n:=by simpa[Rel]using E.rel (by simp) (by simp)
   have j:(Op.equal t (.bool m) (.bool n)).run c.P w=.ok (m == n) w:=by rw[P2,Op.equalIn,Sem.run_bind,run_underlying hu,Result.andThen_ok];rfl
   cases op<;>simp at i
   · subst i;have hg:(eqGuard .eql t x y (.bool m) (.bool n)).run c.P w=.ok () w:=rfl;exact⟨⟨.bool (m == n),by simp only[execOp,B,l,u,hg,binOp,Sem.run_bind,j,Result.andThen_ok,Sem.run_pure],ValOK.mk' (by simp[Rel]) (by simp) (by simp)⟩,rfl,rfl⟩
   · subst i;have hg:(eqGuard .neq t x y (.bool m) (.bool n)).run c.P w=.ok () w:=rfl;exact⟨⟨.bool !(m == n),by simp only[execOp,B,l,u,hg,binOp,Sem.run_bind,j,Result.andThen_ok,Sem.run_pure],ValOK.mk' (by simp[Rel]) (by simp) (by simp)⟩,rfl,rfl⟩
 · cases i
theorem b9W {t M e:TypeId} {x y:Operand} {op:BinOp} (I:o.op=.binOp op t x y M) (hu:c.P.underlying t=some (.pointer e)) (F:op≠.lss∧op≠.gtr) (J:ArgsOK g w bx fr as [a.eval x,a.eval y])
 (hs:I0 op call as b st=some (r,b',st')):l9 c g w bx fr a o r∧b'=b∧st'=st:=by
 obtain⟨p,q,rfl,u,B⟩:=J.two;simp only[I0]at hs;obtain⟨v,l,G⟩:=AK.1 hs;simp only[AH]at G;obtain⟨rfl,rfl,rfl⟩:=G;have key:∀ (p1 p2:Option Addr) (z:Bool),a.eval x=.pointer p1→a.eval y=.pointer p2→(Op.equal t (.pointer p1) (.pointer p2)).run c.P w=.ok z w →
  (op=.eql→(execOp a.eval o).run c.P w=.ok (.value (.bool z)) w)∧(op=.neq→(execOp a.eval o).run c.P w=.ok (.value (.bool !z)) w):=by
  intro p1 p2 z i j D;constructor
  · intro E; subst E;have hg:∀ o,(eqGuard o t x y (.pointer p1) (.pointer p2)).run c.P w=.ok () w:=fun o=>by cases o<;>rfl
    simp only[execOp,I,i,j,hg,binOp,Sem.run_bind,D,Result.andThen_ok,Sem.run_pure]
  · intro E; subst E;have hg:∀ o,(eqGuard o t x y (.pointer p1) (.pointer p2)).run c.P w=.ok () w:=fun o=>by cases o<;>rfl
    simp only[execOp,I,i,j,hg,binOp,Sem.run_bind,D,Result.andThen_ok,Sem.run_pure]
 have bool:∀ z,ValOK g w No (.bool z) (.bool z):=fun z=>ValOK.mk' (by simp[Rel]) (by simp) (by simp)
 unfold X9 at l;split at l
 · have i:=u.rel (by simp) (by simp);have j:=B.rel (by simp) (by simp);simp only[Rel]at i j;obtain⟨k1,k2⟩:=key _ _ false i.2 j (by rw[P2,Op.equalIn,Sem.run_bind,run_underlying hu,Result.andThen_ok]; rfl);cases op<;>simp at l
   · subst l; exact⟨⟨_,k1 rfl,bool _⟩,rfl,rfl⟩
   · subst l; exact⟨⟨_,k2 rfl,bool _⟩,rfl,rfl⟩
 · have i:=u.rel (by simp) (by simp);have j:=B.rel (by simp) (by simp);simp only[Rel]at i j;obtain⟨k1,k2⟩:=key _ _ false i j.2 (by rw[P2,Op.equalIn,Sem.run_bind,run_underlying hu,Result.andThen_ok]; rfl);cases op<;>simp at l
   · subst l; exact⟨⟨_,k1 rfl,bool _⟩,rfl,rfl⟩
   · subst l; exact⟨⟨_,k2 rfl,bool _⟩,rfl,rfl⟩
 · have i:=u.rel (by simp) (by simp);have j:=B.rel (by simp) (by simp);simp only[Rel]at i j;obtain⟨k1,k2⟩:=key _ _ true i j (by rw[P2,Op.equalIn,Sem.run_bind,run_underlying hu,Result.andThen_ok]; rfl);cases op<;>simp at l
   · subst l; exact⟨⟨_,k1 rfl,bool _⟩,rfl,rfl⟩
   · subst l; exact⟨⟨_,k2 rfl,bool _⟩,rfl,rfl⟩
 · have i:=u.rel (by simp) (by simp);have j:=B.rel (by simp) (by simp);simp only[Rel]at i j;obtain⟨_,_,i,_⟩:=i;obtain⟨k1,k2⟩:=key _ _ false i j (by rw[P2,Op.equalIn,Sem.run_bind,run_underlying hu,Result.andThen_ok]; rfl);cases op<;>simp at l
   · subst l; exact⟨⟨_,k1 rfl,bool _⟩,rfl,rfl⟩
   · subst l; exact⟨⟨_,k2 rfl,bool _⟩,rfl,rfl⟩
 · have i:=u.rel (by simp) (by simp);have j:=B.rel (by simp) (by simp);simp only[Rel]at i j;obtain⟨_,_,j,_⟩:=j;obtain⟨k1,k2⟩:=key _ _ false i j (by rw[P2,Op.equalIn,Sem.run_bind,run_underlying hu,Result.andThen_ok]; rfl);cases op<;>simp at l
   · subst l; exact⟨⟨_,k1 rfl,bool _⟩,rfl,rfl⟩
   · subst l; exact⟨⟨_,k2 rfl,bool _⟩,rfl,rfl⟩
 · obtain⟨o1,o2⟩:=F;cases op<;>simp at l o1 o2
 · cases l
theorem b9B {t J:TypeId} {I:Array (String×TypeId)} {x:Operand} {op l:BinOp} (E:o.op=.binOp l t x (.const .nilIface) J) (hu:c.P.underlying t=some (.interface I)) (i:l=.eql∧op=.lss∨l=.neq∧op=.gtr) (G:ArgsOK g w bx fr as [a.eval x,a.eval (.const .nilIface)])
 (hs:I0 op call as b st=some (r,b',st')):l9 c g w bx fr a o r∧b'=b∧st'=st:=by
 obtain⟨p,q,rfl,F,M⟩:=G.two;simp only[I0]at hs;obtain⟨v,j,D⟩:=AK.1 hs;simp only[AH]at D;obtain⟨rfl,rfl,rfl⟩:=D;have bool:∀ z,ValOK g w No (.bool z) (.bool z):=fun z=>ValOK.mk' (by simp[Rel]) (by simp) (by simp)
 unfold X9 at j;split at j
 · rcases i with⟨rfl,rfl⟩|⟨rfl,rfl⟩<;>cases j
 · rcases i with⟨rfl,rfl⟩|⟨rfl,rfl⟩<;>cases j
 · rcases i with⟨rfl,rfl⟩|⟨rfl,rfl⟩<;>cases j
 · rcases i with⟨rfl,rfl⟩|⟨rfl,rfl⟩<;>cases j
 · rcases i with⟨rfl,rfl⟩|⟨rfl,rfl⟩<;>cases j
 · have y:a.eval x=.nilIface:=by simpa[Rel]using F.rel (by simp) (by simp)
   have B:a.eval (.const .nilIface)=.nilIface:=rfl;have u:(Op.equal t .nilIface .nilIface).run c.P w=.ok true w:=by rw[P2,Op.equalIn,Sem.run_bind,run_underlying hu,Result.andThen_ok]; rfl
   have hg:∀ o,(eqGuard o t x (.const .nilIface) .nilIface .nilIface).run c.P w=.ok () w:=fun o=>by cases o<;>first|rfl|(unfold eqGuard; simp)
   rcases i with⟨rfl,rfl⟩|⟨rfl,rfl⟩
   · cases j;exact⟨⟨.bool true,by simp only[execOp,E,y,B,hg,binOp,Sem.run_bind,u,Result.andThen_ok,Sem.run_pure],bool _⟩,rfl,rfl⟩
   · cases j;exact⟨⟨.bool false,by simp only[execOp,E,y,B,hg,binOp,Sem.run_bind,u,Result.andThen_ok,Sem.run_pure,Bool.not_true],bool _⟩,rfl,rfl⟩
 · cases j
end
end Go.Cb
namespace Go.Cb
section
variable {c:Cx} {g:Gh} {w:World} {pr:Nat→Option Pl} {bx:Nat→Nat} {a:Act} {o:Oper} {call:d8} {b b' r:AV} {st st':St} {fr as:List AV}
theorem a9v {P:Program} {x:AV} {v:Value} {j n:Nat} {code:BoundsCode} (h:M4 x j=some n) (t:ArgOK g w bx fr No x v):(Instr.sliceBound v j code).run P w=.ok n w∧n≤j:=by
 unfold M4 at h;split at h
 · rename_i k i;split at h
   · rename_i l;simp only[AC]at h;subst h;have e:v=.int k i:=by simpa[Rel]using t.rel (by simp) (by simp)
     subst e;exact⟨by simp[Instr.sliceBound,asIntOf,l.1,l.2],by omega⟩
   · cases h
 · cases h
theorem a1N {P:Program} {isS:Bool} {len cap:Nat} {low high:Option Value} {rs:List AV} {l h:Nat} (t:C7 low.isSome high.isSome rs len=some (l,h))
 (D:ArgsOK g w bx fr rs (low.toList++high.toList)) (J:len≤cap):(∃ G,(Instr.sliceBounds isS len cap low high none).run P w=.ok (l,G,cap) w∧G=h)∧l≤h∧h≤len:=by
 have I:∀ {x:AV} {v:Value} {n:Nat} {code:BoundsCode},M4 x len=some n→ArgOK g w bx fr No x v→(Instr.sliceBound v cap code).run P w=.ok n w∧n≤len:=by
  intro x v n code j E;unfold M4 at j;split at j
  · rename_i k i;split at j
    · rename_i F;simp only[AC]at j;subst j;have e:v=.int k i:=by simpa[Rel]using E.rel (by simp) (by simp)
      subst e;exact⟨by simp[Instr.sliceBound,asIntOf,F.1,show i≤(cap:Int)by omega],by omega⟩
    · cases j
  · cases j
 cases low with
 | none =>
  cases high with
  | none =>cases D;simp only[C7,Option.isSome_none,AC,AH]at t;obtain⟨rfl,rfl⟩:=t;exact⟨⟨_,by simp[Instr.sliceBounds],rfl⟩,Nat.zero_le _,AJ _⟩
  | some N =>obtain⟨p,rfl,j⟩:=ArgsOK.one (by simpa using D);simp only[C7,Option.isSome_none,Option.isSome_some]at t;obtain⟨n,y,u⟩:=AK.1 t;simp only[AH]at u;obtain⟨rfl,rfl⟩:=u;obtain⟨z,B⟩:=I (code:=if isS then .sliceAcap else .sliceAlen) y j;exact⟨⟨_,by simp[Instr.sliceBounds,z],rfl⟩,Nat.zero_le _,B⟩
 | some lv =>
  cases high with
  | none =>obtain⟨p,rfl,j⟩:=ArgsOK.one (by simpa using D);simp only[C7,Option.isSome_none,Option.isSome_some]at t;obtain⟨n,y,u⟩:=AK.1 t;simp only[AH]at u;obtain⟨rfl,rfl⟩:=u;obtain⟨z,B⟩:=a9v (P:=P) (code:=.sliceB) y j;exact⟨⟨_,by simp[Instr.sliceBounds,z],rfl⟩,B,AJ _⟩
  | some N =>
   obtain⟨p,q,rfl,j,E⟩:=ArgsOK.two (by simpa using D);simp only[C7,Option.isSome_some]at t;split at t
   · rename_i m M;obtain⟨n,y,u⟩:=AK.1 t;simp only[AH]at u;obtain⟨rfl,rfl⟩:=u;obtain⟨z,B⟩:=I (code:=if isS then .sliceAcap else .sliceAlen) M E;obtain⟨O,v2⟩:=a9v (P:=P) (code:=.sliceB) y j;exact⟨⟨_,by simp[Instr.sliceBounds,z,O],rfl⟩,v2,B⟩
   · cases t
theorem ArgsOK.cons_inv {v:Value} {vs:List Value} (h:ArgsOK g w bx fr as (v::vs)):∃ p i,as=p::i∧ArgOK g w bx fr No p v∧ArgsOK g w bx fr i vs:=by cases h with|cons j h=>exact⟨_,_,rfl,j,h⟩
theorem c1s {t:TypeId} {x:Operand} {z hi:Option Operand} (I:o.op=.slice t x z hi none) (hu:c.P.underlying t=some .string)
 (J:ArgsOK g w bx fr as (a.eval x::((z.map a.eval).toList++(hi.map a.eval).toList))) (hs:N3 z.isSome hi.isSome call as b st=some (r,b',st')):l9 c g w bx fr a o r∧b'=b∧st'=st:=by
 obtain⟨p,N,rfl,F,G⟩:=J.cons_inv;unfold N3 at hs;split at hs
 · rename_i s rs i;simp only[AM]at i;obtain⟨rfl,rfl⟩:=i;obtain⟨⟨l,h⟩,B,D⟩:=AK.1 hs;simp only[AH]at D;obtain⟨rfl,rfl,rfl⟩:=D;have y:=F.rel (by simp) (by simp);simp only[Rel]at y;obtain⟨v,y,rfl⟩:=y;have j:(v.data.toList.map UInt8.toNat).length=v.size:=by rw[AF]; rfl
   rw[j]at B;obtain⟨⟨E,u,rfl⟩,hl,M⟩:=a1N (P:=c.P) (isS:=false) (low:=z.map a.eval) (high:=hi.map a.eval) (cap:=v.size) (by simpa using B) G (AJ _);refine⟨⟨.string (v.extract l E),?_,ValOK.mk' ?_ (by simp) (by simp)⟩,rfl,rfl⟩
   · simp[execOp,I,y,Instr.sliceAt,Instr.slice,run_underlying hu,u]
   · simp only[Rel];refine⟨_,rfl,?_⟩;rw[ByteArray.data_extract,Array.toList_extract,List.extract_eq_take_drop,← List.map_take,← List.map_drop,List.drop_take]
 · cases hs
theorem c67 {t e:TypeId} {x:Operand} {M hi:Option Operand} {N:Nat} (ho:o.op=.slice t x M hi none) (hu:c.P.underlying t=some (.slice e)) (hn:r5 c e=some N)
 (hr:ArgsOK g w bx fr as (a.eval x::((M.map a.eval).toList++(hi.map a.eval).toList))) (hs:L4 N M.isSome hi.isSome call as b st=some (r,b',st')):l9 c g w bx fr a o r∧b'=b∧st'=st:=by
 obtain⟨p,ps,rfl,Y,Z⟩:=hr.cons_inv;unfold L4 at hs;split at hs
 · rename_i own xs rs u;simp only[AM]at u;obtain⟨rfl,rfl⟩:=u;split at hs
   · rename_i B;obtain⟨⟨l,h⟩,O,F⟩:=AK.1 hs;simp only[AH]at F;obtain⟨rfl,rfl,rfl⟩:=F;have y:=Y.rel (by simp) (by simp);simp only[Rel]at y;obtain⟨a0,n,cap,y,rfl,j,G,hx⟩:=y;obtain⟨⟨E,v,rfl⟩,hl,hh⟩:=a1N (P:=c.P) (isS:=true) (low:=M.map a.eval) (high:=hi.map a.eval) (cap:=cap) (by simpa using O) Z j;refine⟨⟨.slice (if cap=l then a0 else a0.map (·.add (l*N))) (E - l) (cap - l),?_,ValOK.mk' ?_ (by simp) (by simp)⟩,rfl,rfl⟩
     · simp[execOp,ho,y,Instr.sliceAt,Instr.slice,run_underlying hu,v,E9 (w:=w) hn]
     · simp only[Rel];refine⟨_,_,_,rfl,by simp; omega,by omega,fun z=>?_,fun U=>?_⟩
       · have:a0=none:=by split at z<;>simp_all
         have:=G this;omega
       · have a1:l < E:=by
          rcases Nat.lt_or_ge l E with h0|h0
          · exact h0
          · exact absurd (by rw[List.drop_eq_nil_iff]; simp; omega) U
         have J:xs≠[]:=by intro h0; subst h0; simp at hh; omega
         obtain⟨bb,f,D,rfl,I⟩:=hx J;obtain rfl:D=N:=by
          cases xs with
          | nil=>exact absurd rfl J
          | cons row rest =>simp only[m4,beq_iff_eq]at B;simp only[RelRows]at I;omega
         rw[if_neg (by omega)];exact⟨bb,f+l*D,D,by simp[Addr.add_ad],(I.take E).drop l⟩
   · cases hs
 · rename_i oo f n s rs u;simp only[AM]at u;obtain⟨rfl,rfl⟩:=u;split at hs
   · rename_i W;subst W;obtain⟨⟨l,h⟩,i,F⟩:=AK.1 hs;simp only[AH]at F;obtain⟨rfl,rfl,rfl⟩:=F;unfold slB at i;split at i
     case h_2=>cases i
     rename_i p O;split at i
     case isFalse=>cases i
     rename_i hlc;obtain rfl:=Option.some.inj i;have y:=Y.rel (by simp) (by simp);simp only[Rel]at y;obtain⟨V,cap,y,j,S⟩:=y;obtain⟨⟨E,v,T⟩,hl,hh⟩:=a1N (P:=c.P) (isS:=true) (low:=M.map a.eval) (high:=hi.map a.eval) (cap:=cap) (by simpa using O) Z j;subst T;dsimp only at hlc;refine⟨⟨.slice (if cap=l then some (ad (g.m oo) f)else(some (ad (g.m oo) f)).map (·.add (l*s))) (E - l) (cap - l),?_,ValOK.mk' ?_ (by simp) (by simp)⟩,rfl,rfl⟩
     · simp[execOp,ho,y,Instr.sliceAt,Instr.slice,run_underlying hu,v,E9 (w:=w) hn]
     · simp only[Rel];refine⟨V,cap - l,?_,by omega,?_⟩
       · rcases hlc with rfl|hlc
         · simp[Addr.add_ad]
         · rw[if_neg (by omega)];simp[Addr.add_ad]
       · rw[← S,Nat.add_assoc,← Nat.add_mul];congr 2;omega
   · cases hs
 · cases hs
theorem c8W {t e:TypeId} {x:Operand} {k u:IntKind} (E:o.op=.slice t x none (some (.const (.int k 0))) (some (.const (.int u 0)))) (hu:c.P.underlying t=some (.slice e)) (D:(r5 c e).isSome=true)
 (F:ArgsOK g w bx fr as [a.eval x]) (hs:T1 call as b st=some (r,b',st')):l9 c g w bx fr a o r∧b'=b∧st'=st:=by
 obtain⟨p,rfl,B⟩:=F.one;unfold T1 at hs;split at hs
 · rename_i own xs i;simp only[AM,and_true]at i; subst i;simp only[AC,AH]at hs;obtain⟨rfl,rfl,rfl⟩:=hs;have j:=B.rel (by simp) (by simp);simp only[Rel]at j;obtain⟨a0,n,cap,j,rfl,v,y,G⟩:=j;obtain⟨I,l⟩:=Option.isSome_iff_exists.1 D;refine⟨⟨.slice a0 0 0,?_,⟨by simp only[Rel]; exact⟨a0,0,0,rfl,rfl,AJ _,fun _=>rfl,fun h=>absurd rfl h⟩,fun xs _=>.inl ⟨a0,0,rfl⟩,fun cs e=>(by cases e)⟩⟩,rfl,rfl⟩;have c1:a.eval (.const (.int k 0))=.int k 0:=rfl;have z:a.eval (.const (.int u 0))=.int u 0:=rfl;simp[execOp,E,j,c1,z,Instr.sliceAt,Instr.slice,run_underlying hu,Instr.sliceBounds,Instr.sliceBound,asIntOf,E9 (w:=w) l]
 · cases hs
theorem a5g:∀ {len i:Nat} {cs:List AV} {bb f:Nat},cs.length=len*i→RelCells g w bb f cs→RelRows g w bb f i (P7 i len cs)
 | 0,_,_,_,_,_,_=>by simp[P7,RelRows]
 | len+1,i,cs,bb,f,hl,h=>by rw[Nat.succ_mul]at hl;simp only[P7,RelRows];exact⟨by rw[AO]; omega,h.take i,a5g (by rw[List.length_drop]; omega) (h.drop i)⟩
theorem a0C:∀ (i len:Nat) (cs:List AV),(P7 i len cs).length=len
 | _,0,_=>rfl
 | i,len+1,cs=>by simp[P7,a0C i len]
theorem c79 {t e:TypeId} {x:Operand} {D hi:Option Operand} {len y:Nat} (S:o.op=.slice t x D hi none) (hu:c.P.underlying t=some (.array len e)) (O:r5 c e=some y)
 (T:ArgsOK g w bx fr as (a.eval x::((D.map a.eval).toList++(hi.map a.eval).toList))) (hs:P9 len y D.isSome hi.isSome call as b st=some (r,b',st')):l9 c g w bx fr a o r∧b'=b∧st'=st:=by
 obtain⟨p,V,rfl,G,I⟩:=T.cons_inv;unfold P9 at hs;split at hs
 · rename_i cs rs j;simp only[AM]at j;obtain⟨rfl,rfl⟩:=j;split at hs
   · rename_i u;obtain⟨⟨l,h⟩,J,F⟩:=AK.1 hs;simp only[AH]at F;obtain⟨rfl,rfl,rfl⟩:=F;have z:=G.rel (by simp) (by simp);simp only[Rel]at z;obtain⟨bb,f,z,M⟩:=z;obtain⟨⟨B,v,rfl⟩,hl,U⟩:=a1N (P:=c.P) (isS:=false) (low:=D.map a.eval) (high:=hi.map a.eval) (cap:=len) (by simpa using J) I (AJ _);refine⟨⟨.slice (some (if len=l then ad bb f else(ad bb f).add (l*y))) (B - l) (len - l),?_,ValOK.mk' ?_ (by simp) (by simp)⟩,rfl,rfl⟩
     · simp[execOp,S,z,Instr.sliceAt,run_underlying hu,Instr.sureAddr,v,E9 (w:=w) O]
     · simp only[Rel];refine⟨_,_,_,rfl,by rw[List.length_drop,AO,a0C]; omega,by omega,fun i=>by simp at i,fun E=>?_⟩;have N:l < B:=by
        rcases Nat.lt_or_ge l B with h0|h0
        · exact h0
        · exact absurd (by rw[List.drop_eq_nil_iff,AO,a0C]; omega) E
       rw[if_neg (by omega),Addr.add_ad];exact⟨bb,f+l*y,y,rfl,((a5g u M).take B).drop l⟩
   · cases hs
 · cases hs
theorem Y4:∀ {as:List AV} {vs:List Value},ArgsOK g w bx fr as vs→m8 as=true→RelL g w (as.map AV.weak) vs
 | [],_,h,_=>by cases h; simp[RelL]
 | x::as,_,h,hp=>by
  cases h with
  | cons i j =>simp only[m8,AA]at hp;simp only[AG,RelL];exact⟨_,_,rfl,(i.plain hp.1).rel.weak,Y4 j hp.2⟩
theorem d04 {f n:Nat} {first i:Array Operand} (l:o.op=.makeFunc (.func f) first i) (j:first.size=n) (u:ArgsOK g w bx fr as ((first++i).toList.map a.eval))
 (hs:S2 f n call as b st=some (r,b',st')):l9 c g w bx fr a o r∧b'=b∧st'=st:=by
 unfold S2 at hs;split at hs
 · rename_i t;simp only[AC,AH]at hs;obtain⟨rfl,rfl,rfl⟩:=hs;have hl:=Y4 u t;refine⟨⟨.func (.func f) (first.map a.eval) (i.map a.eval),by simp[execOp,l,Instr.makeFunc],ValOK.mk' ?_ (by simp) (by simp)⟩,rfl,rfl⟩;simp only[Rel];refine⟨_,_,rfl,?_,?_⟩
   · have:=hl.take n;rw[show((first++i).toList.map a.eval).take n=(first.map a.eval).toList by simp[← j]]at this;exact this
   · have:=hl.drop n;rw[show((first++i).toList.map a.eval).drop n=(i.map a.eval).toList by simp[← j]]at this;exact this
 · cases hs
end
end Go.Cb
namespace Go.Cb
theorem b0n (off:Nat):∀ (l:List Value) (k:Nat) (arr:Array Value),off+k+l.length≤arr.size →
 ((l.zipIdx k).foldl (fun cs (x:Value×Nat)=>cs.setIfInBounds (off+x.2) x.1) arr).toList=arr.toList.take (off+k)++l++arr.toList.drop (off+k+l.length)
 | [],k,arr,_=>by simp
 | v::l,k,arr,h=>by simp only[List.length_cons]at h;rw[List.zipIdx_cons,List.foldl_cons,b0n off l (k+1) (arr.setIfInBounds (off+k) v) (by simp; omega)];have:=list_seg_step arr.toList (off+k) v l (by simpa using by omega);rw[Array.toList_setIfInBounds,show off+(k+1)=off+k+1 by omega];simpa[List.length_cons,Nat.add_assoc]using this
theorem a5j (v:Value) (off:Nat) (arr:Array Value) (h:off+v.cells.size≤arr.size) :
 (v.cells.zipIdx.foldl (fun cs x=>match x with|(c,j)=>cs.setIfInBounds (off+j) c) arr).toList=arr.toList.take off++v.cells.toList++arr.toList.drop (off+v.cells.size):=by
 have:=b0n off v.cells.toList 0 arr (by simpa using h);rw[← Array.foldl_toList,Array.toList_zipIdx];simpa using this
section
variable {c:Cx} {g:Gh} {w:World} {pr:Nat→Option Pl} {bx:Nat→Nat} {a:Act} {o:Oper} {call:d8} {b b' r:AV} {st st':St} {fr as:List AV}
structure RowOK (g:Gh) (w:World) (cs:List AV) (vs:List Value):Prop where
 rel:RelL g w cs vs
 one:∀ v∈vs,v.oneCell'=true
 own:∀ (k:Nat) (x:AV) (v:Value),cs[k]?=some x→vs[k]?=some v→OwnN x v
theorem RowOK.append {cs l:List AV} {vs us:List Value} (h:RowOK g w cs vs) (j:RowOK g w l us):RowOK g w (cs++l) (vs++us):=by
 refine⟨h.rel.append j.rel,fun v hv=>?_,fun k x v i hv=>?_⟩
 · rcases AP.1 hv with hv|hv
   · exact h.one v hv
   · exact j.one v hv
 · have hl:=h.rel.length;by_cases hk:k < cs.length
   · rw[List.getElem?_append_left hk]at i;rw[List.getElem?_append_left (by omega)]at hv;exact h.own k x v i hv
   · rw[List.getElem?_append_right (by omega)]at i;rw[List.getElem?_append_right (by omega),← hl]at hv;exact j.own _ x v i hv
theorem RowOK.take {cs:List AV} {vs:List Value} (h:RowOK g w cs vs) (n:Nat):RowOK g w (cs.take n) (vs.take n):=by
 refine⟨h.rel.take n,fun v i=>h.one v (List.mem_of_mem_take i),fun k x v j i=>?_⟩;rw[List.getElem?_take]at j i;split at j
 · rename_i hk;rw[if_pos hk]at i;exact h.own k x v j i
 · cases j
theorem RowOK.drop {cs:List AV} {vs:List Value} (h:RowOK g w cs vs) (n:Nat):RowOK g w (cs.drop n) (vs.drop n):=by refine⟨h.rel.drop n,fun v i=>h.one v (List.mem_of_mem_drop i),fun k x v j i=>?_⟩;rw[List.getElem?_drop]at j i;exact h.own _ x v j i
theorem RowOK.weak {cs:List AV} {vs:List Value} (h:RowOK g w cs vs):RowOK g w (cs.map AV.weak1) vs:=by
 refine⟨h.rel.weak1,h.one,fun k x v i l xs e=>?_⟩;rw[AQ]at i;cases j:cs[k]? with
 | none=>simp[j]at i
 | some d=>simp[j]at i; subst i; cases d<;>simp[AV.weak1]at e
theorem a9x {x:AV} {v:Value} (h:ArgOK g w bx fr No x v) (z:x.plain=true):RowOK g w x.cells v.cells.toList:=by
 have t:=h.plain z;cases x with
 | agg cs =>have i:=t.rel;simp only[Rel]at i;obtain⟨arr,rfl,B,D⟩:=i;exact⟨B,D,fun k y u j hu=>t.agg cs rfl arr rfl k y u j (by simpa[Value.cells]using hu)⟩
 | undef=>simp[AV.plain]at z
 | loc=>simp[AV.plain]at z
 | box=>simp[AV.plain]at z
 | tuple=>simp[AV.plain]at z
 | fresh=>simp[AV.plain]at z
 | list own xs =>
  have i:=t.rel;simp only[Rel]at i;obtain⟨a0,n,cap,rfl,_⟩:=i;refine⟨by simp only[AV.cells,Value.cells,RelL]; exact⟨_,[],rfl,t.rel,rfl⟩,by simp[Value.cells,Value.oneCell'],fun k y u j hu ys e=>?_⟩;obtain rfl:k=0:=by cases k with|zero=>rfl|succ k=>simp[AV.cells]at j
  simp[AV.cells]at j;simp[Value.cells]at hu;subst hu;rw[← j]at e;rcases t.own ys e with⟨a1,F,B⟩|⟨_,_,_,_,_,_,_,B,_⟩
  · exact⟨a1,F,B⟩
  · exact B.elim
 | _ =>
  have l:v.oneCell'=true:=by
   have i:=t.rel;simp only[Rel]at i;first
    | (subst i; rfl)
    | (obtain⟨_,rfl⟩:=i; rfl)
    | (obtain⟨_,rfl,_⟩:=i; rfl)
    | (obtain⟨_,_,rfl,_⟩:=i; rfl)
  have E:v.cells=#[v]:=by cases v<;>first|rfl|cases l
  rw[E];refine⟨by simp only[AV.cells,RelL]; exact⟨v,[],rfl,t.rel,rfl⟩,by simpa using l,fun k y u j _ ys e=>?_⟩;obtain rfl:k=0:=by cases k with|zero=>rfl|succ k=>simp[AV.cells]at j
  simp[AV.cells]at j;rw[← j]at e;cases e
theorem a9W:∀ {t:List (Nat×Nat)} {D:List AV} {cs u:List AV} {arr:Array Value} {vs:List Value} {is:List Nat} {place:Nat→Option (Nat×Nat)},
 x9 t D cs=some u→ArgsOK g w bx fr D vs→RowOK g w cs arr.toList→is.map place=t.map some→is.length=vs.length →
 ∃ j,Instr.fill place arr (is.zip vs)=some j∧RowOK g w u j.toList
 | [],[],cs,u,arr,vs,is,place,h,ha,hr,hp,hl=>by simp only[x9,AC]at h;subst h;cases ha;exact⟨arr,by cases is<;>simp[Instr.fill],hr⟩
 | (off,n)::t,p::D,cs,u,arr,vs,is,place,h,ha,hr,hp,hl=>by
  simp only[x9]at h;split at h
  · rename_i J;obtain⟨x,z,O⟩:=J;cases ha with
    | cons G I =>
     rename_i v vs;cases is with
     | nil=>simp at hp
     | cons i is =>
      simp only[AG,AM]at hp;have l:=a9x G x;have B:v.cells.size=n:=by have S:=l.rel.length;have T:v.cells.toList.length=v.cells.size:=Array.length_toList;omega
      have M:cs.length=arr.size:=hr.rel.length.trans Array.length_toList;have N:=a5j v off arr (by omega);have y:RowOK g w (n8 cs off p.cells) (arr.toList.take off++v.cells.toList++arr.toList.drop (off+v.cells.size)):=by unfold n8;rw[B,z];exact((hr.take off).append l).append (hr.drop (off+n))
      rw[← N]at y;obtain⟨j,E,F⟩:=a9W h I y hp.2 (by simpa using hl);refine⟨j,?_,F⟩;simp only[List.zip_cons_cons,Instr.fill,hp.1];rw[if_neg (by simp; omega)];exact E
  · cases h
 | [],_::_,_,_,_,_,_,_,h,_,_,_,_=>by simp[x9]at h
 | _::_,[],_,_,_,_,_,_,h,_,_,_,_=>by simp[x9]at h
theorem RowOK.agg {cs:List AV} {arr:Array Value} (h:RowOK g w cs arr.toList):ValOK g w No (.agg cs) (.agg arr) :=
 ⟨by simp only[Rel]; exact⟨arr,rfl,h.rel,h.one⟩,fun xs e=>(by cases e),fun l e vs i k x u j hu=>by simp only[AV.agg.injEq]at e;simp only[Value.agg.injEq]at i;subst e; subst i;exact h.own k x u j (by simpa using hu)⟩
def a5o (P:Program) (t:TypeId):Option (List (Nat×Nat)) :=
 match P.underlying t with
 | some (.struct fields)=>fields.toList.mapM (fun f=>(P.info? f.type).map fun i=>(f.offset,i.size))
 | _=>none
theorem a1J (a:Act) (parts:List (Nat×Operand)):(parts.map fun p=>(p.1,a.eval p.2))=(parts.map (·.1)).zip (parts.map fun p=>a.eval p.2):=by
 induction parts with
 | nil=>rfl
 | cons p j i=>simp[i]
theorem b6q {t:TypeId} {parts:Array (Nat×Operand)} {zero:List AV} {l places:List (Nat×Nat)} {z:Value} (J:o.op=.build t parts) (j:a5o c.P t=some places)
 (N:(c.P.info? t).bind (·.zero)=some z) (D:C6 z.cells.toList zero=true) (u:(parts.toList.map (·.1)).map (fun i=>places[i]?)=l.map some)
 (M:ArgsOK g w bx fr as (parts.toList.map fun p=>a.eval p.2)) (hs:I9 zero l call as b st=some (r,b',st')):l9 c g w bx fr a o r∧b'=b∧st'=st:=by
 simp only[I9]at hs;obtain⟨cs,y,E⟩:=AK.1 hs;simp only[AH]at E;obtain⟨rfl,rfl,rfl⟩:=E;obtain⟨O,z2,z3⟩:=F9 D g w;obtain⟨arr,F,G⟩:=a9W (place:=fun i=>places.toArray[i]?) y M ⟨O,z2,z3⟩ (is:=parts.toList.map (·.1)) (by simpa using u) (by simp);refine⟨⟨.agg arr,?_,G.agg⟩,rfl,rfl⟩;have I:c.P.built t (parts.map fun(i,x)=>(i,a.eval x)).toList=some arr:=by
  unfold a5o at j;split at j
  · rename_i fields hu;obtain⟨S,B,v⟩:=Option.bind_eq_some_iff.1 N;unfold Program.built;simp only[B,hu,v,j];rw[show(parts.map fun(i,x)=>(i,a.eval x)).toList=parts.toList.map fun p=>(p.1,a.eval p.2)by simp,a1J];exact F
  · cases j
 simp only[execOp,J,Sem.run_bind,run_build w t _ _ I,Result.andThen_ok,Sem.run_pure]
def G8 (P:Program) (i:Nat) (j:TypeId):Bool :=
 match P.underlying j,i with
 | some (.int _),0=>true
 | some .string,1=>true
 | some .bool,2=>true
 | _,_=>false
theorem b9V (s t:ByteArray):(s == t)=true↔s.data.toList=t.data.toList:=by rw[MapKept.bytes_beq];exact⟨fun h=>by rw[h],fun h=>ByteArray.ext (Array.toList_inj.mp h)⟩
theorem a8m {P:Program} {B:Nat} {D:TypeId} {d:TypeDesc} (E:P.underlying D=some d) (hk:G8 P B D=true) {x y:AV} {u v:Value} (i:Rel g w x u) (j:Rel g w y v) {z:Bool} (h:K9 B x y=some z) :
 Instr.sameNow d u v=some z:=by
 unfold G8 at hk;rw[E]at hk;unfold K9 at h;split at h
 · split at h
   · rename_i l;obtain⟨rfl,rfl⟩:=l;simp only[Rel]at i j;subst i; subst j;cases d<;>simp at hk;simp only[eqI_eq,AC]at h;simp[Instr.sameNow,h]
   · cases h
 · split at h
   · rename_i l;subst l;simp only[Rel]at i j;obtain⟨s,rfl,rfl⟩:=i;obtain⟨t,rfl,rfl⟩:=j;cases d<;>simp at hk;rw[b2g,AC]at h;simp only[Instr.sameNow,AC];rw[← h,Bool.eq_iff_iff,b9V]; simp only[beq_iff_eq]
   · cases h
 · split at h
   · rename_i l;subst l;simp only[Rel]at i j;subst i; subst j;cases d<;>simp at hk;simpa[Instr.sameNow]using h
   · cases h
 · cases h
theorem a4l {P:Program} {F:Nat} {G:TypeId} {d:TypeDesc} (t:P.underlying G=some d) (hk:G8 P F G=true) {x:AV} {u:Value} (B:Rel g w x u) :
 ∀ {es:List (AV×AV)} {l:List MapEntry} {i:Nat} {z:Option (Nat×AV)},RelM g w es l→D6 F x es i=some z →
  match z with
  | none=>Instr.findNow d u l i=some none
  | some (j,v)=>∃ e,l[j - i]?=some e∧i≤j∧Instr.findNow d u l i=some (some (j,e.val))∧Rel g w v e.val∧v.weak=v∧Instr.sameNow d u e.key=some true
 | [],_,i,z,h,hf=>by cases h;simp only[D6,AC]at hf;subst hf;rfl
 | (k,v)::es,_,i,z,h,hf=>by
  cases h with
  | cons D I J M =>
   rename_i e l;simp only[D6]at hf;split at hf
   · rename_i y;simp only[AC]at hf;subst hf;have:=a8m t hk B D y;exact⟨e,by simp,AJ _,by simp[Instr.findNow,this],I,J,this⟩
   · rename_i y;have hs:=a8m t hk B D y;have E:=a4l t hk B M hf;cases z with
     | none=>simp only[Instr.findNow,hs]; exact E
     | some p =>obtain⟨j,N⟩:=p;obtain⟨e',i1,i2,i3,i4⟩:=E;refine⟨e',?_,by omega,by simp only[Instr.findNow,hs]; exact i3,i4⟩;rw[show j - i=(j - (i+1))+1 by omega];simpa using i1
   · cases hf
theorem a1x {P:Program} {j:Nat} {i:TypeId} (hk:G8 P j i=true) (e:Bool) (v:Value):(Instr.checkKey e 10000 i v).run P w=.ok () w:=by unfold G8 at hk;split at hk<;>first|(rename_i hu; rw[show(10000:Nat)=9999+1 from rfl,Instr.checkKey,Sem.run_bind,run_underlying hu,Result.andThen_ok]; cases v<;>rfl)|cases hk
def a2i:Value→Bool
 | .agg _=>true
 | _=>false
theorem b9b {t:TypeId} {l:Bool} {z:Value} {zero:List AV} {v:AV} (F:s4 c t=some l) (G:(c.P.info? t).bind (·.zero)=some z) (D:C6 z.cells.toList zero=true) (i:l=a2i z) (j:j0 l zero.length zero=some v) :
 Rel g w v z∧v.weak=v:=by
 obtain⟨E,z2,z3⟩:=F9 D g w;cases l with
 | true =>simp only[j0,if_true,AJ,List.take_length,AC]at j;subst j;cases z<;>simp[a2i]at i;refine⟨by simp only[Rel]; exact⟨_,rfl,E.weak1,z2⟩,?_⟩;simp only[AV.weak,List.map_map];congr 1;apply List.map_congr_left;intro x _;cases x<;>rfl
 | false =>
  simp only[j0,Bool.false_eq_true,if_false]at j;cases zero with
  | nil=>simp at j
  | cons y ys =>
   simp only[AC]at j;subst j;simp only[RelL]at E;obtain⟨u,us,e,B,_⟩:=E;have hu:u=z:=by cases z<;>simp[Value.cells]at e<;>first|exact e.1.symm|simp[a2i]at i
   subst hu;refine⟨B.weak1,?_⟩;cases y<;>first
    | rfl
    | (simp only[Rel]at B
       obtain⟨_,rfl,_⟩:=B;simp[a2i]at i)
def a0w (P:Program) (t:TypeId) (zero:List AV):Bool :=
 match (P.info? t).bind (·.zero)with
 | some z=>C6 z.cells.toList zero
 | none=>false
def a7u (P:Program) (t:TypeId) (i:Bool):Bool :=
 match (P.info? t).bind (·.zero)with
 | some z=>i == a2i z
 | none=>false
theorem ArgOK.of_rel {x:AV} {v:Value} (h:Rel g w x v) (j:x.weak=x):ArgOK g w bx fr No x v:=by
 rw[← j];refine ArgOK.of_val (ValOK.of_weak h) fun i f e=>?_
 rw[j]at e;subst e;simp[Rel]at h
theorem b88 (h:SRel g w st) {t kt O:TypeId} {m k:Operand} {kc:Nat} {zero:List AV} {N ok:Bool} (ho:o.op=.lookup t m k ok) (hu:c.P.underlying t=some (.map kt O)) (hk:G8 c.P kc kt=true)
 (a2:s4 c O=some N) (hz:a0w c.P O zero=true) (S:a7u c.P O N=true) (hr:ArgsOK g w bx fr as [a.eval m,a.eval k]) (hs:Q7 kc zero N ok call as b st=some (r,b',st')) :
 l9 c g w bx fr a o r∧b'=b∧st'=st:=by
 obtain⟨p,q,rfl,h1,h2⟩:=hr.two;obtain⟨d,W⟩:∃ d,c.P.underlying kt=some d:=by
  unfold G8 at hk;cases W:c.P.underlying kt with
  | none=>simp[W]at hk
  | some d=>exact⟨d,rfl⟩
 obtain⟨z,a1,b1,b2⟩:∃ z,(c.P.info? O).bind (·.zero)=some z∧C6 z.cells.toList zero=true∧N=a2i z:=by
  unfold a0w at hz;unfold a7u at S;cases hq:(c.P.info? O).bind (·.zero)with
  | none=>simp[hq]at hz
  | some z=>simp only[hq]at hz S; exact⟨z,rfl,hz,by simpa using S⟩
 have E:(zeroValue O).run c.P w=.ok z w:=by obtain⟨i,hi,a3⟩:=Option.bind_eq_some_iff.1 a1;simp[zeroValue,typeInfo,hi,a3]
 have V:=fun(e:Bool)=>a1x (P:=c.P) (w:=w) hk e (a.eval k)
 have e1:=h1.rel
 -- what is left when the entries are known
 have fin:∀ (es:List (AV×AV)) (l:List MapEntry),RelM g w es l→(Rel g w q (a.eval k)∨es=[]) →
  (∀ (y:Option (Nat×Value)),Instr.findNow d (a.eval k) l 0=some y →
   (execOp a.eval o).run c.P w=.ok (.value (if ok then .tuple #[(match y with|some (_,x)=>x|none=>z),.bool y.isSome]else(match y with|some (_,x)=>x|none=>z))) w) →
  (match D6 kc q es 0 with
   | some J=>match (match J with|some (_,v)=>some v|none=>j0 N zero.length zero)with
    | some v=>some (if ok then AV.tuple [v,.bool J.isSome]else v,b,st)
    | none=>none
   | none=>none)=some (r,b',st')→l9 c g w bx fr a o r∧b'=b∧st'=st:=by
  intro es l F hq run u;cases Y:D6 kc q es 0 with
  | none=>simp[Y]at u
  | some J =>
   simp only[Y]at u;obtain⟨y,f1,f2⟩:∃ y,Instr.findNow d (a.eval k) l 0=some y∧(y.isSome=J.isSome∧∀ v,(match J with|some (_,v)=>some v|none=>j0 N zero.length zero)=some v →
    Rel g w v (match y with|some (_,x)=>x|none=>z)∧v.weak=v):=by
    have nil:J=none→Instr.findNow d (a.eval k) l 0=some none→∃ y,Instr.findNow d (a.eval k) l 0=some y∧(y.isSome=J.isSome∧∀ v,(match J with|some (_,v)=>some v|none=>j0 N zero.length zero)=some v →
     Rel g w v (match y with|some (_,x)=>x|none=>z)∧v.weak=v):=by
     intro e0 hn;subst e0;exact⟨none,hn,rfl,fun v T=>b9b a2 a1 b1 b2 T⟩
    rcases hq with hq|hq
    · have:=a4l W hk hq F Y;cases J with
      | none=>exact nil rfl this
      | some p =>obtain⟨j,v⟩:=p;obtain⟨e,_,_,e1,e2,e3,_⟩:=this;exact⟨some (j,e.val),e1,rfl,fun v' T=>by simp only[AC]at T; subst T; exact⟨e2,e3⟩⟩
    · subst hq;cases F;simp only[D6,AC]at Y;exact nil Y.symm rfl
   have a0:=run y f1;split at u
   · rename_i v T;simp only[AC,AH]at u;obtain⟨rfl,rfl,rfl⟩:=u;obtain⟨k1,k2⟩:=f2.2 v T;refine⟨⟨_,a0,?_⟩,rfl,rfl⟩;cases ok with
     | false=>exact ArgOK.of_rel k1 k2
     | true =>refine ValOK.mk' ?_ (by simp) (by simp);simp only[Rel,if_true];refine⟨_,rfl,?_⟩;simp only[RelL];exact⟨_,_,rfl,k1,_,_,rfl,by rw[f2.1]; simp[Rel],rfl⟩
   · cases u
 unfold Q7 at hs;dsimp only at hs;split at hs
 · rename_i kk D;simp only[AM,and_true]at D;obtain⟨rfl,rfl⟩:=D;have U:a.eval m=.map none:=by simpa[Rel]using h1.rel (by simp) (by simp)
   refine fin [] [] .nil (.inr rfl) (fun y I=>?_) hs;have G:=MapKept.run_findKey (P:=c.P) (w:=w) W I;have B:=V true;cases y with
   | none=>simp[execOp,ho,U,Instr.lookup,run_underlying hu,B,G,E]
   | some p=>simp[Instr.findNow]at I
 · rename_i oo kk D;simp only[AM,and_true]at D;obtain⟨rfl,rfl⟩:=D;have U:=h1.rel (by simp) (by simp);simp only[Rel]at U;split at hs
   · rename_i es b0;obtain⟨_,_,M,clock,hb,F⟩:=h.obj _ _ b0;have Z:=MapKept.run_getObj_map (P:=c.P) hb;have hq:Rel g w q (a.eval k)∨es=[]:=by
      cases es with
      | nil=>exact .inr rfl
      | cons e es =>
       refine .inl (h2.rel (fun i f hq=>?_) (fun cs hq=>?_)) <;>
       · subst hq;obtain⟨k0,v0⟩:=e;simp[D6,K9]at hs
     refine fin es M.toList F hq (fun y I=>?_) hs;have G:=MapKept.run_findKey (P:=c.P) (w:=w) W I;have B:=V M.isEmpty;cases y with
     | none=>simp[execOp,ho,U.2,Instr.lookup,run_underlying hu,Z,B,G,E]
     | some p=>obtain⟨j,x⟩:=p; simp[execOp,ho,U.2,Instr.lookup,run_underlying hu,Z,B,G]
   · cases hs
 · cases hs
theorem a3m {bb:Nat}:∀ {xs:List (List AV)} {s:List Nat} {f t:Nat},D9 xs=some s→RelRows g w bb f t xs→∃ l:List Int,l.length=xs.length∧(∀ i,i < xs.length→w.cell? ⟨bb,f+i,none⟩=some (.int .u8 (l.getD i 0)))∧(strOfNums l).data.toList.map UInt8.toNat=s
 | [],s,f,t,h,_=>by simp only[D9,AC]at h;subst h;exact⟨[],rfl,by simp,rfl⟩
 | x::xs,s,f,t,h,hr=>by
  simp only[RelRows]at hr;obtain⟨E,z,F⟩:=hr;unfold D9 at h;split at h
  · rename_i j; cases j
  · rename_i n rs j;simp only[AM]at j;obtain⟨rfl,rfl⟩:=j;obtain rfl:t=1:=by simpa using E.symm
    split at h
    · rename_i I;obtain⟨J,u,rfl⟩:=AK.1 h;obtain⟨l,B,D,y⟩:=a3m u F;simp only[RelCells,Rel]at z;obtain⟨⟨v,G,_,_,rfl⟩,_⟩:=z;refine⟨n::l,by simp[B],fun i hi=>?_,?_⟩
      · cases i with
        | zero=>exact G
        | succ i =>have:=D i (by simpa using hi);rw[show f+(i+1)=f+1+i by omega];simpa using this
      · rw[strOfNums_data]at y ⊢;simp only[AG,y,AM,and_true];rw[UInt8.toNat_ofNat'];omega
    · cases h
  · cases h
theorem d15 {t u e:TypeId} {x:Operand} (F:o.op=.convert t u x) (B:c.P.underlying t=some (.slice e)) (z:c.P.underlying e=some (.int .u8)) (hu:c.P.underlying u=some .string)
 (G:ArgsOK g w bx fr as [a.eval x]) (hs:Q2 call as b st=some (r,b',st')):l9 c g w bx fr a o r∧b'=b∧st'=st:=by
 obtain⟨p,rfl,E⟩:=G.one;unfold Q2 at hs;split at hs
 · rename_i own xs l;simp only[AM,and_true]at l; subst l;obtain⟨s,v,hs⟩:=AK.1 hs;simp only[AH]at hs;obtain⟨rfl,rfl,rfl⟩:=hs;have j:=E.rel (by simp) (by simp);simp only[Rel]at j;obtain⟨a0,n,cap,j,rfl,_,_,I⟩:=j;have run:∀ y,(convert t u (a.eval x)).run c.P w=.ok (.string y) w→(execOp a.eval o).run c.P w=.ok (.value (.string y)) w:=fun y J=>by simp only[execOp,F,Sem.run_bind,J,Result.andThen_ok,Sem.run_pure]
   cases xs with
   | nil =>
    simp only[D9,AC]at v;subst v;refine⟨⟨.string ByteArray.empty,run _ ?_,ValOK.mk' (by simp only[Rel]; exact⟨_,rfl,rfl⟩) (by simp) (by simp)⟩,rfl,rfl⟩;rw[j,List.length_nil];cases a0 with
    | none=>exact run_convert_bytes_nil w t e B z _ _ u hu
    | some a1 =>rw[run_convert_bytes_string w t u e _ _ _ B z hu];simp[Conv.bytesToString,loadCells,loadCellsFrom]
   | cons T xs =>obtain⟨bb,f,S,rfl,i⟩:=I (by simp);obtain⟨D,M,N,O⟩:=a3m v i;refine⟨⟨.string (strOfNums D),run _ ?_,ValOK.mk' (by simp only[Rel]; exact⟨_,rfl,O⟩) (by simp) (by simp)⟩,rfl,rfl⟩;rw[j];exact run_convert_bytes_arg w t e B z bb f _ cap D M N u hu
 · cases hs
end
end Go.Cb
namespace Go.Cb
open Classical
theorem FR.change {A:Nat→Prop} {g g':Gh} {w w':World} {pr t:Nat→Option Pl} {bx:Nat→Nat} {slots bxs:List Nat} {nt:Nat} {fr l:List AV} {τ u:Nat→AV} {tmps:Array Value}
 (h:FR A g w pr bx slots bxs nt fr τ tmps) (ok:Pl→Prop) (G:Ext g w g' w')
 (I:∀ b p,pr b=some p→ok p→t b=some p∧H2 g w g' w' b)
 (z:∀ b p,t b=some p→g'.sr b=none∧b < w'.heap.size∧A b)
 (D:∀ i s,slots[i]?=some s→((ok (.var i)∧ok (.box i)∧∀ k,ok (.cell i k))∧l.getD i .undef=fr.getD i .undef)∨VarOK g' w' t bx i (l.getD i .undef) (tmps.getD s undef))
 (B:∀ s,s ∉ slots→(ok (.tmp s)∧u s=τ s)∨TmpOK g' w' t bx l s (u s) (tmps.getD s undef))
 (y:l.length=fr.length) (v:∀ j cs,fr.getD j .undef=.box cs→∃ E,l.getD j .undef=.box E) (x:∀ j cs,l.getD j .undef=.box cs→j∈bxs) :
 FR A g' w' t bx slots bxs nt l u tmps:=by
 refine⟨h.size,y.trans h.len,fun i s hs=>?_,fun s hs=>?_,z,x⟩
 · rcases D i s hs with⟨⟨o1,o2,o3⟩,e⟩|hv
   · rw[e];refine(h.var i s hs).mono G (fun b p F M=>I b p F ?_) (fun _ _=>rfl);rcases M with rfl|rfl|⟨k,rfl⟩
     · exact o1
     · exact o2
     · exact o3 k
   · exact hv
 · rcases B s hs with⟨o1,e⟩|hv
   · rw[e];exact(h.tmp s hs).mono G (fun b F=>I b _ F o1) (fun j cs J=>⟨rfl,v j cs J⟩)
   · exact hv
noncomputable def mvp (pr:Nat→Option Pl) (src dst:Pl):Nat→Option Pl:=fun b=>if pr b=some src then some dst else pr b
theorem Z8 {pr:Nat→Option Pl} {src dst p:Pl} {b:Nat} (h:pr b=some p) (i:p≠src):mvp pr src dst b=some p:=by
 unfold mvp;rw[if_neg]
 · exact h
 · rw[h]; intro e; exact i (Option.some.inj e)
theorem b2e {pr:Nat→Option Pl} {src dst:Pl} {b:Nat} (h:pr b=some src):mvp pr src dst b=some dst:=by simp[mvp,h]
theorem a7o {pr:Nat→Option Pl} {src dst p:Pl} {b:Nat} (h:mvp pr src dst b=some p):∃ q,pr b=some q:=by
 unfold mvp at h;split at h
 · exact⟨_,‹_›⟩
 · exact⟨p,h⟩
section
variable {c:Cx} {g:Gh} {w:World} {pr:Nat→Option Pl} {bx:Nat→Nat} {σ:Sig} {a:Act} {o:Oper} {call:d8} {b b' r:AV} {st st':St} {fr as:List AV}
def Opd.src:Opd→Option Pl
 | .ts s=>some (.tmp s)
 | .vs i=>some (.var i)
 | _=>none
theorem I4 (h:S c g w pr bx σ a) {x:Operand} {p:Opd} (I:B3 c x p=true) {src:Pl} (l:p.src=some src) (dst:Pl) :
 S c g w (mvp pr src dst) bx (p.spend σ) a∧(∀ v cs,p.read σ=.loc v cs→(p.spend σ)=σ) ∧
  ArgOK g w bx σ.fr (fun b=>pr b=some src) (p.read σ) (a.eval x):=by
 have D:∀ b q,mvp pr src dst b=some q→g.sr b=none∧b < w.heap.size∧c.A b:=fun b q F=>by obtain⟨Y,U⟩:=a7o F;exact h.fr.prv b Y U
 unfold B3 at I;split at I<;>first|(simp only[Opd.src]at l; cases l; done)|(cases I; done)|simp only[Opd.src]at l
 · -- a temporary
   rename_i s Z;simp only[AA,beq_iff_eq]at I;obtain⟨rfl,T⟩:=I;have T:=N6 T;simp only[AC]at l;subst l;have E:=h.fr.tmp s T;have W:∀ N,TmpOK g w N bx σ.fr s (σ.τ s).weak (a.tmps.getD s undef):=fun N=>by cases y:σ.τ s<;>rw[y]at E<;>first|exact ValOK.of_weak (ValOK.rel E)|exact E
   refine⟨⟨h.fr.change (·≠.tmp s) (Ext.refl g w) (fun b q F B=>⟨Z8 F B,rfl,fun _ x=>x⟩) D (fun i t _=>.inl ⟨⟨by simp,by simp,by simp⟩,rfl⟩) (fun t V=>?_) rfl (fun j cs z=>⟨cs,z⟩) h.fr.bxs,h.st,h.gl,h.fresh,h.stA⟩,?_,?_⟩
   · by_cases e:t=s
     · subst e;right;simp only[Opd.spend,q9,Nat.beq_refl,if_true];exact W _
     · left;exact⟨by simpa using e,by simp[Opd.spend,q9,e]⟩
   · intro v cs y;simp only[Opd.read]at y;simp only[Opd.spend,y,AV.weak];have:q9 σ.τ s (.loc v cs)=σ.τ:=by
      funext t;by_cases e:t=s
      · subst e; simp[q9,y]
      · simp[q9,e]
     rw[this]
   · simp only[Opd.read,Act.eval];cases y:σ.τ s<;>rw[y]at E<;>first|exact E|exact E.elim
 · -- a variable
   rename_i s i;have hs:c.slots[i]?=some s:=by simpa using I
   simp only[AC]at l;subst l;have hi:i < σ.fr.length:=by rw[h.fr.len]; exact(AB.1 hs).1
   have y:=h.fr.var i s hs;have J:∀ j cs,σ.fr.getD j .undef=.box cs→(Opd.spend (.vs i) σ).fr.getD j .undef=.box cs:=fun j cs z=>by
    simp only[Opd.spend];by_cases e:j=i
    · subst e; rw[m7 hi,z]; rfl
    · rw[l3 e]; exact z
   refine⟨⟨h.fr.change (·≠.var i) (Ext.refl g w) (fun b q F B=>⟨Z8 F B,rfl,fun _ x=>x⟩) D (fun j t E=>?_) (fun t _=>.inl ⟨by simp,rfl⟩) (by simp[Opd.spend]) (fun j cs z=>⟨cs,J j cs z⟩) (fun j cs z=>?_),h.st,h.gl,h.fresh,h.stA⟩,?_,?_⟩
   · by_cases e:j=i
     · subst e;obtain rfl:t=s:=Option.some.inj (E.symm.trans hs);simp only[Opd.spend,m7 hi];right;have G:∀ (x:AV) (u:Value),VarOK g w pr bx j x u→VarOK g w (mvp pr (.var j) dst) bx j x.weak u:=by
        intro x u O;cases x<;>first
         | exact ValOK.of_weak (ValOK.rel O)
         | exact O.elim
         | exact⟨O.1,O.2.mono (Ext.refl g w) (fun b q F B=>⟨Z8 F (by rcases B with rfl|⟨k,rfl⟩<;>simp),rfl,fun _ x=>x⟩)⟩
       exact G _ _ y
     · left;exact⟨⟨by simp[e],by simp,by simp⟩,by simp only[Opd.spend,l3 e]⟩
   · by_cases e:j=i
     · subst e;simp only[Opd.spend,m7 hi]at z;cases B:σ.fr.getD j .undef<;>rw[B]at z<;>simp[AV.weak]at z;exact h.fr.bxs j _ B
     · simp only[Opd.spend,l3 e]at z;exact h.fr.bxs j cs z
   · intro v cs M;simp only[Opd.read]at M;rw[M]at y;exact y.elim
   · simp only[Opd.read,Act.eval];cases B:σ.fr.getD i .undef<;>rw[B]at y<;>first|exact y|exact y.elim|trivial
theorem Ext.alloc (i:∀ b f,g.cl b f→b < w.heap.size) (j:_root_.Go.Obj):Ext g w g (w.alloc j) :=
 ⟨AJ _,fun _ _=>rfl,fun _ _=>rfl,fun _ _ h=>h,fun b f h=>World.cell?_alloc_lt _ _ _ (i b f h)⟩
theorem Tr.alloc (A:Nat→Prop) (l:∀ b f,g.cl b f→b < w.heap.size) (i:_root_.Go.Obj) (u:∀ c t z,i=.cells c t z→z=(0,0):=by intro c t z e; cases e; rfl):Tr A g w g (w.alloc i) :=
 ⟨Ext.alloc l i,by simp,Env.alloc w i u,fun b j hs _=>⟨⟨heap_alloc_old w i j,fun _ x=>x⟩,hs⟩⟩
theorem SRel.alloc (h:SRel g w st) (i:_root_.Go.Obj):SRel g (w.alloc i) st :=
 h.evolve (Ext.alloc h.cli i) rfl (by simp) (fun b _ j=>⟨j,heap_alloc_old w i (h.inn b _ j),fun _ x=>x⟩) (fun _ _ x=>x) (fun _ _ x=>.inl x)
theorem b5z (U:Fx c) (h:S c g w pr bx σ a) {i s:Nat} (hs:c.slots[i]?=some s) (hi:i∈c.bxs) (hu:σ.fr.getD i .undef=.undef) {cs:List AV} {arr:Array Value} {T:TypeId} (J:RowOK g w cs arr.toList) :
 ∃ u l,S c g (w.alloc (.cells arr T)) u l { σ with fr:=σ.fr.set i (.box cs) } (a.put (some s) (.pointer (some (ad w.heap.size 0)))):=by
 have G:i < σ.fr.length:=by rw[h.fr.len]; exact(AB.1 hs).1
 have M:s < a.tmps.size:=by rw[h.fr.size]; exact U.lt s (List.mem_of_getElem? hs)
 have N:g.sr w.heap.size=none:=by
  cases Z:g.sr w.heap.size with
  | none=>rfl
  | some p=>exact absurd (h.st.inn _ p Z) (Nat.lt_irrefl _)
 have E:=Ext.alloc h.st.cli (_root_.Go.Obj.cells arr T);have I:∀ b p,pr b=some p→b≠w.heap.size:=fun b p y e=>by have:=(h.fr.prv b p y).2.1; omega
 let u:Nat→Option Pl:=fun b=>if b=w.heap.size then some (.box i)else pr b
 let l:Nat→Nat:=fun j=>if j=i then w.heap.size else bx j
 have z:∀ b p,pr b=some p→u b=some p∧H2 g w g (w.alloc (.cells arr T)) b:=fun b p y =>⟨by simp only[u,if_neg (I b p y)]; exact y,heap_alloc_old w _ (h.fr.prv b p y).2.1,fun _ x=>x⟩
 refine⟨u,l,⟨⟨by simpa[Act.put]using h.fr.size,by simpa using h.fr.len,fun j t D=>?_,fun t D=>?_,fun b p y=>?_,fun j F B=>?_⟩,h.st.alloc _,h.gl.ext E,fun b y=>h.fresh b (by simp at y; omega),h.stA⟩⟩
 · by_cases e:j=i
   · subst e;obtain rfl:t=s:=Option.some.inj (D.symm.trans hs);simp only[Act.put];rw[E1 M,m7 G];refine⟨by simp[l],?_⟩;simp only[l,if_true];refine⟨by simp[u],fun f Y=>absurd (h.st.cli _ f Y) (Nat.lt_irrefl _),arr,T,heap_alloc_new w _,RelL.ext E _ _ J.rel,J.one,fun k x v hx hv xs ex=>.inl (J.own k x v hx (by simpa using hv) xs ex)⟩
   · simp only[Act.put];rw[H9 (b2f U.nd D hs e),l3 e];exact(h.fr.var j t D).mono E (fun b p y _=>z b p y) (fun _ _=>by simp[l,e])
 · have O:t≠s:=fun e=>D (e ▸ List.mem_of_getElem? hs)
   simp only[Act.put];rw[H9 O];refine(h.fr.tmp t D).mono E (fun b y=>z b _ y) (fun j F B=>?_);have e:j≠i:=fun e=>by subst e; rw[hu]at B; cases B
   exact⟨by simp[l,e],F,by rw[l3 e]; exact B⟩
 · by_cases e:b=w.heap.size
   · subst e; exact⟨N,by simp,h.fresh _ (AJ _)⟩
   · simp only[u,if_neg e]at y;obtain⟨V,h2,W⟩:=h.fr.prv b p y;exact⟨V,by simp; omega,W⟩
 · by_cases e:j=i
   · subst e; exact hi
   · simp only[l3 e]at B; exact h.fr.bxs j F B
noncomputable def Gh.more (g:Gh) (b:Nat) (cap:Nat:=0):Gh where
 n:=g.n+1
 m:=fun o=>if o=g.n then b else g.m o
 cl:=g.cl
 sr:=fun b'=>if b'=b then some (g.n,none)else g.sr b'
 cp:=fun o=>if o=g.n then cap else g.cp o
theorem c7p (h:S c g w pr bx σ a) {cap:Nat} {F:Obj} {O:_root_.Go.Obj} (G:∀ c t z,O=.cells c t z→z=(0,0)) (D:Ext g w (g.more w.heap.size cap) (w.alloc O)→ObjOK (g.more w.heap.size cap) (w.alloc O) g.n F) :
 S c (g.more w.heap.size cap) (w.alloc O) pr bx { σ with st:=σ.st++[F] } a∧Tr c.A g w (g.more w.heap.size cap) (w.alloc O)∧(g.more w.heap.size cap).m σ.st.length=w.heap.size∧σ.st.length < (g.more w.heap.size cap).n:=by
 have v:Ext g w (g.more w.heap.size cap) (w.alloc O):=⟨by simp[Gh.more],fun o j=>by simp[Gh.more,Nat.ne_of_lt j],fun o j=>by simp[Gh.more,Nat.ne_of_lt j],fun _ _ h=>h,fun b f B=>World.cell?_alloc_lt _ _ _ (h.st.cli b f B)⟩;have u:Tr No g w (g.more w.heap.size cap) (w.alloc O):=⟨v,by simp,Env.alloc w O G,fun b i hs _=>⟨⟨heap_alloc_old w O i,fun _ x=>x⟩,by simp only[Gh.more]; rw[if_neg (by omega)]; exact hs⟩⟩;refine⟨⟨h.fr.evolve u,⟨by simp[Gh.more,h.st.n],fun o E j=>?_,fun b p i=>?_,fun b f B=>?_⟩,h.gl.ext v,fun b i=>h.fresh b (by simp at i; omega),fun b p i=>?_⟩,u.wider (fun _ x=>x.elim),by simp[Gh.more,h.st.n],by simp[Gh.more,h.st.n]⟩
 · rcases Nat.lt_or_ge o σ.st.length with l|hge
   · rw[List.getElem?_append_left l]at j;refine(h.st.obj o E j).mono (by rw[h.st.n]; exact l) v fun b k i=>?_
     have y:=h.st.inn b _ i;exact⟨by simp only[Gh.more]; rw[if_neg (by omega)]; exact i,heap_alloc_old w O y,fun _ x=>x⟩
   · rw[List.getElem?_append_right hge]at j;have e:o=σ.st.length:=by
      rcases Nat.lt_or_ge σ.st.length o with h1|h1
      · rw[List.getElem?_eq_none (by simp; omega)]at j; cases j
      · omega
     subst e;simp at j;subst j;rw[← h.st.n];exact D v
 · simp only[Gh.more]at i;split at i
   · rename_i e; subst e; simp
   · have:=h.st.inn b p i; simp; omega
 · have:=h.st.cli b f B; simp; omega
 · simp only[Gh.more]at i;split at i
   · rename_i e; subst e; exact h.fresh _ (AJ _)
   · exact h.stA b p i
theorem a07 (h:S c g w pr bx σ a) {cs:List AV} {arr:Array Value} {T:TypeId} (i:RowOK g w cs arr.toList) :
 Ext g w (g.more w.heap.size arr.size) (w.alloc (.cells arr T))→ObjOK (g.more w.heap.size arr.size) (w.alloc (.cells arr T)) g.n (.cells cs):=fun l=>by
 refine⟨by simp[Gh.more],fun f j=>?_,arr,T,by simp only[Gh.more,if_true]; exact heap_alloc_new w _,by simp[Gh.more],by rw[i.rel.length,List.take_length]; exact RelL.ext l _ _ i.rel,by rw[i.rel.length,List.take_length]; exact i.one,fun k x v u t xs ex=>.inl (i.own k x v u (by simpa using t) xs ex)⟩;simp only[Gh.more,if_true]at j;exact Nat.lt_irrefl _ (h.st.cli _ f j)
theorem b3l (h:S c g w pr bx σ a) :
 Ext g w (g.more w.heap.size 0) (w.alloc (.map #[] 0))→ObjOK (g.more w.heap.size 0) (w.alloc (.map #[] 0)) g.n (.map []):=fun _ =>
 ⟨by simp[Gh.more],fun f i=>Nat.lt_irrefl _ (h.st.cli _ f (by simpa[Gh.more]using i)),#[],0,by simp only[Gh.more,if_true]; exact heap_alloc_new w _,.nil⟩
end
end Go.Cb
namespace Go.Cb
open Classical
section
variable {c:Cx} {g:Gh} {w:World} {pr:Nat→Option Pl} {bx:Nat→Nat} {σ:Sig} {a:Act} {o:Oper} {call:d8} {b b' r:AV} {st st':St} {fr as:List AV}
theorem L0 (h:S c g w pr bx σ a) {x:Operand} {p:Opd} (B:B3 c x p=true) (dst:Pl) :
 ∃ j,S c g w j bx (p.spend σ) a∧ArgOK g w bx σ.fr (fun b=>j b=some dst) (p.read σ) (a.eval x)∧∀ b q,j b=some q→∃ E,pr b=some E:=by
 cases l:p.src with
 | some src =>
  obtain⟨D,_,i⟩:=I4 h B l dst;refine⟨_,D,?_,fun b q u=>a7o u⟩;cases z:p.read σ<;>rw[z]at i<;>first
   | exact ValOK.mono i (Ext.refl g w) (fun b t=>⟨b2e t,rfl,fun _ x=>x⟩)
   | exact i
 | none =>
  have y:p.steals=false:=by cases p<;>simp_all [Opd.src,Opd.steals]
  have v:p.spend σ=σ:=by cases p<;>simp_all [Opd.src,Opd.spend]
  rw[v];refine⟨pr,h,?_,fun b q u=>⟨q,u⟩⟩;have i:=N4 h (x:=x) (p:=p) (by simp[M0,B,y]);cases z:p.read σ<;>rw[z]at i<;>first
   | exact ValOK.mono i (Ext.refl g w) (fun b t=>t.elim)
   | exact i
structure RowM (g:Gh) (w:World) (mine:Nat→Prop) (cs:List AV) (vs:List Value):Prop where
 rel:RelL g w cs vs
 one:∀ v∈vs,v.oneCell'=true
 own:∀ (k:Nat) (x:AV) (v:Value),cs[k]?=some x→vs[k]?=some v→OwnC g w (fun b=>k=0∧mine b) x v
theorem a1I {mine:Nat→Prop} {x:AV} {v:Value} (h:ArgOK g w bx fr mine x v) (z:x.plain=true):RowM g w mine x.cells v.cells.toList:=by
 have t:=h.plain z;cases x with
 | agg cs =>have i:=t.rel;simp only[Rel]at i;obtain⟨arr,rfl,B,D⟩:=i;exact⟨B,D,fun k y u j hu xs e=>.inl (t.agg cs rfl arr rfl k y u j (by simpa[Value.cells]using hu) xs e)⟩
 | undef=>simp[AV.plain]at z
 | loc=>simp[AV.plain]at z
 | box=>simp[AV.plain]at z
 | tuple=>simp[AV.plain]at z
 | fresh=>simp[AV.plain]at z
 | list own xs =>
  have i:=t.rel;simp only[Rel]at i;obtain⟨a0,n,cap,rfl,_⟩:=i;refine⟨by simp only[AV.cells,Value.cells,RelL]; exact⟨_,[],rfl,t.rel,rfl⟩,by simp[Value.cells,Value.oneCell'],fun k y u j hu ys e=>?_⟩;obtain rfl:k=0:=by cases k with|zero=>rfl|succ k=>simp[AV.cells]at j
  simp[AV.cells]at j;simp[Value.cells]at hu;subst hu;rw[← j]at e;exact(t.own ys e).mono fun b E=>⟨⟨rfl,E⟩,rfl,fun _ x=>x⟩
 | _ =>
  have l:v.oneCell'=true:=by
   have i:=t.rel;simp only[Rel]at i;first
    | (subst i; rfl)
    | (obtain⟨_,rfl⟩:=i; rfl)
    | (obtain⟨_,rfl,_⟩:=i; rfl)
    | (obtain⟨_,_,rfl,_⟩:=i; rfl)
  have F:v.cells=#[v]:=by cases v<;>first|rfl|cases l
  rw[F];refine⟨by simp only[AV.cells,RelL]; exact⟨v,[],rfl,t.rel,rfl⟩,by simpa using l,fun k y u j _ ys e=>?_⟩;obtain rfl:k=0:=by cases k with|zero=>rfl|succ k=>simp[AV.cells]at j
  simp[AV.cells]at j;rw[← j]at e;cases e
theorem a0G {t:TypeId} {x y:Operand} {bb off:Nat} {arr:Array Value} {T:TypeId} {v:Value} (D:o.op=.store t x y) (E:a.eval x=.pointer (some (ad bb off))) (F:a.eval y=v)
 (B:r5 c t=some v.cells.size) (z:w.heap[bb]?=some (.cells arr T (0,0))) (j:off+v.cells.size≤arr.size) (l:∀ u∈v.cells.toList,u.oneCell'=true) :
 (execOp a.eval o).run c.P w=.ok .skip (w.setRow bb (arr.toList.take off++v.cells.toList++arr.toList.drop (off+v.cells.size)).toArray):=by
 have i:=run_storeCells_at c.P bb off T v.cells.toList 0 arr w z (by simpa using j) l;simp only[Nat.add_zero,Array.length_toList]at i;simp only[execOp,D,E,F,Instr.storeAt,Instr.sureAddr,Sem.run_bind,Sem.run_pure,Result.andThen_ok,storeVar,E9 (w:=w) B,ne_eq,not_true,if_false];rw[i];rfl
theorem a0u {bb k f:Nat} (cs:Array Value) (h:k≠bb):(w.setRow bb cs).cell? (ad k f)=w.cell? (ad k f) :=
 World.cell?_of_block (setRow_other w bb k cs h)
theorem Ext.setRow {bb:Nat} (cs:Array Value) (h:∀ f,¬ g.cl bb f):Ext g w g (w.setRow bb cs) :=
 ⟨AJ _,fun _ _=>rfl,fun _ _=>rfl,fun _ _ h=>h,fun i f hk=>a0u cs fun e=>h f (e ▸ hk)⟩
theorem a04 {α:Type} {l s:List α} {off k:Nat} {x:α} (u:off+s.length≤l.length) (h:(l.take off++s++l.drop (off+s.length))[k]?=some x) :
 (k < off∧l[k]?=some x)∨(off≤k∧k < off+s.length∧s[k - off]?=some x)∨(off+s.length≤k∧l[k]?=some x):=by
 have i:(l.take off).length=off:=by rw[AO]; omega
 by_cases j:k < off
 · left;rw[AU,List.getElem?_append_left (by omega),List.getElem?_take,if_pos j]at h;exact⟨j,h⟩
 · by_cases t:k < off+s.length
   · right; left;rw[AU,List.getElem?_append_right (by omega),i,List.getElem?_append_left (by omega)]at h;exact⟨by omega,t,h⟩
   · right; right;rw[AU,List.getElem?_append_right (by omega),i,List.getElem?_append_right (by omega),List.getElem?_drop]at h;rw[show off+s.length+(k - off - s.length)=k by omega]at h;exact⟨by omega,h⟩
theorem a4r {cs j:List AV} {us vs:List Value} {off:Nat} (u:RelL g w cs us) (l:∀ v∈us,v.oneCell'=true) (t:RelL g w j vs) (i:∀ v∈vs,v.oneCell'=true) :
 RelL g w (n8 cs off j) (us.take off++vs++us.drop (off+vs.length))∧∀ v∈us.take off++vs++us.drop (off+vs.length),v.oneCell'=true:=by
 refine⟨?_,fun v hv=>?_⟩
 · unfold n8;rw[t.length];exact((u.take off).append t).append (u.drop _)
 · rcases AP.1 hv with hv|hv
   · rcases AP.1 hv with hv|hv
     · exact l v (List.mem_of_mem_take hv)
     · exact i v hv
   · exact l v (List.mem_of_mem_drop hv)
theorem c9z (h:S c g w pr bx σ a) {i s off n:Nat} (hs:c.slots[i]?=some s) {t:TypeId} {x y:Operand} {p1:Opd} {cs:List AV} (ho:o.op=.store t x y) (hn:r5 c t=some n)
 (U:σ.fr.getD i .undef=.box cs) (hx:a.eval x=.pointer (some (ad (bx i) off))) (b8:B3 c y p1=true) (c0:(p1.read σ).plain=true) (b0:(p1.read σ).cells.length=n) (c6:off+n≤cs.length)
 {next:Act→World→Prop} {Q:Exit→Act→World→Prop} (hd:o.dst=none)
 (Y:Post c g w a { p1.spend σ with fr:=(p1.spend σ).fr.set i (.box (n8 cs off (p1.read σ).cells)) } next):o.wp c.P a w next Q:=by
 obtain⟨b5,E,hA,_⟩:=L0 h b8 (.cell i off);have D:=a1I hA c0;have V:i < σ.fr.length:=by rw[h.fr.len]; exact(AB.1 hs).1
 have a2:(p1.spend σ).fr.getD i .undef=.box cs:=by
  cases p1<;>simp only[Opd.spend]<;>try exact U
  rename_i j;by_cases e:i=j
  · subst e; rw[m7 V,U]; rfl
  · rw[l3 e]; exact U
 have F:(p1.spend σ).fr.length=σ.fr.length:=by cases p1<;>simp[Opd.spend]
 have O:=E.fr.var i s hs;rw[a2]at O;obtain⟨b3,B,a3,arr,T,hh,M,b2,J⟩:=O;have a0:(a.eval y).cells.size=n:=by have:=D.rel.length;rw[b0]at this;exact this.symm.trans (by simp)
 have c4:cs.length=arr.size:=M.length.trans (by simp);have N:=a0G (c:=c) (w:=w) (v:=a.eval y) ho hx rfl (by rw[a0]; exact hn) hh (by omega) D.one;generalize I:(a.eval y).cells.toList=vs at *
 have c2:vs.length=n:=by rw[← I]; simpa using a0
 rw[a0,← c2]at N;obtain⟨r1,r2⟩:=a4r (off:=off) M b2 D.rel D.one;generalize b1:arr.toList.take off++vs++arr.toList.drop (off+vs.length)=new at *
 have he:Ext g w g (w.setRow (bx i) new.toArray):=Ext.setRow _ a3;have u:∀ b,b≠bx i→H2 g w g (w.setRow (bx i) new.toArray) b:=fun b U=>⟨setRow_other w _ b _ U,fun _ x=>x⟩
 have b4:∀ b q,g.sr b=some q→b≠bx i:=fun b q G e=>by have:=(E.fr.prv _ _ B).1;rw[e,this]at G; cases G
 unfold Oper.wp;rw[N];simp only[Oper.upon,hd,Act.put];have b6:c.A (bx i):=(E.fr.prv _ _ B).2.2;refine Y a _ g b5 bx rfl ⟨?_,E.st.evolve he rfl (by simp) (fun b q G=>⟨G,u b (b4 b q G)⟩) (fun _ _ x=>x) (fun _ _ x=>.inl x),E.gl.ext he,fun b U=>E.fresh b (by simpa using U),E.stA⟩
  ⟨he,by simp,Env.setRow _ _ _,fun b _ c1 a1=>⟨u b fun e=>a1 (e ▸ b6),c1⟩⟩
 refine E.fr.change (fun q=>q≠.box i) he (fun b q G b7=>⟨G,u b fun e=>?_⟩) (fun b q G=>?_) (fun j t' ht=>?_) (fun t' ht=>.inl ⟨by simp,rfl⟩) (by simp) (fun j ds hj=>?_) (fun j ds hj=>?_)
 · rw[e,B]at G; exact b7 (Option.some.inj G).symm
 · obtain⟨q1,q2,q3⟩:=E.fr.prv b q G; exact⟨q1,by simpa using q2,q3⟩
 · by_cases e:j=i
   · subst e;obtain rfl:t'=s:=Option.some.inj (ht.symm.trans hs);right;rw[m7 (by rw[F]; exact V)];refine⟨b3,B,a3,new.toArray,T,setRow_heap w _ arr _ T _ hh,by simpa using r1.ext he _ _,by simpa using r2,fun k z v hz hv=>?_⟩;rw[List.getElem?_toArray,← b1]at hv;unfold n8 at hz;have c3:=a04 (by omega) hz;have Z:=a04 (by simp; omega) hv;have W:∀ b',b5 b'=some (.cell j k)→b'≠bx j:=fun b' l e=>by rw[e,B]at l; cases l
     rcases c3 with⟨z1,z2⟩|⟨z1,z2,z3⟩|⟨z1,z2⟩
     · rcases Z with⟨_,v2⟩|⟨v1,_⟩|⟨v1,_⟩
       · exact(J k z v z2 (by simpa using v2)).mono fun b' l=>⟨l,u b' (W b' l)⟩
       · omega
       · omega
     · rcases Z with⟨v1,_⟩|⟨_,_,v3⟩|⟨v1,_⟩
       · omega
       · refine(D.own _ z v z3 v3).mono fun b' l=>?_
         obtain⟨e0,l⟩:=l;have ek:k=off:=by omega
         subst ek;exact⟨l,u b' (W b' l)⟩
       · omega
     · rcases Z with⟨v1,_⟩|⟨_,v1,_⟩|⟨_,v2⟩
       · omega
       · omega
       · exact(J k z v z2 (by simpa using v2)).mono fun b' l=>⟨l,u b' (W b' l)⟩
   · left;exact⟨⟨by simp,by simp[e],by simp⟩,l3 e⟩
 · by_cases e:j=i
   · subst e; exact⟨_,m7 (by rw[F]; exact V)⟩
   · exact⟨ds,by rw[l3 e]; exact hj⟩
 · by_cases e:j=i
   · subst e; exact E.fr.bxs j _ a2
   · rw[l3 e]at hj; exact E.fr.bxs j ds hj
end
end Go.Cb
namespace Go.Cb
open Classical
section
variable {c:Cx} {g:Gh} {w:World} {pr:Nat→Option Pl} {bx:Nat→Nat} {σ:Sig} {a:Act} {o:Oper} {call:d8} {b b' r:AV} {st st':St} {fr as:List AV}
noncomputable def Gh.land (g:Gh) (pr:Nat→Option Pl) (i off:Nat):Gh:={ g with sr:=fun b=>if pr b=some .fly then some (i,some off)else g.sr b }
theorem d3A (h:S c g w pr bx σ a) {I off n:Nat} {t:TypeId} {x y:Operand} {p1:Opd} {cs:List AV} (ho:o.op=.store t x y) (hn:r5 c t=some n)
 (M:σ.st[I]?=some (.cells cs)) (hx:a.eval x=.pointer (some (ad (g.m I) off))) (c6:B3 c y p1=true) (c7:(p1.read σ).plain=true) (b3:(p1.read σ).cells.length=n) (d3:off+n≤cs.length)
 {next:Act→World→Prop} {Q:Exit→Act→World→Prop} (hd:o.dst=none)
 (a0:Post c g w a { p1.spend σ with st:=σ.st.set I (.cells (n8 cs off (p1.read σ).cells)) } next):o.wp c.P a w next Q:=by
 obtain⟨F,J,hA,_⟩:=L0 h c6 .fly;have G:=a1I hA c7;have d2:(p1.spend σ).st=σ.st:=by cases p1<;>rfl
 have c4:I < g.n:=by rw[h.st.n]; exact(AB.1 M).1
 obtain⟨B,b1,arr,T,hh,c0,Y,b6,V⟩:=h.st.obj I _ M;have a3:(a.eval y).cells.size=n:=by have:=G.rel.length;rw[b3]at this;exact this.symm.trans (by simp)
 have d1:cs.length≤arr.size:=by have:=Y.length; rw[AO]at this; simp at this; omega
 have Z:=a0G (c:=c) (w:=w) (v:=a.eval y) ho hx rfl (by rw[a3]; exact hn) hh (by omega) G.one;generalize U:(a.eval y).cells.toList=vs at *
 have c8:vs.length=n:=by rw[← U]; simpa using a3
 rw[a3,← c8]at Z;obtain⟨r1,r2⟩:=a4r (off:=off) Y b6 G.rel G.one;have b8:(n8 cs off (p1.read σ).cells).length=cs.length:=by unfold n8;simp only[AE,AO,List.length_drop];omega
 have b7:(arr.toList.take cs.length).take off++vs++(arr.toList.take cs.length).drop (off+vs.length)=(arr.toList.take off++vs++arr.toList.drop (off+vs.length)).take cs.length:=by
  rw[List.take_take,Nat.min_eq_left (by omega),List.drop_take,List.take_append,AE,AO,Nat.min_eq_left (by simp; omega),
   List.take_of_length_le (l:=arr.toList.take off++vs) (by rw[AE,AO,Nat.min_eq_left (by simp; omega)]; omega)]
 rw[b7]at r1 r2;have c3:(arr.toList.take off++vs++arr.toList.drop (off+vs.length)).length=arr.size:=by simp only[AE,AO,List.length_drop,Array.length_toList];omega
 generalize b5:arr.toList.take off++vs++arr.toList.drop (off+vs.length)=new at *
 let g2:=g.land F I off
 let pr2:Nat→Option Pl:=fun b=>if F b=some .fly then none else F b
 have O:Ext g w g (w.setRow (g.m I) new.toArray):=Ext.setRow _ b1;have he:Ext g w g2 (w.setRow (g.m I) new.toArray):=⟨O.n,O.m,O.cp,O.cl,O.cell⟩;have u:∀ b,b≠g.m I→H2 g w g2 (w.setRow (g.m I) new.toArray) b:=fun b M=>⟨setRow_other w _ b _ M,fun _ x=>x⟩
 have W:∀ b q,F b=some q→b≠g.m I:=fun b q D e=>by have:=(J.fr.prv _ _ D).1;rw[e,B]at this; cases this
 have E:∀ b q,g.sr b=some q→g2.sr b=some q:=fun b q D=>by
  show(if F b=some .fly then some (I,some off)else g.sr b)=some q;rw[if_neg]
  · exact D
  · intro e; have:=(J.fr.prv _ _ e).1; rw[this]at D; cases D
 have b2:∀ b,F b=some .fly→g2.sr b=some (I,some off):=fun b M=>by show(if F b=some .fly then some (I,some off)else g.sr b)=_;rw[if_pos M]
 unfold Oper.wp;rw[Z];simp only[Oper.upon,hd,Act.put];refine a0 a _ g2 pr2 bx rfl ⟨?_,⟨?_,fun o' ob N=>?_,fun b q D=>?_,fun b f hf=>by simpa using J.st.cli b f hf⟩,J.gl.ext he,fun b M=>J.fresh b (by simpa using M),fun b q D=>?_⟩
  ⟨he,by simp,Env.setRow _ _ _,fun b _ a1 b0=>⟨u b (fun e=>by rw[e,B]at a1; cases a1),?_⟩⟩
 · refine J.fr.change (fun q=>q≠.fly) he (fun b q D c1=>⟨?_,u b (W b q D)⟩) (fun b q D=>?_) (fun j t' ht=>.inl ⟨⟨by simp,by simp,by simp⟩,rfl⟩) (fun t' ht=>.inl ⟨by simp,rfl⟩) rfl (fun j ds hj=>⟨ds,hj⟩) J.fr.bxs
   · simp only[pr2];rw[if_neg (by rw[D]; intro e; exact c1 (Option.some.inj e))];exact D
   · simp only[pr2]at D;split at D
     · cases D
     · rename_i c2;obtain⟨q1,q2,q3⟩:=J.fr.prv b q D;refine⟨?_,by simpa using q2,q3⟩;show(if F b=some .fly then some (I,some off)else g.sr b)=none;rw[if_neg c2]; exact q1
 · show g.n=_;rw[List.length_set]; exact h.st.n
 · by_cases e:o'=I
   · subst e;rw[List.getElem?_set_self (by rw[← h.st.n]; exact c4)]at N;simp only[AC]at N;subst N;refine⟨E _ _ B,b1,new.toArray,T,setRow_heap w _ arr _ T _ hh,(show new.toArray.size=g.cp o' from by simpa[c3]using c0),by rw[b8]; exact r1.ext he _ _,by rw[b8]; exact r2,fun k z v hz hv=>?_⟩;rw[List.getElem?_toArray,← b5]at hv;unfold n8 at hz;have d0:=a04 (by omega) hz;have a2:=a04 (by simp; omega) hv;have b4:∀ b',g.sr b'=some (o',some k)→b'≠g.m o':=fun b' i e=>by rw[e,B]at i; simp at i
     rcases d0 with⟨z1,z2⟩|⟨z1,z2,z3⟩|⟨z1,z2⟩
     · rcases a2 with⟨_,v2⟩|⟨v1,_⟩|⟨v1,_⟩
       · exact(V k z v z2 (by simpa using v2)).mono fun b' i=>⟨E b' _ i,u b' (b4 b' i)⟩
       · omega
       · omega
     · rcases a2 with⟨v1,_⟩|⟨_,_,v3⟩|⟨v1,_⟩
       · omega
       · refine(G.own _ z v z3 v3).mono fun b' i=>?_
         obtain⟨e0,i⟩:=i;have ek:k=off:=by omega
         subst ek;exact⟨b2 b' i,u b' (W b' _ i)⟩
       · omega
     · rcases a2 with⟨v1,_⟩|⟨_,v1,_⟩|⟨_,v2⟩
       · omega
       · omega
       · exact(V k z v z2 (by simpa using v2)).mono fun b' i=>⟨E b' _ i,u b' (b4 b' i)⟩
   · rw[List.getElem?_set_ne (Ne.symm e)]at N;refine(h.st.obj o' ob N).mono (by rw[h.st.n]; exact(AB.1 N).1) he fun b k M=>⟨E b _ M,u b fun e2=>?_⟩
     rw[e2,B]at M;simp only[AC,AH]at M;exact e M.1.symm
 · have:b < w.heap.size:=by
    simp only[g2,Gh.land]at D;split at D
    · exact(J.fr.prv b _ ‹_›).2.1
    · exact J.st.inn b q D
   simpa using this
 · simp only[g2,Gh.land]at D;split at D
   · exact(J.fr.prv b _ ‹_›).2.2
   · exact J.stA b q D
 · show(if F b=some .fly then some (I,some off)else g.sr b)=none;rw[if_neg]
   · exact a1
   · intro e; exact b0 (J.fr.prv b _ e).2.2
theorem a6q {x:AV} {v:Value} {mine:Nat→Prop}:OwnC g w mine x.weak1 v:=by intro xs e;cases x<;>simp[AV.weak1]at e
theorem RelL.set {cs:List AV} {us:List Value} {k:Nat} {x:AV} {v:Value} (h:RelL g w cs us) (hu:us[k]?=some v) (B:Rel g w x v):RelL g w (cs.set k x) us:=by
 refine RelL.of_get (by simpa using h.length) fun i y u t j=>?_
 by_cases e:i=k
 · subst e;rw[hu]at j;simp only[AC]at j;subst j;have hl:i < cs.length:=by rw[h.length]; exact(AB.1 hu).1
   rw[List.getElem?_set_self hl]at t;simp only[AC]at t;subst t;exact B
 · rw[List.getElem?_set_ne (Ne.symm e)]at t;obtain⟨D,l,z⟩:=h.get t;rw[j]at l;simp only[AC]at l;subst l;exact z
theorem b0q {mine:Nat→Prop} {x:AV} {v:Value} (h:Rel g w x v) (i:v.oneCell'=true) (j:OwnC g w mine x v):ArgOK g w bx fr mine x v:=by
 cases x
 case agg cs =>simp only[Rel]at h;obtain⟨y,rfl,_⟩:=h;simp[Value.oneCell']at i
 case loc=>simp[Rel]at h
 case box=>simp[Rel]at h
 all_goals exact⟨h,j,fun _ e=>(by cases e)⟩
theorem a0I {t:TypeId} {x:Operand} {bb f:Nat} {v:Value} (j:o.op=.load t x) (i:s4 c t=some false) (u:a.eval x=.pointer (some (ad bb f))) (l:w.cell? (ad bb f)=some v) :
 (execOp a.eval o).run c.P w=.ok (.value v) w:=by
 simp[execOp,j,u,Instr.loadAt,Instr.sureAddr,loadVar,a1E c rfl i,l]
theorem b7Q (fx:Fx c) (h:S c g w pr bx σ a) {i s off:Nat} (hs:c.slots[i]?=some s) {t:TypeId} {x:Operand} {cs:List AV} {z:AV} {p:Dst} (ho:o.op=.load t x) (a0:s4 c t=some false)
 (Y:σ.fr.getD i .undef=.box cs) (hz:cs[off]?=some z) (hx:a.eval x=.pointer (some (ad (bx i) off))) (hd:q6 c o.dst p=true) {next:Act→World→Prop} {Q:Exit→Act→World→Prop}
 (F:Post c g w a (p.put z { σ with fr:=σ.fr.set i (.box (cs.set off z.weak1)) }) next):o.wp c.P a w next Q:=by
 have M:i < σ.fr.length:=by rw[h.fr.len]; exact(AB.1 hs).1
 have E:=h.fr.var i s hs;rw[Y]at E;obtain⟨N,I,a2,arr,T,hh,D,l,B⟩:=E;obtain⟨v,hv,U⟩:=D.get hz;have J:arr[off]?=some v:=by simpa using hv
 have h1:v.oneCell'=true:=l v (by rw[Array.mem_toList_iff]; exact Array.mem_of_getElem? J);have O:=a0I (c:=c) (o:=o) ho a0 hx (by rw[cell_of_row w _ off arr T _ hh]; exact J);have G:=B off z v hz J;have V:RelL g w (cs.set off z.weak1) arr.toList:=D.set hv U.weak1;have hS:S c g w (mvp pr (.cell i off) p.pl) bx { σ with fr:=σ.fr.set i (.box (cs.set off z.weak1)) } a:=by
  refine⟨h.fr.change (·≠.cell i off) (Ext.refl g w) (fun b q hq a3=>⟨Z8 hq a3,rfl,fun _ x=>x⟩) (fun b q hq=>?_) (fun j t' ht=>?_) (fun t' ht=>.inl ⟨by simp,rfl⟩) (by simp) (fun j ds Z=>?_) (fun j ds Z=>?_),h.st,h.gl,h.fresh,h.stA⟩
  · obtain⟨q',b0⟩:=a7o hq;exact h.fr.prv b q' b0
  · by_cases e:j=i
    · subst e;obtain rfl:t'=s:=Option.some.inj (ht.symm.trans hs);right;rw[m7 M];refine⟨N,Z8 I (by simp),a2,arr,T,hh,V,l,fun k y u W hu=>?_⟩;by_cases ek:k=off
      · subst ek;rw[List.getElem?_set_self (AB.1 hz).1]at W;simp only[AC]at W;subst W;exact a6q
      · rw[List.getElem?_set_ne (Ne.symm ek)]at W;exact(B k y u W hu).mono fun b' a1=>⟨Z8 a1 (by simp[ek]),rfl,fun _ x=>x⟩
    · left;exact⟨⟨by simp,by simp,by simp[e]⟩,l3 e⟩
  · by_cases e:j=i
    · subst e; exact⟨_,m7 M⟩
    · exact⟨ds,by rw[l3 e]; exact Z⟩
  · by_cases e:j=i
    · subst e; exact h.fr.bxs j _ Y
    · rw[l3 e]at Z; exact h.fr.bxs j ds Z
 unfold Oper.wp;rw[O];exact F _ _ g _ bx (s7 _ _ _) (V0 fx hS hd (mine:=fun b=>mvp pr (.cell i off) p.pl b=some p.pl) (b0q U h1 (G.mono fun b Y=>⟨b2e Y,rfl,fun _ x=>x⟩)) fun _ x=>x) (Tr.refl _ _ _)
noncomputable def Gh.give (g:Gh) (i off:Nat):Gh:={ g with sr:=fun b=>if g.sr b=some (i,some off)then none else g.sr b }
theorem b9k (fx:Fx c) (h:S c g w pr bx σ a) {E off:Nat} {t:TypeId} {x:Operand} {cs:List AV} {z:AV} {p:Dst} (ho:o.op=.load t x) (b0:s4 c t=some false)
 (F:σ.st[E]?=some (.cells cs)) (hz:cs[off]?=some z) (hx:a.eval x=.pointer (some (ad (g.m E) off))) (hd:q6 c o.dst p=true) {next:Act→World→Prop} {Q:Exit→Act→World→Prop}
 (M:Post c g w a (p.put z { σ with st:=σ.st.set E (.cells (cs.set off z.weak1)) }) next):o.wp c.P a w next Q:=by
 have b5:E < g.n:=by rw[h.st.n]; exact(AB.1 F).1
 obtain⟨O,b2,arr,T,hh,b3,J,G,I⟩:=h.st.obj E _ F;obtain⟨v,W,a0⟩:=J.get hz;have a3:arr[off]?=some v:=by
  rw[List.getElem?_take]at W;split at W
  · simpa using W
  · cases W
 have h1:v.oneCell'=true:=G v (List.mem_of_getElem? W);have Z:=a0I (c:=c) (o:=o) ho b0 hx (by rw[cell_of_row w _ off arr T _ hh]; exact a3);have N:=I off z v hz a3;let g2:=g.give E off
 let pr2:Nat→Option Pl:=fun b=>if g.sr b=some (E,some off)then some p.pl else pr b
 have V:Ext g w g2 w:=⟨AJ _,fun _ _=>rfl,fun _ _=>rfl,fun _ _ x=>x,fun _ _ _=>rfl⟩;have i:∀ b,H2 g w g2 w b:=fun b=>⟨rfl,fun _ x=>x⟩
 have a2:RelL g w (cs.set off z.weak1) (arr.toList.take (cs.set off z.weak1).length):=by rw[List.length_set]; exact J.set W a0.weak1
 have B:∀ b U k,g.sr b=some (U,k)→(U≠E∨k≠some off)→g2.sr b=some (U,k):=fun b U k F b4=>by
  show(if g.sr b=some (E,some off)then none else g.sr b)=_;rw[if_neg]
  · exact F
  · rw[F]; intro e;simp only[AC,AH]at e;rcases b4 with h1|h1
    · exact h1 e.1
    · exact h1 e.2
 have Y:∀ b q,pr b=some q→pr2 b=some q:=fun b q l=>by
  simp only[pr2];rw[if_neg]
  · exact l
  · rw[(h.fr.prv b q l).1]; simp
 have hS:S c g2 w pr2 bx { σ with st:=σ.st.set E (.cells (cs.set off z.weak1)) } a:=by
  refine⟨h.fr.change (fun _=>True) V (fun b q l _=>⟨Y b q l,i b⟩) (fun b q l=>?_) (fun j t' ht=>.inl ⟨⟨trivial,trivial,fun _=>trivial⟩,rfl⟩) (fun t' ht=>.inl ⟨trivial,rfl⟩) rfl (fun j ds hj=>⟨ds,hj⟩) h.fr.bxs,
   ⟨?_,fun U ob D=>?_,fun b q l=>?_,h.st.cli⟩,h.gl.ext V,h.fresh,fun b q l=>?_⟩
  · simp only[pr2]at l;show(if g.sr b=some (E,some off)then none else g.sr b)=none∧_;split at l
    · rename_i e;exact⟨by rw[if_pos e],h.st.inn b _ e,h.stA b _ e⟩
    · rename_i e;obtain⟨q1,q2,q3⟩:=h.fr.prv b q l;exact⟨by rw[if_neg e]; exact q1,q2,q3⟩
  · show g.n=_;rw[List.length_set]; exact h.st.n
  · by_cases e:U=E
    · subst e;rw[List.getElem?_set_self (by rw[← h.st.n]; exact b5)]at D;simp only[AC]at D;subst D;refine⟨B _ _ _ O (.inr (by simp)),b2,arr,T,hh,b3,a2.ext V _ _,by rw[List.length_set]; exact G,fun k y u hy hu=>?_⟩;by_cases ek:k=off
      · subst ek;rw[List.getElem?_set_self (AB.1 hz).1]at hy;simp only[AC]at hy;subst hy;exact a6q
      · rw[List.getElem?_set_ne (Ne.symm ek)]at hy;exact(I k y u hy hu).mono fun b' b1=>⟨B b' _ _ b1 (.inr (by simp[ek])),i b'⟩
    · rw[List.getElem?_set_ne (Ne.symm e)]at D;exact(h.st.obj U ob D).mono (by rw[h.st.n]; exact(AB.1 D).1) V fun b k F=>⟨B b _ _ F (.inl e),i b⟩
  · simp only[g2,Gh.give]at l;split at l
    · cases l
    · exact h.st.inn b q l
  · simp only[g2,Gh.give]at l;split at l
    · cases l
    · exact h.stA b q l
 have b6:Tr c.A g w g2 w:=⟨V,AJ _,Env.refl w,fun b _ a1 _=>⟨i b,by show(if g.sr b=some (E,some off)then none else g.sr b)=none;rw[if_neg (by rw[a1]; simp)]; exact a1⟩⟩;unfold Oper.wp;rw[Z];refine M _ _ g2 pr2 bx (s7 _ _ _) (V0 fx hS hd (mine:=fun b=>pr2 b=some p.pl) (b0q (a0.ext V) h1 (N.mono fun b F=>⟨?_,i b⟩)) fun _ x=>x) b6;simp only[pr2];rw[if_pos F]
end
end Go.Cb
namespace Go.Cb
open Classical
section
variable {c:Cx} {g:Gh} {w:World} {pr:Nat→Option Pl} {bx:Nat→Nat} {σ:Sig} {a:Act} {o:Oper} {call:d8} {b b' r:AV} {st st':St} {fr as:List AV}
theorem a7z {us vs:List Value} {bb f:Nat} (h:w.rangeAt bb f us) (l:w.rangeAt bb (f+us.length) vs):w.rangeAt bb f (us++vs):=by
 intro j v i;by_cases t:j < us.length
 · rw[List.getElem?_append_left t]at i; exact h j v i
 · rw[List.getElem?_append_right (by omega)]at i;have:=l _ v i;rw[show f+us.length+(j - us.length)=f+j by omega]at this;exact this
theorem RelRows.vals {bb i:Nat}:∀ {xs:List (List AV)} {f:Nat},RelRows g w bb f i xs →
 ∃ us,us.length=xs.length*i∧RelL g w xs.flatten us∧w.rangeAt bb f us∧(∀ u∈us,u.oneCell'=true)∧∀ j,j < us.length→g.cl bb (f+j)
 | [],f,_=>⟨[],by simp,by simp[RelL],fun j v h=>by simp at h,by simp,by simp⟩
 | x::xs,f,h=>by
  simp only[RelRows]at h;obtain⟨y,z,B⟩:=h;obtain⟨us,t,E,F,G⟩:=z.vals;obtain⟨vs,v0,I,v2,v3,v4⟩:=RelRows.vals B;have hl:us.length=i:=by rw[← t.length]; exact y
  refine⟨us++vs,by rw[AE,hl,v0,List.length_cons,Nat.succ_mul]; omega,by rw[List.flatten_cons]; exact t.append I,a7z E (by rw[hl]; exact v2),fun u hu=>?_,fun j D=>?_⟩
  · rcases AP.1 hu with hu|hu
    · exact F u hu
    · exact v3 u hu
  · rw[AE]at D;by_cases l:j < us.length
    · exact G j l
    · have:=v4 (j - us.length) (by omega);rw[show f+i+(j - us.length)=f+j by omega]at this;exact this
theorem RelCells.mk {bb:Nat}:∀ {cs:List AV} {us:List Value} {f:Nat},RelL g w cs us→w.rangeAt bb f us→(∀ u∈us,u.oneCell'=true)→(∀ j,j < us.length→g.cl bb (f+j))→RelCells g w bb f cs
 | [],_,_,_,_,_,_=>by simp[RelCells]
 | x::cs,us,f,h,hr,h1,hc=>by
  simp only[RelL]at h;obtain⟨v,us,rfl,i,l⟩:=h;simp only[RelCells];refine⟨⟨v,by simpa using hr 0 v rfl,h1 v (by simp),by simpa using hc 0 (by simp),i⟩,RelCells.mk l (fun j u hu=>?_) (fun u hu=>h1 u (by simp[hu])) (fun j t=>?_)⟩
  · have:=hr (j+1) u (by simpa using hu);rw[show f+(j+1)=f+1+j by omega]at this;exact this
  · have:=hc (j+1) (by simp; omega);rw[show f+(j+1)=f+1+j by omega]at this;exact this
theorem RelRows.mk {bb i:Nat}:∀ {xs:List (List AV)} {us:List Value} {f:Nat},(∀ x∈xs,x.length=i)→RelL g w xs.flatten us→w.rangeAt bb f us→(∀ u∈us,u.oneCell'=true)→(∀ j,j < us.length→g.cl bb (f+j))→RelRows g w bb f i xs
 | [],_,_,_,_,_,_,_=>by simp[RelRows]
 | x::xs,us,f,hx,h,hr,h1,hc=>by
  have t:=hx x (by simp);rw[List.flatten_cons]at h;have v:RelL g w x (us.take i):=by
   have:=h.take i
   rwa [List.take_append_of_le_length (by omega),List.take_of_length_le (by omega)]at this
  have z:RelL g w xs.flatten (us.drop i):=by
   have:=h.drop i
   rwa [List.drop_append_of_le_length (by omega),List.drop_of_length_le (by omega),List.nil_append]at this
  simp only[RelRows];refine⟨t,RelCells.mk v (fun j u hu=>?_) (fun u hu=>h1 u (List.mem_of_mem_take hu)) (fun j l=>hc j (by rw[AO]at l; omega)),RelRows.mk (fun y B=>hx y (by simp[B])) z (fun j u hu=>?_) (fun u hu=>h1 u (List.mem_of_mem_drop hu)) (fun j l=>?_)⟩
  · rw[List.getElem?_take]at hu;split at hu
    · exact hr j u hu
    · cases hu
  · rw[List.getElem?_drop]at hu;have:=hr _ u hu;rw[show f+(i+j)=f+i+j by omega]at this;exact this
  · rw[List.length_drop]at l;have:=hc (i+j) (by omega);rw[show f+(i+j)=f+i+j by omega]at this;exact this
def Gh.claim (g:Gh) (bb i hi:Nat):Gh:={ g with cl:=fun b' f=>g.cl b' f∨(b'=bb∧i≤f∧f < hi) }
theorem P4 {P:Program} (t ty e:TypeId) (i:TypeInfo) (T:TypeId) (I:P.underlying t=some (.slice e)) (hi:P.info? e=some i)
 (B l x:Nat) (v:Array Value) (hg:w.heap[B]?=some (.cells v T (0,0)))
 (a1:Addr) (m c1:Nat) (news:List Value) (hl:news.length=m*i.size) (y:∀ j u,news[j]?=some u→w.cell? (a1.add j)=some u) (F:∀ u∈news,u.oneCell'=true)
 (z:l+m≤x) (D:l*i.size+news.length≤v.size) :
 (Builtin.append_ #[t,t] ty #[.slice (some ⟨B,0,none⟩) l x,.slice (some a1) m c1]).run P w =
  .ok (.slice (some ⟨B,0,none⟩) (l+m) x) (w.setRow B (v.toList.take (l*i.size)++news++v.toList.drop (l*i.size+news.length)).toArray):=by
 have G:=run_firstCells_some (P:=P) w i.size m a1 m c1 news hl y;have E:=run_storeCells_at P B (l*i.size) T news 0 v w hg (by simpa using D) F;simp only[Nat.add_zero]at E;simp[Builtin.append_,run_underlying I,sizeOf,typeInfo,hi,Builtin.lenOf,z,G,Addr.add_lit,E]
theorem R6 {P:Program} (t ty e:TypeId) (i:TypeInfo) (u:P.underlying t=some (.slice e)) (hi:P.info? e=some i) (a0 a1:Option Addr) (n cap c1:Nat) (j:n≤cap) :
 (Builtin.append_ #[t,t] ty #[.slice a0 n cap,.slice a1 0 c1]).run P w=.ok (.slice a0 n cap) w:=by
 have l:(Builtin.firstCells i.size 0 (.slice a1 0 c1)).run P w=.ok #[] w:=by
  cases a1 with
  | none=>rfl
  | some x=>simp[Builtin.firstCells,loadCells,loadCellsFrom]
 cases a0<;>simp[Builtin.append_,run_underlying u,sizeOf,typeInfo,hi,Builtin.lenOf,j,l,storeCells]
theorem Q1 {t:TypeId} {x y:Operand} {at_:Array TypeId} (l:o.op=.call { callee:=.builtin .append,args:=#[x,y],argTypes:=at_ }) (i:at_=#[t,t]) {v u j:Value} {w':World}
 (z:a.eval x=v) (B:a.eval y=u) (h:(Builtin.append_ #[t,t] o.type #[v,u]).run c.P w=.ok j w'):(execOp a.eval o).run c.P w=.ok (.value j) w':=by
 subst i;unfold execOp;simp only[l,resolve,invoke,builtin,Sem.run_bind,Sem.run_pure,Result.andThen_ok,List.map_toArray,AG,AL,z,B,h]
theorem a2x (M:Fx c) (h:S c g w pr bx σ a) {od:Option Tmp} {d:Dst} (B:q6 c od d=true) (D:od.isSome=true) {g2:Gh} {E:World} {pr2:Nat→Option Pl} (J:Ext g w g2 E) (F:SRel g2 E st')
 (T:∀ b p,pr b=some p→p≠d.pl→pr2 b=some p∧H2 g w g2 E b) (y:∀ b p,pr2 b=some p→g2.sr b=none∧b < E.heap.size∧c.A b) (G:w.heap.size≤E.heap.size) (z:∀ b p,g2.sr b=some p→c.A b)
 {v:Value} (U:ArgOK g2 E bx σ.fr (fun b=>pr2 b=some d.pl) r v):S c g2 E pr2 bx { d.put r σ with st:=st' } (a.put od v):=by
 unfold q6 at B;split at B
 · simp at D
 · rename_i s W;simp only[AA,beq_iff_eq,decide_eq_true_eq]at B;obtain⟨⟨rfl,V⟩,hl⟩:=B;have N:=h.fr.put_t (N6 V) hl (a:=.undef) (v:=v) ValOK.undef;refine⟨?_,F,h.gl.ext J,fun b u=>h.fresh b (Nat.le_trans G u),z⟩;refine N.change (·≠.tmp s) J (fun b p u O=>T b p u O) y (fun j t I=>.inl ⟨⟨by simp,by simp,by simp⟩,rfl⟩) (fun t I=>?_) rfl (fun j cs l=>⟨cs,l⟩) h.fr.bxs;by_cases e:t=s
   · subst e;right;rw[E1 (by rw[h.fr.size]; exact hl)];simp only[Dst.put,q9,Nat.beq_refl,if_true];exact U.tmp (σ:=σ) fun _ x=>x
   · left;exact⟨by simpa using e,by simp[Dst.put,q9,e]⟩
 · rename_i s i;simp only[AA,beq_iff_eq]at B;obtain⟨hs,u⟩:=B;have u:=N6 u;have hi:i < σ.fr.length:=by rw[h.fr.len]; exact(AB.1 hs).1
   have N:=h.fr.put_v M.nd M.lt hs u (a:=.undef) (v:=v) ValOK.undef (by simp);refine⟨?_,F,h.gl.ext J,fun b u=>h.fresh b (Nat.le_trans G u),z⟩;refine N.change (·≠.var i) J (fun b p u O=>T b p u O) y (fun j t I=>?_) (fun t I=>.inl ⟨by simp,rfl⟩) (by simp[Dst.put]) (fun j cs l=>?_) (fun j cs l=>?_)
   · by_cases e:j=i
     · subst e;obtain rfl:t=s:=Option.some.inj (I.symm.trans hs);right;rw[E1 (by rw[h.fr.size]; exact M.lt t (List.mem_of_getElem? I))];simp only[Dst.put];rw[m7 hi];exact U.var (σ:=σ) fun _ x=>x
     · left;exact⟨⟨by simp[e],by simp,by simp⟩,by simp only[Dst.put]; rw[l3 e,l3 e]⟩
   · by_cases e:j=i
     · subst e; rw[m7 hi]at l; cases l
     · rw[l3 e]at l;exact⟨cs,by simp only[Dst.put]; rw[l3 e]; exact l⟩
   · by_cases e:j=i
     · subst e;simp only[Dst.put]at l;rw[m7 hi]at l;cases r<;>simp[AV.strip]at l
     · simp only[Dst.put]at l;rw[l3 e]at l;exact h.fr.bxs j cs l
 · cases B
theorem b0k {t:Nat} {xs:List (List AV)} {bb f j:Nat} (h:m4 t xs=true) (u:RelRows g w bb f j xs):∀ r∈xs,r.length=t:=by
 cases xs with
 | nil=>simp
 | cons x xs =>have l:=u.all;simp only[m4,beq_iff_eq]at h;have v:=l x (by simp);intro r i;rw[l r i]; omega
theorem a8j {own:Bool} {xs:List (List AV)} {v:Value} {y:Nat} (h:Rel g w (.list own xs) v) (E:m4 y xs=true) :
 ∃ a0 cap us,v=.slice a0 xs.length cap∧xs.length≤cap∧(a0=none→cap=0)∧us.length=xs.length*y∧RelL g w xs.flatten us∧(∀ u∈us,u.oneCell'=true)∧(∀ r∈xs,r.length=y) ∧
  (∀ a1,a0=some a1→∀ (j:Nat) u,us[j]?=some u→w.cell? (a1.add j)=some u)∧(xs≠[]→∃ bb f,a0=some (ad bb f)∧w.rangeAt bb f us∧∀ j,j < us.length→g.cl bb (f+j)):=by
 simp only[Rel]at h;obtain⟨a0,n,cap,rfl,rfl,t,B,F⟩:=h;cases xs with
 | nil=>exact⟨a0,cap,[],rfl,t,B,by simp,by simp[RelL],by simp,by simp,fun _ _ j u hu=>by simp at hu,fun h=>absurd rfl h⟩
 | cons x xs =>
  obtain⟨bb,f,z,rfl,i⟩:=F (by simp);have l:=b0k E i;obtain rfl:z=y:=by have N:=i.all x (by simp); have O:=l x (by simp); omega
  obtain⟨us,G,I,D,J,M⟩:=i.vals;refine⟨_,cap,us,rfl,t,B,G,I,J,l,fun a1 e j u hu=>?_,fun _=>⟨bb,f,rfl,D,M⟩⟩;simp only[AC]at e;subst e;rw[Addr.add_ad];exact D j u hu
theorem a5L (fx:Fx c) (h:S c g w pr bx σ a) {t e sz bytes:Nat} {i:TypeInfo} {z:Value} {x y:Operand} {p0:Opd} {d:Dst} {at_:Array TypeId}
 (ho:o.op=.call { callee:=.builtin .append,args:=#[x,y],argTypes:=at_ }) (c7:at_=#[t,t]) (hu:c.P.underlying t=some (.slice e)) (hi:c.P.info? e=some i) (hz:i.zero=some z) (h4:i.size=sz) (g1:i.bytes=bytes)
 (h9:z.cells.size=sz) (g0:0 < bytes) (g7:B3 c x p0=true) (hd:q6 c o.dst d=true) (b5:o.dst.isSome=true) {xs ys:List (List AV)}
 (e0:p0.read σ=.list true xs) (hY:∃ a1 D vs,a.eval y=.slice a1 ys.length D∧ys.length≤D∧(a1=none→D=0)∧vs.length=ys.length*sz∧RelL g w ys.flatten vs∧(∀ u∈vs,u.oneCell'=true)∧(∀ r∈ys,r.length=sz)∧(∀ a2,a1=some a2→∀ (j:Nat) u,vs[j]?=some u→w.cell? (a2.add j)=some u)∧(ys≠[]→∃ bb f,a1=some (ad bb f))) (h0:m4 sz xs=true) (E:(xs.length+ys.length)*bytes≤2 ^ 47)
 {next:Act→World→Prop} {Q:Exit→Act→World→Prop} (V:Post c g w a (d.put (.list true (xs++ys)) (p0.spend σ)) next):o.wp c.P a w next Q:=by
 subst h4; subst g1;have f7:(2:Nat) ^ 47=140737488355328:=by decide
 rw[f7]at E;obtain⟨b1,O,hA,_⟩:=L0 h g7 d.pl;rw[e0]at hA;have hA:ValOK g w (fun b=>b1 b=some d.pl) (.list true xs) (a.eval x):=hA;obtain⟨a0,cap,us,ev,g4,f2,ul,ur,u1,ux,uc,ub⟩:=a8j hA.rel h0;obtain⟨a1,D,vs,eu,_,g5,vl,vr,v1,vx,vc,vb⟩:=hY;have Y:∀ r∈xs++ys,r.length=i.size:=fun r hr=>by
  rcases AP.1 hr with hr|hr
  · exact ux r hr
  · exact vx r hr
 have c0:xs.length+ys.length≤140737488355328:=Nat.le_trans (Nat.le_mul_of_pos_right _ g0) E;unfold Oper.wp;by_cases c2:ys=[]
 · subst c2;have I:=Q1 (c:=c) (w:=w) ho c7 ev eu (R6 (P:=c.P) t o.type e i hu hi a0 a1 xs.length cap D g4);rw[I,List.append_nil]at *
   rw[← ev];exact V _ _ g b1 bx (s7 _ _ _) (V0 fx O hd hA fun _ x=>x) (Tr.refl _ _ _)
 · have hm:0 < ys.length:=List.length_pos_iff.2 c2;obtain⟨b8,f1,rfl⟩:=vb c2;have d6:=vc _ rfl;have a3:(p0.spend σ).st=σ.st:=by cases p0<;>rfl
   by_cases W:xs.length+ys.length≤cap
   · -- there is room
     rcases hA.own xs rfl with⟨a',n',h'⟩|⟨F,n',l,i0,arr,T,h',U,b7,h8,hh,c3,d1,e3⟩
     · rw[ev]at h';simp only[Value.slice.injEq]at h';omega
     · rw[ev]at h';simp only[Value.slice.injEq]at h';obtain⟨rfl,rfl,rfl⟩:=h';obtain rfl:i0=i.size:=by
        cases xs with
        | nil=>exact absurd rfl b7
        | cons x0 xs=>have h1:=h8 x0 (by simp); have h2:=ux x0 (by simp); omega
       have e6:xs.length*i.size+vs.length≤arr.size:=by rw[vl,c3,← Nat.add_mul]; exact Nat.mul_le_mul_right _ W
       have I:=Q1 (c:=c) (w:=w) ho c7 ev eu (P4 (P:=c.P) (w:=w) t o.type e i T hu hi F xs.length cap arr hh (ad b8 f1) ys.length D vs vl d6 v1 W e6);have hN:(xs.length+ys.length)*i.size=xs.length*i.size+vs.length:=by rw[Nat.add_mul,vl]
       generalize f9:xs.length*i.size=N at *
       have e2:arr.toList.length=arr.size:=by simp
       generalize J:arr.toList.take N++vs++arr.toList.drop (N+vs.length)=new at *
       have g6:new.length=arr.size:=by rw[← J]; simp only[AE,AO,List.length_drop,e2]; omega
       have h5:(arr.toList.take N).length=N:=by rw[AO,e2]; omega
       have d2:=O.fr.prv F _ U;let g2:=g.claim F N (N+vs.length)
       have d0:∀ b f,g.cl b f→(w.setRow F new.toArray).cell? (ad b f)=w.cell? (ad b f):=fun b f G=>by
        by_cases eb:b=F
        · subst eb;have d3:f < N:=Nat.lt_of_not_le fun b2=>e3 f b2 G
          rw[cell_of_row _ b f new.toArray T (0,0) (setRow_heap w b arr _ T _ hh),cell_of_row w b f arr T (0,0) hh,List.getElem?_toArray,← J,AU,
           List.getElem?_append_left (by omega),List.getElem?_take,if_pos d3,Array.getElem?_toList]
        · exact a0u _ eb
       have he:Ext g w g2 (w.setRow F new.toArray):=⟨AJ _,fun _ _=>rfl,fun _ _=>rfl,fun b f G=>.inl G,d0⟩;have B:∀ b,b≠F→H2 g w g2 (w.setRow F new.toArray) b:=fun b E=>⟨setRow_other w _ b _ E,fun f G=>by
        rcases G with G|⟨e,_⟩
        · exact G
        · exact absurd e E⟩
       have f3:∀ b q,g.sr b=some q→b≠F:=fun b q Z e=>by rw[e,d2.1]at Z; cases Z
       have M:(w.setRow F new.toArray).rangeAt F N vs:=fun j u hu'=>by
        have hj:j < vs.length:=(AB.1 hu').1;show(w.setRow F new.toArray).cell? (ad F (N+j))=some u;rw[cell_of_row _ F _ new.toArray T (0,0) (setRow_heap w F arr _ T _ hh),List.getElem?_toArray,← J,AU,
         List.getElem?_append_right (by omega),h5,List.getElem?_append_left (by omega)]
        rw[show N+j - N=j by omega];exact hu'
       obtain⟨bb,f,f6,h3,e4⟩:=ub b7;have d7:F=bb∧0=f:=by simpa[ad]using f6
       obtain⟨rfl,rfl⟩:=d7;have b4:Rel g2 (w.setRow F new.toArray) (.list true (xs++ys)) (.slice (some (ad F 0)) (xs.length+ys.length) cap):=by simp only[Rel];refine⟨_,_,_,rfl,by rw[AE],W,fun h=>(by cases h),fun _=>⟨F,0,i.size,rfl,?_⟩⟩;refine(RelRows.ext he _ _ _ _ (RelRows.mk ux ur h3 u1 e4)).append ?_;rw[f9,Nat.zero_add];exact RelRows.mk vx (vr.ext he _ _) M v1 (fun j hj=>.inr ⟨rfl,by omega,by omega⟩)
       have b3:Own g2 (w.setRow F new.toArray) (fun b=>b1 b=some d.pl) (xs++ys) (.slice (some (ad F 0)) (xs.length+ys.length) cap) :=
        .inr ⟨F,_,cap,i.size,new.toArray,T,rfl,U,by simp[b7],Y,setRow_heap w F arr _ T _ hh,by simp[g6,c3],d1,fun f G hc=>by
         rcases hc with hc|⟨_,_,hc⟩
         · exact e3 f (by omega) hc
         · omega⟩
       rw[I];have b6:SRel g2 (w.setRow F new.toArray) σ.st:=by
        rw[← a3];exact O.st.evolve he rfl (by simp) (fun b q Z=>⟨Z,B b (f3 b q Z)⟩) (fun _ _ x=>x) (fun b f G=>by
         rcases G with G|⟨e,_⟩
         · exact .inl G
         · right; rw[e]; simpa using d2.2.1)
       refine V _ _ g2 b1 bx (s7 _ _ _) ?_ ⟨he,by simp,Env.setRow _ _ _,fun b _ d5 e1=>⟨B b (fun e=>e1 (e ▸ d2.2.2)),d5⟩⟩;have:=a2x fx O hd b5 he b6 (pr2:=b1) (fun b p E hp=>⟨E,B b (fun e=>by rw[e,U]at E; exact hp (Option.some.inj E).symm)⟩)
        (fun b p E=>⟨(O.fr.prv b p E).1,by simpa using(O.fr.prv b p E).2.1,(O.fr.prv b p E).2.2⟩) (by simp) O.stA (r:=.list true (xs++ys)) (v:=.slice (some (ad F 0)) (xs.length+ys.length) cap)
        ⟨b4,fun zs ez=>(by cases ez; exact b3),fun _ ez=>(by cases ez)⟩
       have c6:∀ (q:Sig),q.st=σ.st→({ d.put (.list true (xs++ys)) q with st:=σ.st }:Sig)=d.put (.list true (xs++ys)) q:=fun q Z=>by cases d<;>simp[Dst.put,← Z]
       rw[c6 _ a3]at this;exact this
   · -- a new row
     obtain⟨C,l,I,hC,f8,c8,d1⟩:∃ (C:Array Value) (l:Nat),(Builtin.append_ #[t,t] o.type #[.slice a0 xs.length cap,.slice (some (ad b8 f1)) ys.length D]).run c.P w =
      .ok (.slice (some (ad w.heap.size 0)) (xs.length+ys.length) l) (w.drew.alloc (.cells C e))∧C.toList.take ((xs.length+ys.length)*i.size)=us++vs∧C.size=l*i.size∧xs.length+ys.length≤l∧l≤maxLen:=by
      have d4:xs.length+ys.length≤maxLen:=by unfold maxLen; omega
      have b2:=grownCap_ge w (xs.length+ys.length) cap e;have f0:(us++vs).length=(xs.length+ys.length)*i.size:=by rw[AE,ul,vl,Nat.add_mul]
      have f5:∀ k,(Builtin.zeroCells z.cells k).size=k*i.size:=fun k=>by rw[size_zeroCells,h9]
      cases a0 with
      | none =>
       have g3:=f2 rfl;have h7:xs=[]:=List.eq_nil_of_length_eq_zero (by omega);subst h7;subst g3;have h6:us=[]:=List.eq_nil_of_length_eq_zero (by simpa using ul);subst h6;simp only[List.length_nil,Nat.zero_add]at b2 E c0 d4 ⊢;refine⟨_,_,run_append_nil (P:=c.P) w t o.type e i z hu hi hz (ad b8 f1) ys.length D vs vl d6 hm (by omega) (by omega),?_,?_,b2,grownCap_le_maxLen w ys.length 0 e d4⟩
       · rw[Array.toList_append,List.toList_toArray,List.nil_append,← vl,List.take_left]
       · rw[Array.size_append,f5,List.size_toArray,vl,← Nat.add_mul];congr 1; omega
      | some b0 =>
       refine⟨_,_,run_append_grow (P:=c.P) w t o.type e i z hu hi hz b0 xs.length cap us ul (uc b0 rfl) (ad b8 f1) ys.length D vs vl d6 (by omega) (by omega) (growslice_fits (by omega) E),?_,?_,b2,grownCap_le_maxLen w _ cap e d4⟩
       · simp only[Array.toList_append,AU];rw[← AU,← f0];exact List.take_left
       · simp only[Array.size_append,List.size_toArray,f5,ul,vl,← Nat.add_mul];congr 1; omega
     have I:=Q1 (c:=c) (w:=w) ho c7 ev eu I;have hN:(xs.length+ys.length)*i.size=us.length+vs.length:=by rw[Nat.add_mul,ul,vl]
     generalize c1:w.drew.alloc (.cells C e)=w2 at *
     have e5:Env w w2:=by rw[← c1];exact(Env.drawn (w:=w) (w':=w.drew) rfl rfl rfl).trans (Env.alloc w.drew _ (by intro c t z e; cases e; rfl))
     have i1:w2.heap.size=w.heap.size+1:=by rw[← c1]; simp
     have J:w2.heap[w.heap.size]?=some (.cells C e (0,0)):=by rw[← c1]; exact heap_alloc_new w.drew _
     have c4:∀ b,b < w.heap.size→w2.heap[b]?=w.heap[b]?:=fun b E=>by rw[← c1]; exact heap_alloc_old w.drew _ E
     let g2:=g.claim w.heap.size 0 (us.length+vs.length)
     have he:Ext g w g2 w2:=⟨AJ _,fun _ _=>rfl,fun _ _=>rfl,fun b f G=>.inl G,fun b f G=>World.cell?_of_block (c4 b (O.st.cli b f G))⟩;have B:∀ b,b < w.heap.size→H2 g w g2 w2 b:=fun b E=>⟨c4 b E,fun f G=>by
      rcases G with G|⟨e',_⟩
      · exact G
      · omega⟩
     have f4:g.sr w.heap.size=none:=by
      cases Z:g.sr w.heap.size with
      | none=>rfl
      | some p=>exact absurd (O.st.inn _ p Z) (Nat.lt_irrefl _)
     let pr2:Nat→Option Pl:=fun b=>if b=w.heap.size then some d.pl else b1 b
     have M:w2.rangeAt w.heap.size 0 (us++vs):=fun j u hj=>by
      show w2.cell? (ad w.heap.size (0+j))=some u;rw[Nat.zero_add,cell_of_row w2 _ j C e (0,0) J,← Array.getElem?_toList];rw[← hC,List.getElem?_take]at hj;split at hj
      · exact hj
      · cases hj
     have b4:Rel g2 w2 (.list true (xs++ys)) (.slice (some (ad w.heap.size 0)) (xs.length+ys.length) l):=by
      simp only[Rel];refine⟨_,_,_,rfl,by rw[AE],c8,fun h=>(by cases h),fun _=>⟨w.heap.size,0,i.size,rfl,?_⟩⟩;refine RelRows.mk Y ?_ M (fun u hu'=>?_) (fun j hj=>.inr ⟨rfl,by omega,by rw[AE]at hj; omega⟩)
      · rw[List.flatten_append]; exact(ur.ext he _ _).append (vr.ext he _ _)
      · rcases AP.1 hu' with hu'|hu'
        · exact u1 u hu'
        · exact v1 u hu'
     have b3:Own g2 w2 (fun b=>pr2 b=some d.pl) (xs++ys) (.slice (some (ad w.heap.size 0)) (xs.length+ys.length) l) :=
      .inr ⟨w.heap.size,_,l,i.size,C,e,rfl,by simp[pr2],by simp[c2],Y,J,f8,d1,fun f G hc=>by
       rcases hc with hc|⟨_,_,hc⟩
       · exact absurd (O.st.cli _ f hc) (Nat.lt_irrefl _)
       · omega⟩
     rw[I];have b6:SRel g2 w2 σ.st:=by
      rw[← a3];exact O.st.evolve he rfl (by omega) (fun b q Z=>⟨Z,B b (O.st.inn b q Z)⟩) (fun _ _ x=>x) (fun b f G=>by
       rcases G with G|⟨e',_⟩
       · exact .inl G
       · right; omega)
     refine V _ _ g2 pr2 bx (s7 _ _ _) ?_ ⟨he,by omega,e5,fun b E d5 _=>⟨B b E,d5⟩⟩;have:=a2x fx O hd b5 he b6 (pr2:=pr2) (fun b p E hp=>by
      have d3:=(O.fr.prv b p E).2.1;exact⟨by simp only[pr2]; rw[if_neg (by omega)]; exact E,B b d3⟩)
      (fun b p E=>by
       simp only[pr2]at E;split at E
       · rename_i e'; subst e'; exact⟨f4,by omega,O.fresh _ (AJ _)⟩
       · obtain⟨q1,q2,q3⟩:=O.fr.prv b p E; exact⟨q1,by omega,q3⟩) (by omega) O.stA (r:=.list true (xs++ys)) (v:=.slice (some (ad w.heap.size 0)) (xs.length+ys.length) l)
      ⟨b4,fun zs ez=>(by cases ez; exact b3),fun _ ez=>(by cases ez)⟩
     have c6:∀ (q:Sig),q.st=σ.st→({ d.put (.list true (xs++ys)) q with st:=σ.st }:Sig)=d.put (.list true (xs++ys)) q:=fun q Z=>by cases d<;>simp[Dst.put,← Z]
     rw[c6 _ a3]at this;exact this
theorem b6A (Y:Fx c) (h:S c g w pr bx σ a) {t e D bytes:Nat} {i:TypeInfo} {z:Value} {x y:Operand} {p0 p1:Opd} {d:Dst} {at_:Array TypeId}
 (ho:o.op=.call { callee:=.builtin .append,args:=#[x,y],argTypes:=at_ }) (E:at_=#[t,t]) (hu:c.P.underlying t=some (.slice e)) (hi:c.P.info? e=some i) (hz:i.zero=some z) (O:i.size=D) (G:i.bytes=bytes)
 (T:z.cells.size=D) (F:0 < bytes) (I:B3 c x p0=true) (J:M0 c y p1=true) (hd:q6 c o.dst d=true) (u:o.dst.isSome=true) {own:Bool} {xs ys:List (List AV)}
 (U:p0.read σ=.list true xs) (V:p1.read σ=.list own ys) (M:m4 D xs=true) (N:m4 D ys=true) (Z:(xs.length+ys.length)*bytes≤2 ^ 47)
 {next:Act→World→Prop} {Q:Exit→Act→World→Prop} (j:Post c g w a (d.put (.list true (xs++ys)) (p0.spend σ)) next):o.wp c.P a w next Q:=by
 have B:=N4 h J;rw[V]at B;have B:ValOK g w No (.list own ys) (a.eval y):=B;obtain⟨a1,v,vs,W,v0,l,vl,vr,v1,vx,vc,vb⟩:=a8j B.rel N;exact a5L Y h ho E hu hi hz O G T F I hd u U ⟨a1,v,vs,W,v0,l,vl,vr,v1,vx,vc,fun hn=>let ⟨bb,f,e,_⟩:=vb hn; ⟨bb,f,e⟩⟩ M Z j
theorem b0w:∀ cs:List AV,(cs.map fun c=>[c]).flatten=cs
 | []=>rfl
 | c::cs=>by rw[AG,List.flatten_cons,b0w cs]; rfl
theorem b6s (T:Fx c) (h:S c g w pr bx σ a) {t e bytes:Nat} {i:TypeInfo} {z:Value} {x y:Operand} {p0 p1:Opd} {d:Dst} {at_:Array TypeId}
 (W:o.op=.call { callee:=.builtin .append,args:=#[x,y],argTypes:=at_ }) (v:at_=#[t,t]) (hu:c.P.underlying t=some (.slice e)) (hi:c.P.info? e=some i) (Z:i.zero=some z) (I:i.size=1) (D:i.bytes=bytes)
 (J:z.cells.size=1) (B:0 < bytes) (E:B3 c x p0=true) (F:M0 c y p1=true) (V:q6 c o.dst d=true) (l:o.dst.isSome=true) {xs:List (List AV)}
 (M:p0.read σ=.list true xs) (N:p1.read σ=.nils) (G:m4 1 xs=true) (U:xs.length*bytes≤2 ^ 47)
 {next:Act→World→Prop} {Q:Exit→Act→World→Prop} (j:Post c g w a (d.put (.list true xs) (p0.spend σ)) next):o.wp c.P a w next Q:=by
 have u:=N4 h F;rw[N]at u;have u:ValOK g w No .nils (a.eval y):=u;have O:a.eval y=.slice none 0 0:=by have Y:=u.rel;simpa[Rel]using Y
 exact a5L (ys:=[]) T h W v hu hi Z I D J B E V l M ⟨none,0,[],O,AJ _,fun _=>rfl,by simp,by simp[RelL],by simp,by simp,by simp,by simp⟩ G (by simpa using U) (by rw[List.append_nil]; exact j)
theorem c9B (fx:Fx c) (h:S c g w pr bx σ a) {t e bytes:Nat} {i:TypeInfo} {z:Value} {x y:Operand} {p0 p1:Opd} {d:Dst} {at_:Array TypeId}
 (ho:o.op=.call { callee:=.builtin .append,args:=#[x,y],argTypes:=at_ }) (M:at_=#[t,t]) (hu:c.P.underlying t=some (.slice e)) (hi:c.P.info? e=some i) (hz:i.zero=some z) (a1:i.size=1) (O:i.bytes=bytes)
 (a3:z.cells.size=1) (N:0 < bytes) (Y:B3 c x p0=true) (Z:M0 c y p1=true) (hd:q6 c o.dst d=true) (v:o.dst.isSome=true) {xs:List (List AV)} {B:Nat} {cs:List AV}
 (e0:p0.read σ=.list true xs) (e1:p1.read σ=.sl B 0 cs.length 1) (U:σ.st[B]?=some (.cells cs)) (a0:m4 1 xs=true) (hb:(xs.length+cs.length)*bytes≤2 ^ 47)
 {next:Act→World→Prop} {Q:Exit→Act→World→Prop} (l:Post c g w a (d.put (.list true (xs++cs.map fun c=>[c])) (p0.spend σ)) next):o.wp c.P a w next Q:=by
 have G:=N4 h Z;rw[e1]at G;have G:ValOK g w No (.sl B 0 cs.length 1) (a.eval y):=G;have J:=G.rel;simp only[Rel]at J;obtain⟨b2,cap,eu,W,b0⟩:=J;obtain⟨_,_,arr,T,hh,b1,F,E,_⟩:=h.st.obj B _ U;have D:(arr.toList.take cs.length).length=cs.length:=F.length.symm;have V:(cs.map fun c=>[c]).flatten=cs:=b0w cs;refine a5L (ys:=cs.map fun c=>[c]) fx h ho M hu hi hz a1 O a3 N Y hd v e0 ⟨some (ad (g.m B) 0),cap,arr.toList.take cs.length,by simpa using eu,by simpa using W,(by simp),by rw[D,AF,Nat.mul_one],by rw[V]; exact F,E,?_,?_,fun _=>⟨_,_,rfl⟩⟩ a0 (by simpa using hb) l
 · intro r J;obtain⟨c,_,rfl⟩:=List.mem_map.1 J;rfl
 · intro a2 ea j u I;cases ea;rw[Addr.add_ad,Nat.zero_add];rw[cell_of_row w (g.m B) j arr T (0,0) hh,← Array.getElem?_toList];rw[List.getElem?_take]at I;split at I
   · exact I
   · cases I
end
end Go.Cb
namespace Go.Cb
open Classical
theorem R2 {i:Nat}:∀ {rs:List (List AV)},(∀ r∈rs,r.length=i)→rs.flatten.length=rs.length*i
 | [],_=>by simp
 | r::rs,h=>by rw[List.flatten_cons,AE,R2 (fun x j=>h x (by simp[j])),h r (by simp),List.length_cons,Nat.succ_mul]; omega
theorem a1W {j:Nat} {c:List AV} (u:c.length=j):∀ {rs:List (List AV)} {i:Nat},(∀ r∈rs,r.length=j)→i < rs.length→(rs.set i c).flatten=n8 rs.flatten (i*j) c
 | [],_,_,h=>by simp at h
 | r::rs,0,hr,_=>by have t:=hr r (by simp);simp only[List.set_cons_zero,List.flatten_cons,n8,Nat.zero_mul,List.take_zero,List.nil_append,Nat.zero_add];rw[List.drop_append_of_le_length (by omega),List.drop_of_length_le (by omega),List.nil_append]
 | r::rs,i+1,hr,h=>by
  have t:=hr r (by simp);have y:=a1W u (rs:=rs) (i:=i) (fun x v=>hr x (by simp[v])) (by simpa using h);simp only[List.set_cons_succ,List.flatten_cons,y,n8];have l:(i+1)*j=r.length+i*j:=by rw[Nat.succ_mul]; omega
  have t1:r.take (r.length+i*j)=r:=List.take_of_length_le (by omega);have t2:r.drop (r.length+i*j+c.length)=[]:=List.drop_of_length_le (by omega);rw[l,List.take_append,t1,show r.length+i*j - r.length=i*j by omega,List.drop_append,t2,show r.length+i*j+c.length - r.length=i*j+c.length by omega];simp[AU]
theorem a0W (z:Array Value):∀ len:Nat,((Array.range (len*z.size)).map (z[· % z.size]!)).toList=(List.replicate len z.toList).flatten
 | 0=>by simp
 | len+1=>by
  have l:=a0W z len;rw[Array.toList_map,Array.toList_range]at l ⊢;rw[Nat.succ_mul,List.range_add,AR,l,List.replicate_succ',List.flatten_append];congr 1;rw[List.map_map];simp only[List.flatten_cons,List.flatten_nil,List.append_nil];apply List.ext_getElem
  · simp
  · intro i j t;simp only[AF,List.length_range]at j;simp only[List.getElem_map,List.getElem_range,Function.comp];have e:(len*z.size+i) % z.size=i:=by rw[Nat.add_comm,Nat.add_mul_mod_self_right,Nat.mod_eq_of_lt j]
    rw[e,Array.getElem_toList];exact getElem!_pos z i j
section
variable {c:Cx} {g:Gh} {w:World} {pr:Nat→Option Pl} {bx:Nat→Nat} {σ:Sig} {a:Act} {o:Oper} {call:d8} {b b' r:AV} {st st':St} {fr as:List AV}
theorem a3W {y:Nat}:∀ {is:List Nat} {I:List AV} {rs t:List (List AV)} {arr:Array Value} {vs:List Value},
 s8 y is I rs=some t→ArgsOK g w bx fr I vs→(∀ x∈rs,x.length=y)→RelL g w rs.flatten arr.toList→(∀ u∈arr.toList,u.oneCell'=true) →
 ∃ j,Instr.fill (fun i=>some (i*y,y)) arr (is.zip vs)=some j∧(∀ x∈t,x.length=y)∧RelL g w t.flatten j.toList∧(∀ u∈j.toList,u.oneCell'=true)∧t.length=rs.length
 | [],[],rs,t,arr,vs,h,ha,hr,hl,h1=>by simp only[s8,AC]at h;subst h;exact⟨arr,by simp[Instr.fill],hr,hl,h1,rfl⟩
 | i::is,p::I,rs,t,arr,vs,h,ha,hr,hl,h1=>by
  simp only[s8]at h;split at h
  · rename_i Y;obtain⟨z,D,hi⟩:=Y;cases ha with
    | cons V W =>
     rename_i v vs;have l:=(a9x V z).weak;have B:(p.cells.map AV.weak1).length=y:=by simpa using D
     have G:v.cells.toList.length=v.cells.size:=by simp
     have a1:v.cells.size=y:=by have:=l.rel.length; omega
     have F:=R2 hr;have E:rs.flatten.length=arr.size:=hl.length.trans (by simp);have a0:i*y+y≤arr.size:=by rw[← E,F,← Nat.succ_mul]; exact Nat.mul_le_mul_right _ hi
     have Z:=a5j v (i*y) arr (by omega);obtain⟨J,M⟩:=a4r (off:=i*y) hl h1 l.rel l.one;rw[G,← Z]at J M;rw[← a1W B hr hi]at J;obtain⟨j,N,O,S,T,U⟩:=a3W h W (fun x hx=>by
      rcases List.mem_or_eq_of_mem_set hx with hx|hx
      · exact hr x hx
      · rw[hx]; exact B) J M
     refine⟨j,?_,O,S,T,by rw[U,List.length_set]⟩;simp only[List.zip_cons_cons,Instr.fill];rw[if_neg (by simp; omega)];exact N
  · cases h
 | [],_::_,_,_,_,_,h,_,_,_,_=>by simp[s8]at h
 | _::_,[],_,_,_,_,h,_,_,_,_=>by simp[s8]at h
theorem b5x (fx:Fx c) (h:S c g w pr bx σ a) {t e len sz:Nat} {parts:Array (Nat×Operand)} {F:TypeInfo} {z:Value} {zero rs:List (List AV)} {z1:List AV} {is:List Nat} {d:Dst}
 (ho:o.op=.buildSlice t len parts) (hu:c.P.underlying t=some (.slice e)) (a2:c.P.info? e=some F) (hz:F.zero=some z) (b1:F.size=sz) (N:z.cells.size=sz) (a0:len*sz≤2 ^ 24) (T:len*sz≠0)
 (b2:C6 z.cells.toList z1=true) (y:zero=List.replicate len z1) (a3:parts.toList.map (·.1)=is) (hr:ArgsOK g w bx σ.fr as (parts.toList.map fun p=>a.eval p.2)) (hs:s8 sz is as zero=some rs)
 (hd:q6 c o.dst d=true) (M:o.dst.isSome=true) {next:Act→World→Prop} {Q:Exit→Act→World→Prop} (J:Post c g w a (d.put (.list true rs) σ) next):o.wp c.P a w next Q:=by
 subst b1; subst a3;obtain⟨q1,q2,_⟩:=F9 b2 g w;have Z:z1.length=F.size:=by rw[q1.length,Array.length_toList]; exact N
 have E:∀ x∈zero,x.length=F.size:=fun x hx=>by rw[y]at hx; rw[List.eq_of_mem_replicate hx]; exact Z
 have I:∀ n,RelL g w (List.replicate n z1).flatten (List.replicate n z.cells.toList).flatten∧∀ u∈(List.replicate n z.cells.toList).flatten,u.oneCell'=true:=by
  intro n;induction n with
  | zero=>simp[RelL]
  | succ n ih =>rw[List.replicate_succ,List.replicate_succ,List.flatten_cons,List.flatten_cons];exact⟨q1.append ih.1,fun u hu=>(AP.1 hu).elim (q2 u) (ih.2 u)⟩
 have Y:=a0W z.cells len;obtain⟨arr,e1,e2,e3,e4,e5⟩:=a3W (arr:=(Array.range (len*z.cells.size)).map (z.cells[· % z.cells.size]!)) hs hr E (by rw[Y,y]; exact(I len).1) (by rw[Y]; exact(I len).2);rw[N]at e1;rw[← a1J]at e1;have V:=run_buildSlice (P:=c.P) w t e len (parts.map fun(i,x)=>(i,a.eval x)) arr F z hu a2 hz (by omega) T (by rw[N,show(parts.map fun(i,x)=>(i,a.eval x)).toList=parts.toList.map fun p=>(p.1,a.eval p.2)by simp]; exact e1);have G:rs.length=len:=by rw[e5,y,List.length_replicate]
 have b3:arr.toList.length=len*F.size:=by rw[← e3.length,R2 e2,G]
 let g2:=g.claim w.heap.size 0 (len*F.size)
 have O:=heap_alloc_new w (_root_.Go.Obj.cells arr e);have he:Ext g w g2 (w.alloc (.cells arr e)):=⟨AJ _,fun _ _=>rfl,fun _ _=>rfl,fun b f B=>.inl B,fun b f B=>World.cell?_alloc_lt _ _ _ (h.st.cli b f B)⟩;have l:∀ b,b < w.heap.size→H2 g w g2 (w.alloc (.cells arr e)) b:=fun b D=>⟨heap_alloc_old w _ D,fun f B=>by
  rcases B with B|⟨e',_⟩
  · exact B
  · omega⟩
 have U:Rel g2 (w.alloc (.cells arr e)) (.list true rs) (.slice (some (ad w.heap.size 0)) len len):=by simp only[Rel];refine⟨_,_,_,rfl,G.symm,AJ _,fun h=>(by cases h),fun _=>⟨w.heap.size,0,F.size,rfl,?_⟩⟩;refine RelRows.mk e2 (e3.ext he _ _) (fun j u hj=>?_) e4 (fun j hj=>.inr ⟨rfl,by omega,by omega⟩);show(w.alloc (.cells arr e)).cell? (ad w.heap.size (0+j))=some u;rw[Nat.zero_add,cell_of_row _ _ j arr e (0,0) O,← Array.getElem?_toList];exact hj
 unfold Oper.wp;rw[show(execOp a.eval o).run c.P w=.ok (.value (.slice (some ⟨w.heap.size,0,none⟩) len len)) (w.alloc (.cells arr e))by simp only[execOp,ho,Sem.run_bind,V,Result.andThen_ok,Sem.run_pure]];have W:SRel g2 (w.alloc (.cells arr e)) σ.st:=h.st.evolve he rfl (by simp) (fun b q hq=>⟨hq,l b (h.st.inn b q hq)⟩) (fun _ _ x=>x) (fun b f B=>by
  rcases B with B|⟨e',_⟩
  · exact .inl B
  · right; simp; omega)
 refine J _ _ g2 pr bx (s7 _ _ _) ?_ ⟨he,by simp,Env.alloc w _ (by intro c t z e; cases e; rfl),fun b D b0 _=>⟨l b D,b0⟩⟩;have:=a2x fx h hd M he W (pr2:=pr) (fun b p D _=>⟨D,l b (h.fr.prv b p D).2.1⟩)
  (fun b p D=>⟨(h.fr.prv b p D).1,by have:=(h.fr.prv b p D).2.1; simp; omega,(h.fr.prv b p D).2.2⟩) (by simp) h.stA (r:=.list true rs) (v:=.slice (some ⟨w.heap.size,0,none⟩) len len)
  ⟨U,fun zs _=>.inl ⟨_,_,rfl⟩,fun _ ez=>(by cases ez)⟩
 have a1:({ d.put (.list true rs) σ with st:=σ.st }:Sig)=d.put (.list true rs) σ:=by cases d<;>simp[Dst.put]
 rw[a1]at this;exact this
theorem RelM.length {es:List (AV×AV)} {l:List MapEntry} (h:RelM g w es l):es.length=l.length:=by
 induction h with
 | nil=>rfl
 | cons _ _ _ _ i=>simp[i]
theorem RelM.push {es:List (AV×AV)} {l:List MapEntry} (h:RelM g w es l) {k v:AV} {e:MapEntry} (hk:Rel g w k e.key) (j:Rel g w v e.val) (i:v.weak=v):RelM g w (es++[(k,v)]) (l++[e]):=by
 induction h with
 | nil=>exact .cons hk j i .nil
 | cons a1 a2 a3 _ t=>exact .cons a1 a2 a3 t
theorem RelM.set {es:List (AV×AV)} {l:List MapEntry} (h:RelM g w es l):∀ {i:Nat} {k v:AV} {e:MapEntry},Rel g w k e.key→Rel g w v e.val→v.weak=v→RelM g w (es.set i (k,v)) (l.set i e):=by
 induction h with
 | nil=>intro i k v e _ _ _; exact .nil
 | cons a1 a2 a3 a4 u =>
  intro i k v e hk t j;cases i with
  | zero=>exact .cons hk t j a4
  | succ i=>exact .cons a1 a2 a3 (u hk t j)
theorem E3 (x:AV):x.weak.weak=x.weak:=by cases x<;>simp only[AV.weak];rw[List.map_map];congr 1;apply List.map_congr_left;intro y _;cases y<;>rfl
theorem a8U {d:TypeDesc} {u v:Value} (h:Instr.sameNow d u v=some true) (n:Nat):Instr.sameBits n v u=true:=by
 unfold Instr.sameNow at h;split at h
 · split at h
   · rename_i e;simp only[AC,beq_iff_eq]at h;subst e; subst h;simp[Instr.sameBits]
   · cases h
 · simp only[AC]at h;rw[MapKept.bytes_beq]at h;subst h;simp only[Instr.sameBits];rw[MapKept.bytes_beq]
 · simp only[AC,beq_iff_eq]at h;subst h;simp[Instr.sameBits]
 · cases h
theorem b1F (h:S c g w pr bx σ a) {t kt et G N:Nat} {m k x:Operand} {E xv:AV} {es V:List (AV×AV)} (ho:o.op=.mapUpdate t m k x∨o.op=.insert t m k x) (hu:c.P.underlying t=some (.map kt et)) (hk:G8 c.P N kt=true)
 (M:σ.st[G]?=some (.map es)) (hm:a.eval m=.map (some (g.m G))) (d1:ArgOK g w bx σ.fr No E (a.eval k)) (d3:ArgOK g w bx σ.fr No xv (a.eval x)) (hp:xv.plain=true) (hd:o.dst=none)
 (hs:(match D6 N E es 0 with
  | some (some (i,_))=>some (es.set i (E,xv.weak))
  | some none=>(K9 N E E).bind fun _=>some (es++[(E,xv.weak)])
  | none=>none)=some V) {next:Act→World→Prop} {Q:Exit→Act→World→Prop} (a2:Post c g w a { σ with st:=σ.st.set G (.map V) } next):o.wp c.P a w next Q:=by
 have d2:G < g.n:=by rw[h.st.n]; exact(AB.1 M).1
 obtain⟨d,W⟩:∃ d,c.P.underlying kt=some d:=by
  unfold G8 at hk;cases hd:c.P.underlying kt with
  | none=>simp[hd]at hk
  | some d=>exact⟨d,rfl⟩
 obtain⟨B,b8,D,clock,hh,Z⟩:=h.st.obj G _ M;have b5:=MapKept.run_getObj_map (P:=c.P) hh;have b2:=a1x (P:=c.P) (w:=w) hk false (a.eval k);have c4:=(d3.plain hp).rel.weak;have b6:(∃ z,K9 N E E=some z)∨es≠[]→∃ y z,K9 N E y=some z:=by
  rintro(⟨z,hz⟩|hne)
  · exact⟨E,z,hz⟩
  · cases es with
    | nil=>exact absurd rfl hne
    | cons e es =>
     obtain⟨k0,v0⟩:=e;cases J:K9 N E k0 with
     | none=>simp[D6,J]at hs
     | some z=>exact⟨k0,z,J⟩
 have a1:Rel g w E (a.eval k):=by
  have:∃ y z,K9 N E y=some z:=by
   apply b6;cases es with
   | nil =>
    left;simp only[D6]at hs;cases J:K9 N E E with
    | none=>simp[J]at hs
    | some z=>exact⟨z,rfl⟩
   | cons=>right; simp
  obtain⟨y,z,hz⟩:=this;exact d1.rel (fun i f e=>by subst e; simp[K9]at hz) (fun cs e=>by subst e; simp[K9]at hz)
 -- the new row of entries
 obtain⟨u,l,c3,c2⟩:∃ (u:Array MapEntry) (l:Nat),(execOp a.eval o).run c.P w=.ok .skip { w with heap:=w.heap.setIfInBounds (g.m G) (.map u l) }∧RelM g w V u.toList:=by
  have c6:∀ W',(Instr.mapUpdate t (.map (some (g.m G))) (a.eval k) (a.eval x)).run c.P w=.ok () W'→(execOp a.eval o).run c.P w=.ok .skip W':=fun W' hW=>by rcases ho with ho|ho<;>simp only[execOp,ho,hm,Sem.run_bind,hW,Result.andThen_ok,Sem.run_pure]
  have U:=fun(ob:_root_.Go.Obj)=>MapKept.run_setObj_map (P:=c.P) ob hh
  cases O:D6 N E es 0 with
  | none=>simp[O]at hs
  | some r0 =>
   have b7:=a4l W hk a1 Z O;cases r0 with
   | none =>
    simp only[O]at hs;obtain⟨z,_,hs⟩:=Option.bind_eq_some_iff.1 hs;simp only[AC]at hs;subst hs;have a0:=MapKept.run_findKey (P:=c.P) (w:=w) W b7;refine⟨D.push { key:=a.eval k,val:=a.eval x,born:=clock },clock+1,c6 _ ?_,?_⟩
    · simp[Instr.mapUpdate,run_underlying hu,b5,b2,a0,U]
    · rw[Array.toList_push];exact Z.push a1 c4 (E3 _)
   | some p =>
    obtain⟨i,v⟩:=p;simp only[O,AC]at hs;subst hs;obtain⟨e,Y,_,c7,_,_,c8⟩:=b7;simp only[Nat.sub_zero]at Y;have a0:=MapKept.run_findKey (P:=c.P) (w:=w) W c7;have b3:D[i]?=some e:=by simpa using Y
    have d0:(Instr.keyThatStays e.key (a.eval k)).run c.P w=.ok (a.eval k) w:=by simp[Instr.keyThatStays,a8U c8]
    refine⟨D.modify i fun e=>{ e with key:=a.eval k,val:=a.eval x },clock,c6 _ ?_,?_⟩
    · simp[Instr.mapUpdate,run_underlying hu,b5,b2,a0,U,b3,d0]
    · have hl:(D.modify i fun e=>{ e with key:=a.eval k,val:=a.eval x }).toList=D.toList.set i { e with key:=a.eval k,val:=a.eval x }:=by
       apply List.ext_getElem?;intro j;rw[Array.getElem?_toList,Array.getElem?_modify,List.getElem?_set];by_cases ej:i=j
       · subst ej;rw[if_pos rfl,if_pos rfl,b3];rw[if_pos (by simpa using(AB.1 Y).1)];rfl
       · rw[if_neg ej,if_neg ej,Array.getElem?_toList]
      rw[hl];exact Z.set a1 c4 (E3 _)
 have b4:Env w { w with heap:=w.heap.setIfInBounds (g.m G) (.map u l) }:=⟨rfl,rfl⟩;generalize b1:({ w with heap:=w.heap.setIfInBounds (g.m G) (.map u l) }:World)=w2 at *
 have c0:w2.heap[g.m G]?=some (.map u l):=by rw[← b1]; exact(MapKept.heap_set hh).1
 have T:∀ b,b≠g.m G→w2.heap[b]?=w.heap[b]?:=fun b M=>by rw[← b1]; exact(MapKept.heap_set hh).2 b M
 have b0:w2.heap.size=w.heap.size:=by rw[← b1]; simp
 have he:Ext g w g w2:=⟨AJ _,fun _ _=>rfl,fun _ _=>rfl,fun _ _ x=>x,fun b f O=>World.cell?_of_block (T b fun e=>b8 f (e ▸ O))⟩;have F:∀ b,b≠g.m G→H2 g w g w2 b:=fun b M=>⟨T b M,fun _ x=>x⟩
 have c1:∀ b q,pr b=some q→b≠g.m G:=fun b q J e=>by have:=(h.fr.prv _ _ J).1;rw[e,B]at this; cases this
 unfold Oper.wp;rw[c3];simp only[Oper.upon,hd,Act.put];refine a2 a _ g pr bx rfl ⟨?_,⟨?_,fun o' ob I=>?_,fun b q J=>by rw[b0]; exact h.st.inn b q J,fun b f O=>by rw[b0]; exact h.st.cli b f O⟩,h.gl.ext he,fun b M=>h.fresh b (by omega),h.stA⟩
  ⟨he,by omega,b4,fun b _ a3 _=>⟨F b (fun e=>by rw[e,B]at a3; cases a3),a3⟩⟩
 · exact h.fr.change (fun _=>True) he (fun b q J _=>⟨J,F b (c1 b q J)⟩) (fun b q J=>by rw[b0]; exact h.fr.prv b q J) (fun j t' ht=>.inl ⟨⟨trivial,trivial,fun _=>trivial⟩,rfl⟩) (fun t' ht=>.inl ⟨trivial,rfl⟩) rfl (fun j ds hj=>⟨ds,hj⟩) h.fr.bxs
 · rw[List.length_set]; exact h.st.n
 · by_cases e:o'=G
   · subst e;rw[List.getElem?_set_self (by rw[← h.st.n]; exact d2)]at I;simp only[AC]at I;subst I;exact⟨B,b8,u,l,c0,c2.ext he⟩
   · rw[List.getElem?_set_ne (Ne.symm e)]at I;refine(h.st.obj o' ob I).mono (by rw[h.st.n]; exact(AB.1 I).1) he fun b k M=>⟨M,F b fun e2=>?_⟩
     rw[e2,B]at M;simp only[AC,AH]at M;exact e M.1.symm
end
end Go.Cb
