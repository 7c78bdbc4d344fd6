import Derived.Test.YtgaibigpannjfaaGreatDoorXAm1
import Derived.WalkKit
import Derived.Deep.MidRow
import Derived.Laws.StructEq
import Derived.MapKept
import Derived.Laws.BytesArg
import Derived.Great.BuildSlice
set_option maxRecDepth 4000
set_option linter.all false
namespace Go.Cb
structure Gh where
 n:Nat
 m:Nat→Nat
 cl:Nat→Nat→Prop
 sr:Nat→Option (Nat×Option Nat)
 cp:Nat→Nat
abbrev ad (b f:Nat):Addr:=⟨b,f,none⟩
mutual
def Rel (g:Gh) (w:World):AV→Value→Prop
 | .undef,_=>True
 | .bool b,v=>v=.bool b
 | .int k n,v=>v=.int k n
 | .str s,v=>∃ b:ByteArray,v=.string b∧b.data.toList.map UInt8.toNat=s
 | .list _ xs,v=>∃ a n cap,v=.slice a n cap∧n=xs.length∧n≤cap∧(a=none→cap=0)∧(xs≠[]→∃ b f j,a=some (ad b f)∧RelRows g w b f j xs)
 | .ptr o f,v=>o < g.n∧v=.pointer (some (ad (g.m o) f))
 | .nilp,v=>v=.pointer none
 | .ro cs,v=>∃ b f,v=.pointer (some (ad b f))∧RelCells g w b f cs
 | .loc _ _,_=>False
 | .box _,_=>False
 | .map o,v=>o < g.n∧v=.map (some (g.m o))
 | .nilm,v=>v=.map none
 | .func f first i,v=>∃ a b:Array Value,v=.func (.func f) a b∧RelL g w first a.toList∧RelL g w i b.toList
 | .nilf,v=>v=.nilFunc
 | .agg cs,v=>∃ a:Array Value,v=.agg a∧RelL g w cs a.toList∧∀ c∈a.toList,c.oneCell'=true
 | .tuple vs,v=>∃ a:Array Value,v=.tuple a∧RelL g w vs a.toList
 | .iface t x,v=>∃ y,v=.iface t y∧Rel g w x y
 | .nili,v=>v=.nilIface
 | .nils,v=>v=.slice none 0 0
 | .sl o f n j,v=>o < g.n∧∃ cap,v=.slice (some (ad (g.m o) f)) n cap∧n≤cap∧f+cap*j=g.cp o
 | .fresh xs,v=>∃ b n cap j,v=.slice (some (ad b 0)) n cap∧n=xs.length∧n≤cap∧RelRows g w b 0 j xs∧∀ (k:Nat) (ys:List (List AV)),xs.flatten[k]?=some (.list true ys)→g.cl b k∧∃ a n,w.cell? (ad b k)=some (.slice a n n)
def RelL (g:Gh) (w:World):List AV→List Value→Prop
 | [],vs=>vs=[]
 | c::cs,vs=>∃ v r,vs=v::r∧Rel g w c v∧RelL g w cs r
def RelCells (g:Gh) (w:World) (b f:Nat):List AV→Prop
 | []=>True
 | c::cs=>(∃ v,w.cell? (ad b f)=some v∧v.oneCell'=true∧g.cl b f∧Rel g w c v)∧RelCells g w b (f+1) cs
def RelRows (g:Gh) (w:World) (b f i:Nat):List (List AV)→Prop
 | []=>True
 | r::rs=>r.length=i∧RelCells g w b f r∧RelRows g w b (f+i) i rs
end
structure Ext (g:Gh) (w:World) (g':Gh) (w':World):Prop where
 n:g.n≤g'.n
 m:∀ o,o < g.n→g'.m o=g.m o
 cp:∀ o,o < g.n→g'.cp o=g.cp o
 cl:∀ b f,g.cl b f→g'.cl b f
 cell:∀ b f,g.cl b f→w'.cell? (ad b f)=w.cell? (ad b f)
theorem Ext.refl (g:Gh) (w:World):Ext g w g w:=⟨Nat.le_refl _,fun _ _=>rfl,fun _ _=>rfl,fun _ _ h=>h,fun _ _ _=>rfl⟩
theorem Ext.trans {g g' i:Gh} {w w' t:World} (h:Ext g w g' w') (j:Ext g' w' i t):Ext g w i t :=
 ⟨Nat.le_trans h.n j.n,fun o l=>(j.m o (Nat.lt_of_lt_of_le l h.n)).trans (h.m o l),fun o l=>(j.cp o (Nat.lt_of_lt_of_le l h.n)).trans (h.cp o l),fun b f c=>j.cl b f (h.cl b f c),
  fun b f c=>(j.cell b f (h.cl b f c)).trans (h.cell b f c)⟩
section
variable {g g':Gh} {w w':World} (h:Ext g w g' w')
include h
mutual
theorem Rel.ext:∀ (a:AV) (v:Value),Rel g w a v→Rel g' w' a v
 | .undef,_,_=>by simp[Rel]
 | .bool _,_,r=>by simpa[Rel]using r
 | .int _ _,_,r=>by simpa[Rel]using r
 | .str _,_,r=>by simpa[Rel]using r
 | .list _ xs,_,r=>by simp only[Rel]at r ⊢;obtain⟨a,n,cap,l,t,B,C,E⟩:=r;exact⟨a,n,cap,l,t,B,C,fun J=>let ⟨b,f,j,e,z⟩:=E J; ⟨b,f,j,e,RelRows.ext b f j xs z⟩⟩
 | .ptr _ _,_,r=>by simp only[Rel]at r ⊢;exact⟨Nat.lt_of_lt_of_le r.1 h.n,by rw[h.m _ r.1]; exact r.2⟩
 | .nilp,_,r=>by simpa[Rel]using r
 | .ro cs,_,r=>by simp only[Rel]at r ⊢;obtain⟨b,f,e,z⟩:=r;exact⟨b,f,e,RelCells.ext b f cs z⟩
 | .loc _ _,_,r=>by simp[Rel]at r
 | .box _,_,r=>by simp[Rel]at r
 | .map _,_,r=>by simp only[Rel]at r ⊢;exact⟨Nat.lt_of_lt_of_le r.1 h.n,by rw[h.m _ r.1]; exact r.2⟩
 | .nilm,_,r=>by simpa[Rel]using r
 | .func _ x y,_,r=>by simp only[Rel]at r ⊢;obtain⟨a,b,e,i,u⟩:=r;exact⟨a,b,e,RelL.ext x _ i,RelL.ext y _ u⟩
 | .nilf,_,r=>by simpa[Rel]using r
 | .agg cs,_,r=>by simp only[Rel]at r ⊢;obtain⟨a,e,i,u⟩:=r;exact⟨a,e,RelL.ext cs _ i,u⟩
 | .tuple vs,_,r=>by simp only[Rel]at r ⊢;obtain⟨a,e,i⟩:=r;exact⟨a,e,RelL.ext vs _ i⟩
 | .iface _ x,_,r=>by simp only[Rel]at r ⊢;obtain⟨y,e,i⟩:=r;exact⟨y,e,Rel.ext x _ i⟩
 | .nili,_,r=>by simpa[Rel]using r
 | .nils,_,r=>by simpa[Rel]using r
 | .sl _ _ _ _,_,r=>by simp only[Rel]at r ⊢;exact⟨Nat.lt_of_lt_of_le r.1 h.n,by rw[h.m _ r.1,h.cp _ r.1]; exact r.2⟩
 | .fresh xs,_,r=>by simp only[Rel]at r ⊢;obtain⟨b,n,cap,j,e,hn,G,I,F⟩:=r;exact⟨b,n,cap,j,e,hn,G,RelRows.ext b 0 j xs I,fun k ys hk=>let ⟨l,a,m,t⟩:=F k ys hk; ⟨h.cl _ _ l,a,m,(h.cell _ _ l).trans t⟩⟩
theorem RelL.ext:∀ (as:List AV) (vs:List Value),RelL g w as vs→RelL g' w' as vs
 | [],_,r=>by simpa[RelL]using r
 | a::as,_,r=>by simp only[RelL]at r ⊢;obtain⟨v,l,e,i,j⟩:=r;exact⟨v,l,e,Rel.ext a v i,RelL.ext as l j⟩
theorem RelCells.ext:∀ (b f:Nat) (cs:List AV),RelCells g w b f cs→RelCells g' w' b f cs
 | _,_,[],_=>by simp[RelCells]
 | b,f,c::cs,r=>by simp only[RelCells]at r ⊢;obtain⟨⟨v,e,o,cl,i⟩,j⟩:=r;exact⟨⟨v,(h.cell b f cl).trans e,o,h.cl b f cl,Rel.ext c v i⟩,RelCells.ext b (f+1) cs j⟩
theorem RelRows.ext:∀ (b f i:Nat) (xs:List (List AV)),RelRows g w b f i xs→RelRows g' w' b f i xs
 | _,_,_,[],_=>by simp[RelRows]
 | b,f,i,x::xs,r=>by simp only[RelRows]at r ⊢;obtain⟨e,j,l⟩:=r;exact⟨e,RelCells.ext b f x j,RelRows.ext b (f+i) i xs l⟩
end
end
theorem Rel.weak1 {g:Gh} {w:World}:∀ {a:AV} {v:Value},Rel g w a v→Rel g w a.weak1 v:=by intro a v h;cases a<;>first|exact h|(simp only[AV.weak1,Rel]at h ⊢; exact h)
theorem RelL.weak1 {g:Gh} {w:World}:∀ {as:List AV} {vs:List Value},RelL g w as vs→RelL g w (as.map AV.weak1) vs
 | [],_,h=>h
 | a::as,_,h=>by simp only[RelL,List.map_cons]at h ⊢;obtain⟨v,r,e,i,j⟩:=h;exact⟨v,r,e,i.weak1,RelL.weak1 j⟩
theorem Rel.weak {g:Gh} {w:World} {a:AV} {v:Value} (h:Rel g w a v):Rel g w a.weak v:=by
 cases a<;>first
  | exact h
  | (simp only[AV.weak,Rel]at h ⊢; exact h)
  | (simp only[AV.weak,Rel]at h ⊢
     obtain⟨x,e,i,j⟩:=h;exact⟨x,e,i.weak1,j⟩)
theorem RelL.length {g:Gh} {w:World}:∀ {as:List AV} {vs:List Value},RelL g w as vs→as.length=vs.length
 | [],_,h=>by simp[RelL]at h; simp[h]
 | a::as,_,h=>by simp only[RelL]at h;obtain⟨v,r,rfl,_,i⟩:=h;simp[RelL.length i]
theorem RelL.get {g:Gh} {w:World}:∀ {as:List AV} {vs:List Value},RelL g w as vs→∀ {i:Nat} {a:AV},as[i]?=some a→∃ v,vs[i]?=some v∧Rel g w a v
 | [],_,_,_,_,hi=>by simp at hi
 | a::as,_,h,i,b,hi=>by
  simp only[RelL]at h;obtain⟨v,r,rfl,j,l⟩:=h;cases i with
  | zero=>simp at hi; subst hi; exact⟨v,rfl,j⟩
  | succ i=>simpa using RelL.get l (by simpa using hi)
theorem RelL.of_get {g:Gh} {w:World}:∀ {as:List AV} {vs:List Value},as.length=vs.length→(∀ (i:Nat) (a:AV) (v:Value),as[i]?=some a→vs[i]?=some v→Rel g w a v)→RelL g w as vs
 | [],[],_,_=>by simp[RelL]
 | a::as,v::vs,hl,h=>by simp only[RelL];exact⟨v,vs,rfl,h 0 a v rfl rfl,RelL.of_get (by simpa using hl) fun i a v j l=>h (i+1) a v (by simpa using j) (by simpa using l)⟩
theorem RelL.append {g:Gh} {w:World}:∀ {as i:List AV} {vs us:List Value},RelL g w as vs→RelL g w i us→RelL g w (as++i) (vs++us)
 | [],_,_,_,h,h'=>by simp[RelL]at h; subst h; simpa using h'
 | a::as,_,_,_,h,h'=>by simp only[RelL,List.cons_append]at h ⊢;obtain⟨v,r,rfl,j,l⟩:=h;exact⟨v,r++_,rfl,j,RelL.append l h'⟩
theorem RelL.take {g:Gh} {w:World}:∀ {as:List AV} {vs:List Value} (n:Nat),RelL g w as vs→RelL g w (as.take n) (vs.take n)
 | [],_,n,h=>by simp[RelL]at h; subst h; simp[RelL]
 | a::as,_,0,h=>by simp[RelL]
 | a::as,_,n+1,h=>by simp only[RelL,List.take_succ_cons]at h ⊢;obtain⟨v,r,rfl,i,j⟩:=h;exact⟨v,r.take n,rfl,i,RelL.take n j⟩
theorem RelL.drop {g:Gh} {w:World}:∀ {as:List AV} {vs:List Value} (n:Nat),RelL g w as vs→RelL g w (as.drop n) (vs.drop n)
 | [],_,n,h=>by simp[RelL]at h; subst h; simp[RelL]
 | a::as,_,0,h=>by simpa using h
 | a::as,_,n+1,h=>by simp only[RelL,List.drop_succ_cons]at h ⊢;obtain⟨v,r,rfl,_,i⟩:=h;exact RelL.drop n i
theorem RelCells.drop {g:Gh} {w:World} {b:Nat}:∀ {cs:List AV} {f:Nat} (n:Nat),RelCells g w b f cs→RelCells g w b (f+n) (cs.drop n)
 | [],_,n,_=>by simp[RelCells]
 | c::cs,f,0,h=>h
 | c::cs,f,n+1,h=>by simp only[RelCells]at h;have:=RelCells.drop n h.2;rw[List.drop_succ_cons,show f+(n+1)=f+1+n by omega];exact this
theorem RelCells.take {g:Gh} {w:World} {b:Nat}:∀ {cs:List AV} {f:Nat} (n:Nat),RelCells g w b f cs→RelCells g w b f (cs.take n)
 | [],_,n,_=>by simp[RelCells]
 | c::cs,f,0,h=>by simp[RelCells]
 | c::cs,f,n+1,h=>by simp only[RelCells,List.take_succ_cons]at h ⊢;exact⟨h.1,RelCells.take n h.2⟩
theorem RelCells.get {g:Gh} {w:World} {b:Nat}:∀ {cs:List AV} {f i:Nat} {c:AV},RelCells g w b f cs→cs[i]?=some c →
 ∃ v,w.cell? (ad b (f+i))=some v∧v.oneCell'=true∧g.cl b (f+i)∧Rel g w c v
 | [],_,_,_,_,hi=>by simp at hi
 | a::cs,f,i,c,h,hi=>by
  simp only[RelCells]at h;cases i with
  | zero=>simp at hi; subst hi; exact h.1
  | succ i =>have:=RelCells.get h.2 (i:=i) (by simpa using hi);rw[show f+(i+1)=f+1+i by omega]; exact this
theorem RelRows.get {g:Gh} {w:World} {b j:Nat}:∀ {xs:List (List AV)} {f i:Nat} {r:List AV},RelRows g w b f j xs→xs[i]?=some r →
 r.length=j∧RelCells g w b (f+i*j) r
 | [],_,_,_,_,hi=>by simp at hi
 | a::xs,f,i,r,h,hi=>by
  simp only[RelRows]at h;cases i with
  | zero=>simp at hi; subst hi; exact⟨h.1,by simpa using h.2.1⟩
  | succ i =>have:=RelRows.get h.2.2 (i:=i) (by simpa using hi);rw[show f+(i+1)*j=f+j+i*j by rw[Nat.succ_mul]; omega]; exact this
theorem RelRows.drop {g:Gh} {w:World} {b i:Nat}:∀ {xs:List (List AV)} {f:Nat} (n:Nat),RelRows g w b f i xs→RelRows g w b (f+n*i) i (xs.drop n)
 | [],_,n,_=>by simp[RelRows]
 | c::cs,f,0,h=>by simpa using h
 | c::cs,f,n+1,h=>by simp only[RelRows]at h;have:=RelRows.drop n h.2.2;rw[List.drop_succ_cons,show f+(n+1)*i=f+i+n*i by rw[Nat.succ_mul]; omega];exact this
theorem RelRows.take {g:Gh} {w:World} {b i:Nat}:∀ {xs:List (List AV)} {f:Nat} (n:Nat),RelRows g w b f i xs→RelRows g w b f i (xs.take n)
 | [],_,n,_=>by simp[RelRows]
 | c::cs,f,0,h=>by simp[RelRows]
 | c::cs,f,n+1,h=>by simp only[RelRows,List.take_succ_cons]at h ⊢;exact⟨h.1,h.2.1,RelRows.take n h.2.2⟩
theorem RelRows.append {g:Gh} {w:World} {b i:Nat}:∀ {xs ys:List (List AV)} {f:Nat},RelRows g w b f i xs→RelRows g w b (f+xs.length*i) i ys→RelRows g w b f i (xs++ys)
 | [],_,_,_,h=>by simpa using h
 | x::xs,ys,f,h,h'=>by simp only[RelRows,List.cons_append]at h ⊢;refine⟨h.1,h.2.1,RelRows.append h.2.2 ?_⟩;rw[show f+i+xs.length*i=f+(x::xs).length*i by simp[Nat.succ_mul]; omega];exact h'
theorem RelRows.all {g:Gh} {w:World} {b j:Nat} {xs:List (List AV)} {f:Nat} (h:RelRows g w b f j xs):∀ r∈xs,r.length=j:=by intro r l;obtain⟨i,hi⟩:=List.mem_iff_getElem?.1 l;exact(h.get hi).1
end Go.Cb
namespace Go.Cb
def Own (g:Gh) (w:World) (mine:Nat→Prop) (xs:List (List AV)) (v:Value):Prop :=
 (∃ a n,v=.slice a n n) ∨
 ∃ b n cap i arr T,v=.slice (some (ad b 0)) n cap∧mine b∧xs≠[]∧(∀ r∈xs,r.length=i)∧w.heap[b]?=some (.cells arr T (0,0)) ∧
  arr.size=cap*i∧cap≤maxLen∧∀ f,n*i≤f→¬ g.cl b f
def OwnC (g:Gh) (w:World) (mine:Nat→Prop) (c:AV) (v:Value):Prop:=∀ xs,c=.list true xs→Own g w mine xs v
def OwnN (c:AV) (v:Value):Prop:=∀ xs,c=.list true xs→∃ a n,v=.slice a n n
def e4L (a:AV) (v:Value):Prop:=∀ cs,a=.agg cs→∀ vs:Array Value,v=.agg vs→∀ (k:Nat) (c:AV) (u:Value),cs[k]?=some c→vs[k]?=some u→OwnN c u
inductive Pl where
 | var (i:Nat)|tmp (s:Nat)|cell (i k:Nat)|box (i:Nat)|fly
 deriving DecidableEq
structure ValOK (g:Gh) (w:World) (mine:Nat→Prop) (a:AV) (v:Value):Prop where
 rel:Rel g w a v
 own:OwnC g w mine a v
 agg:e4L a v
def BoxOK (g:Gh) (w:World) (pr:Nat→Option Pl) (b i:Nat) (cs:List AV):Prop :=
 pr b=some (.box i)∧(∀ f,¬ g.cl b f)∧∃ arr T,w.heap[b]?=some (.cells arr T (0,0))∧RelL g w cs arr.toList∧(∀ c∈arr.toList,c.oneCell'=true) ∧
  ∀ (k:Nat) (c:AV) (v:Value),cs[k]?=some c→arr[k]?=some v→OwnC g w (fun b'=>pr b'=some (.cell i k)) c v
def VarOK (g:Gh) (w:World) (pr:Nat→Option Pl) (bx:Nat→Nat) (i:Nat) (a:AV) (v:Value):Prop :=
 match a with
 | .box cs=>v=.pointer (some (ad (bx i) 0))∧BoxOK g w pr (bx i) i cs
 | .loc ..=>False
 | a=>ValOK g w (fun b=>pr b=some (.var i)) a v
def TmpOK (g:Gh) (w:World) (pr:Nat→Option Pl) (bx:Nat→Nat) (fr:List AV) (s:Nat) (a:AV) (v:Value):Prop :=
 match a with
 | .box _=>False
 | .loc j off=>(∃ cs,fr.getD j .undef=.box cs)∧v=.pointer (some (ad (bx j) off))
 | a=>ValOK g w (fun b=>pr b=some (.tmp s)) a v
structure FR (A:Nat→Prop) (g:Gh) (w:World) (pr:Nat→Option Pl) (bx:Nat→Nat) (slots bxs:List Nat) (nt:Nat) (fr:List AV) (τ:Nat→AV) (tmps:Array Value):Prop where
 size:tmps.size=nt
 len:fr.length=slots.length
 var:∀ i s,slots[i]?=some s→VarOK g w pr bx i (fr.getD i .undef) (tmps.getD s undef)
 tmp:∀ s,s ∉ slots→TmpOK g w pr bx fr s (τ s) (tmps.getD s undef)
 prv:∀ b p,pr b=some p→g.sr b=none∧b < w.heap.size∧A b
 bxs:∀ i cs,fr.getD i .undef=.box cs→i∈bxs
inductive RelM (g:Gh) (w:World):List (AV×AV)→List MapEntry→Prop where
 | nil:RelM g w [] []
 | cons {k v:AV} {e:MapEntry} {es:List (AV×AV)} {l:List MapEntry} (hk:Rel g w k e.key) (hv:Rel g w v e.val) (hn:v.weak=v) (h:RelM g w es l):RelM g w ((k,v)::es) (e::l)
def ObjOK (g:Gh) (w:World) (o:Nat):Obj→Prop
 | .cells cs=>g.sr (g.m o)=some (o,none)∧(∀ f,¬ g.cl (g.m o) f)∧∃ arr T,w.heap[g.m o]?=some (.cells arr T (0,0))∧arr.size=g.cp o∧RelL g w cs (arr.toList.take cs.length) ∧
  (∀ c∈arr.toList.take cs.length,c.oneCell'=true)∧∀ (k:Nat) (c:AV) (v:Value),cs[k]?=some c→arr[k]?=some v→OwnC g w (fun b=>g.sr b=some (o,some k)) c v
 | .map es=>g.sr (g.m o)=some (o,none)∧(∀ f,¬ g.cl (g.m o) f)∧∃ i clock,w.heap[g.m o]?=some (.map i clock)∧RelM g w es i.toList
 | .dead=>True
structure SRel (g:Gh) (w:World) (st:St):Prop where
 n:g.n=st.length
 obj:∀ o ob,st[o]?=some ob→ObjOK g w o ob
 inn:∀ b p,g.sr b=some p→b < w.heap.size
 cli:∀ b f,g.cl b f→b < w.heap.size
def M8 (g:Gh) (w:World) (g':Gh) (w':World) (b:Nat):Prop:=w'.heap[b]?=w.heap[b]?∧∀ f,g'.cl b f→g.cl b f
structure Env (w w':World):Prop where
 os:w'.os=w.os
 out:w'.output=w.output
theorem Env.refl (w:World):Env w w:=⟨rfl,rfl⟩
theorem Env.trans {w w' i:World} (h:Env w w') (j:Env w' i) (hs:w.heap.size≤w'.heap.size:=by first|exact Nat.le_refl _|assumption):Env w i:=⟨j.os.trans h.os,j.out.trans h.out⟩
theorem Env.drawn {w w':World} (h:w'.heap=w.heap) (i:w'.os=w.os) (j:w'.output=w.output):Env w w':=⟨i,j⟩
theorem Env.alloc (w:World) (i:_root_.Go.Obj) (h:∀ c t z,i=.cells c t z→z=(0,0)):Env w (w.alloc i):=⟨rfl,rfl⟩
theorem Env.setRow (w:World) (b:Nat) (cs:Array Value):Env w (w.setRow b cs):=⟨rfl,rfl⟩
structure Tr (A:Nat→Prop) (g:Gh) (w:World) (g':Gh) (w':World):Prop where
 ext:Ext g w g' w'
 size:w.heap.size≤w'.heap.size
 env:Env w w'
 keep:∀ b,b < w.heap.size→g.sr b=none→¬ A b→M8 g w g' w' b∧g'.sr b=none
theorem Tr.refl (A:Nat→Prop) (g:Gh) (w:World):Tr A g w g w:=⟨Ext.refl g w,Nat.le_refl _,Env.refl w,fun _ _ h _=>⟨⟨rfl,fun _ h=>h⟩,h⟩⟩
theorem Tr.trans {A:Nat→Prop} {g g' i:Gh} {w w' j:World} (h:Tr A g w g' w') (l:Tr A g' w' i j):Tr A g w i j :=
 ⟨h.ext.trans l.ext,Nat.le_trans h.size l.size,h.env.trans l.env h.size,fun b u hs t=>by obtain⟨⟨y,c1⟩,B⟩:=h.keep b u hs t;obtain⟨⟨e2,x⟩,C⟩:=l.keep b (Nat.lt_of_lt_of_le u h.size) B t;exact⟨⟨e2.trans y,fun f z=>c1 f (x f z)⟩,C⟩⟩
theorem Tr.wider {A B:Nat→Prop} {g g':Gh} {w w':World} (h:Tr A g w g' w') (i:∀ b,A b→B b):Tr B g w g' w' :=
 ⟨h.ext,h.size,h.env,fun b t hs j=>h.keep b t hs (fun l=>j (i b l))⟩
theorem Own.mono {g g':Gh} {w w':World} {mine i:Nat→Prop} {xs:List (List AV)} {v:Value} (h:Own g w mine xs v)
 (hm:∀ b,mine b→i b∧M8 g w g' w' b):Own g' w' i xs v:=by
 rcases h with h|⟨b,n,cap,G,arr,T,e,x,F,E,C,hs,y,l⟩
 · exact .inl h
 · obtain⟨u,z,j⟩:=hm b x;exact .inr ⟨b,n,cap,G,arr,T,e,u,F,E,z.trans C,hs,y,fun f B t=>l f B (j f t)⟩
theorem OwnC.mono {g g':Gh} {w w':World} {mine i:Nat→Prop} {c:AV} {v:Value} (h:OwnC g w mine c v)
 (hm:∀ b,mine b→i b∧M8 g w g' w' b):OwnC g' w' i c v:=fun xs e=>(h xs e).mono hm
theorem ValOK.mono {g g':Gh} {w w':World} {mine i:Nat→Prop} {a:AV} {v:Value} (h:ValOK g w mine a v) (j:Ext g w g' w')
 (hm:∀ b,mine b→i b∧M8 g w g' w' b):ValOK g' w' i a v:=⟨h.rel.ext j,h.own.mono hm,h.agg⟩
theorem BoxOK.mono {g g':Gh} {w w':World} {pr j:Nat→Option Pl} {b i:Nat} {cs:List AV} (h:BoxOK g w pr b i cs) (F:Ext g w g' w')
 (hm:∀ b p,pr b=some p→(p=.box i∨∃ k,p=.cell i k)→j b=some p∧M8 g w g' w' b):BoxOK g' w' j b i cs:=by
 obtain⟨u,x,arr,T,y,z,B,C⟩:=h;obtain⟨p1,t,c1⟩:=hm b _ u (.inl rfl);exact⟨p1,fun f G=>x f (c1 f G),arr,T,t.trans y,RelL.ext F _ _ z,B,fun k c v E I=>(C k c v E I).mono fun b' l=>hm b' _ l (.inr ⟨k,rfl⟩)⟩
theorem VarOK.mono {g g':Gh} {w w':World} {pr t:Nat→Option Pl} {bx j:Nat→Nat} {i:Nat} {a:AV} {v:Value} (h:VarOK g w pr bx i a v) (x:Ext g w g' w')
 (hm:∀ b p,pr b=some p→(p=.var i∨p=.box i∨∃ k,p=.cell i k)→t b=some p∧M8 g w g' w' b) (l:∀ cs,a=.box cs→j i=bx i):VarOK g' w' t j i a v:=by
 cases a<;>first
  | exact ValOK.mono h x fun b u=>hm b _ u (.inl rfl)
  | exact h
  | (rename_i cs
     refine⟨by rw[l cs rfl]; exact h.1,?_⟩;rw[l cs rfl];exact BoxOK.mono h.2 x fun b p u y=>hm b p u (.inr y))
theorem TmpOK.mono {g g':Gh} {w w':World} {pr t:Nat→Option Pl} {bx i:Nat→Nat} {fr l:List AV} {s:Nat} {a:AV} {v:Value} (h:TmpOK g w pr bx fr s a v) (B:Ext g w g' w')
 (hm:∀ b,pr b=some (.tmp s)→t b=some (.tmp s)∧M8 g w g' w' b) (x:∀ j cs,fr.getD j .undef=.box cs→i j=bx j∧∃ u,l.getD j .undef=.box u):TmpOK g' w' t i l s a v:=by
 cases a<;>first
  | exact ValOK.mono h B hm
  | exact h
  | (obtain⟨⟨cs,z⟩,C⟩:=h
     obtain⟨y,e2⟩:=x _ cs z;exact⟨e2,by rw[y]; exact C⟩)
theorem FR.evolve {A:Nat→Prop} {g g':Gh} {w w':World} {pr:Nat→Option Pl} {bx:Nat→Nat} {slots bxs:List Nat} {nt:Nat} {fr:List AV} {τ:Nat→AV} {tmps:Array Value}
 (h:FR A g w pr bx slots bxs nt fr τ tmps) (t:Tr (fun _=>False) g w g' w'):FR A g' w' pr bx slots bxs nt fr τ tmps:=by
 have key:∀ b p,pr b=some p→M8 g w g' w' b∧g'.sr b=none:=fun b p l=>by obtain⟨u,y,_⟩:=h.prv b p l;exact t.keep b y u (fun x=>x)
 exact⟨h.size,h.len,fun i s hs=>(h.var i s hs).mono t.ext (fun b p l _=>⟨l,(key b p l).1⟩) (fun _ _=>rfl),
  fun s hs=>(h.tmp s hs).mono t.ext (fun b l=>⟨l,(key b _ l).1⟩) (fun j cs z=>⟨rfl,cs,z⟩),
  fun b p l=>⟨(key b p l).2,Nat.lt_of_lt_of_le (h.prv b p l).2.1 t.size,(h.prv b p l).2.2⟩,h.bxs⟩
theorem RelM.ext {g g':Gh} {w w':World} (i:Ext g w g' w') {es:List (AV×AV)} {l:List MapEntry} (h:RelM g w es l):RelM g' w' es l:=by
 induction h with
 | nil=>exact .nil
 | cons hk j hn _ t=>exact .cons (hk.ext i) (j.ext i) hn t
theorem ObjOK.mono {g g':Gh} {w w':World} {o:Nat} {G:Obj} (F:o < g.n) (h:ObjOK g w o G) (l:Ext g w g' w')
 (hm:∀ b k,g.sr b=some (o,k)→g'.sr b=some (o,k)∧M8 g w g' w' b):ObjOK g' w' o G:=by
 cases G with
 | cells cs =>obtain⟨x,y,arr,T,z,E,I,J,L⟩:=h;obtain⟨p1,u,c1⟩:=hm _ _ x;have i:=l.m o F;refine⟨by rw[i]; exact p1,fun f t=>y f (c1 f (by rw[i]at t; exact t)),arr,T,by rw[i]; exact u.trans z,by rw[l.cp o F]; exact E,RelL.ext l _ _ I,J,fun k c v C M=>(L k c v C M).mono fun b' B=>hm b' _ B⟩
 | map es =>obtain⟨x,C,j,clock,y,z⟩:=h;obtain⟨p1,u,c1⟩:=hm _ _ x;have i:=l.m o F;exact⟨by rw[i]; exact p1,fun f t=>C f (c1 f (by rw[i]at t; exact t)),j,clock,by rw[i]; exact u.trans y,z.ext l⟩
 | dead=>trivial
theorem SRel.evolve {g g':Gh} {w w':World} {st:St} (h:SRel g w st) (y:Ext g w g' w') (hn:g'.n=g.n) (j:w.heap.size≤w'.heap.size)
 (hm:∀ b p,g.sr b=some p→g'.sr b=some p∧M8 g w g' w' b) (u:∀ b p,g'.sr b=some p→g.sr b=some p) (t:∀ b f,g'.cl b f→g.cl b f∨b < w'.heap.size):SRel g' w' st :=
 ⟨hn.trans h.n,fun o B i=>(h.obj o B i).mono (by rw[h.n]; exact(List.getElem?_eq_some_iff.1 i).1) y fun b k l=>hm b _ l,
  fun b p l=>Nat.lt_of_lt_of_le (h.inn b p (u b p l)) j,fun b f z=>(t b f z).elim (fun x=>Nat.lt_of_lt_of_le (h.cli b f x) j) id⟩
theorem I9 {tmps:Array Value} {s:Nat} {v:Value} (h:s < tmps.size):(tmps.setIfInBounds s v).getD s undef=v:=by simp[Array.getD_eq_getD_getElem?,h]
theorem N6 {tmps:Array Value} {s t:Nat} {v:Value} (h:t≠s):(tmps.setIfInBounds s v).getD t undef=tmps.getD t undef:=by simp[Array.getD_eq_getD_getElem?,Ne.symm h]
theorem A0 {fr:List AV} {i:Nat} {a:AV} (h:i < fr.length):(fr.set i a).getD i .undef=a:=by simp[h]
theorem m7 {fr:List AV} {i j:Nat} {a:AV} (h:j≠i):(fr.set i a).getD j .undef=fr.getD j .undef:=by simp[Ne.symm h]
section
variable {A:Nat→Prop} {g:Gh} {w:World} {pr:Nat→Option Pl} {bx:Nat→Nat} {slots bxs:List Nat} {nt:Nat} {fr:List AV} {τ:Nat→AV} {tmps:Array Value}
theorem b2N (l:slots.Nodup) {i j s t:Nat} (hi:slots[i]?=some s) (z:slots[j]?=some t) (h:i≠j):s≠t:=by intro e;subst e;obtain⟨y,u⟩:=List.getElem?_eq_some_iff.1 hi;obtain⟨B,x⟩:=List.getElem?_eq_some_iff.1 z;exact h ((List.getElem_inj l).1 (u.trans x.symm))
theorem FR.put_t (h:FR A g w pr bx slots bxs nt fr τ tmps) {s:Nat} (hs:s ∉ slots) (hn:s < nt) {a:AV} {v:Value} (u:TmpOK g w pr bx fr s a v) :
 FR A g w pr bx slots bxs nt fr (C6 τ s a) (tmps.setIfInBounds s v):=by
 refine⟨by simpa using h.size,h.len,fun i t j=>?_,fun t j=>?_,h.prv,h.bxs⟩
 · have l:t≠s:=fun e=>hs (e ▸ List.mem_of_getElem? j)
   rw[N6 l]; exact h.var i t j
 · by_cases e:t=s
   · subst e;rw[I9 (by rw[h.size]; exact hn)];simpa[C6]using u
   · rw[N6 e];have:C6 τ s a t=τ t:=by simp[C6,e]
     rw[this]; exact h.tmp t j
theorem FR.put_v (h:FR A g w pr bx slots bxs nt fr τ tmps) (E:slots.Nodup) (B:∀ s∈slots,s < nt) {i s:Nat} (hs:slots[i]?=some s) (z:i ∉ bxs) {a:AV} {v:Value}
 (G:VarOK g w pr bx i a v) (C:∀ cs,a≠.box cs):FR A g w pr bx slots bxs nt (fr.set i a) τ (tmps.setIfInBounds s v):=by
 have hi:i < fr.length:=by rw[h.len]; exact(List.getElem?_eq_some_iff.1 hs).1
 have y:∀ j cs,fr.getD j .undef=.box cs→(fr.set i a).getD j .undef=.box cs:=fun j cs l=>by
  have:j≠i:=fun e=>z (e ▸ h.bxs j cs l)
  rw[m7 this]; exact l
 refine⟨by simpa using h.size,by simpa using h.len,fun j t u=>?_,fun t u=>?_,h.prv,fun j cs l=>?_⟩
 · by_cases e:j=i
   · subst e;obtain rfl:t=s:=Option.some.inj (u.symm.trans hs);rw[I9 (by rw[h.size]; exact B t (List.mem_of_getElem? u)),A0 hi];exact G
   · rw[N6 (b2N E u hs e),m7 e]; exact h.var j t u
 · have F:t≠s:=fun e=>u (e ▸ List.mem_of_getElem? hs)
   rw[N6 F];exact(h.tmp t u).mono (Ext.refl g w) (fun b z=>⟨z,rfl,fun _ x=>x⟩) (fun j cs l=>⟨rfl,cs,y j cs l⟩)
 · by_cases e:j=i
   · subst e; rw[A0 hi]at l; exact absurd l (C cs)
   · rw[m7 e]at l; exact h.bxs j cs l
theorem ValOK.of_weak {mine:Nat→Prop} {a:AV} {v:Value} (h:Rel g w a v):ValOK g w mine a.weak v:=by
 refine⟨h.weak,fun xs e=>?_,fun cs e vs _ k c u i _ xs e2=>?_⟩
 · cases a<;>simp[AV.weak]at e
 · cases a<;>simp[AV.weak]at e;subst e;rw[List.getElem?_map]at i;cases j:(‹List AV›)[k]? with
   | none=>simp[j]at i
   | some d =>simp[j]at i;subst i;cases d<;>simp[AV.weak1]at e2
end
end Go.Cb
namespace Go.Cb
@[simp] theorem fN_eq {α:Type} (m:Nat) (k:Nat→α):fN m k=k m:=by cases m<;>rfl
@[simp] theorem fI_eq {α:Type} (n:Int) (k:Int→α):fI n k=k n:=by cases n<;>simp[fI]
@[simp] theorem fL_eq {α β:Type} (l:List α) (k:List α→β):fL l k=k l:=by
 induction l generalizing k with
 | nil=>rfl
 | cons a l ih=>simp[fL,ih]
@[simp] theorem fLN_eq {β:Type} (l:List Nat) (k:List Nat→β):fLN l k=k l:=by
 induction l generalizing k with
 | nil=>rfl
 | cons a l ih=>simp[fLN,ih]
@[simp] theorem fV_eq {α:Type} (v:AV) (k:AV→α):fV v k=k v:=by cases v<;>first|rfl|(rename_i b; cases b<;>rfl)|(rename_i b _; cases b<;>rfl)
@[simp] theorem fNew_eq {α:Type} (v:AV) (k:AV→α):a3m v k=k v:=by cases v<;>simp[a3m]
theorem b5g {α:Type} (xs:List Opd) (σ:Sig) (k:List AV→α):a6f xs σ k=k (xs.map (·.read σ)):=by
 induction xs generalizing k with
 | nil=>rfl
 | cons x xs i=>simp[a6f,i]
theorem O9 (call:e9) (o:AOper) (σ:Sig):E9 call o σ =
 match sem o.kind call (o.args.map (·.read σ)) (match o.box with|some i=>σ.fr.getD i .undef|none=>.undef) σ.st with
 | some (r,bx,st) =>
  let σ:=g9 o.args σ
  match o.box with
  | some i=>some (o.dst.put r { σ with fr:=σ.fr.set i bx,st })
  | none=>some (o.dst.put r { σ with st })
 | none=>none:=by
 unfold E9;rw[b5g];cases sem o.kind call (o.args.map (·.read σ)) (match o.box with|some i=>σ.fr.getD i .undef|none=>.undef) σ.st with
 | none=>rfl
 | some x =>
  obtain⟨r,bx,st⟩:=x;dsimp only;have j:∀ {α:Type} (k:AV→α),(if o.kind.fresh=true then a3m r else fV r) k=k r:=fun k=>by split<;>simp
  have e2:∀ {α:Type} (k:AV→α),(if o.kind.alters=true then a3m bx else fV bx) k=k bx:=fun k=>by split<;>simp
  rw[j];cases o.box with
  | none=>rfl
  | some i=>dsimp only; rw[e2]
structure Cx where
 P:Program
 slots:List Nat
 bxs:List Nat
 nt:Nat
 gt:List (Nat×List AV)
 A:Nat→Prop
def a7F:List AV→List AV→Bool
 | [],[]=>true
 | .str a::x,.str b::y=>a == b && a7F x y
 | _,_=>false
def a0X:Value→AV→Bool
 | .bool b,.bool c=>b == c
 | .int k n,.int i m=>decide (k=i) && decide (n=m)
 | .string s,.str l=>s.data.toList.map UInt8.toNat == l
 | .slice none 0 0,.list true []=>true
 | .slice none 0 0,.nils=>true
 | .pointer none,.nilp=>true
 | .map none,.nilm=>true
 | .nilFunc,.nilf=>true
 | .nilIface,.nili=>true
 | _,_=>false
def H0:List Value→List AV→Bool
 | [],[]=>true
 | v::vs,a::as=>a0X v a && H0 vs as
 | _,_=>false
def a5g:Value→AV→Bool
 | .agg vs,.agg as=>H0 vs.toList as
 | .slice none 0 0,.nils=>true
 | v,a=>a0X v a
section
variable (c:Cx)
def F9 (x:Operand) (p:Opd):Bool :=
 match x,p with
 | .tmp s,.t j=>s == j && !c.slots.contains s
 | .tmp s,.ts j=>s == j && !c.slots.contains s
 | .tmp s,.v i=>c.slots[i]? == some s
 | .tmp s,.vs i=>c.slots[i]? == some s
 | .tmp s,.l i=>c.slots[i]? == some s
 | .const v,.c a=>a5g v a
 | .func f,.c (.func f' [] [])=>f == f'
 | .global g,.c (.ro cs)=>c.gt.any fun e=>e.1 == g && a7F e.2 cs
 | _,_=>false
def Opd.steals:Opd→Bool
 | .ts _|.vs _=>true
 | _=>false
def Q8 (x:Operand) (p:Opd):Bool:=F9 c x p && !p.steals
def a1O:List Operand→List Opd→Bool
 | [],[]=>true
 | x::xs,p::ps=>Q8 c x p && a1O xs ps
 | _,_=>false
def B9 (d:Option Tmp) (p:Dst):Bool :=
 match d,p with
 | none,.none=>true
 | some s,.t j=>s == j && !c.slots.contains s && decide (s < c.nt)
 | some s,.v i=>c.slots[i]? == some s && !c.bxs.contains i
 | _,_=>false
def D6 (t:TypeId):Option Bool :=
 match c.P.underlying t with
 | some (.struct _)|some (.array _ _)=>some true
 | some _=>some false
 | none=>none
def C8 (t:TypeId):Option Nat:=(c.P.info? t).map (·.size)
def a0W (t:TypeId) (f:Nat):Option Field :=
 match c.P.underlying t with
 | some (.struct i)=>i[f]?
 | _=>none
end
end Go.Cb
namespace Go.Cb
def Globs (gt:List (Nat×List AV)) (g:Gh) (w:World):Prop:=∀ e∈gt,RelCells g w e.1 0 e.2∧g.cl e.1 e.2.length∧w.cell? (ad e.1 e.2.length)=none
theorem Globs.ext {gt:List (Nat×List AV)} {g g':Gh} {w w':World} (h:Globs gt g w) (i:Ext g w g' w'):Globs gt g' w' :=
 fun e hm=>⟨RelCells.ext i _ _ _ (h e hm).1,i.cl _ _ (h e hm).2.1,(i.cell _ _ (h e hm).2.1).trans (h e hm).2.2⟩
structure S (c:Cx) (g:Gh) (w:World) (pr:Nat→Option Pl) (bx:Nat→Nat) (σ:Sig) (a:Act):Prop where
 fr:FR c.A g w pr bx c.slots c.bxs c.nt σ.fr σ.τ a.tmps
 st:SRel g w σ.st
 gl:Globs c.gt g w
 fresh:∀ b,w.heap.size≤b→c.A b
 stA:∀ b p,g.sr b=some p→c.A b
def ArgOK (g:Gh) (w:World) (bx:Nat→Nat) (fr:List AV) (mine:Nat→Prop) (a:AV) (v:Value):Prop :=
 match a with
 | .loc j off=>(∃ cs,fr.getD j .undef=.box cs)∧v=.pointer (some (ad (bx j) off))
 | .box _=>True
 | a=>ValOK g w mine a v
abbrev No:Nat→Prop:=fun _=>False
theorem a9t:∀ {x y:List AV},a7F x y=true→x=y
 | [],[],_=>rfl
 | .str a::x,.str b::y,h=>by simp only[a7F,Bool.and_eq_true,beq_iff_eq]at h;rw[h.1,a9t h.2]
theorem ValOK.mk' {g:Gh} {w:World} {mine:Nat→Prop} {a:AV} {v:Value} (h:Rel g w a v) (i:∀ xs,a≠.list true xs) (j:∀ cs,a≠.agg cs):ValOK g w mine a v :=
 ⟨h,fun xs e=>absurd e (i xs),fun cs e=>absurd e (j cs)⟩
theorem a6x {v:Value} {a:AV} (h:a0X v a=true) (g:Gh) (w:World):ValOK g w No a v:=by
 unfold a0X at h;split at h
 · simp only[beq_iff_eq]at h;subst h;exact ValOK.mk' (by simp[Rel]) (by simp) (by simp)
 · simp only[Bool.and_eq_true,decide_eq_true_eq]at h;obtain⟨rfl,rfl⟩:=h;exact ValOK.mk' (by simp[Rel]) (by simp) (by simp)
 · simp only[beq_iff_eq]at h;exact ValOK.mk' (by simp only[Rel]; exact⟨_,rfl,h⟩) (by simp) (by simp)
 · exact⟨by simp only[Rel]; exact⟨none,0,0,rfl,rfl,Nat.le_refl _,fun _=>rfl,fun h=>absurd rfl h⟩,fun _ _=>.inl ⟨_,_,rfl⟩,fun _ e=>(by cases e)⟩
 · exact ValOK.mk' (by simp[Rel]) (by simp) (by simp)
 · exact ValOK.mk' (by simp[Rel]) (by simp) (by simp)
 · exact ValOK.mk' (by simp[Rel]) (by simp) (by simp)
 · exact ValOK.mk' (by simp[Rel]) (by simp) (by simp)
 · exact ValOK.mk' (by simp[Rel]) (by simp) (by simp)
 · cases h
theorem b10 {v:Value} {a:AV} (h:a0X v a=true):v.oneCell'=true:=by unfold a0X at h;split at h<;>first|rfl|cases h
theorem L5:∀ {vs:List Value} {as:List AV},H0 vs as=true→∀ (g:Gh) (w:World),RelL g w as vs∧(∀ v∈vs,v.oneCell'=true) ∧
 ∀ (k:Nat) (a:AV) (v:Value),as[k]?=some a→vs[k]?=some v→OwnN a v
 | [],[],_,g,w=>by simp[RelL]
 | v::vs,a::as,h,g,w=>by
  simp only[H0,Bool.and_eq_true]at h;obtain⟨j,t⟩:=h;obtain⟨x,y,z⟩:=L5 t g w;have l:=a6x j g w;refine⟨by simp only[RelL]; exact⟨v,vs,rfl,l.rel,x⟩,?_,?_⟩
  · intro u hu;rcases List.mem_cons.1 hu with rfl|hu
    · exact b10 j
    · exact y u hu
  · intro k b u i hu;cases k with
    | zero =>
     simp at i hu;subst i; subst hu;intro xs e;rcases l.own xs e with h|⟨_,_,_,_,_,_,_,h,_⟩
     · exact h
     · exact h.elim
    | succ k=>exact z k b u (by simpa using i) (by simpa using hu)
theorem b5J {v:Value} {a:AV} (h:a5g v a=true) (g:Gh) (w:World):ValOK g w No a v:=by
 unfold a5g at h;split at h
 · rename_i vs as;obtain⟨i,j,l⟩:=L5 h g w;refine⟨by simp only[Rel]; exact⟨vs,rfl,i,j⟩,fun xs e=>(by cases e),fun cs e us e2 k c u t hu=>?_⟩;cases e; cases e2;exact l k c u t (by simpa using hu)
 · exact ValOK.mk' (by simp[Rel]) (by simp) (by simp)
 · exact a6x h g w
theorem b3Z {v:Value} {a:AV} (h:a5g v a=true) (g:Gh) (w:World) (bx:Nat→Nat) (fr:List AV):ArgOK g w bx fr No a v:=by have i:=b5J h g w;cases a<;>first|exact i|trivial|(unfold a5g at h; split at h<;>first|(rename_i e; cases e; done)|(unfold a0X at h; split at h<;>simp_all))
section
variable {c:Cx} {g:Gh} {w:World} {pr:Nat→Option Pl} {bx:Nat→Nat} {σ:Sig} {a:Act}
theorem S3 {l:List Nat} {s:Nat} (h:(!l.contains s)=true):s ∉ l:=by simpa using h
theorem VarOK.arg {i:Nat} {b:AV} {v:Value} (h:VarOK g w pr bx i b v):ArgOK g w bx σ.fr No b.weak v:=by cases b<;>first|exact ValOK.of_weak (ValOK.rel h)|exact h.elim|trivial
theorem TmpOK.arg {s:Nat} {b:AV} {v:Value} (h:TmpOK g w pr bx σ.fr s b v):ArgOK g w bx σ.fr No b.weak v:=by cases b<;>first|exact ValOK.of_weak (ValOK.rel h)|exact h|trivial
theorem R3 (h:S c g w pr bx σ a) {x:Operand} {p:Opd} (j:Q8 c x p=true):ArgOK g w bx σ.fr No (p.read σ) (a.eval x):=by
 simp only[Q8,Bool.and_eq_true]at j;obtain⟨j,hs⟩:=j;unfold F9 at j;split at j
 · simp only[Bool.and_eq_true,beq_iff_eq]at j;obtain⟨rfl,hn⟩:=j;exact(h.fr.tmp _ (S3 hn)).arg
 · simp[Opd.steals]at hs
 · exact(h.fr.var _ _ (by simpa using j)).arg
 · simp[Opd.steals]at hs
 · rename_i s i;have t:=h.fr.var i s (by simpa using j);simp only[Opd.read,Act.eval];cases l:σ.fr.getD i .undef<;>rw[l]at t<;>first
    | exact⟨⟨_,l⟩,t.1⟩
    | exact ValOK.mk' (by simp[Rel]) (by simp) (by simp)
 · rename_i v b;simp only[Opd.read,Act.eval];exact b3Z j g w bx σ.fr
 · simp only[beq_iff_eq]at j;subst j;exact(show ValOK g w No (.func _ [] []) _ from ValOK.mk' (by simp[Act.eval,Rel,RelL]) (by simp) (by simp))
 · rename_i gi cs;simp only[List.any_eq_true,Bool.and_eq_true,beq_iff_eq]at j;obtain⟨e,z,u,y⟩:=j;have:=(h.gl e z).1;rw[u,a9t y]at this;exact(show ValOK g w No (.ro cs) _ from ValOK.mk' (by simp only[Act.eval,Rel]; exact⟨gi,0,rfl,this⟩) (by simp) (by simp))
 · cases j
inductive ArgsOK (g:Gh) (w:World) (bx:Nat→Nat) (fr:List AV):List AV→List Value→Prop where
 | nil:ArgsOK g w bx fr [] []
 | cons {a:AV} {v:Value} {as:List AV} {vs:List Value} (h:ArgOK g w bx fr No a v) (t:ArgsOK g w bx fr as vs):ArgsOK g w bx fr (a::as) (v::vs)
theorem U6 (h:S c g w pr bx σ a):∀ {xs:List Operand} {i:List Opd},a1O c xs i=true→ArgsOK g w bx σ.fr (i.map (·.read σ)) (xs.map a.eval)
 | [],[],_=>.nil
 | x::xs,p::i,hp=>by simp only[a1O,Bool.and_eq_true]at hp;exact .cons (R3 h hp.1) (U6 h hp.2)
theorem G5:∀ {xs:List Operand} {i:List Opd},a1O c xs i=true→g9 i σ=σ
 | [],[],_=>rfl
 | x::xs,p::i,hp=>by
  simp only[a1O,Q8,Bool.and_eq_true]at hp;simp only[g9];have:p.spend σ=σ:=by have:=hp.1.2;cases p<;>simp_all [Opd.steals,Opd.spend]
  rw[this];exact G5 hp.2
def Post (c:Cx) (g:Gh) (w:World) (a:Act) (σ':Sig) (next:Act→World→Prop):Prop :=
 ∀ i w' g' l j,i.defers=a.defers→S c g' w' l j σ' i→Tr c.A g w g' w'→next i w'
structure Fx (c:Cx):Prop where
 nd:c.slots.Nodup
 lt:∀ s∈c.slots,s < c.nt
theorem C9 (a:Act) (d:Option Tmp) (v:Value):(a.put d v).defers=a.defers:=by cases d<;>rfl
theorem ValOK.undef {mine:Nat→Prop} {v:Value}:ValOK g w mine .undef v:=ValOK.mk' (by simp[Rel]) (by simp) (by simp)
theorem ArgOK.tmp {mine:Nat→Prop} {s:Nat} {b:AV} {v:Value} (h:ArgOK g w bx σ.fr mine b v) (hm:∀ b,mine b→pr b=some (.tmp s)):TmpOK g w pr bx σ.fr s b.stripB v:=by
 cases b<;>first
  | exact ValOK.mono h (Ext.refl g w) fun b i=>⟨hm b i,rfl,fun _ x=>x⟩
  | exact h
  | exact ValOK.undef
theorem ArgOK.var {mine:Nat→Prop} {i:Nat} {b:AV} {v:Value} (h:ArgOK g w bx σ.fr mine b v) (hm:∀ b,mine b→pr b=some (.var i)):VarOK g w pr bx i b.strip v:=by
 cases b<;>first
  | exact ValOK.mono h (Ext.refl g w) fun b j=>⟨hm b j,rfl,fun _ x=>x⟩
  | exact ValOK.undef
def Dst.pl:Dst→Pl
 | .t s=>.tmp s
 | .v i=>.var i
 | _=>.tmp 0
theorem Z2 (l:Fx c) (h:S c g w pr bx σ a) {d:Option Tmp} {p:Dst} (j:B9 c d p=true) {mine:Nat→Prop} {r:AV} {v:Value} (t:ArgOK g w bx σ.fr mine r v)
 (hm:∀ b,mine b→pr b=some p.pl):S c g w pr bx (p.put r σ) (a.put d v):=by
 unfold B9 at j;split at j
 · exact h
 · rename_i s u;simp only[Bool.and_eq_true,beq_iff_eq,decide_eq_true_eq]at j;obtain⟨⟨rfl,hn⟩,hl⟩:=j;exact⟨h.fr.put_t (S3 hn) hl (t.tmp hm),h.st,h.gl,h.fresh,h.stA⟩
 · rename_i s i;simp only[Bool.and_eq_true,beq_iff_eq]at j;refine⟨h.fr.put_v l.nd l.lt j.1 (S3 j.2) (t.var hm) ?_,h.st,h.gl,h.fresh,h.stA⟩;intro cs e;cases r<;>simp[AV.strip]at e
 · cases j
theorem b2I (j:Fx c) (h:S c g w pr bx σ a) {o:Oper} {p:Dst} (l:B9 c o.dst p=true) {r:AV} {v:Value}
 (i:(execOp a.eval o).run c.P w=.ok (.value v) w) (t:ArgOK g w bx σ.fr No r v) {next:Act→World→Prop} {Q:Exit→Act→World→Prop}
 (hn:Post c g w a (p.put r σ) next):o.wp c.P a w next Q:=by
 unfold Oper.wp;rw[i];exact hn _ _ g pr bx (C9 _ _ _) (Z2 j h l t fun _ x=>x.elim) (Tr.refl _ _ _)
end
end Go.Cb
namespace Go.Cb
theorem blt_eq (a b:Nat):Nat.blt a b=decide (a < b):=by rw[Bool.eq_iff_iff,Nat.blt_eq]; simp
theorem wrap_i64 {n:Int} (i:-9223372036854775808≤n) (j:n < 9223372036854775808):IntKind.i64.wrap n=n:=by simp only[IntKind.wrap,IntKind.signed,IntKind.bits];simp only[show((2:Int) ^ 64)=18446744073709551616 from by decide,show((2:Int) ^ (64 - 1))=9223372036854775808 from by decide,Bool.true_and,decide_eq_true_eq];omega
theorem a7v {n:Int} (i:-2147483648≤n) (j:n < 2147483648):IntKind.i32.wrap n=n:=by simp only[IntKind.wrap,IntKind.signed,IntKind.bits];simp only[show((2:Int) ^ 32)=4294967296 from by decide,show((2:Int) ^ (32 - 1))=2147483648 from by decide,Bool.true_and,decide_eq_true_eq];omega
theorem c5g {n:Int} (i:0≤n) (j:n < 256):IntKind.u8.wrap n=n:=by unfold IntKind.wrap;rw[show IntKind.u8.signed=false from rfl];simp only[Bool.false_and,Bool.false_eq_true,if_false];exact Int.emod_eq_of_lt i j
theorem c05 {n:Int} (i:0≤n) (j:n < 18446744073709551616):IntKind.u64.wrap n=n:=by unfold IntKind.wrap;rw[show IntKind.u64.signed=false from rfl];simp only[Bool.false_and,Bool.false_eq_true,if_false];exact Int.emod_eq_of_lt i j
theorem Y6 (k:IntKind) (n:Int):D9 k n=k.wrap n:=by
 unfold D9;split
 case h_7=>rfl
 case h_1 =>
  rw[blt_eq];split
  · rename_i m h;have h:=of_decide_eq_true h;exact(wrap_i64 (by simp only[Int.ofNat_eq_natCast]; omega) (by simp only[Int.ofNat_eq_natCast]; omega)).symm
  · rfl
 case h_2 =>
  rw[blt_eq];split
  · rename_i m h;have h:=of_decide_eq_true h;exact(wrap_i64 (by simp only[Int.negSucc_eq]; omega) (by simp only[Int.negSucc_eq]; omega)).symm
  · rfl
 case h_3 =>
  rw[blt_eq];split
  · rename_i m h;have h:=of_decide_eq_true h;exact(c5g (by simp only[Int.ofNat_eq_natCast]; omega) (by simp only[Int.ofNat_eq_natCast]; omega)).symm
  · rfl
 case h_4 =>
  rw[blt_eq];split
  · rename_i m h;have h:=of_decide_eq_true h;exact(c05 (by simp only[Int.ofNat_eq_natCast]; omega) (by simp only[Int.ofNat_eq_natCast]; omega)).symm
  · rfl
 case h_5 =>
  rw[blt_eq];split
  · rename_i m h;have h:=of_decide_eq_true h;exact(a7v (by simp only[Int.ofNat_eq_natCast]; omega) (by simp only[Int.ofNat_eq_natCast]; omega)).symm
  · rfl
 case h_6 =>
  rw[blt_eq];split
  · rename_i m h;have h:=of_decide_eq_true h;exact(a7v (by simp only[Int.negSucc_eq]; omega) (by simp only[Int.negSucc_eq]; omega)).symm
  · rfl
@[simp] theorem eqI_eq (a b:Int):eqI a b=(a == b):=by cases a<;>cases b<;>simp only[eqI]<;>rw[Bool.eq_iff_iff]<;>simp only[Nat.beq_eq,beq_iff_eq,Int.ofNat_eq_natCast,Int.negSucc_eq,Bool.false_eq_true,false_iff]<;>omega
@[simp] theorem ltI_eq (a b:Int):ltI a b=decide (a < b):=by cases a<;>cases b<;>simp only[ltI,blt_eq]<;>rw[Bool.eq_iff_iff]<;>simp<;>omega
@[simp] theorem addI_eq (a b:Int):a5t a b=a+b:=by cases a<;>cases b<;>rfl
@[simp] theorem subI_eq (a b:Int):b0N a b=a - b:=by
 cases a<;>cases b<;>simp only[b0N]<;>try rfl
 rename_i m n;split
 · rename_i h;have:=Nat.le_of_ble_eq_true h;show((m - n:Nat):Int)=(m:Int) - (n:Int);omega
 · rfl
theorem a5k:∀ a b:List Nat,eqN a b=(a == b)
 | [],[]=>rfl
 | [],_::_=>rfl
 | _::_,[]=>rfl
 | x::a,y::b=>by simp only[eqN,a5k a b]; rw[Bool.eq_iff_iff]; simp
mutual
theorem a6Z:∀ (a b:AV),K9 a b=true↔a=b
 | .undef,b=>by cases b<;>simp[K9]
 | .bool x,b=>by cases b<;>simp[K9]
 | .int k x,b=>by cases b<;>simp[K9]
 | .str x,b=>by cases b<;>simp[K9,a5k]
 | .list o xs,b=>by cases b<;>simp[K9];rw[a4z];intro _;rfl
 | .ptr o f,b=>by cases b<;>simp[K9]
 | .nilp,b=>by cases b<;>simp[K9]
 | .ro xs,b=>by cases b<;>simp[K9];rw[H6]
 | .loc o f,b=>by cases b<;>simp[K9]
 | .box xs,b=>by cases b<;>simp[K9];rw[H6]
 | .map o,b=>by cases b<;>simp[K9]
 | .nilm,b=>by cases b<;>simp[K9]
 | .func f xs ys,b=>by cases b<;>simp[K9,and_assoc];rw[H6,H6];intro _;rfl
 | .nilf,b=>by cases b<;>simp[K9]
 | .agg xs,b=>by cases b<;>simp[K9];rw[H6]
 | .tuple xs,b=>by cases b<;>simp[K9];rw[H6]
 | .iface t x,b=>by cases b<;>simp[K9];rw[a6Z];intro _;rfl
 | .nili,b=>by cases b<;>simp[K9]
 | .nils,b=>by cases b<;>simp[K9]
 | .sl o f n s,b=>by cases b<;>simp[K9,and_assoc]
 | .fresh xs,b=>by cases b<;>simp[K9];rw[a4z]
theorem H6:∀ (a b:List AV),U7 a b=true↔a=b
 | [],b=>by cases b<;>simp[U7]
 | x::xs,b=>by cases b<;>simp[U7];rw[a6Z,H6]
theorem a4z:∀ (a b:List (List AV)),a3s a b=true↔a=b
 | [],b=>by cases b<;>simp[a3s]
 | x::xs,b=>by cases b<;>simp[a3s];rw[H6,a4z]
end
theorem b00:∀ (a b:List (AV×AV)),a8D a b=true↔a=b
 | [],b=>by cases b<;>simp[a8D]
 | (x,y)::xs,b=>by
  cases b with
  | nil=>simp[a8D]
  | cons z zs=>obtain⟨i,z2⟩:=z; simp[a8D,a6Z,b00]
theorem a1i (a b:Obj):a9O a b=true↔a=b:=by cases a<;>cases b<;>simp[a9O,H6,b00]
theorem b1u:∀ (a b:St),b0f a b=true↔a=b
 | [],b=>by cases b<;>simp[b0f]
 | x::xs,b=>by cases b<;>simp[b0f,a1i,b1u]
theorem c0S (a b:Ex):a8I a b=true↔a=b:=by cases a<;>cases b<;>simp[a8I]
theorem a9C (a b:Out):a9L a b=true↔a=b:=by obtain⟨a1,a2,a3⟩:=a;obtain⟨i,j,l⟩:=b;simp[a9L,H6,b1u,c0S,and_assoc]
theorem a1E {kill:List Nat} {x y:Option Out} {o:Out} (h:a6g kill x y=some o):∃ a b,x=some a∧y=some b∧G1 kill a=o∧G1 kill b=o:=by
 unfold a6g at h;split at h
 · split at h
   · rename_i a b i;simp only[Option.some.injEq]at h;exact⟨a,b,rfl,rfl,h,((a9C _ _).1 i).symm.trans h⟩
   · cases h
 · cases h
theorem a3Y {kill:List Nat} {a b:Out} (h:G1 kill a=G1 kill b):a6g kill (some a) (some b)=some (G1 kill a):=by unfold a6g;dsimp only;rw[if_pos ((a9C _ _).2 h)]
def s6 (c:Cx) (g:Gh) (w:World) (bx:Nat→Nat) (fr:List AV) (a:Act) (o:Oper) (r:AV):Prop :=
 ∃ v,(execOp a.eval o).run c.P w=.ok (.value v) w∧ArgOK g w bx fr No r v
theorem J9 {P:Program} {t:TypeId} {n:Nat} (h:(P.info? t).map (·.size)=some n) (w:World):(sizeOf t).run P w=.ok n w:=by obtain⟨i,hi,hn⟩:=Option.map_eq_some_iff.1 h;simp[sizeOf,typeInfo,hi,hn]
theorem a2z {P:Program} {t:TypeId} {b:Bool} (c:Cx) (l:c.P=P) (h:D6 c t=some b) (w:World):(isAgg t).run P w=.ok b w:=by
 subst l;unfold D6 at h;unfold isAgg;split at h
 · rename_i u hu; simp at h; subst h; simp[run_underlying hu]
 · rename_i n e hu; simp at h; subst h; simp[run_underlying hu]
 · rename_i d i j hu;simp at h; subst h;simp only[Sem.run_bind,run_underlying hu,Result.andThen_ok];cases d<;>first|rfl|exact(i _ rfl).elim|exact(j _ _ rfl).elim
 · cases h
theorem Addr.add_ad (b f n:Nat):(ad b f).add n=ad b (f+n):=by
 unfold Addr.add;split
 · rename_i h; subst h; rfl
 · rfl
section
variable {c:Cx} {g:Gh} {w:World} {pr:Nat→Option Pl} {bx:Nat→Nat} {σ:Sig} {a:Act} {o:Oper} {call:e9} {b b' r:AV} {st st':St}
theorem ArgOK.rel {fr:List AV} {mine:Nat→Prop} {x:AV} {v:Value} (h:ArgOK g w bx fr mine x v) (j:∀ i f,x≠.loc i f) (l:∀ cs,x≠.box cs):Rel g w x v:=by cases x<;>first|exact ValOK.rel h|exact absurd rfl (j _ _)|exact absurd rfl (l _)
theorem ArgOK.plain {fr:List AV} {mine:Nat→Prop} {x:AV} {v:Value} (h:ArgOK g w bx fr mine x v) (i:x.plain=true):ValOK g w mine x v:=by cases x<;>first|exact h|(simp[AV.plain]at i)
theorem ArgOK.of_val {fr:List AV} {mine:Nat→Prop} {x:AV} {v:Value} (h:ValOK g w mine x v) (j:∀ i f,x≠.loc i f):ArgOK g w bx fr mine x v:=by cases x<;>first|exact h|exact absurd rfl (j _ _)|trivial
theorem ArgsOK.one {fr:List AV} {as:List AV} {v:Value} (h:ArgsOK g w bx fr as [v]):∃ p,as=[p]∧ArgOK g w bx fr No p v:=by cases h with|cons i h=>cases h; exact⟨_,rfl,i⟩
theorem ArgsOK.two {fr:List AV} {as:List AV} {v u:Value} (h:ArgsOK g w bx fr as [v,u]):∃ p q,as=[p,q]∧ArgOK g w bx fr No p v∧ArgOK g w bx fr No q u:=by cases h with|cons i h=>obtain⟨q,rfl,j⟩:=ArgsOK.one h; exact⟨_,q,rfl,i,j⟩
theorem ArgsOK.three {fr:List AV} {as:List AV} {v u t:Value} (h:ArgsOK g w bx fr as [v,u,t]) :
 ∃ p q s,as=[p,q,s]∧ArgOK g w bx fr No p v∧ArgOK g w bx fr No q u∧ArgOK g w bx fr No s t:=by
 cases h with|cons i h=>obtain⟨q,s,rfl,j,l⟩:=ArgsOK.two h; exact⟨_,q,s,rfl,i,j,l⟩
variable {fr:List AV} {as:List AV}
theorem c0w {x y z:Operand} (C:o.op=.pick x y z) (I:ArgsOK g w bx fr as [a.eval x,a.eval y,a.eval z])
 (hs:F3 call as b st=some (r,b',st')):s6 c g w bx fr a o r∧b'=b∧st'=st:=by
 obtain⟨p,q,s,rfl,E,F,G⟩:=I.three;unfold F3 at hs;split at hs
 · rename_i t J L i;simp only[List.cons.injEq,and_true]at i;obtain⟨rfl,rfl,rfl⟩:=i;have B:a.eval x=.bool t:=by simpa[Rel]using E.rel (by simp) (by simp)
   have key:∀ (u:AV) (l:Value),ArgOK g w bx fr No u l→(if u.plain=true then some (u,b,st)else none)=some (r,b',st')→ArgOK g w bx fr No r l∧b'=b∧st'=st:=by
    intro u l hu j;split at j
    · simp only[Option.some.injEq,Prod.mk.injEq]at j;obtain⟨rfl,rfl,rfl⟩:=j;exact⟨hu,rfl,rfl⟩
    · cases j
   cases t with
   | true=>obtain⟨k1,k2,k3⟩:=key q _ F (by simpa using hs); exact⟨⟨a.eval y,by simp[execOp,C,B,asBool],k1⟩,k2,k3⟩
   | false=>obtain⟨k1,k2,k3⟩:=key s _ G (by simpa using hs); exact⟨⟨a.eval z,by simp[execOp,C,B,asBool],k1⟩,k2,k3⟩
 · cases hs
theorem b36 {x:Operand} (l:o.op=.nilCheck x) (t:ArgsOK g w bx fr as [a.eval x])
 (hs:G0 call as b st=some (r,b',st')):s6 c g w bx fr a o r∧b'=b∧st'=st:=by
 obtain⟨p,rfl,j⟩:=t.one;unfold G0 at hs;split at hs<;>try cases hs
 · rename_i k f i;simp only[List.cons.injEq,and_true]at i; subst i;have e:=j.rel (by simp) (by simp);simp only[Rel]at e;exact⟨⟨a.eval x,by simp[execOp,l,e.2],j⟩,rfl,rfl⟩
 · rename_i k f i;simp only[List.cons.injEq,and_true]at i; subst i;exact⟨⟨a.eval x,by simp[execOp,l,j.2],j⟩,rfl,rfl⟩
 · rename_i cs i;simp only[List.cons.injEq,and_true]at i; subst i;have e:=j.rel (by simp) (by simp);simp only[Rel]at e;obtain⟨bb,f,e,_⟩:=e;exact⟨⟨a.eval x,by simp[execOp,l,e],j⟩,rfl,rfl⟩
 · rename_i f u y i;simp only[List.cons.injEq,and_true]at i; subst i;have e:=j.rel (by simp) (by simp);simp only[Rel]at e;obtain⟨a1,a2,e,_⟩:=e;exact⟨⟨a.eval x,by simp[execOp,l,e],j⟩,rfl,rfl⟩
theorem a3k {s:TypeId} {f:Nat} {j:Field} {n:Nat} {bb l:Nat} (i:a0W c s f=some j) (hn:C8 c j.type=some n) (t:n≠0) :
 (Instr.fieldAt s (.pointer (some (ad bb l))) f).run c.P w=.ok (.pointer (some (ad bb (l+j.offset)))) w:=by
 unfold a0W at i;split at i
 · rename_i u hu;simp[Instr.fieldAt,run_underlying hu,i,Instr.sureAddr,fieldPlace,J9 (w:=w) hn,t,Addr.add_ad]
 · cases i
theorem c42 {s:TypeId} {x:Operand} {f:Nat} {j:Field} {n off:Nat} (z:o.op=.fieldAddr s x f) (y:a0W c s f=some j) (hn:C8 c j.type=some n) (u:n≠0) (l:j.offset=off)
 (C:ArgsOK g w bx fr as [a.eval x]) (hs:P6 off call as b st=some (r,b',st')):s6 c g w bx fr a o r∧b'=b∧st'=st:=by
 obtain⟨p,rfl,t⟩:=C.one;subst l;unfold P6 at hs;split at hs<;>try cases hs
 · rename_i k f i;simp only[List.cons.injEq,and_true]at i; subst i;have e:=t.rel (by simp) (by simp);simp only[Rel]at e;exact⟨⟨.pointer (some (ad (g.m k) (f+j.offset))),by simp only[execOp,z,e.2,Sem.run_bind,a3k (c:=c) y hn u,Result.andThen_ok,Sem.run_pure],ValOK.mk' (by simp[Rel,e.1]) (by simp) (by simp)⟩,rfl,rfl⟩
 · rename_i k f i;simp only[List.cons.injEq,and_true]at i; subst i;exact⟨⟨.pointer (some (ad (bx k) (f+j.offset))),by simp only[execOp,z,t.2,Sem.run_bind,a3k (c:=c) y hn u,Result.andThen_ok,Sem.run_pure],⟨t.1,rfl⟩⟩,rfl,rfl⟩
 · rename_i cs i;simp only[List.cons.injEq,and_true]at i; subst i;have e:=t.rel (by simp) (by simp);simp only[Rel]at e;obtain⟨bb,f,e,B⟩:=e;exact⟨⟨.pointer (some (ad bb (f+j.offset))),by simp only[execOp,z,e,Sem.run_bind,a3k (c:=c) y hn u,Result.andThen_ok,Sem.run_pure],ValOK.mk' (by simp only[Rel]; exact⟨bb,_,rfl,B.drop _⟩) (by simp) (by simp)⟩,rfl,rfl⟩
theorem c4K {x:Operand} {i:Nat} (y:o.op=.extract x i) (z:ArgsOK g w bx fr as [a.eval x])
 (hs:S1 i call as b st=some (r,b',st')):s6 c g w bx fr a o r∧b'=b∧st'=st:=by
 obtain⟨p,rfl,t⟩:=z.one;unfold S1 at hs;split at hs
 · rename_i vs l;simp only[List.cons.injEq,and_true]at l; subst l;have e:=t.rel (by simp) (by simp);simp only[Rel]at e;obtain⟨arr,e,hl⟩:=e;split at hs
   · rename_i u hu;obtain⟨v,B,j⟩:=hl.get hu;simp only[Option.some.injEq,Prod.mk.injEq]at hs;obtain⟨rfl,rfl,rfl⟩:=hs;refine⟨⟨v,?_,ArgOK.of_val (ValOK.of_weak j) ?_⟩,rfl,rfl⟩
     · have:arr[i]?=some v:=by simpa using B
       simp[execOp,y,e,Instr.extract,this]
     · intro i f; cases u<;>simp[AV.weak]<;>simp[Rel]at j
   · cases hs
 · cases hs
theorem c9m {t:TypeId} {x:Operand} {op:UnOp} (l:o.op=.unOp op t x) (u:ArgsOK g w bx fr as [a.eval x])
 (hs:a0q op call as b st=some (r,b',st')):s6 c g w bx fr a o r∧b'=b∧st'=st:=by
 obtain⟨p,rfl,j⟩:=u.one;unfold a0q at hs;split at hs<;>try cases hs
 · rename_i t i;simp only[List.cons.injEq,and_true]at i; subst i;have e:a.eval x=.bool t:=by simpa[Rel]using j.rel (by simp) (by simp)
   exact⟨⟨.bool !t,by simp[execOp,l,e,Op.unary],ValOK.mk' (by simp[Rel]) (by simp) (by simp)⟩,rfl,rfl⟩
 · rename_i k n i;simp only[List.cons.injEq,and_true]at i; subst i;have e:a.eval x=.int k n:=by simpa[Rel]using j.rel (by simp) (by simp)
   exact⟨⟨.int k (k.wrap (0 - n)),by simp[execOp,l,e,Op.unary,Op.intArith],ValOK.mk' (by simp only[Rel,Y6]) (by simp) (by simp)⟩,rfl,rfl⟩
end
end Go.Cb
namespace Go.Cb
section
variable {c:Cx} {g:Gh} {w:World} {pr:Nat→Option Pl} {bx:Nat→Nat} {a:Act} {o:Oper} {call:e9} {b b' r:AV} {st st':St} {fr as:List AV}
theorem b0Y {x:AV} {v:Value} (h:Rel g w x v) (i:v.oneCell'=true):ArgOK g w bx fr No x.weak1 v:=by
 cases x
 case agg cs =>simp only[Rel]at h;obtain⟨y,rfl,_⟩:=h;simp[Value.oneCell']at i
 case loc=>simp[Rel]at h
 case box=>simp[Rel]at h
 all_goals exact ValOK.mk' (Rel.weak1 h) (by simp[AV.weak1]) (by simp[AV.weak1])
theorem b3a {cs:List AV} {us:List Value} (h:RelL g w cs us) (i:∀ u∈us,u.oneCell'=true):ArgOK g w bx fr No (.agg (cs.map AV.weak1)) (.agg us.toArray):=by
 refine⟨by simp only[Rel]; exact⟨us.toArray,rfl,by simpa using h.weak1,by simpa using i⟩,fun xs e=>(by cases e),fun t e vs _ k d u j _ xs e2=>?_⟩;simp only[AV.agg.injEq]at e;subst e;rw[List.getElem?_map]at j;cases i:cs[k]? with
 | none=>simp[i]at j
 | some l =>simp[i]at j;subst j;cases l<;>simp[AV.weak1]at e2
theorem RelCells.vals:∀ {cs:List AV} {bb f:Nat},RelCells g w bb f cs→∃ us,RelL g w cs us∧w.rangeAt bb f us∧(∀ u∈us,u.oneCell'=true)∧∀ j,j < us.length→g.cl bb (f+j)
 | [],_,_,_=>⟨[],by simp[RelL],fun j v h=>by simp at h,by simp,by simp⟩
 | x::cs,bb,f,h=>by
  simp only[RelCells]at h;obtain⟨⟨v,B,i,t,z⟩,l⟩:=h;obtain⟨us,C,E,F,G⟩:=RelCells.vals l;refine⟨v::us,by simp only[RelL]; exact⟨v,us,rfl,z,C⟩,fun j u hu=>?_,?_,fun j y=>?_⟩
  · cases j with
    | zero=>simp at hu; subst hu; exact B
    | succ j=>rw[show f+(j+1)=f+1+j by omega]; exact E j u (by simpa using hu)
  · intro u hu;rcases List.mem_cons.1 hu with rfl|hu
    · exact i
    · exact F u hu
  · cases j with
    | zero=>exact t
    | succ j=>rw[show f+(j+1)=f+1+j by omega]; exact G j (by simpa using y)
theorem a6H {bb:Nat} {arr:Array Value} {T:TypeId} {z:Nat×Nat} (h:w.heap[bb]?=some (.cells arr T z)) (off:Nat):w.rangeAt bb off (arr.toList.drop off):=by intro j v i;rw[cell_of_row w bb (off+j) arr T z h];simpa using i
theorem a5v {bb:Nat} {arr:Array Value} {T:TypeId} {z:Nat×Nat} (h:w.heap[bb]?=some (.cells arr T z)) (n off:Nat):w.rangeAt bb off ((arr.toList.take n).drop off):=by
 intro j v i;rw[cell_of_row w bb (off+j) arr T z h];rw[List.getElem?_drop,List.getElem?_take]at i;split at i
 · simpa using i
 · cases i
theorem a0N {t:TypeId} {x:Operand} {bb f n:Nat} {ag:Bool} {cs:List AV} {us:List Value} (I:o.op=.load t x) (i:D6 c t=some ag) (hn:C8 c t=some n)
 (J:a.eval x=.pointer (some (ad bb f))) (hl:RelL g w cs us) (G:w.rangeAt bb f us) (F:∀ u∈us,u.oneCell'=true) (l:m4 ag n cs=some r):s6 c g w bx fr a o r:=by
 cases ag with
 | true =>
  simp only[m4,if_true]at l;split at l
  · rename_i C;simp only[Option.some.injEq]at l;subst l;have B:n≤us.length:=by rw[← hl.length]; exact C
    obtain⟨d,hu,L⟩:∃ d,c.P.underlying t=some d∧d.isRow=true:=by unfold D6 at i;split at i<;>first|exact⟨_,‹_›,rfl⟩|simp at i
    refine⟨.agg (us.take n).toArray,?_,b3a (hl.take n) fun u hu=>F u (List.mem_of_mem_take hu)⟩;have E:=run_loadAt_mid (P:=c.P) w bb f t (us.take n) d (fun j v z=>G j v (by
     rw[List.getElem?_take]at z; split at z
     · exact z
     · cases z)) hu L (by rw[show(c.P.info? t).map (·.size)=some n from hn,List.length_take,Nat.min_eq_left B])
    simp only[execOp,I,J,Sem.run_bind,E,Result.andThen_ok,Sem.run_pure]
  · cases l
 | false =>
  simp only[m4,Bool.false_eq_true,if_false]at l;cases cs with
  | nil=>simp at l
  | cons y ys =>
   simp only[Option.some.injEq]at l;subst l;simp only[RelL]at hl;obtain⟨v,M,rfl,E,_⟩:=hl;refine⟨v,?_,b0Y E (F v (by simp))⟩;have z:w.cell? (ad bb f)=some v:=by simpa using G 0 v rfl
   simp[execOp,I,J,Instr.loadAt,Instr.sureAddr,loadVar,a2z c rfl i,z]
theorem b1J {t:TypeId} {x:Operand} {ag:Bool} {n:Nat} (z:o.op=.load t x) (j:D6 c t=some ag) (hn:C8 c t=some n) (B:ArgsOK g w bx fr as [a.eval x])
 (hs:P1 ag n call as b st=some (r,b',st')):s6 c g w bx fr a o r∧b'=b∧st'=st:=by
 obtain⟨p,rfl,u⟩:=B.one;unfold P1 at hs;split at hs
 · rename_i cs i;simp only[List.cons.injEq,and_true]at i; subst i;obtain⟨v,C,l⟩:=Option.map_eq_some_iff.1 hs;simp only[Prod.mk.injEq]at l;obtain⟨rfl,rfl,rfl⟩:=l;have e:=u.rel (by simp) (by simp);simp only[Rel]at e;obtain⟨bb,f,e,y⟩:=e;obtain⟨us,E,F,G,_⟩:=y.vals;exact⟨a0N z j hn e E F G C,rfl,rfl⟩
 · cases hs
theorem c0M {τ:Nat→AV} (h:FR c.A g w pr bx c.slots c.bxs c.nt fr τ a.tmps) {i:Nat} {t:TypeId} {x:Operand} {ag:Bool} {n:Nat} {s:Nat} (hi:c.slots[i]?=some s) (J:o.op=.load t x) (B:D6 c t=some ag) (hn:C8 c t=some n) (L:ArgsOK g w bx fr as [a.eval x])
 (hs:M0 i ag n call as (fr.getD i .undef) st=some (r,b',st')):s6 c g w bx fr a o r∧b'=fr.getD i .undef∧st'=st:=by
 obtain⟨p,rfl,F⟩:=L.one;unfold M0 at hs;split at hs
 · rename_i j off cs y G;simp only[List.cons.injEq,and_true]at y; subst y;split at hs
   · rename_i C;subst C;obtain⟨v,M,E⟩:=Option.map_eq_some_iff.1 hs;simp only[Prod.mk.injEq]at E;obtain⟨rfl,rfl,rfl⟩:=E;have l:=h.var i s hi;rw[G]at l;obtain⟨_,_,_,arr,T,I,hl,z,_⟩:=l;exact⟨a0N J B hn F.2 (hl.drop off) (a6H I off) (fun u hu=>z u (List.mem_of_mem_drop hu)) M,rfl,rfl⟩
   · cases hs
 · cases hs
theorem b1p (h:SRel g w st) {t:TypeId} {x:Operand} {ag:Bool} {n:Nat} (E:o.op=.load t x) (l:D6 c t=some ag) (hn:C8 c t=some n) (F:ArgsOK g w bx fr as [a.eval x])
 (hs:F4 ag n call as b st=some (r,b',st')):s6 c g w bx fr a o r∧b'=b∧st'=st:=by
 obtain⟨p,rfl,B⟩:=F.one;unfold F4 at hs;split at hs
 · rename_i I off i;simp only[List.cons.injEq,and_true]at i; subst i;split at hs
   · rename_i cs y;obtain⟨v,G,z⟩:=Option.map_eq_some_iff.1 hs;simp only[Prod.mk.injEq]at z;obtain⟨rfl,rfl,rfl⟩:=z;have e:=B.rel (by simp) (by simp);simp only[Rel]at e;obtain⟨_,_,arr,T,C,_,hl,j,_⟩:=h.obj _ _ y;exact⟨a0N E l hn e.2 (hl.drop off) (a5v C cs.length off) (fun u hu=>j u (List.mem_of_mem_drop hu)) G,rfl,rfl⟩
   · cases hs
 · cases hs
theorem c0a (h:SRel g w st) {t:TypeId} {x:Operand} {ag:Bool} {n:Nat} (j:o.op=.load t x) (i:D6 c t=some ag) (hn:C8 c t=some n) (l:ArgsOK g w bx fr as [a.eval x])
 (hs:H3 ag n call as b st=some (r,b',st')):s6 c g w bx fr a o r∧b'=b∧st'=st:=by
 unfold H3 at hs;split at hs
 · exact b1J (call:=call) j i hn l hs
 · exact b1p (call:=call) h j i hn l hs
 · cases hs
theorem c1K {t:TypeId} {ag:Bool} {n off:Nat} {cs:List AV} {arr:Array Value} (j:D6 c t=some ag) (hn:C8 c t=some n)
 (hl:RelL g w cs arr.toList) (z:∀ u∈arr.toList,u.oneCell'=true) (x:off+n≤cs.length) (i:m4 ag n (cs.drop off)=some r) :
 ∃ v,(part t arr off).run c.P w=.ok v w∧ArgOK g w bx fr No r v:=by
 cases ag with
 | true =>
  simp only[m4,if_true]at i;split at i
  · rename_i C;simp only[Option.some.injEq]at i;subst i;refine⟨.agg (arr.extract off (off+n)),?_,?_⟩
    · simp[part,a2z c rfl j,J9 (w:=w) hn]
    · have e:arr.extract off (off+n)=((arr.toList.drop off).take n).toArray:=by apply Array.ext';simp[Array.toList_extract]
      rw[e];exact b3a ((hl.drop off).take n) fun u hu=>z u (List.mem_of_mem_drop (List.mem_of_mem_take hu))
  · cases i
 | false =>
  simp only[m4,Bool.false_eq_true,if_false]at i;have l:=hl.drop off;cases B:cs.drop off with
  | nil=>simp[B]at i
  | cons y ys =>
   rw[B]at i l;simp only[Option.some.injEq]at i;subst i;simp only[RelL]at l;obtain⟨v,us,hu,F,_⟩:=l;have E:arr[off]?=some v:=by
    have:(arr.toList.drop off)[0]?=some v:=by rw[hu]; rfl
    simpa using this
   refine⟨v,by simp[part,a2z c rfl j,E],b0Y F (z v ?_)⟩;rw[Array.mem_toList_iff];exact Array.mem_of_getElem? E
theorem c3b {s:TypeId} {x:Operand} {f:Nat} {l:Field} {n off:Nat} {ag:Bool} (G:o.op=.field s x f) (t:a0W c s f=some l) (z:D6 c l.type=some ag) (hn:C8 c l.type=some n) (j:l.offset=off)
 (I:ArgsOK g w bx fr as [a.eval x]) (hs:W5 off n ag call as b st=some (r,b',st')):s6 c g w bx fr a o r∧b'=b∧st'=st:=by
 obtain⟨p,rfl,F⟩:=I.one;subst j;unfold W5 at hs;split at hs
 · rename_i cs i;simp only[List.cons.injEq,and_true]at i; subst i;split at hs
   · rename_i B;obtain⟨v,J,E⟩:=Option.map_eq_some_iff.1 hs;simp only[Prod.mk.injEq]at E;obtain⟨rfl,rfl,rfl⟩:=E;have e:=F.rel (by simp) (by simp);simp only[Rel]at e;obtain⟨arr,e,hl,y⟩:=e;obtain⟨u,hu,hk⟩:=c1K (c:=c) (bx:=bx) (fr:=fr) z hn hl y B J;unfold a0W at t;split at t
     · rename_i L C;exact⟨⟨u,by simp[execOp,G,e,Instr.field,run_underlying C,t,asAgg,hu],hk⟩,rfl,rfl⟩
     · cases t
   · cases hs
 · cases hs
theorem b9q {t:TypeId} {x:Operand} {at_:Array TypeId} (y:o.op=.call { callee:=.builtin .len,args:=#[x],argTypes:=at_ }) (u:at_[0]?=some t) (hu:c.P.underlying t=some .string)
 (z:ArgsOK g w bx fr as [a.eval x]) (hs:R9 call as b st=some (r,b',st')):s6 c g w bx fr a o r∧b'=b∧st'=st:=by
 obtain⟨p,rfl,l⟩:=z.one;unfold R9 at hs;split at hs
 · rename_i s i;simp only[List.cons.injEq,and_true]at i; subst i;simp only[Option.some.injEq,Prod.mk.injEq]at hs;obtain⟨rfl,rfl,rfl⟩:=hs;have e:=l.rel (by simp) (by simp);simp only[Rel]at e;obtain⟨j,e,rfl⟩:=e;refine⟨⟨.int .i64 j.size,?_,ValOK.mk' (by simp only[Rel,List.length_map]; rfl) (by simp) (by simp)⟩,rfl,rfl⟩;simp[execOp,y,resolve,invoke,builtin,Builtin.len_,u,run_underlying hu,e,goInt]
 · cases hs
theorem b9S {t e:TypeId} {x:Operand} {at_:Array TypeId} (u:o.op=.call { callee:=.builtin .len,args:=#[x],argTypes:=at_ }) (l:at_[0]?=some t) (hu:c.P.underlying t=some (.slice e))
 (z:ArgsOK g w bx fr as [a.eval x]) (hs:J6 call as b st=some (r,b',st')):s6 c g w bx fr a o r∧b'=b∧st'=st:=by
 obtain⟨p,rfl,j⟩:=z.one;unfold J6 at hs;split at hs
 · rename_i own xs i;simp only[List.cons.injEq,and_true]at i; subst i;simp only[Option.some.injEq,Prod.mk.injEq]at hs;obtain⟨rfl,rfl,rfl⟩:=hs;have e:=j.rel (by simp) (by simp);simp only[Rel]at e;obtain⟨y,n,cap,e,rfl,_⟩:=e;refine⟨⟨.int .i64 xs.length,?_,ValOK.mk' (by simp[Rel]) (by simp) (by simp)⟩,rfl,rfl⟩;simp[execOp,u,resolve,invoke,builtin,Builtin.len_,l,run_underlying hu,e,goInt]
 · rename_i B f n C i;simp only[List.cons.injEq,and_true]at i; subst i;simp only[Option.some.injEq,Prod.mk.injEq]at hs;obtain⟨rfl,rfl,rfl⟩:=hs;have e:=j.rel (by simp) (by simp);simp only[Rel]at e;obtain⟨_,cap,e,_⟩:=e;refine⟨⟨.int .i64 n,?_,ValOK.mk' (by simp[Rel]) (by simp) (by simp)⟩,rfl,rfl⟩;simp[execOp,u,resolve,invoke,builtin,Builtin.len_,l,run_underlying hu,e,goInt]
 · rename_i i;simp only[List.cons.injEq,and_true]at i; subst i;simp only[Option.some.injEq,Prod.mk.injEq]at hs;obtain⟨rfl,rfl,rfl⟩:=hs;have e:=j.rel (by simp) (by simp);simp only[Rel]at e;refine⟨⟨.int .i64 0,?_,ValOK.mk' (by simp[Rel]) (by simp) (by simp)⟩,rfl,rfl⟩;simp[execOp,u,resolve,invoke,builtin,Builtin.len_,l,run_underlying hu,e,goInt]
 · cases hs
theorem c0D {x y:Operand} {at_:Array TypeId} (u:o.op=.call { callee:=.builtin .min,args:=#[x,y],argTypes:=at_ })
 (z:ArgsOK g w bx fr as [a.eval x,a.eval y]) (hs:W7 call as b st=some (r,b',st')):s6 c g w bx fr a o r∧b'=b∧st'=st:=by
 obtain⟨p,q,rfl,l,t⟩:=z.two;unfold W7 at hs;split at hs
 · rename_i k m B n i;simp only[List.cons.injEq,and_true]at i;obtain⟨rfl,rfl⟩:=i;split at hs
   · rename_i hk;subst hk;simp only[Option.some.injEq,Prod.mk.injEq]at hs;obtain⟨rfl,rfl,rfl⟩:=hs;have j:a.eval x=.int k m:=by simpa[Rel]using l.rel (by simp) (by simp)
     have e2:a.eval y=.int k n:=by simpa[Rel]using t.rel (by simp) (by simp)
     refine⟨⟨.int k (b5c m n),?_,ValOK.mk' (by simp[Rel]) (by simp) (by simp)⟩,rfl,rfl⟩;simp[execOp,u,resolve,invoke,builtin,Builtin.min_,Builtin.min2,j,e2,b5c]
   · cases hs
 · cases hs
theorem c7u {t e:TypeId} {x i:Operand} {G:Nat} (M:o.op=.indexAddr t x i) (hu:c.P.underlying t=some (.slice e)) (hn:C8 c e=some G)
 (V:ArgsOK g w bx fr as [a.eval x,a.eval i]) (hs:O1 G call as b st=some (r,b',st')):s6 c g w bx fr a o r∧b'=b∧st'=st:=by
 obtain⟨p,q,rfl,I,J⟩:=V.two;unfold O1 at hs;split at hs
 · rename_i own xs k C j;simp only[List.cons.injEq,and_true]at j;obtain⟨rfl,rfl⟩:=j;have e2:a.eval i=.int k C:=by simpa[Rel]using J.rel (by simp) (by simp)
   have l:=I.rel (by simp) (by simp);simp only[Rel]at l;obtain⟨a0,n,cap,l,rfl,_,_,W⟩:=l;split at hs
   · rename_i y;split at hs
     · rename_i row u;split at hs
       · rename_i L;simp only[Option.some.injEq,Prod.mk.injEq]at hs;obtain⟨rfl,rfl,rfl⟩:=hs;obtain⟨z,_⟩:=List.getElem?_eq_some_iff.1 u;obtain⟨bb,f,F,rfl,B⟩:=W (by intro N; subst N; simp at z);obtain⟨U,S⟩:=B.get u;obtain rfl:F=G:=by omega
         have E:C < (xs.length:Int):=by omega
         refine⟨⟨.pointer (some (ad bb (f+C.toNat*F))),?_,ValOK.mk' (by simp only[Rel]; exact⟨bb,_,rfl,S⟩) (by simp) (by simp)⟩,rfl,rfl⟩;simp[execOp,M,l,e2,Instr.indexAt,asIntOf,run_underlying hu,J9 (w:=w) hn,y,E,Addr.add_ad]
       · cases hs
     · cases hs
   · cases hs
 · rename_i X f n s k C j;simp only[List.cons.injEq,and_true]at j;obtain⟨rfl,rfl⟩:=j;have e2:a.eval i=.int k C:=by simpa[Rel]using J.rel (by simp) (by simp)
   have l:=I.rel (by simp) (by simp);simp only[Rel]at l;obtain⟨e0,cap,l,_⟩:=l;split at hs
   · rename_i O;obtain⟨y,z,rfl⟩:=O;simp only[Option.some.injEq,Prod.mk.injEq]at hs;obtain⟨rfl,rfl,rfl⟩:=hs;refine⟨⟨.pointer (some (ad (g.m X) (f+C.toNat*s))),?_,ValOK.mk' (by simp only[Rel]; exact⟨e0,trivial⟩) (by simp) (by simp)⟩,rfl,rfl⟩;simp[execOp,M,l,e2,Instr.indexAt,asIntOf,run_underlying hu,J9 (w:=w) hn,y,z,Addr.add_ad]
   · cases hs
 · cases hs
theorem b9G {t e:TypeId} {x i:Operand} {len C:Nat} (F:o.op=.indexAddr t x i) (hu:c.P.underlying t=some (.array len e)) (hn:C8 c e=some C)
 (G:ArgsOK g w bx fr as [a.eval x,a.eval i]) (hs:I4 len C call as b st=some (r,b',st')):s6 c g w bx fr a o r∧b'=b∧st'=st:=by
 obtain⟨p,q,rfl,z,B⟩:=G.two;have run:∀ (bb f:Nat) (k:IntKind) (l:Int),a.eval x=.pointer (some (ad bb f))→a.eval i=.int k l→0≤l∧l < (len:Int) →
  (execOp a.eval o).run c.P w=.ok (.value (.pointer (some (ad bb (f+l.toNat*C))))) w:=by
  intro bb f k l u e2 y;simp[execOp,F,u,e2,Instr.indexAt,asIntOf,run_underlying hu,Instr.sureAddr,J9 (w:=w) hn,y.1,y.2,Addr.add_ad]
 unfold I4 at hs;split at hs
 · rename_i cs k l j;simp only[List.cons.injEq,and_true]at j;obtain⟨rfl,rfl⟩:=j;have e2:a.eval i=.int k l:=by simpa[Rel]using B.rel (by simp) (by simp)
   have u:=z.rel (by simp) (by simp);simp only[Rel]at u;obtain⟨bb,f,u,E⟩:=u;split at hs
   · rename_i y;simp only[Option.some.injEq,Prod.mk.injEq]at hs;obtain⟨rfl,rfl,rfl⟩:=hs;exact⟨⟨_,run bb f k l u e2 y,ValOK.mk' (by simp only[Rel]; exact⟨bb,_,rfl,E.drop _⟩) (by simp) (by simp)⟩,rfl,rfl⟩
   · cases hs
 · rename_i I f k l j;simp only[List.cons.injEq,and_true]at j;obtain⟨rfl,rfl⟩:=j;have e2:a.eval i=.int k l:=by simpa[Rel]using B.rel (by simp) (by simp)
   have u:=z.rel (by simp) (by simp);simp only[Rel]at u;split at hs
   · rename_i y;simp only[Option.some.injEq,Prod.mk.injEq]at hs;obtain⟨rfl,rfl,rfl⟩:=hs;exact⟨⟨_,run _ f k l u.2 e2 y,ValOK.mk' (by simp[Rel,u.1]) (by simp) (by simp)⟩,rfl,rfl⟩
   · cases hs
 · rename_i I f k l j;simp only[List.cons.injEq,and_true]at j;obtain⟨rfl,rfl⟩:=j;have e2:a.eval i=.int k l:=by simpa[Rel]using B.rel (by simp) (by simp)
   split at hs
   · rename_i y;simp only[Option.some.injEq,Prod.mk.injEq]at hs;obtain⟨rfl,rfl,rfl⟩:=hs;exact⟨⟨_,run _ f k l z.2 e2 y,⟨z.1,rfl⟩⟩,rfl,rfl⟩
   · cases hs
 · cases hs
theorem c1j {t:TypeId} {x i:Operand} (L:o.op=.index t x i) (hu:c.P.underlying t=some .string)
 (M:ArgsOK g w bx fr as [a.eval x,a.eval i]) (hs:N7 call as b st=some (r,b',st')):s6 c g w bx fr a o r∧b'=b∧st'=st:=by
 obtain⟨p,q,rfl,I,J⟩:=M.two;unfold N7 at hs;split at hs
 · rename_i s k B j;simp only[List.cons.injEq,and_true]at j;obtain⟨rfl,rfl⟩:=j;have e2:a.eval i=.int k B:=by simpa[Rel]using J.rel (by simp) (by simp)
   have z:=I.rel (by simp) (by simp);simp only[Rel]at z;obtain⟨C,z,rfl⟩:=z;split at hs
   · rename_i E;split at hs
     · rename_i n hn;simp only[Option.some.injEq,Prod.mk.injEq]at hs;obtain⟨rfl,rfl,rfl⟩:=hs;rw[List.getElem?_map]at hn;obtain⟨y,F,rfl⟩:=Option.map_eq_some_iff.1 hn;have G:C[B.toNat]?=some y:=by
        obtain⟨l,F⟩:=List.getElem?_eq_some_iff.1 F;have u:B.toNat < C.size:=by rw[Array.length_toList]at l; exact l
        rw[getElem?_pos C B.toNat u];rw[← F]; rfl
       refine⟨⟨.int .u8 y.toNat,?_,ValOK.mk' (by simp[Rel]) (by simp) (by simp)⟩,rfl,rfl⟩;simp[execOp,L,z,e2,Instr.index,asIntOf,run_underlying hu,E,G]
     · cases hs
   · cases hs
 · cases hs
theorem c0r {t u:TypeId} {x:Operand} {k:IntKind} {k0:IntKind} (z:o.op=.convert t u x) (j:c.P.underlying t=some (.int k0)) (hu:c.P.underlying u=some (.int k))
 (B:ArgsOK g w bx fr as [a.eval x]) (hs:R8 k call as b st=some (r,b',st')):s6 c g w bx fr a o r∧b'=b∧st'=st:=by
 obtain⟨p,rfl,l⟩:=B.one;unfold R8 at hs;split at hs
 · rename_i k1 n i;simp only[List.cons.injEq,and_true]at i; subst i;simp only[Option.some.injEq,Prod.mk.injEq]at hs;obtain⟨rfl,rfl,rfl⟩:=hs;have e:a.eval x=.int k1 n:=by simpa[Rel]using l.rel (by simp) (by simp)
   have y:(convert t u (.int k1 n)).run c.P w=.ok (.int k (k.wrap n)) w:=by unfold convert;rw[Sem.run_bind,run_underlying j,Result.andThen_ok,Sem.run_bind,run_underlying hu,Result.andThen_ok];rfl
   refine⟨⟨.int k (k.wrap n),?_,ValOK.mk' ?_ (by simp) (by simp)⟩,rfl,rfl⟩
   · simp only[execOp,z,e,Sem.run_bind,y,Result.andThen_ok,Sem.run_pure]
   · rw[Y6]; simp only[Rel]
 · cases hs
end
end Go.Cb
namespace Go.Cb
theorem a4C {a b:List UInt8} (h:a.map UInt8.toNat=b.map UInt8.toNat):a=b:=by
 induction a generalizing b with
 | nil=>cases b<;>simp_all
 | cons x a i =>
  cases b with
  | nil=>simp at h
  | cons y b =>simp only[List.map_cons,List.cons.injEq]at h;rw[UInt8.toNat_inj.1 h.1,i h.2]
theorem b3d (a b:List UInt8):eqN (a.map UInt8.toNat) (b.map UInt8.toNat)=(a == b):=by rw[a5k,Bool.eq_iff_iff];simp only[beq_iff_eq];exact⟨a4C,fun h=>by rw[h]⟩
theorem a9l:∀ a b:List UInt8,m9 (a.map UInt8.toNat) (b.map UInt8.toNat)=Op.bytesLess a b
 | [],[]=>rfl
 | [],_::_=>rfl
 | _::_,[]=>rfl
 | x::a,y::b=>by
  simp only[List.map_cons,m9,Op.bytesLess,a9l a b,blt_eq];congr 1
  · rw[Bool.eq_iff_iff,Bool.and_eq_true,Bool.and_eq_true];simp[UInt8.toNat_inj]
section
variable {c:Cx} {g:Gh} {w:World} {pr:Nat→Option Pl} {bx:Nat→Nat} {a:Act} {o:Oper} {call:e9} {b b' r:AV} {st st':St} {fr as:List AV}
theorem c3d {t u:TypeId} {x y:Operand} {op:BinOp} {k i:IntKind} {m n:Int} (l:o.op=.binOp op t x y u) (j:a.eval x=.int k m) (e2:a.eval y=.int i n)
 (hs:s4 op (.int k m) (.int i n)=some r):∃ v,(execOp a.eval o).run c.P w=.ok (.value v) w∧ValOK g w No r v:=by
 have key:∀ v,(binOp op t (.int k m) (.int i n)).run c.P w=.ok v w→(execOp a.eval o).run c.P w=.ok (.value v) w:=by
  intro v h;have hg:(eqGuard op t x y (.int k m) (.int i n)).run c.P w=.ok () w:=by cases op<;>rfl
  simp only[execOp,l,j,e2,Sem.run_bind,hg,h,Result.andThen_ok,Sem.run_pure]
 have int:∀ kk z,r=.int kk z→ValOK g w No r (.int kk z):=fun kk z e=>by rw[e]; exact ValOK.mk' (by simp[Rel]) (by simp) (by simp)
 have bool:∀ z,r=.bool z→ValOK g w No r (.bool z):=fun z e=>by rw[e]; exact ValOK.mk' (by simp[Rel]) (by simp) (by simp)
 unfold s4 at hs;by_cases hk:k=i
 · subst hk;cases op<;>simp only[if_true]at hs
   case shl=>split at hs<;>simp at hs; rename_i hn; exact⟨_,key _ (by simp[binOp,Op.shift,hn]),int _ _ hs.symm⟩
   case shr=>split at hs<;>simp at hs; rename_i hn; exact⟨_,key _ (by simp[binOp,Op.shift,hn]),int _ _ hs.symm⟩
   case add=>simp[Y6]at hs; exact⟨_,key _ (by simp[binOp,Op.intArith]),int _ _ hs.symm⟩
   case sub=>simp[Y6]at hs; exact⟨_,key _ (by simp[binOp,Op.intArith]),int _ _ hs.symm⟩
   case mul=>simp[Y6]at hs; exact⟨_,key _ (by simp[binOp,Op.intArith]),int _ _ hs.symm⟩
   case quo=>split at hs<;>simp at hs; rename_i hn; exact⟨_,key _ (by simp[binOp,Op.intDiv,hn]),int _ _ hs.symm⟩
   case rem=>split at hs<;>simp at hs; rename_i hn; exact⟨_,key _ (by simp[binOp,Op.intDiv,hn]),int _ _ hs.symm⟩
   case and=>simp at hs; exact⟨_,key _ (by simp[binOp,Op.intBits]),int _ _ hs.symm⟩
   case or=>simp at hs; exact⟨_,key _ (by simp[binOp,Op.intBits]),int _ _ hs.symm⟩
   case eql=>simp at hs; exact⟨_,key _ (by simp[binOp,Op.intCmp]),bool _ hs.symm⟩
   case neq=>simp at hs; exact⟨_,key _ (by simp[binOp,Op.intCmp,bne]),bool _ hs.symm⟩
   case lss=>simp at hs; exact⟨_,key _ (by simp[binOp,Op.intCmp]),bool _ hs.symm⟩
   case leq=>simp at hs; exact⟨.bool (decide (m≤n)),key _ (by simp[binOp,Op.intCmp]),bool _ (by rw[← hs]; congr 1; rw[Bool.eq_iff_iff]; simp)⟩
   case gtr=>simp at hs; exact⟨_,key _ (by simp[binOp,Op.intCmp]),bool _ hs.symm⟩
   case geq=>simp at hs; exact⟨.bool (decide (m ≥ n)),key _ (by simp[binOp,Op.intCmp]),bool _ (by rw[← hs]; congr 1; rw[Bool.eq_iff_iff]; simp)⟩
   all_goals simp at hs
 · cases op<;>simp only[hk,if_false]at hs
   case shl=>split at hs<;>simp at hs; rename_i hn; exact⟨_,key _ (by simp[binOp,Op.shift,hn]),int _ _ hs.symm⟩
   case shr=>split at hs<;>simp at hs; rename_i hn; exact⟨_,key _ (by simp[binOp,Op.shift,hn]),int _ _ hs.symm⟩
   all_goals simp at hs
theorem c5m {t G:TypeId} {x y:Operand} {op:BinOp} {s u:ByteArray} (F:o.op=.binOp op t x y G) (j:a.eval x=.string s) (e2:a.eval y=.string u)
 (hs:s4 op (.str (s.data.toList.map UInt8.toNat)) (.str (u.data.toList.map UInt8.toNat))=some r):∃ v,(execOp a.eval o).run c.P w=.ok (.value v) w∧ValOK g w No r v:=by
 have key:∀ v,(binOp op t (.string s) (.string u)).run c.P w=.ok v w→(execOp a.eval o).run c.P w=.ok (.value v) w:=by
  intro v h;have hg:(eqGuard op t x y (.string s) (.string u)).run c.P w=.ok () w:=by cases op<;>rfl
  simp only[execOp,F,j,e2,Sem.run_bind,hg,h,Result.andThen_ok,Sem.run_pure]
 have bool:∀ z,r=.bool z→ValOK g w No r (.bool z):=fun z e=>by rw[e]; exact ValOK.mk' (by simp[Rel]) (by simp) (by simp)
 unfold s4 at hs;cases op<;>simp only[b3d,a9l,Option.some.injEq]at hs
 case add =>
  split at hs<;>simp at hs;rename_i hn;refine⟨.string (s++u),key _ ?_,?_⟩
  · have i:¬ (((s.size+u.size:Nat):Int) > IntKind.i64.max):=by
     simp only[List.length_map,Array.length_toList]at hn;have l:s.data.size=s.size:=rfl;have B:u.data.size=u.size:=rfl;have C:IntKind.i64.max=9223372036854775807:=by decide
     rw[C];have E:(2:Nat) ^ 62=4611686018427387904:=by decide
     rw[E,l,B]at hn;omega
    show(Op.stringOp .add s u).run c.P w=_;simp only[Op.stringOp,if_neg i,Sem.run_pure]
  · rw[← hs];refine ValOK.mk' ?_ (by simp) (by simp);simp only[Rel];exact⟨s++u,rfl,by simp[ByteArray.data_append]⟩
 case eql=>exact⟨_,key _ (by simp[binOp,Op.stringOp,ByteArray.toList_eq]),bool _ hs.symm⟩
 case neq=>exact⟨_,key _ (by simp[binOp,Op.stringOp,ByteArray.toList_eq]),bool _ hs.symm⟩
 case lss=>exact⟨_,key _ (by simp[binOp,Op.stringOp,ByteArray.toList_eq]),bool _ hs.symm⟩
 case leq=>exact⟨_,key _ (by simp[binOp,Op.stringOp,ByteArray.toList_eq]),bool _ hs.symm⟩
 case gtr=>exact⟨_,key _ (by simp only[binOp,Op.stringOp,ByteArray.toList_eq,Sem.run_pure]),bool _ hs.symm⟩
 case geq=>exact⟨_,key _ (by simp[binOp,Op.stringOp,ByteArray.toList_eq]),bool _ hs.symm⟩
 all_goals simp at hs
theorem a1b {P:Program} {w:World} {k:IntKind} {t:TypeId} {cs:Array Value} {off:Nat} {v:Value} (hu:P.underlying t=some (.int k)∨P.underlying t=some .string) (i:cs[off]?=some v):(part t cs off).run P w=.ok v w:=by rcases hu with hu|hu<;>simp[part,isAgg,run_underlying hu,i]
theorem c0j {t yt:TypeId} {x y:Operand} {neg:Bool} {f0 f1:Field} {k0:IntKind} (O:o.op=.binOp (if neg then .neq else .eql) t x y yt) (hm:c.P.eqGuardType c.P.depth t=false) (C:c.P.stoodInHeld t=false)
 (hu:c.P.underlying t=some (.struct #[f0,f1])) (Z:f0.name≠ "_") (n1:f1.name≠ "_") (o0:f0.offset=0) (o1:f1.offset=1) (L:c.P.underlying f0.type=some (.int k0)) (M:c.P.underlying f1.type=some .string)
 (Y:ArgsOK g w bx fr as [a.eval x,a.eval y]) (hs:W9 neg call as b st=some (r,b',st')):s6 c g w bx fr a o r∧b'=b∧st'=st:=by
 obtain⟨p,q,rfl,W,X⟩:=Y.two;unfold W9 at hs;split at hs
 case h_2=>cases hs
 rename_i k m s k' n l j;simp only[List.cons.injEq,and_true]at j;obtain⟨rfl,rfl⟩:=j;split at hs
 case isFalse=>cases hs
 rename_i hk;subst hk;simp only[Option.some.injEq,Prod.mk.injEq]at hs;obtain⟨rfl,rfl,rfl⟩:=hs;have i:=W.rel (by simp) (by simp);have e2:=X.rel (by simp) (by simp);simp only[Rel,RelL]at i e2;obtain⟨xs,i,⟨_,_,U,rfl,_,_,rfl,⟨u,rfl,z⟩,rfl⟩,_⟩:=i;obtain⟨ys,e2,⟨_,_,V,rfl,_,_,rfl,⟨cs,rfl,B⟩,rfl⟩,_⟩:=e2;have F:xs[0]?=some (.int k m):=by rw[← Array.getElem?_toList,U]; rfl
 have G:xs[1]?=some (.string u):=by rw[← Array.getElem?_toList,U]; rfl
 have I:ys[0]?=some (.int k n):=by rw[← Array.getElem?_toList,V]; rfl
 have J:ys[1]?=some (.string cs):=by rw[← Array.getElem?_toList,V]; rfl
 have N:c.P.fieldsOf t=#[f0,f1]:=by unfold Program.fieldsOf; rw[hu]
 have E:(u.toList == cs.toList)=eqN s l:=by rw[a5k,← z,← B,ByteArray.toList_eq,ByteArray.toList_eq,Bool.eq_iff_iff];simp only[beq_iff_eq];exact⟨fun h=>by rw[h],fun h=>a4C h⟩
 have S:(Op.equalIn 10000 t (.agg xs) (.agg ys)).run c.P w=.ok (eqI m n && eqN s l) w:=by
  rw[show(10000:Nat)=9999+1 from rfl,run_equalIn_struct w 9999 t xs ys (by rw[hu,N]) C,N];simp only[Op.eqFields,Z,n1,o0,o1,ne_eq,not_false_eq_true,if_true,Sem.run_bind,a1b (.inl L) F,a1b (.inl L) I,Result.andThen_ok];rw[show(9999:Nat)=9998+1 from rfl,run_equalIn_int w 9998 f0.type k k0 m n L];have p1:=a1b (w:=w) (k:=.i64) (.inr M) G;have p2:=a1b (w:=w) (k:=.i64) (.inr M) J;simp only[Result.andThen_ok,← eqI_eq];cases eqI m n with
  | false=>simp
  | true =>simp only[Bool.not_true,Bool.false_eq_true,if_false,Sem.run_bind,p1,p2,Result.andThen_ok,run_equalIn_string w 9998 f1.type u cs M,E];cases eqN s l<;>simp
 refine⟨⟨.bool (a7S neg m n s l),?_,ValOK.mk' (by simp[Rel]) (by simp) (by simp)⟩,rfl,rfl⟩;cases neg with
 | false=>simp[execOp,O,i,e2,run_eqGuard_agg w .eql t x y xs ys hm,run_eql_struct w t xs ys,S,a7S]
 | true=>simp[execOp,O,i,e2,run_eqGuard_agg w .neq t x y xs ys hm,run_neq_struct w t xs ys,S,a7S]
theorem c5k {t J:TypeId} {x y:Operand} {op:BinOp} (E:o.op=.binOp op t x y J) (G:ArgsOK g w bx fr as [a.eval x,a.eval y])
 (hs:F1 op call as b st=some (r,b',st')):s6 c g w bx fr a o r∧b'=b∧st'=st:=by
 obtain⟨p,q,rfl,z,B⟩:=G.two;simp only[F1]at hs;obtain⟨v,j,C⟩:=Option.map_eq_some_iff.1 hs;simp only[Prod.mk.injEq]at C;obtain⟨rfl,rfl,rfl⟩:=C;have F:∀ i f,v≠.loc i f:=by
  intro i f e;subst e;unfold s4 at j;split at j
  · cases op<;>simp at j<;>(first|(split at j<;>simp at j)|skip)<;>(first|(split at j<;>simp at j)|skip)
  · cases op<;>simp at j
  · cases j
 unfold s4 at j;split at j
 · rename_i k m I n;have l:a.eval x=.int k m:=by simpa[Rel]using z.rel (by simp) (by simp)
   have e2:a.eval y=.int I n:=by simpa[Rel]using B.rel (by simp) (by simp)
   obtain⟨u,hu,hk⟩:=c3d (c:=c) (g:=g) (w:=w) E l e2 (r:=v) (by unfold s4; exact j);exact⟨⟨u,hu,ArgOK.of_val hk F⟩,rfl,rfl⟩
 · have l:=z.rel (by simp) (by simp);have e2:=B.rel (by simp) (by simp);simp only[Rel]at l e2;obtain⟨s,l,rfl⟩:=l;obtain⟨u,e2,rfl⟩:=e2;obtain⟨u,hu,hk⟩:=c5m (c:=c) (g:=g) (w:=w) E l e2 (r:=v) (by unfold s4; exact j);exact⟨⟨u,hu,ArgOK.of_val hk F⟩,rfl,rfl⟩
 · cases j
theorem U5 (t:TypeId) (x y:Value):Op.equal t x y=Op.equalIn (9999+1) t x y:=rfl
theorem b9O {t F:TypeId} {x y:Operand} {op:BinOp} (z:o.op=.binOp op t x y F) (hu:c.P.underlying t=some .bool) (E:ArgsOK g w bx fr as [a.eval x,a.eval y])
 (hs:S7 op call as b st=some (r,b',st')):s6 c g w bx fr a o r∧b'=b∧st'=st:=by
 obtain⟨p,q,rfl,B,C⟩:=E.two;simp only[S7]at hs;obtain⟨v,i,u⟩:=Option.map_eq_some_iff.1 hs;simp only[Prod.mk.injEq]at u;obtain⟨rfl,rfl,rfl⟩:=u;unfold a6k at i;split at i
 · rename_i m n;have l:a.eval x=.bool m:=by simpa[Rel]using B.rel (by simp) (by simp)
   have e2:a.eval y=.bool n:=by simpa[Rel]using C.rel (by simp) (by simp)
   have j:(Op.equal t (.bool m) (.bool n)).run c.P w=.ok (m == n) w:=by rw[U5,Op.equalIn,Sem.run_bind,run_underlying hu,Result.andThen_ok];rfl
   cases op<;>simp at i
   · subst i;have hg:(eqGuard .eql t x y (.bool m) (.bool n)).run c.P w=.ok () w:=rfl;exact⟨⟨.bool (m == n),by simp only[execOp,z,l,e2,hg,binOp,Sem.run_bind,j,Result.andThen_ok,Sem.run_pure],ValOK.mk' (by simp[Rel]) (by simp) (by simp)⟩,rfl,rfl⟩
   · subst i;have hg:(eqGuard .neq t x y (.bool m) (.bool n)).run c.P w=.ok () w:=rfl;exact⟨⟨.bool !(m == n),by simp only[execOp,z,l,e2,hg,binOp,Sem.run_bind,j,Result.andThen_ok,Sem.run_pure],ValOK.mk' (by simp[Rel]) (by simp) (by simp)⟩,rfl,rfl⟩
 · cases i
theorem b9m {t I e:TypeId} {x y:Operand} {op:BinOp} (F:o.op=.binOp op t x y I) (hu:c.P.underlying t=some (.pointer e)) (C:op≠.lss∧op≠.gtr) (G:ArgsOK g w bx fr as [a.eval x,a.eval y])
 (hs:N8 op call as b st=some (r,b',st')):s6 c g w bx fr a o r∧b'=b∧st'=st:=by
 obtain⟨p,q,rfl,l,u⟩:=G.two;simp only[N8]at hs;obtain⟨v,j,E⟩:=Option.map_eq_some_iff.1 hs;simp only[Prod.mk.injEq]at E;obtain⟨rfl,rfl,rfl⟩:=E;have key:∀ (p1 p2:Option Addr) (z:Bool),a.eval x=.pointer p1→a.eval y=.pointer p2→(Op.equal t (.pointer p1) (.pointer p2)).run c.P w=.ok z w →
  (op=.eql→(execOp a.eval o).run c.P w=.ok (.value (.bool z)) w)∧(op=.neq→(execOp a.eval o).run c.P w=.ok (.value (.bool !z)) w):=by
  intro p1 p2 z i e2 B;constructor
  · intro eo; subst eo;have hg:∀ o,(eqGuard o t x y (.pointer p1) (.pointer p2)).run c.P w=.ok () w:=fun o=>by cases o<;>rfl
    simp only[execOp,F,i,e2,hg,binOp,Sem.run_bind,B,Result.andThen_ok,Sem.run_pure]
  · intro eo; subst eo;have hg:∀ o,(eqGuard o t x y (.pointer p1) (.pointer p2)).run c.P w=.ok () w:=fun o=>by cases o<;>rfl
    simp only[execOp,F,i,e2,hg,binOp,Sem.run_bind,B,Result.andThen_ok,Sem.run_pure]
 have bool:∀ z,ValOK g w No (.bool z) (.bool z):=fun z=>ValOK.mk' (by simp[Rel]) (by simp) (by simp)
 unfold a0L at j;split at j
 · have i:=l.rel (by simp) (by simp);have e2:=u.rel (by simp) (by simp);simp only[Rel]at i e2;obtain⟨k1,k2⟩:=key _ _ false i.2 e2 (by rw[U5,Op.equalIn,Sem.run_bind,run_underlying hu,Result.andThen_ok]; rfl);cases op<;>simp at j
   · subst j; exact⟨⟨_,k1 rfl,bool _⟩,rfl,rfl⟩
   · subst j; exact⟨⟨_,k2 rfl,bool _⟩,rfl,rfl⟩
 · have i:=l.rel (by simp) (by simp);have e2:=u.rel (by simp) (by simp);simp only[Rel]at i e2;obtain⟨k1,k2⟩:=key _ _ false i e2.2 (by rw[U5,Op.equalIn,Sem.run_bind,run_underlying hu,Result.andThen_ok]; rfl);cases op<;>simp at j
   · subst j; exact⟨⟨_,k1 rfl,bool _⟩,rfl,rfl⟩
   · subst j; exact⟨⟨_,k2 rfl,bool _⟩,rfl,rfl⟩
 · have i:=l.rel (by simp) (by simp);have e2:=u.rel (by simp) (by simp);simp only[Rel]at i e2;obtain⟨k1,k2⟩:=key _ _ true i e2 (by rw[U5,Op.equalIn,Sem.run_bind,run_underlying hu,Result.andThen_ok]; rfl);cases op<;>simp at j
   · subst j; exact⟨⟨_,k1 rfl,bool _⟩,rfl,rfl⟩
   · subst j; exact⟨⟨_,k2 rfl,bool _⟩,rfl,rfl⟩
 · have i:=l.rel (by simp) (by simp);have e2:=u.rel (by simp) (by simp);simp only[Rel]at i e2;obtain⟨_,_,i,_⟩:=i;obtain⟨k1,k2⟩:=key _ _ false i e2 (by rw[U5,Op.equalIn,Sem.run_bind,run_underlying hu,Result.andThen_ok]; rfl);cases op<;>simp at j
   · subst j; exact⟨⟨_,k1 rfl,bool _⟩,rfl,rfl⟩
   · subst j; exact⟨⟨_,k2 rfl,bool _⟩,rfl,rfl⟩
 · have i:=l.rel (by simp) (by simp);have e2:=u.rel (by simp) (by simp);simp only[Rel]at i e2;obtain⟨_,_,e2,_⟩:=e2;obtain⟨k1,k2⟩:=key _ _ false i e2 (by rw[U5,Op.equalIn,Sem.run_bind,run_underlying hu,Result.andThen_ok]; rfl);cases op<;>simp at j
   · subst j; exact⟨⟨_,k1 rfl,bool _⟩,rfl,rfl⟩
   · subst j; exact⟨⟨_,k2 rfl,bool _⟩,rfl,rfl⟩
 · obtain⟨o1,o2⟩:=C;cases op<;>simp at j o1 o2
 · cases j
theorem c1O {t G:TypeId} {ms:Array (String×TypeId)} {x:Operand} {op l:BinOp} (C:o.op=.binOp l t x (.const .nilIface) G) (hu:c.P.underlying t=some (.interface ms)) (i:l=.eql∧op=.lss∨l=.neq∧op=.gtr) (F:ArgsOK g w bx fr as [a.eval x,a.eval (.const .nilIface)])
 (hs:N8 op call as b st=some (r,b',st')):s6 c g w bx fr a o r∧b'=b∧st'=st:=by
 obtain⟨p,q,rfl,E,I⟩:=F.two;simp only[N8]at hs;obtain⟨v,j,B⟩:=Option.map_eq_some_iff.1 hs;simp only[Prod.mk.injEq]at B;obtain⟨rfl,rfl,rfl⟩:=B;have bool:∀ z,ValOK g w No (.bool z) (.bool z):=fun z=>ValOK.mk' (by simp[Rel]) (by simp) (by simp)
 unfold a0L at j;split at j
 · rcases i with⟨rfl,rfl⟩|⟨rfl,rfl⟩<;>cases j
 · rcases i with⟨rfl,rfl⟩|⟨rfl,rfl⟩<;>cases j
 · rcases i with⟨rfl,rfl⟩|⟨rfl,rfl⟩<;>cases j
 · rcases i with⟨rfl,rfl⟩|⟨rfl,rfl⟩<;>cases j
 · rcases i with⟨rfl,rfl⟩|⟨rfl,rfl⟩<;>cases j
 · have y:a.eval x=.nilIface:=by simpa[Rel]using E.rel (by simp) (by simp)
   have e2:a.eval (.const .nilIface)=.nilIface:=rfl;have u:(Op.equal t .nilIface .nilIface).run c.P w=.ok true w:=by rw[U5,Op.equalIn,Sem.run_bind,run_underlying hu,Result.andThen_ok]; rfl
   have hg:∀ o,(eqGuard o t x (.const .nilIface) .nilIface .nilIface).run c.P w=.ok () w:=fun o=>by cases o<;>first|rfl|(unfold eqGuard; simp)
   rcases i with⟨rfl,rfl⟩|⟨rfl,rfl⟩
   · cases j;exact⟨⟨.bool true,by simp only[execOp,C,y,e2,hg,binOp,Sem.run_bind,u,Result.andThen_ok,Sem.run_pure],bool _⟩,rfl,rfl⟩
   · cases j;exact⟨⟨.bool false,by simp only[execOp,C,y,e2,hg,binOp,Sem.run_bind,u,Result.andThen_ok,Sem.run_pure,Bool.not_true],bool _⟩,rfl,rfl⟩
 · cases j
end
end Go.Cb
namespace Go.Cb
section
variable {c:Cx} {g:Gh} {w:World} {pr:Nat→Option Pl} {bx:Nat→Nat} {a:Act} {o:Oper} {call:e9} {b b' r:AV} {st st':St} {fr as:List AV}
theorem b0u {P:Program} {x:AV} {v:Value} {j n:Nat} {code:BoundsCode} (h:R2 x j=some n) (t:ArgOK g w bx fr No x v):(Instr.sliceBound v j code).run P w=.ok n w∧n≤j:=by
 unfold R2 at h;split at h
 · rename_i k i;split at h
   · rename_i l;simp only[Option.some.injEq]at h;subst h;have e:v=.int k i:=by simpa[Rel]using t.rel (by simp) (by simp)
     subst e;exact⟨by simp[Instr.sliceBound,asIntOf,l.1,l.2],by omega⟩
   · cases h
 · cases h
theorem a2H {P:Program} {isS:Bool} {len cap:Nat} {low high:Option Value} {rs:List AV} {l h:Nat} (t:H2 low.isSome high.isSome rs len=some (l,h))
 (B:ArgsOK g w bx fr rs (low.toList++high.toList)) (I:len≤cap):(∃ F,(Instr.sliceBounds isS len cap low high none).run P w=.ok (l,F,cap) w∧F=h)∧l≤h∧h≤len:=by
 have G:∀ {x:AV} {v:Value} {n:Nat} {code:BoundsCode},R2 x len=some n→ArgOK g w bx fr No x v→(Instr.sliceBound v cap code).run P w=.ok n w∧n≤len:=by
  intro x v n code j C;unfold R2 at j;split at j
  · rename_i k i;split at j
    · rename_i E;simp only[Option.some.injEq]at j;subst j;have e:v=.int k i:=by simpa[Rel]using C.rel (by simp) (by simp)
      subst e;exact⟨by simp[Instr.sliceBound,asIntOf,E.1,show i≤(cap:Int)by omega],by omega⟩
    · cases j
  · cases j
 cases low with
 | none =>
  cases high with
  | none =>cases B;simp only[H2,Option.isSome_none,Option.some.injEq,Prod.mk.injEq]at t;obtain⟨rfl,rfl⟩:=t;exact⟨⟨_,by simp[Instr.sliceBounds],rfl⟩,Nat.zero_le _,Nat.le_refl _⟩
  | some J =>obtain⟨p,rfl,j⟩:=ArgsOK.one (by simpa using B);simp only[H2,Option.isSome_none,Option.isSome_some]at t;obtain⟨n,hn,u⟩:=Option.map_eq_some_iff.1 t;simp only[Prod.mk.injEq]at u;obtain⟨rfl,rfl⟩:=u;obtain⟨y,z⟩:=G (code:=if isS then .sliceAcap else .sliceAlen) hn j;exact⟨⟨_,by simp[Instr.sliceBounds,y],rfl⟩,Nat.zero_le _,z⟩
 | some lv =>
  cases high with
  | none =>obtain⟨p,rfl,j⟩:=ArgsOK.one (by simpa using B);simp only[H2,Option.isSome_none,Option.isSome_some]at t;obtain⟨n,hn,u⟩:=Option.map_eq_some_iff.1 t;simp only[Prod.mk.injEq]at u;obtain⟨rfl,rfl⟩:=u;obtain⟨y,z⟩:=b0u (P:=P) (code:=.sliceB) hn j;exact⟨⟨_,by simp[Instr.sliceBounds,y],rfl⟩,z,Nat.le_refl _⟩
  | some J =>
   obtain⟨p,q,rfl,j,C⟩:=ArgsOK.two (by simpa using B);simp only[H2,Option.isSome_some]at t;split at t
   · rename_i m hm;obtain⟨n,hn,u⟩:=Option.map_eq_some_iff.1 t;simp only[Prod.mk.injEq]at u;obtain⟨rfl,rfl⟩:=u;obtain⟨y,z⟩:=G (code:=if isS then .sliceAcap else .sliceAlen) hm C;obtain⟨L,v2⟩:=b0u (P:=P) (code:=.sliceB) hn j;exact⟨⟨_,by simp[Instr.sliceBounds,y,L],rfl⟩,v2,z⟩
   · cases t
theorem ArgsOK.cons_inv {v:Value} {vs:List Value} (h:ArgsOK g w bx fr as (v::vs)):∃ p i,as=p::i∧ArgOK g w bx fr No p v∧ArgsOK g w bx fr i vs:=by cases h with|cons j h=>exact⟨_,_,rfl,j,h⟩
theorem c64 {t:TypeId} {x:Operand} {B hi:Option Operand} (J:o.op=.slice t x B hi none) (hu:c.P.underlying t=some .string)
 (L:ArgsOK g w bx fr as (a.eval x::((B.map a.eval).toList++(hi.map a.eval).toList))) (hs:S0 B.isSome hi.isSome call as b st=some (r,b',st')):s6 c g w bx fr a o r∧b'=b∧st'=st:=by
 obtain⟨p,N,rfl,G,I⟩:=L.cons_inv;unfold S0 at hs;split at hs
 · rename_i s rs i;simp only[List.cons.injEq]at i;obtain⟨rfl,rfl⟩:=i;obtain⟨⟨l,h⟩,C,E⟩:=Option.map_eq_some_iff.1 hs;simp only[Prod.mk.injEq]at E;obtain⟨rfl,rfl,rfl⟩:=E;have z:=G.rel (by simp) (by simp);simp only[Rel]at z;obtain⟨y,z,rfl⟩:=z;have j:(y.data.toList.map UInt8.toNat).length=y.size:=by rw[List.length_map]; rfl
   rw[j]at C;obtain⟨⟨F,u,rfl⟩,hl,M⟩:=a2H (P:=c.P) (isS:=false) (low:=B.map a.eval) (high:=hi.map a.eval) (cap:=y.size) (by simpa using C) I (Nat.le_refl _);refine⟨⟨.string (y.extract l F),?_,ValOK.mk' ?_ (by simp) (by simp)⟩,rfl,rfl⟩
   · simp[execOp,J,z,Instr.sliceAt,Instr.slice,run_underlying hu,u]
   · simp only[Rel];refine⟨_,rfl,?_⟩;rw[ByteArray.data_extract,Array.toList_extract,List.extract_eq_take_drop,← List.map_take,← List.map_drop,List.drop_take]
 · cases hs
theorem c6x {t e:TypeId} {x:Operand} {M hi:Option Operand} {N:Nat} (ho:o.op=.slice t x M hi none) (hu:c.P.underlying t=some (.slice e)) (hn:C8 c e=some N)
 (hr:ArgsOK g w bx fr as (a.eval x::((M.map a.eval).toList++(hi.map a.eval).toList))) (hs:P3 N M.isSome hi.isSome call as b st=some (r,b',st')):s6 c g w bx fr a o r∧b'=b∧st'=st:=by
 obtain⟨p,ps,rfl,Y,Z⟩:=hr.cons_inv;unfold P3 at hs;split at hs
 · rename_i own xs rs u;simp only[List.cons.injEq]at u;obtain⟨rfl,rfl⟩:=u;split at hs
   · rename_i C;obtain⟨⟨l,h⟩,O,G⟩:=Option.map_eq_some_iff.1 hs;simp only[Prod.mk.injEq]at G;obtain⟨rfl,rfl,rfl⟩:=G;have z:=Y.rel (by simp) (by simp);simp only[Rel]at z;obtain⟨a0,n,cap,z,rfl,j,I,hx⟩:=z;obtain⟨⟨F,y,rfl⟩,hl,hh⟩:=a2H (P:=c.P) (isS:=true) (low:=M.map a.eval) (high:=hi.map a.eval) (cap:=cap) (by simpa using O) Z j;refine⟨⟨.slice (if cap=l then a0 else a0.map (·.add (l*N))) (F - l) (cap - l),?_,ValOK.mk' ?_ (by simp) (by simp)⟩,rfl,rfl⟩
     · simp[execOp,ho,z,Instr.sliceAt,Instr.slice,run_underlying hu,y,J9 (w:=w) hn]
     · simp only[Rel];refine⟨_,_,_,rfl,by simp; omega,by omega,fun B=>?_,fun V=>?_⟩
       · have:a0=none:=by split at B<;>simp_all
         have:=I this;omega
       · have a1:l < F:=by
          rcases Nat.lt_or_ge l F with h0|h0
          · exact h0
          · exact absurd (by rw[List.drop_eq_nil_iff]; simp; omega) V
         have L:xs≠[]:=by intro h0; subst h0; simp at hh; omega
         obtain⟨bb,f,E,rfl,J⟩:=hx L;obtain rfl:E=N:=by
          cases xs with
          | nil=>exact absurd rfl L
          | cons row rest =>simp only[s5,beq_iff_eq]at C;simp only[RelRows]at J;omega
         rw[if_neg (by omega)];exact⟨bb,f+l*E,E,by simp[Addr.add_ad],(J.take F).drop l⟩
   · cases hs
 · rename_i oo f n s rs u;simp only[List.cons.injEq]at u;obtain⟨rfl,rfl⟩:=u;split at hs
   · rename_i X;subst X;obtain⟨⟨l,h⟩,i,G⟩:=Option.map_eq_some_iff.1 hs;simp only[Prod.mk.injEq]at G;obtain⟨rfl,rfl,rfl⟩:=G;unfold slB at i;split at i
     case h_2=>cases i
     rename_i p O;split at i
     case isFalse=>cases i
     rename_i hlc;obtain rfl:=Option.some.inj i;have z:=Y.rel (by simp) (by simp);simp only[Rel]at z;obtain⟨W,cap,z,j,S⟩:=z;obtain⟨⟨F,y,U⟩,hl,hh⟩:=a2H (P:=c.P) (isS:=true) (low:=M.map a.eval) (high:=hi.map a.eval) (cap:=cap) (by simpa using O) Z j;subst U;dsimp only at hlc;refine⟨⟨.slice (if cap=l then some (ad (g.m oo) f)else(some (ad (g.m oo) f)).map (·.add (l*s))) (F - l) (cap - l),?_,ValOK.mk' ?_ (by simp) (by simp)⟩,rfl,rfl⟩
     · simp[execOp,ho,z,Instr.sliceAt,Instr.slice,run_underlying hu,y,J9 (w:=w) hn]
     · simp only[Rel];refine⟨W,cap - l,?_,by omega,?_⟩
       · rcases hlc with rfl|hlc
         · simp[Addr.add_ad]
         · rw[if_neg (by omega)];simp[Addr.add_ad]
       · rw[← S,Nat.add_assoc,← Nat.add_mul];congr 2;omega
   · cases hs
 · cases hs
theorem c3e {t e:TypeId} {x:Operand} {k u:IntKind} (E:o.op=.slice t x none (some (.const (.int k 0))) (some (.const (.int u 0)))) (hu:c.P.underlying t=some (.slice e)) (hn:(C8 c e).isSome=true)
 (F:ArgsOK g w bx fr as [a.eval x]) (hs:Y8 call as b st=some (r,b',st')):s6 c g w bx fr a o r∧b'=b∧st'=st:=by
 obtain⟨p,rfl,C⟩:=F.one;unfold Y8 at hs;split at hs
 · rename_i own xs i;simp only[List.cons.injEq,and_true]at i; subst i;simp only[Option.some.injEq,Prod.mk.injEq]at hs;obtain⟨rfl,rfl,rfl⟩:=hs;have j:=C.rel (by simp) (by simp);simp only[Rel]at j;obtain⟨a0,n,cap,j,rfl,y,z,G⟩:=j;obtain⟨I,l⟩:=Option.isSome_iff_exists.1 hn;refine⟨⟨.slice a0 0 0,?_,⟨by simp only[Rel]; exact⟨a0,0,0,rfl,rfl,Nat.le_refl _,fun _=>rfl,fun h=>absurd rfl h⟩,fun xs _=>.inl ⟨a0,0,rfl⟩,fun cs e=>(by cases e)⟩⟩,rfl,rfl⟩;have c1:a.eval (.const (.int k 0))=.int k 0:=rfl;have B:a.eval (.const (.int u 0))=.int u 0:=rfl;simp[execOp,E,j,c1,B,Instr.sliceAt,Instr.slice,run_underlying hu,Instr.sliceBounds,Instr.sliceBound,asIntOf,J9 (w:=w) l]
 · cases hs
theorem a6I:∀ {len i:Nat} {cs:List AV} {bb f:Nat},cs.length=len*i→RelCells g w bb f cs→RelRows g w bb f i (W4 i len cs)
 | 0,_,_,_,_,_,_=>by simp[W4,RelRows]
 | len+1,i,cs,bb,f,hl,h=>by rw[Nat.succ_mul]at hl;simp only[W4,RelRows];exact⟨by rw[List.length_take]; omega,h.take i,a6I (by rw[List.length_drop]; omega) (h.drop i)⟩
theorem a1z:∀ (i len:Nat) (cs:List AV),(W4 i len cs).length=len
 | _,0,_=>rfl
 | i,len+1,cs=>by simp[W4,a1z i len]
theorem c3T {t e:TypeId} {x:Operand} {E hi:Option Operand} {len z:Nat} (O:o.op=.slice t x E hi none) (hu:c.P.underlying t=some (.array len e)) (hn:C8 c e=some z)
 (S:ArgsOK g w bx fr as (a.eval x::((E.map a.eval).toList++(hi.map a.eval).toList))) (hs:W2 len z E.isSome hi.isSome call as b st=some (r,b',st')):s6 c g w bx fr a o r∧b'=b∧st'=st:=by
 obtain⟨p,V,rfl,I,J⟩:=S.cons_inv;unfold W2 at hs;split at hs
 · rename_i cs rs j;simp only[List.cons.injEq]at j;obtain⟨rfl,rfl⟩:=j;split at hs
   · rename_i u;obtain⟨⟨l,h⟩,L,G⟩:=Option.map_eq_some_iff.1 hs;simp only[Prod.mk.injEq]at G;obtain⟨rfl,rfl,rfl⟩:=G;have B:=I.rel (by simp) (by simp);simp only[Rel]at B;obtain⟨bb,f,B,M⟩:=B;obtain⟨⟨C,y,rfl⟩,hl,U⟩:=a2H (P:=c.P) (isS:=false) (low:=E.map a.eval) (high:=hi.map a.eval) (cap:=len) (by simpa using L) J (Nat.le_refl _);refine⟨⟨.slice (some (if len=l then ad bb f else(ad bb f).add (l*z))) (C - l) (len - l),?_,ValOK.mk' ?_ (by simp) (by simp)⟩,rfl,rfl⟩
     · simp[execOp,O,B,Instr.sliceAt,run_underlying hu,Instr.sureAddr,y,J9 (w:=w) hn]
     · simp only[Rel];refine⟨_,_,_,rfl,by rw[List.length_drop,List.length_take,a1z]; omega,by omega,fun i=>by simp at i,fun F=>?_⟩;have N:l < C:=by
        rcases Nat.lt_or_ge l C with h0|h0
        · exact h0
        · exact absurd (by rw[List.drop_eq_nil_iff,List.length_take,a1z]; omega) F
       rw[if_neg (by omega),Addr.add_ad];exact⟨bb,f+l*z,z,rfl,((a6I u M).take C).drop l⟩
   · cases hs
 · cases hs
theorem a0R:∀ {as:List AV} {vs:List Value},ArgsOK g w bx fr as vs→y9 as=true→RelL g w (as.map AV.weak) vs
 | [],_,h,_=>by cases h; simp[RelL]
 | x::as,_,h,hp=>by
  cases h with
  | cons i j =>simp only[y9,Bool.and_eq_true]at hp;simp only[List.map_cons,RelL];exact⟨_,_,rfl,(i.plain hp.1).rel.weak,a0R j hp.2⟩
theorem c6k {f n:Nat} {first i:Array Operand} (j:o.op=.makeFunc (.func f) first i) (hn:first.size=n) (t:ArgsOK g w bx fr as ((first++i).toList.map a.eval))
 (hs:Y3 f n call as b st=some (r,b',st')):s6 c g w bx fr a o r∧b'=b∧st'=st:=by
 unfold Y3 at hs;split at hs
 · rename_i l;simp only[Option.some.injEq,Prod.mk.injEq]at hs;obtain⟨rfl,rfl,rfl⟩:=hs;have hl:=a0R t l;refine⟨⟨.func (.func f) (first.map a.eval) (i.map a.eval),by simp[execOp,j,Instr.makeFunc],ValOK.mk' ?_ (by simp) (by simp)⟩,rfl,rfl⟩;simp only[Rel];refine⟨_,_,rfl,?_,?_⟩
   · have:=hl.take n;rw[show((first++i).toList.map a.eval).take n=(first.map a.eval).toList by simp[← hn]]at this;exact this
   · have:=hl.drop n;rw[show((first++i).toList.map a.eval).drop n=(i.map a.eval).toList by simp[← hn]]at this;exact this
 · cases hs
end
end Go.Cb
namespace Go.Cb
theorem b1f (off:Nat):∀ (l:List Value) (k:Nat) (arr:Array Value),off+k+l.length≤arr.size →
 ((l.zipIdx k).foldl (fun cs (x:Value×Nat)=>cs.setIfInBounds (off+x.2) x.1) arr).toList=arr.toList.take (off+k)++l++arr.toList.drop (off+k+l.length)
 | [],k,arr,_=>by simp
 | v::l,k,arr,h=>by simp only[List.length_cons]at h;rw[List.zipIdx_cons,List.foldl_cons,b1f off l (k+1) (arr.setIfInBounds (off+k) v) (by simp; omega)];have:=list_seg_step arr.toList (off+k) v l (by simpa using by omega);rw[Array.toList_setIfInBounds,show off+(k+1)=off+k+1 by omega];simpa[List.length_cons,Nat.add_assoc]using this
theorem a6U (v:Value) (off:Nat) (arr:Array Value) (h:off+v.cells.size≤arr.size) :
 (v.cells.zipIdx.foldl (fun cs x=>match x with|(c,j)=>cs.setIfInBounds (off+j) c) arr).toList=arr.toList.take off++v.cells.toList++arr.toList.drop (off+v.cells.size):=by
 have:=b1f off v.cells.toList 0 arr (by simpa using h);rw[← Array.foldl_toList,Array.toList_zipIdx];simpa using this
section
variable {c:Cx} {g:Gh} {w:World} {pr:Nat→Option Pl} {bx:Nat→Nat} {a:Act} {o:Oper} {call:e9} {b b' r:AV} {st st':St} {fr as:List AV}
structure RowOK (g:Gh) (w:World) (cs:List AV) (vs:List Value):Prop where
 rel:RelL g w cs vs
 one:∀ v∈vs,v.oneCell'=true
 own:∀ (k:Nat) (x:AV) (v:Value),cs[k]?=some x→vs[k]?=some v→OwnN x v
theorem RowOK.append {cs l:List AV} {vs us:List Value} (h:RowOK g w cs vs) (j:RowOK g w l us):RowOK g w (cs++l) (vs++us):=by
 refine⟨h.rel.append j.rel,fun v hv=>?_,fun k x v i hv=>?_⟩
 · rcases List.mem_append.1 hv with hv|hv
   · exact h.one v hv
   · exact j.one v hv
 · have hl:=h.rel.length;by_cases hk:k < cs.length
   · rw[List.getElem?_append_left hk]at i;rw[List.getElem?_append_left (by omega)]at hv;exact h.own k x v i hv
   · rw[List.getElem?_append_right (by omega)]at i;rw[List.getElem?_append_right (by omega),← hl]at hv;exact j.own _ x v i hv
theorem RowOK.take {cs:List AV} {vs:List Value} (h:RowOK g w cs vs) (n:Nat):RowOK g w (cs.take n) (vs.take n):=by
 refine⟨h.rel.take n,fun v i=>h.one v (List.mem_of_mem_take i),fun k x v j i=>?_⟩;rw[List.getElem?_take]at j i;split at j
 · rename_i hk;rw[if_pos hk]at i;exact h.own k x v j i
 · cases j
theorem RowOK.drop {cs:List AV} {vs:List Value} (h:RowOK g w cs vs) (n:Nat):RowOK g w (cs.drop n) (vs.drop n):=by refine⟨h.rel.drop n,fun v i=>h.one v (List.mem_of_mem_drop i),fun k x v j i=>?_⟩;rw[List.getElem?_drop]at j i;exact h.own _ x v j i
theorem RowOK.weak {cs:List AV} {vs:List Value} (h:RowOK g w cs vs):RowOK g w (cs.map AV.weak1) vs:=by
 refine⟨h.rel.weak1,h.one,fun k x v i l xs e=>?_⟩;rw[List.getElem?_map]at i;cases j:cs[k]? with
 | none=>simp[j]at i
 | some d=>simp[j]at i; subst i; cases d<;>simp[AV.weak1]at e
theorem b1a {x:AV} {v:Value} (h:ArgOK g w bx fr No x v) (z:x.plain=true):RowOK g w x.cells v.cells.toList:=by
 have t:=h.plain z;cases x with
 | agg cs =>have i:=t.rel;simp only[Rel]at i;obtain⟨arr,rfl,B,C⟩:=i;exact⟨B,C,fun k y u j hu=>t.agg cs rfl arr rfl k y u j (by simpa[Value.cells]using hu)⟩
 | undef=>simp[AV.plain]at z
 | loc=>simp[AV.plain]at z
 | box=>simp[AV.plain]at z
 | tuple=>simp[AV.plain]at z
 | fresh=>simp[AV.plain]at z
 | list own xs =>
  have i:=t.rel;simp only[Rel]at i;obtain⟨a0,n,cap,rfl,_⟩:=i;refine⟨by simp only[AV.cells,Value.cells,RelL]; exact⟨_,[],rfl,t.rel,rfl⟩,by simp[Value.cells,Value.oneCell'],fun k y u j hu ys e=>?_⟩;obtain rfl:k=0:=by cases k with|zero=>rfl|succ k=>simp[AV.cells]at j
  simp[AV.cells]at j;simp[Value.cells]at hu;subst hu;rw[← j]at e;rcases t.own ys e with⟨a1,F,B⟩|⟨_,_,_,_,_,_,_,B,_⟩
  · exact⟨a1,F,B⟩
  · exact B.elim
 | _ =>
  have l:v.oneCell'=true:=by
   have i:=t.rel;simp only[Rel]at i;first
    | (subst i; rfl)
    | (obtain⟨_,rfl⟩:=i; rfl)
    | (obtain⟨_,rfl,_⟩:=i; rfl)
    | (obtain⟨_,_,rfl,_⟩:=i; rfl)
  have E:v.cells=#[v]:=by cases v<;>first|rfl|cases l
  rw[E];refine⟨by simp only[AV.cells,RelL]; exact⟨v,[],rfl,t.rel,rfl⟩,by simpa using l,fun k y u j _ ys e=>?_⟩;obtain rfl:k=0:=by cases k with|zero=>rfl|succ k=>simp[AV.cells]at j
  simp[AV.cells]at j;rw[← j]at e;cases e
theorem b0Z:∀ {t:List (Nat×Nat)} {C:List AV} {cs u:List AV} {arr:Array Value} {vs:List Value} {is:List Nat} {place:Nat→Option (Nat×Nat)},
 E4 t C cs=some u→ArgsOK g w bx fr C vs→RowOK g w cs arr.toList→is.map place=t.map some→is.length=vs.length →
 ∃ j,Instr.fill place arr (is.zip vs)=some j∧RowOK g w u j.toList
 | [],[],cs,u,arr,vs,is,place,h,ha,hr,hp,hl=>by simp only[E4,Option.some.injEq]at h;subst h;cases ha;exact⟨arr,by cases is<;>simp[Instr.fill],hr⟩
 | (off,n)::t,p::C,cs,u,arr,vs,is,place,h,ha,hr,hp,hl=>by
  simp only[E4]at h;split at h
  · rename_i I;obtain⟨x,z,M⟩:=I;cases ha with
    | cons F G =>
     rename_i v vs;cases is with
     | nil=>simp at hp
     | cons i is =>
      simp only[List.map_cons,List.cons.injEq]at hp;have l:=b1a F x;have B:v.cells.size=n:=by have N:=l.rel.length;have O:v.cells.toList.length=v.cells.size:=Array.length_toList;omega
      have J:cs.length=arr.size:=hr.rel.length.trans Array.length_toList;have L:=a6U v off arr (by omega);have y:RowOK g w (B7 cs off p.cells) (arr.toList.take off++v.cells.toList++arr.toList.drop (off+v.cells.size)):=by unfold B7;rw[B,z];exact((hr.take off).append l).append (hr.drop (off+n))
      rw[← L]at y;obtain⟨j,E,e2⟩:=b0Z h G y hp.2 (by simpa using hl);refine⟨j,?_,e2⟩;simp only[List.zip_cons_cons,Instr.fill,hp.1];rw[if_neg (by simp; omega)];exact E
  · cases h
 | [],_::_,_,_,_,_,_,_,h,_,_,_,_=>by simp[E4]at h
 | _::_,[],_,_,_,_,_,_,h,_,_,_,_=>by simp[E4]at h
theorem RowOK.agg {cs:List AV} {arr:Array Value} (h:RowOK g w cs arr.toList):ValOK g w No (.agg cs) (.agg arr) :=
 ⟨by simp only[Rel]; exact⟨arr,rfl,h.rel,h.one⟩,fun xs e=>(by cases e),fun j e vs e2 k x u i hu=>by simp only[AV.agg.injEq]at e;simp only[Value.agg.injEq]at e2;subst e; subst e2;exact h.own k x u i (by simpa using hu)⟩
def a6Q (P:Program) (t:TypeId):Option (List (Nat×Nat)) :=
 match P.underlying t with
 | some (.struct fields)=>fields.toList.mapM (fun f=>(P.info? f.type).map fun i=>(f.offset,i.size))
 | _=>none
theorem a2D (a:Act) (parts:List (Nat×Operand)):(parts.map fun p=>(p.1,a.eval p.2))=(parts.map (·.1)).zip (parts.map fun p=>a.eval p.2):=by
 induction parts with
 | nil=>rfl
 | cons p j i=>simp[i]
theorem b6W {t:TypeId} {parts:Array (Nat×Operand)} {zero:List AV} {l places:List (Nat×Nat)} {z:Value} (L:o.op=.build t parts) (j:a6Q c.P t=some places)
 (N:(c.P.info? t).bind (·.zero)=some z) (E:H0 z.cells.toList zero=true) (u:(parts.toList.map (·.1)).map (fun i=>places[i]?)=l.map some)
 (M:ArgsOK g w bx fr as (parts.toList.map fun p=>a.eval p.2)) (hs:N9 zero l call as b st=some (r,b',st')):s6 c g w bx fr a o r∧b'=b∧st'=st:=by
 simp only[N9]at hs;obtain⟨cs,B,F⟩:=Option.map_eq_some_iff.1 hs;simp only[Prod.mk.injEq]at F;obtain⟨rfl,rfl,rfl⟩:=F;obtain⟨O,z2,z3⟩:=L5 E g w;obtain⟨arr,G,I⟩:=b0Z (place:=fun i=>places.toArray[i]?) B M ⟨O,z2,z3⟩ (is:=parts.toList.map (·.1)) (by simpa using u) (by simp);refine⟨⟨.agg arr,?_,I.agg⟩,rfl,rfl⟩;have J:c.P.built t (parts.map fun(i,x)=>(i,a.eval x)).toList=some arr:=by
  unfold a6Q at j;split at j
  · rename_i fields hu;obtain⟨S,C,y⟩:=Option.bind_eq_some_iff.1 N;unfold Program.built;simp only[C,hu,y,j];rw[show(parts.map fun(i,x)=>(i,a.eval x)).toList=parts.toList.map fun p=>(p.1,a.eval p.2)by simp,a2D];exact G
  · cases j
 simp only[execOp,L,Sem.run_bind,run_build w t _ _ J,Result.andThen_ok,Sem.run_pure]
def M2 (P:Program) (i:Nat) (j:TypeId):Bool :=
 match P.underlying j,i with
 | some (.int _),0=>true
 | some .string,1=>true
 | some .bool,2=>true
 | _,_=>false
theorem c0T (s t:ByteArray):(s == t)=true↔s.data.toList=t.data.toList:=by rw[MapKept.bytes_beq];exact⟨fun h=>by rw[h],fun h=>ByteArray.ext (Array.toList_inj.mp h)⟩
theorem a9D {P:Program} {B:Nat} {C:TypeId} {d:TypeDesc} (E:P.underlying C=some d) (hk:M2 P B C=true) {x y:AV} {u v:Value} (i:Rel g w x u) (j:Rel g w y v) {z:Bool} (h:Q4 B x y=some z) :
 Instr.sameNow d u v=some z:=by
 unfold M2 at hk;rw[E]at hk;unfold Q4 at h;split at h
 · split at h
   · rename_i l;obtain⟨rfl,rfl⟩:=l;simp only[Rel]at i j;subst i; subst j;cases d<;>simp at hk;simp only[eqI_eq,Option.some.injEq]at h;simp[Instr.sameNow,h]
   · cases h
 · split at h
   · rename_i l;subst l;simp only[Rel]at i j;obtain⟨s,rfl,rfl⟩:=i;obtain⟨t,rfl,rfl⟩:=j;cases d<;>simp at hk;rw[b3d,Option.some.injEq]at h;simp only[Instr.sameNow,Option.some.injEq];rw[← h,Bool.eq_iff_iff,c0T]; simp only[beq_iff_eq]
   · cases h
 · split at h
   · rename_i l;subst l;simp only[Rel]at i j;subst i; subst j;cases d<;>simp at hk;simpa[Instr.sameNow]using h
   · cases h
 · cases h
theorem a4N {P:Program} {F:Nat} {G:TypeId} {d:TypeDesc} (t:P.underlying G=some d) (hk:M2 P F G=true) {x:AV} {u:Value} (B:Rel g w x u) :
 ∀ {es:List (AV×AV)} {l:List MapEntry} {i:Nat} {z:Option (Nat×AV)},RelM g w es l→I0 F x es i=some z →
  match z with
  | none=>Instr.findNow d u l i=some none
  | some (j,v)=>∃ e,l[j - i]?=some e∧i≤j∧Instr.findNow d u l i=some (some (j,e.val))∧Rel g w v e.val∧v.weak=v∧Instr.sameNow d u e.key=some true
 | [],_,i,z,h,hf=>by cases h;simp only[I0,Option.some.injEq]at hf;subst hf;rfl
 | (k,v)::es,_,i,z,h,hf=>by
  cases h with
  | cons C I J L =>
   rename_i e l;simp only[I0]at hf;split at hf
   · rename_i y;simp only[Option.some.injEq]at hf;subst hf;have:=a9D t hk B C y;exact⟨e,by simp,Nat.le_refl _,by simp[Instr.findNow,this],I,J,this⟩
   · rename_i y;have hs:=a9D t hk B C y;have E:=a4N t hk B L hf;cases z with
     | none=>simp only[Instr.findNow,hs]; exact E
     | some p =>obtain⟨j,M⟩:=p;obtain⟨e',i1,i2,i3,i4⟩:=E;refine⟨e',?_,by omega,by simp only[Instr.findNow,hs]; exact i3,i4⟩;rw[show j - i=(j - (i+1))+1 by omega];simpa using i1
   · cases hf
theorem a2o {P:Program} {j:Nat} {i:TypeId} (hk:M2 P j i=true) (e:Bool) (v:Value):(Instr.checkKey e 10000 i v).run P w=.ok () w:=by unfold M2 at hk;split at hk<;>first|(rename_i hu; rw[show(10000:Nat)=9999+1 from rfl,Instr.checkKey,Sem.run_bind,run_underlying hu,Result.andThen_ok]; cases v<;>rfl)|cases hk
def a3B:Value→Bool
 | .agg _=>true
 | _=>false
theorem c1M {t:TypeId} {ag:Bool} {z:Value} {zero:List AV} {v:AV} (E:D6 c t=some ag) (F:(c.P.info? t).bind (·.zero)=some z) (B:H0 z.cells.toList zero=true) (i:ag=a3B z) (j:m4 ag zero.length zero=some v) :
 Rel g w v z∧v.weak=v:=by
 obtain⟨C,z2,z3⟩:=L5 B g w;cases ag with
 | true =>simp only[m4,if_true,Nat.le_refl,List.take_length,Option.some.injEq]at j;subst j;cases z<;>simp[a3B]at i;refine⟨by simp only[Rel]; exact⟨_,rfl,C.weak1,z2⟩,?_⟩;simp only[AV.weak,List.map_map];congr 1;apply List.map_congr_left;intro x _;cases x<;>rfl
 | false =>
  simp only[m4,Bool.false_eq_true,if_false]at j;cases zero with
  | nil=>simp at j
  | cons y ys =>
   simp only[Option.some.injEq]at j;subst j;simp only[RelL]at C;obtain⟨u,us,e,l,_⟩:=C;have hu:u=z:=by cases z<;>simp[Value.cells]at e<;>first|exact e.1.symm|simp[a3B]at i
   subst hu;refine⟨l.weak1,?_⟩;cases y<;>first
    | rfl
    | (simp only[Rel]at l
       obtain⟨_,rfl,_⟩:=l;simp[a3B]at i)
def a1l (P:Program) (t:TypeId) (zero:List AV):Bool :=
 match (P.info? t).bind (·.zero)with
 | some z=>H0 z.cells.toList zero
 | none=>false
def a8K (P:Program) (t:TypeId) (ag:Bool):Bool :=
 match (P.info? t).bind (·.zero)with
 | some z=>ag == a3B z
 | none=>false
theorem ArgOK.of_rel {x:AV} {v:Value} (h:Rel g w x v) (j:x.weak=x):ArgOK g w bx fr No x v:=by
 rw[← j];refine ArgOK.of_val (ValOK.of_weak h) fun i f e=>?_
 rw[j]at e;subst e;simp[Rel]at h
theorem b9l (h:SRel g w st) {t kt M:TypeId} {m k:Operand} {kc:Nat} {zero:List AV} {ag ok:Bool} (ho:o.op=.lookup t m k ok) (hu:c.P.underlying t=some (.map kt M)) (hk:M2 c.P kc kt=true)
 (a0:D6 c M=some ag) (hz:a1l c.P M zero=true) (N:a8K c.P M ag=true) (hr:ArgsOK g w bx fr as [a.eval m,a.eval k]) (hs:X3 kc zero ag ok call as b st=some (r,b',st')) :
 s6 c g w bx fr a o r∧b'=b∧st'=st:=by
 obtain⟨p,q,rfl,h1,h2⟩:=hr.two;obtain⟨d,V⟩:∃ d,c.P.underlying kt=some d:=by
  unfold M2 at hk;cases V:c.P.underlying kt with
  | none=>simp[V]at hk
  | some d=>exact⟨d,rfl⟩
 obtain⟨z,Z,b0,b1⟩:∃ z,(c.P.info? M).bind (·.zero)=some z∧H0 z.cells.toList zero=true∧ag=a3B z:=by
  unfold a1l at hz;unfold a8K at N;cases hq:(c.P.info? M).bind (·.zero)with
  | none=>simp[hq]at hz
  | some z=>simp only[hq]at hz N; exact⟨z,rfl,hz,by simpa using N⟩
 have E:(zeroValue M).run c.P w=.ok z w:=by obtain⟨i,hi,a1⟩:=Option.bind_eq_some_iff.1 Z;simp[zeroValue,typeInfo,hi,a1]
 have U:=fun(e:Bool)=>a2o (P:=c.P) (w:=w) hk e (a.eval k)
 have e1:=h1.rel
 -- what is left when the entries are known
 have fin:∀ (es:List (AV×AV)) (l:List MapEntry),RelM g w es l→(Rel g w q (a.eval k)∨es=[]) →
  (∀ (y:Option (Nat×Value)),Instr.findNow d (a.eval k) l 0=some y →
   (execOp a.eval o).run c.P w=.ok (.value (if ok then .tuple #[(match y with|some (_,x)=>x|none=>z),.bool y.isSome]else(match y with|some (_,x)=>x|none=>z))) w) →
  (match I0 kc q es 0 with
   | some J=>match (match J with|some (_,v)=>some v|none=>m4 ag zero.length zero)with
    | some v=>some (if ok then AV.tuple [v,.bool J.isSome]else v,b,st)
    | none=>none
   | none=>none)=some (r,b',st')→s6 c g w bx fr a o r∧b'=b∧st'=st:=by
  intro es l F hq run u;cases W:I0 kc q es 0 with
  | none=>simp[W]at u
  | some J =>
   simp only[W]at u;obtain⟨y,f1,f2⟩:∃ y,Instr.findNow d (a.eval k) l 0=some y∧(y.isSome=J.isSome∧∀ v,(match J with|some (_,v)=>some v|none=>m4 ag zero.length zero)=some v →
    Rel g w v (match y with|some (_,x)=>x|none=>z)∧v.weak=v):=by
    have nil:J=none→Instr.findNow d (a.eval k) l 0=some none→∃ y,Instr.findNow d (a.eval k) l 0=some y∧(y.isSome=J.isSome∧∀ v,(match J with|some (_,v)=>some v|none=>m4 ag zero.length zero)=some v →
     Rel g w v (match y with|some (_,x)=>x|none=>z)∧v.weak=v):=by
     intro e0 hn;subst e0;exact⟨none,hn,rfl,fun v O=>c1M a0 Z b0 b1 O⟩
    rcases hq with hq|hq
    · have:=a4N V hk hq F W;cases J with
      | none=>exact nil rfl this
      | some p =>obtain⟨j,v⟩:=p;obtain⟨e,_,_,e1,e2,e3,_⟩:=this;exact⟨some (j,e.val),e1,rfl,fun v' O=>by simp only[Option.some.injEq]at O; subst O; exact⟨e2,e3⟩⟩
    · subst hq;cases F;simp only[I0,Option.some.injEq]at W;exact nil W.symm rfl
   have Y:=run y f1;split at u
   · rename_i v O;simp only[Option.some.injEq,Prod.mk.injEq]at u;obtain⟨rfl,rfl,rfl⟩:=u;obtain⟨k1,k2⟩:=f2.2 v O;refine⟨⟨_,Y,?_⟩,rfl,rfl⟩;cases ok with
     | false=>exact ArgOK.of_rel k1 k2
     | true =>refine ValOK.mk' ?_ (by simp) (by simp);simp only[Rel,if_true];refine⟨_,rfl,?_⟩;simp only[RelL];exact⟨_,_,rfl,k1,_,_,rfl,by rw[f2.1]; simp[Rel],rfl⟩
   · cases u
 unfold X3 at hs;dsimp only at hs;split at hs
 · rename_i kk C;simp only[List.cons.injEq,and_true]at C;obtain⟨rfl,rfl⟩:=C;have S:a.eval m=.map none:=by simpa[Rel]using h1.rel (by simp) (by simp)
   refine fin [] [] .nil (.inr rfl) (fun y I=>?_) hs;have G:=MapKept.run_findKey (P:=c.P) (w:=w) V I;have B:=U true;cases y with
   | none=>simp[execOp,ho,S,Instr.lookup,run_underlying hu,B,G,E]
   | some p=>simp[Instr.findNow]at I
 · rename_i oo kk C;simp only[List.cons.injEq,and_true]at C;obtain⟨rfl,rfl⟩:=C;have S:=h1.rel (by simp) (by simp);simp only[Rel]at S;split at hs
   · rename_i es a2;obtain⟨_,_,L,clock,hb,F⟩:=h.obj _ _ a2;have X:=MapKept.run_getObj_map (P:=c.P) hb;have hq:Rel g w q (a.eval k)∨es=[]:=by
      cases es with
      | nil=>exact .inr rfl
      | cons e es =>
       refine .inl (h2.rel (fun i f hq=>?_) (fun cs hq=>?_)) <;>
       · subst hq;obtain⟨k0,v0⟩:=e;simp[I0,Q4]at hs
     refine fin es L.toList F hq (fun y I=>?_) hs;have G:=MapKept.run_findKey (P:=c.P) (w:=w) V I;have B:=U L.isEmpty;cases y with
     | none=>simp[execOp,ho,S.2,Instr.lookup,run_underlying hu,X,B,G,E]
     | some p=>obtain⟨j,x⟩:=p; simp[execOp,ho,S.2,Instr.lookup,run_underlying hu,X,B,G]
   · cases hs
 · cases hs
theorem a4B {bb:Nat}:∀ {xs:List (List AV)} {s:List Nat} {f t:Nat},I5 xs=some s→RelRows g w bb f t xs→∃ l:List Int,l.length=xs.length∧(∀ i,i < xs.length→w.cell? ⟨bb,f+i,none⟩=some (.int .u8 (l.getD i 0)))∧(strOfNums l).data.toList.map UInt8.toNat=s
 | [],s,f,t,h,_=>by simp only[I5,Option.some.injEq]at h;subst h;exact⟨[],rfl,by simp,rfl⟩
 | x::xs,s,f,t,h,hr=>by
  simp only[RelRows]at hr;obtain⟨C,z,E⟩:=hr;unfold I5 at h;split at h
  · rename_i j; cases j
  · rename_i n rs j;simp only[List.cons.injEq]at j;obtain⟨rfl,rfl⟩:=j;obtain rfl:t=1:=by simpa using C.symm
    split at h
    · rename_i hn;obtain⟨G,u,rfl⟩:=Option.map_eq_some_iff.1 h;obtain⟨l,B,e2,y⟩:=a4B u E;simp only[RelCells,Rel]at z;obtain⟨⟨v,F,_,_,rfl⟩,_⟩:=z;refine⟨n::l,by simp[B],fun i hi=>?_,?_⟩
      · cases i with
        | zero=>exact F
        | succ i =>have:=e2 i (by simpa using hi);rw[show f+(i+1)=f+1+i by omega];simpa using this
      · rw[strOfNums_data]at y ⊢;simp only[List.map_cons,y,List.cons.injEq,and_true];rw[UInt8.toNat_ofNat'];omega
    · cases h
  · cases h
theorem c47 {t u e:TypeId} {x:Operand} (G:o.op=.convert t u x) (C:c.P.underlying t=some (.slice e)) (B:c.P.underlying e=some (.int .u8)) (hu:c.P.underlying u=some .string)
 (I:ArgsOK g w bx fr as [a.eval x]) (hs:W3 call as b st=some (r,b',st')):s6 c g w bx fr a o r∧b'=b∧st'=st:=by
 obtain⟨p,rfl,F⟩:=I.one;unfold W3 at hs;split at hs
 · rename_i own xs l;simp only[List.cons.injEq,and_true]at l; subst l;obtain⟨s,z,hs⟩:=Option.map_eq_some_iff.1 hs;simp only[Prod.mk.injEq]at hs;obtain⟨rfl,rfl,rfl⟩:=hs;have j:=F.rel (by simp) (by simp);simp only[Rel]at j;obtain⟨a0,n,cap,j,rfl,_,_,J⟩:=j;have run:∀ y,(convert t u (a.eval x)).run c.P w=.ok (.string y) w→(execOp a.eval o).run c.P w=.ok (.value (.string y)) w:=fun y L=>by simp only[execOp,G,Sem.run_bind,L,Result.andThen_ok,Sem.run_pure]
   cases xs with
   | nil =>
    simp only[I5,Option.some.injEq]at z;subst z;refine⟨⟨.string ByteArray.empty,run _ ?_,ValOK.mk' (by simp only[Rel]; exact⟨_,rfl,rfl⟩) (by simp) (by simp)⟩,rfl,rfl⟩;rw[j,List.length_nil];cases a0 with
    | none=>exact run_convert_bytes_nil w t e C B _ _ u hu
    | some a1 =>rw[run_convert_bytes_string w t u e _ _ _ C B hu];simp[Conv.bytesToString,loadCells,loadCellsFrom]
   | cons U xs =>obtain⟨bb,f,S,rfl,i⟩:=J (by simp);obtain⟨E,M,N,O⟩:=a4B z i;refine⟨⟨.string (strOfNums E),run _ ?_,ValOK.mk' (by simp only[Rel]; exact⟨_,rfl,O⟩) (by simp) (by simp)⟩,rfl,rfl⟩;rw[j];exact run_convert_bytes_arg w t e C B bb f _ cap E M N u hu
 · cases hs
end
end Go.Cb
namespace Go.Cb
open Classical
theorem FR.change {A:Nat→Prop} {g g':Gh} {w w':World} {pr t:Nat→Option Pl} {bx:Nat→Nat} {slots bxs:List Nat} {nt:Nat} {fr l:List AV} {τ u:Nat→AV} {tmps:Array Value}
 (h:FR A g w pr bx slots bxs nt fr τ tmps) (ok:Pl→Prop) (I:Ext g w g' w')
 (hm:∀ b p,pr b=some p→ok p→t b=some p∧M8 g w g' w' b)
 (B:∀ b p,t b=some p→g'.sr b=none∧b < w'.heap.size∧A b)
 (E:∀ i s,slots[i]?=some s→((ok (.var i)∧ok (.box i)∧∀ k,ok (.cell i k))∧l.getD i .undef=fr.getD i .undef)∨VarOK g' w' t bx i (l.getD i .undef) (tmps.getD s undef))
 (C:∀ s,s ∉ slots→(ok (.tmp s)∧u s=τ s)∨TmpOK g' w' t bx l s (u s) (tmps.getD s undef))
 (z:l.length=fr.length) (x:∀ j cs,fr.getD j .undef=.box cs→∃ F,l.getD j .undef=.box F) (y:∀ j cs,l.getD j .undef=.box cs→j∈bxs) :
 FR A g' w' t bx slots bxs nt l u tmps:=by
 refine⟨h.size,z.trans h.len,fun i s hs=>?_,fun s hs=>?_,B,y⟩
 · rcases E i s hs with⟨⟨o1,o2,o3⟩,e⟩|hv
   · rw[e];refine(h.var i s hs).mono I (fun b p G L=>hm b p G ?_) (fun _ _=>rfl);rcases L with rfl|rfl|⟨k,rfl⟩
     · exact o1
     · exact o2
     · exact o3 k
   · exact hv
 · rcases C s hs with⟨o1,e⟩|hv
   · rw[e];exact(h.tmp s hs).mono I (fun b G=>hm b _ G o1) (fun j cs J=>⟨rfl,x j cs J⟩)
   · exact hv
noncomputable def mvp (pr:Nat→Option Pl) (src dst:Pl):Nat→Option Pl:=fun b=>if pr b=some src then some dst else pr b
theorem a0Y {pr:Nat→Option Pl} {src dst p:Pl} {b:Nat} (h:pr b=some p) (i:p≠src):mvp pr src dst b=some p:=by
 unfold mvp;rw[if_neg]
 · exact h
 · rw[h]; intro e; exact i (Option.some.inj e)
theorem b2L {pr:Nat→Option Pl} {src dst:Pl} {b:Nat} (h:pr b=some src):mvp pr src dst b=some dst:=by simp[mvp,h]
theorem a8r {pr:Nat→Option Pl} {src dst p:Pl} {b:Nat} (h:mvp pr src dst b=some p):∃ q,pr b=some q:=by
 unfold mvp at h;split at h
 · exact⟨_,‹_›⟩
 · exact⟨p,h⟩
section
variable {c:Cx} {g:Gh} {w:World} {pr:Nat→Option Pl} {bx:Nat→Nat} {σ:Sig} {a:Act} {o:Oper} {call:e9} {b b' r:AV} {st st':St} {fr as:List AV}
def Opd.src:Opd→Option Pl
 | .ts s=>some (.tmp s)
 | .vs i=>some (.var i)
 | _=>none
theorem O4 (h:S c g w pr bx σ a) {x:Operand} {p:Opd} (I:F9 c x p=true) {src:Pl} (l:p.src=some src) (dst:Pl) :
 S c g w (mvp pr src dst) bx (p.spend σ) a∧(∀ v cs,p.read σ=.loc v cs→(p.spend σ)=σ) ∧
  ArgOK g w bx σ.fr (fun b=>pr b=some src) (p.read σ) (a.eval x):=by
 have C:∀ b q,mvp pr src dst b=some q→g.sr b=none∧b < w.heap.size∧c.A b:=fun b q F=>by obtain⟨W,O⟩:=a8r F;exact h.fr.prv b W O
 unfold F9 at I;split at I<;>first|(simp only[Opd.src]at l; cases l; done)|(cases I; done)|simp only[Opd.src]at l
 · -- a temporary
   rename_i s X;simp only[Bool.and_eq_true,beq_iff_eq]at I;obtain⟨rfl,hn⟩:=I;have hn:=S3 hn;simp only[Option.some.injEq]at l;subst l;have E:=h.fr.tmp s hn;have V:∀ M,TmpOK g w M bx σ.fr s (σ.τ s).weak (a.tmps.getD s undef):=fun M=>by cases y:σ.τ s<;>rw[y]at E<;>first|exact ValOK.of_weak (ValOK.rel E)|exact E
   refine⟨⟨h.fr.change (·≠.tmp s) (Ext.refl g w) (fun b q F B=>⟨a0Y F B,rfl,fun _ x=>x⟩) C (fun i t _=>.inl ⟨⟨by simp,by simp,by simp⟩,rfl⟩) (fun t U=>?_) rfl (fun j cs z=>⟨cs,z⟩) h.fr.bxs,h.st,h.gl,h.fresh,h.stA⟩,?_,?_⟩
   · by_cases e:t=s
     · subst e;right;simp only[Opd.spend,C6,Nat.beq_refl,if_true];exact V _
     · left;exact⟨by simpa using e,by simp[Opd.spend,C6,e]⟩
   · intro v cs y;simp only[Opd.read]at y;simp only[Opd.spend,y,AV.weak];have:C6 σ.τ s (.loc v cs)=σ.τ:=by
      funext t;by_cases e:t=s
      · subst e; simp[C6,y]
      · simp[C6,e]
     rw[this]
   · simp only[Opd.read,Act.eval];cases y:σ.τ s<;>rw[y]at E<;>first|exact E|exact E.elim
 · -- a variable
   rename_i s i;have hs:c.slots[i]?=some s:=by simpa using I
   simp only[Option.some.injEq]at l;subst l;have hi:i < σ.fr.length:=by rw[h.fr.len]; exact(List.getElem?_eq_some_iff.1 hs).1
   have y:=h.fr.var i s hs;have J:∀ j cs,σ.fr.getD j .undef=.box cs→(Opd.spend (.vs i) σ).fr.getD j .undef=.box cs:=fun j cs z=>by
    simp only[Opd.spend];by_cases e:j=i
    · subst e; rw[A0 hi,z]; rfl
    · rw[m7 e]; exact z
   refine⟨⟨h.fr.change (·≠.var i) (Ext.refl g w) (fun b q F B=>⟨a0Y F B,rfl,fun _ x=>x⟩) C (fun j t E=>?_) (fun t _=>.inl ⟨by simp,rfl⟩) (by simp[Opd.spend]) (fun j cs z=>⟨cs,J j cs z⟩) (fun j cs z=>?_),h.st,h.gl,h.fresh,h.stA⟩,?_,?_⟩
   · by_cases e:j=i
     · subst e;obtain rfl:t=s:=Option.some.inj (E.symm.trans hs);simp only[Opd.spend,A0 hi];right;have G:∀ (x:AV) (u:Value),VarOK g w pr bx j x u→VarOK g w (mvp pr (.var j) dst) bx j x.weak u:=by
        intro x u N;cases x<;>first
         | exact ValOK.of_weak (ValOK.rel N)
         | exact N.elim
         | exact⟨N.1,N.2.mono (Ext.refl g w) (fun b q F B=>⟨a0Y F (by rcases B with rfl|⟨k,rfl⟩<;>simp),rfl,fun _ x=>x⟩)⟩
       exact G _ _ y
     · left;exact⟨⟨by simp[e],by simp,by simp⟩,by simp only[Opd.spend,m7 e]⟩
   · by_cases e:j=i
     · subst e;simp only[Opd.spend,A0 hi]at z;cases B:σ.fr.getD j .undef<;>rw[B]at z<;>simp[AV.weak]at z;exact h.fr.bxs j _ B
     · simp only[Opd.spend,m7 e]at z;exact h.fr.bxs j cs z
   · intro v cs L;simp only[Opd.read]at L;rw[L]at y;exact y.elim
   · simp only[Opd.read,Act.eval];cases B:σ.fr.getD i .undef<;>rw[B]at y<;>first|exact y|exact y.elim|trivial
theorem Ext.alloc (i:∀ b f,g.cl b f→b < w.heap.size) (j:_root_.Go.Obj):Ext g w g (w.alloc j) :=
 ⟨Nat.le_refl _,fun _ _=>rfl,fun _ _=>rfl,fun _ _ h=>h,fun b f h=>World.cell?_alloc_lt _ _ _ (i b f h)⟩
theorem Tr.alloc (A:Nat→Prop) (l:∀ b f,g.cl b f→b < w.heap.size) (i:_root_.Go.Obj) (u:∀ c t z,i=.cells c t z→z=(0,0):=by intro c t z e; cases e; rfl):Tr A g w g (w.alloc i) :=
 ⟨Ext.alloc l i,by simp,Env.alloc w i u,fun b j hs _=>⟨⟨heap_alloc_old w i j,fun _ x=>x⟩,hs⟩⟩
theorem SRel.alloc (h:SRel g w st) (i:_root_.Go.Obj):SRel g (w.alloc i) st :=
 h.evolve (Ext.alloc h.cli i) rfl (by simp) (fun b _ j=>⟨j,heap_alloc_old w i (h.inn b _ j),fun _ x=>x⟩) (fun _ _ x=>x) (fun _ _ x=>.inl x)
theorem b7Y (O:Fx c) (h:S c g w pr bx σ a) {i s:Nat} (hs:c.slots[i]?=some s) (hi:i∈c.bxs) (hu:σ.fr.getD i .undef=.undef) {cs:List AV} {arr:Array Value} {T:TypeId} (J:RowOK g w cs arr.toList) :
 ∃ u l,S c g (w.alloc (.cells arr T)) u l { σ with fr:=σ.fr.set i (.box cs) } (a.put (some s) (.pointer (some (ad w.heap.size 0)))):=by
 have G:i < σ.fr.length:=by rw[h.fr.len]; exact(List.getElem?_eq_some_iff.1 hs).1
 have L:s < a.tmps.size:=by rw[h.fr.size]; exact O.lt s (List.mem_of_getElem? hs)
 have M:g.sr w.heap.size=none:=by
  cases X:g.sr w.heap.size with
  | none=>rfl
  | some p=>exact absurd (h.st.inn _ p X) (Nat.lt_irrefl _)
 have E:=Ext.alloc h.st.cli (_root_.Go.Obj.cells arr T);have I:∀ b p,pr b=some p→b≠w.heap.size:=fun b p y e=>by have:=(h.fr.prv b p y).2.1; omega
 let u:Nat→Option Pl:=fun b=>if b=w.heap.size then some (.box i)else pr b
 let l:Nat→Nat:=fun j=>if j=i then w.heap.size else bx j
 have z:∀ b p,pr b=some p→u b=some p∧M8 g w g (w.alloc (.cells arr T)) b:=fun b p y =>⟨by simp only[u,if_neg (I b p y)]; exact y,heap_alloc_old w _ (h.fr.prv b p y).2.1,fun _ x=>x⟩
 refine⟨u,l,⟨⟨by simpa[Act.put]using h.fr.size,by simpa using h.fr.len,fun j t C=>?_,fun t C=>?_,fun b p y=>?_,fun j F B=>?_⟩,h.st.alloc _,h.gl.ext E,fun b y=>h.fresh b (by simp at y; omega),h.stA⟩⟩
 · by_cases e:j=i
   · subst e;obtain rfl:t=s:=Option.some.inj (C.symm.trans hs);simp only[Act.put];rw[I9 L,A0 G];refine⟨by simp[l],?_⟩;simp only[l,if_true];refine⟨by simp[u],fun f W=>absurd (h.st.cli _ f W) (Nat.lt_irrefl _),arr,T,heap_alloc_new w _,RelL.ext E _ _ J.rel,J.one,fun k x v Z Y xs ex=>.inl (J.own k x v Z (by simpa using Y) xs ex)⟩
   · simp only[Act.put];rw[N6 (b2N O.nd C hs e),m7 e];exact(h.fr.var j t C).mono E (fun b p y _=>z b p y) (fun _ _=>by simp[l,e])
 · have N:t≠s:=fun e=>C (e ▸ List.mem_of_getElem? hs)
   simp only[Act.put];rw[N6 N];refine(h.fr.tmp t C).mono E (fun b y=>z b _ y) (fun j F B=>?_);have e:j≠i:=fun e=>by subst e; rw[hu]at B; cases B
   exact⟨by simp[l,e],F,by rw[m7 e]; exact B⟩
 · by_cases e:b=w.heap.size
   · subst e; exact⟨M,by simp,h.fresh _ (Nat.le_refl _)⟩
   · simp only[u,if_neg e]at y;obtain⟨U,h2,V⟩:=h.fr.prv b p y;exact⟨U,by simp; omega,V⟩
 · by_cases e:j=i
   · subst e; exact hi
   · simp only[m7 e]at B; exact h.fr.bxs j F B
noncomputable def Gh.more (g:Gh) (b:Nat) (cap:Nat:=0):Gh where
 n:=g.n+1
 m:=fun o=>if o=g.n then b else g.m o
 cl:=g.cl
 sr:=fun b'=>if b'=b then some (g.n,none)else g.sr b'
 cp:=fun o=>if o=g.n then cap else g.cp o
theorem c6O (h:S c g w pr bx σ a) {cap:Nat} {G:Obj} {O:_root_.Go.Obj} (I:∀ c t z,O=.cells c t z→z=(0,0)) (E:Ext g w (g.more w.heap.size cap) (w.alloc O)→ObjOK (g.more w.heap.size cap) (w.alloc O) g.n G) :
 S c (g.more w.heap.size cap) (w.alloc O) pr bx { σ with st:=σ.st++[G] } a∧Tr c.A g w (g.more w.heap.size cap) (w.alloc O)∧(g.more w.heap.size cap).m σ.st.length=w.heap.size∧σ.st.length < (g.more w.heap.size cap).n:=by
 have y:Ext g w (g.more w.heap.size cap) (w.alloc O):=⟨by simp[Gh.more],fun o j=>by simp[Gh.more,Nat.ne_of_lt j],fun o j=>by simp[Gh.more,Nat.ne_of_lt j],fun _ _ h=>h,fun b f C=>World.cell?_alloc_lt _ _ _ (h.st.cli b f C)⟩;have u:Tr No g w (g.more w.heap.size cap) (w.alloc O):=⟨y,by simp,Env.alloc w O I,fun b i hs _=>⟨⟨heap_alloc_old w O i,fun _ x=>x⟩,by simp only[Gh.more]; rw[if_neg (by omega)]; exact hs⟩⟩;refine⟨⟨h.fr.evolve u,⟨by simp[Gh.more,h.st.n],fun o F j=>?_,fun b p i=>?_,fun b f C=>?_⟩,h.gl.ext y,fun b i=>h.fresh b (by simp at i; omega),fun b p i=>?_⟩,u.wider (fun _ x=>x.elim),by simp[Gh.more,h.st.n],by simp[Gh.more,h.st.n]⟩
 · rcases Nat.lt_or_ge o σ.st.length with l|hge
   · rw[List.getElem?_append_left l]at j;refine(h.st.obj o F j).mono (by rw[h.st.n]; exact l) y fun b k i=>?_
     have B:=h.st.inn b _ i;exact⟨by simp only[Gh.more]; rw[if_neg (by omega)]; exact i,heap_alloc_old w O B,fun _ x=>x⟩
   · rw[List.getElem?_append_right hge]at j;have e:o=σ.st.length:=by
      rcases Nat.lt_or_ge σ.st.length o with h1|h1
      · rw[List.getElem?_eq_none (by simp; omega)]at j; cases j
      · omega
     subst e;simp at j;subst j;rw[← h.st.n];exact E y
 · simp only[Gh.more]at i;split at i
   · rename_i e; subst e; simp
   · have:=h.st.inn b p i; simp; omega
 · have:=h.st.cli b f C; simp; omega
 · simp only[Gh.more]at i;split at i
   · rename_i e; subst e; exact h.fresh _ (Nat.le_refl _)
   · exact h.stA b p i
theorem a1Y (h:S c g w pr bx σ a) {cs:List AV} {arr:Array Value} {T:TypeId} (i:RowOK g w cs arr.toList) :
 Ext g w (g.more w.heap.size arr.size) (w.alloc (.cells arr T))→ObjOK (g.more w.heap.size arr.size) (w.alloc (.cells arr T)) g.n (.cells cs):=fun l=>by
 refine⟨by simp[Gh.more],fun f j=>?_,arr,T,by simp only[Gh.more,if_true]; exact heap_alloc_new w _,by simp[Gh.more],by rw[i.rel.length,List.take_length]; exact RelL.ext l _ _ i.rel,by rw[i.rel.length,List.take_length]; exact i.one,fun k x v u t xs ex=>.inl (i.own k x v u (by simpa using t) xs ex)⟩;simp only[Gh.more,if_true]at j;exact Nat.lt_irrefl _ (h.st.cli _ f j)
theorem b6m (h:S c g w pr bx σ a) :
 Ext g w (g.more w.heap.size 0) (w.alloc (.map #[] 0))→ObjOK (g.more w.heap.size 0) (w.alloc (.map #[] 0)) g.n (.map []):=fun _ =>
 ⟨by simp[Gh.more],fun f i=>Nat.lt_irrefl _ (h.st.cli _ f (by simpa[Gh.more]using i)),#[],0,by simp only[Gh.more,if_true]; exact heap_alloc_new w _,.nil⟩
end
end Go.Cb
namespace Go.Cb
open Classical
section
variable {c:Cx} {g:Gh} {w:World} {pr:Nat→Option Pl} {bx:Nat→Nat} {σ:Sig} {a:Act} {o:Oper} {call:e9} {b b' r:AV} {st st':St} {fr as:List AV}
theorem P9 (h:S c g w pr bx σ a) {x:Operand} {p:Opd} (C:F9 c x p=true) (dst:Pl) :
 ∃ j,S c g w j bx (p.spend σ) a∧ArgOK g w bx σ.fr (fun b=>j b=some dst) (p.read σ) (a.eval x)∧∀ b q,j b=some q→∃ F,pr b=some F:=by
 cases l:p.src with
 | some src =>
  obtain⟨E,_,i⟩:=O4 h C l dst;refine⟨_,E,?_,fun b q u=>a8r u⟩;cases B:p.read σ<;>rw[B]at i<;>first
   | exact ValOK.mono i (Ext.refl g w) (fun b t=>⟨b2L t,rfl,fun _ x=>x⟩)
   | exact i
 | none =>
  have z:p.steals=false:=by cases p<;>simp_all [Opd.src,Opd.steals]
  have y:p.spend σ=σ:=by cases p<;>simp_all [Opd.src,Opd.spend]
  rw[y];refine⟨pr,h,?_,fun b q u=>⟨q,u⟩⟩;have i:=R3 h (x:=x) (p:=p) (by simp[Q8,C,z]);cases B:p.read σ<;>rw[B]at i<;>first
   | exact ValOK.mono i (Ext.refl g w) (fun b t=>t.elim)
   | exact i
structure RowM (g:Gh) (w:World) (mine:Nat→Prop) (cs:List AV) (vs:List Value):Prop where
 rel:RelL g w cs vs
 one:∀ v∈vs,v.oneCell'=true
 own:∀ (k:Nat) (x:AV) (v:Value),cs[k]?=some x→vs[k]?=some v→OwnC g w (fun b=>k=0∧mine b) x v
theorem a2M {mine:Nat→Prop} {x:AV} {v:Value} (h:ArgOK g w bx fr mine x v) (z:x.plain=true):RowM g w mine x.cells v.cells.toList:=by
 have t:=h.plain z;cases x with
 | agg cs =>have i:=t.rel;simp only[Rel]at i;obtain⟨arr,rfl,B,C⟩:=i;exact⟨B,C,fun k y u j hu xs e=>.inl (t.agg cs rfl arr rfl k y u j (by simpa[Value.cells]using hu) xs e)⟩
 | undef=>simp[AV.plain]at z
 | loc=>simp[AV.plain]at z
 | box=>simp[AV.plain]at z
 | tuple=>simp[AV.plain]at z
 | fresh=>simp[AV.plain]at z
 | list own xs =>
  have i:=t.rel;simp only[Rel]at i;obtain⟨a0,n,cap,rfl,_⟩:=i;refine⟨by simp only[AV.cells,Value.cells,RelL]; exact⟨_,[],rfl,t.rel,rfl⟩,by simp[Value.cells,Value.oneCell'],fun k y u j hu ys e=>?_⟩;obtain rfl:k=0:=by cases k with|zero=>rfl|succ k=>simp[AV.cells]at j
  simp[AV.cells]at j;simp[Value.cells]at hu;subst hu;rw[← j]at e;exact(t.own ys e).mono fun b E=>⟨⟨rfl,E⟩,rfl,fun _ x=>x⟩
 | _ =>
  have l:v.oneCell'=true:=by
   have i:=t.rel;simp only[Rel]at i;first
    | (subst i; rfl)
    | (obtain⟨_,rfl⟩:=i; rfl)
    | (obtain⟨_,rfl,_⟩:=i; rfl)
    | (obtain⟨_,_,rfl,_⟩:=i; rfl)
  have F:v.cells=#[v]:=by cases v<;>first|rfl|cases l
  rw[F];refine⟨by simp only[AV.cells,RelL]; exact⟨v,[],rfl,t.rel,rfl⟩,by simpa using l,fun k y u j _ ys e=>?_⟩;obtain rfl:k=0:=by cases k with|zero=>rfl|succ k=>simp[AV.cells]at j
  simp[AV.cells]at j;rw[← j]at e;cases e
theorem a1A {t:TypeId} {x y:Operand} {bb off:Nat} {arr:Array Value} {T:TypeId} {v:Value} (B:o.op=.store t x y) (C:a.eval x=.pointer (some (ad bb off))) (E:a.eval y=v)
 (hn:C8 c t=some v.cells.size) (z:w.heap[bb]?=some (.cells arr T (0,0))) (j:off+v.cells.size≤arr.size) (l:∀ u∈v.cells.toList,u.oneCell'=true) :
 (execOp a.eval o).run c.P w=.ok .skip (w.setRow bb (arr.toList.take off++v.cells.toList++arr.toList.drop (off+v.cells.size)).toArray):=by
 have i:=run_storeCells_at c.P bb off T v.cells.toList 0 arr w z (by simpa using j) l;simp only[Nat.add_zero,Array.length_toList]at i;simp only[execOp,B,C,E,Instr.storeAt,Instr.sureAddr,Sem.run_bind,Sem.run_pure,Result.andThen_ok,storeVar,J9 (w:=w) hn,ne_eq,not_true,if_false];rw[i];rfl
theorem a1j {bb k f:Nat} (cs:Array Value) (h:k≠bb):(w.setRow bb cs).cell? (ad k f)=w.cell? (ad k f) :=
 World.cell?_of_block (setRow_other w bb k cs h)
theorem Ext.setRow {bb:Nat} (cs:Array Value) (h:∀ f,¬ g.cl bb f):Ext g w g (w.setRow bb cs) :=
 ⟨Nat.le_refl _,fun _ _=>rfl,fun _ _=>rfl,fun _ _ h=>h,fun i f hk=>a1j cs fun e=>h f (e ▸ hk)⟩
theorem a1W {α:Type} {l s:List α} {off k:Nat} {x:α} (u:off+s.length≤l.length) (h:(l.take off++s++l.drop (off+s.length))[k]?=some x) :
 (k < off∧l[k]?=some x)∨(off≤k∧k < off+s.length∧s[k - off]?=some x)∨(off+s.length≤k∧l[k]?=some x):=by
 have i:(l.take off).length=off:=by rw[List.length_take]; omega
 by_cases j:k < off
 · left;rw[List.append_assoc,List.getElem?_append_left (by omega),List.getElem?_take,if_pos j]at h;exact⟨j,h⟩
 · by_cases t:k < off+s.length
   · right; left;rw[List.append_assoc,List.getElem?_append_right (by omega),i,List.getElem?_append_left (by omega)]at h;exact⟨by omega,t,h⟩
   · right; right;rw[List.append_assoc,List.getElem?_append_right (by omega),i,List.getElem?_append_right (by omega),List.getElem?_drop]at h;rw[show off+s.length+(k - off - s.length)=k by omega]at h;exact⟨by omega,h⟩
theorem a6o {cs j:List AV} {us vs:List Value} {off:Nat} (u:RelL g w cs us) (l:∀ v∈us,v.oneCell'=true) (t:RelL g w j vs) (i:∀ v∈vs,v.oneCell'=true) :
 RelL g w (B7 cs off j) (us.take off++vs++us.drop (off+vs.length))∧∀ v∈us.take off++vs++us.drop (off+vs.length),v.oneCell'=true:=by
 refine⟨?_,fun v hv=>?_⟩
 · unfold B7;rw[t.length];exact((u.take off).append t).append (u.drop _)
 · rcases List.mem_append.1 hv with hv|hv
   · rcases List.mem_append.1 hv with hv|hv
     · exact l v (List.mem_of_mem_take hv)
     · exact i v hv
   · exact l v (List.mem_of_mem_drop hv)
theorem c5s (h:S c g w pr bx σ a) {i s off n:Nat} (hs:c.slots[i]?=some s) {t:TypeId} {x y:Operand} {p1:Opd} {cs:List AV} (ho:o.op=.store t x y) (hn:C8 c t=some n)
 (O:σ.fr.getD i .undef=.box cs) (hx:a.eval x=.pointer (some (ad (bx i) off))) (b7:F9 c y p1=true) (b8:(p1.read σ).plain=true) (a2:(p1.read σ).cells.length=n) (c4:off+n≤cs.length)
 {next:Act→World→Prop} {Q:Exit→Act→World→Prop} (hd:o.dst=none)
 (W:Post c g w a { p1.spend σ with fr:=(p1.spend σ).fr.set i (.box (B7 cs off (p1.read σ).cells)) } next):o.wp c.P a w next Q:=by
 obtain⟨b4,E,hA,_⟩:=P9 h b7 (.cell i off);have C:=a2M hA b8;have U:i < σ.fr.length:=by rw[h.fr.len]; exact(List.getElem?_eq_some_iff.1 hs).1
 have a0:(p1.spend σ).fr.getD i .undef=.box cs:=by
  cases p1<;>simp only[Opd.spend]<;>try exact O
  rename_i j;by_cases e:i=j
  · subst e; rw[A0 U,O]; rfl
  · rw[m7 e]; exact O
 have F:(p1.spend σ).fr.length=σ.fr.length:=by cases p1<;>simp[Opd.spend]
 have N:=E.fr.var i s hs;rw[a0]at N;obtain⟨b2,B,a1,arr,T,hh,L,b1,J⟩:=N;have Y:(a.eval y).cells.size=n:=by have:=C.rel.length;rw[a2]at this;exact this.symm.trans (by simp)
 have c3:cs.length=arr.size:=L.length.trans (by simp);have M:=a1A (c:=c) (w:=w) (v:=a.eval y) ho hx rfl (by rw[Y]; exact hn) hh (by omega) C.one;generalize I:(a.eval y).cells.toList=vs at *
 have c1:vs.length=n:=by rw[← I]; simpa using Y
 rw[Y,← c1]at M;obtain⟨r1,r2⟩:=a6o (off:=off) L b1 C.rel C.one;generalize b0:arr.toList.take off++vs++arr.toList.drop (off+vs.length)=new at *
 have he:Ext g w g (w.setRow (bx i) new.toArray):=Ext.setRow _ a1;have u:∀ b,b≠bx i→M8 g w g (w.setRow (bx i) new.toArray) b:=fun b O=>⟨setRow_other w _ b _ O,fun _ x=>x⟩
 have b3:∀ b q,g.sr b=some q→b≠bx i:=fun b q G e=>by have:=(E.fr.prv _ _ B).1;rw[e,this]at G; cases G
 unfold Oper.wp;rw[M];simp only[Oper.upon,hd,Act.put];have b5:c.A (bx i):=(E.fr.prv _ _ B).2.2;refine W a _ g b4 bx rfl ⟨?_,E.st.evolve he rfl (by simp) (fun b q G=>⟨G,u b (b3 b q G)⟩) (fun _ _ x=>x) (fun _ _ x=>.inl x),E.gl.ext he,fun b O=>E.fresh b (by simpa using O),E.stA⟩
  ⟨he,by simp,Env.setRow _ _ _,fun b _ c0 Z=>⟨u b fun e=>Z (e ▸ b5),c0⟩⟩
 refine E.fr.change (fun q=>q≠.box i) he (fun b q G b6=>⟨G,u b fun e=>?_⟩) (fun b q G=>?_) (fun j t' ht=>?_) (fun t' ht=>.inl ⟨by simp,rfl⟩) (by simp) (fun j ds hj=>?_) (fun j ds hj=>?_)
 · rw[e,B]at G; exact b6 (Option.some.inj G).symm
 · obtain⟨q1,q2,q3⟩:=E.fr.prv b q G; exact⟨q1,by simpa using q2,q3⟩
 · by_cases e:j=i
   · subst e;obtain rfl:t'=s:=Option.some.inj (ht.symm.trans hs);right;rw[A0 (by rw[F]; exact U)];refine⟨b2,B,a1,new.toArray,T,setRow_heap w _ arr _ T _ hh,by simpa using r1.ext he _ _,by simpa using r2,fun k z v hz hv=>?_⟩;rw[List.getElem?_toArray,← b0]at hv;unfold B7 at hz;have c2:=a1W (by omega) hz;have X:=a1W (by simp; omega) hv;have V:∀ b',b4 b'=some (.cell j k)→b'≠bx j:=fun b' l e=>by rw[e,B]at l; cases l
     rcases c2 with⟨z1,z2⟩|⟨z1,z2,z3⟩|⟨z1,z2⟩
     · rcases X with⟨_,v2⟩|⟨v1,_⟩|⟨v1,_⟩
       · exact(J k z v z2 (by simpa using v2)).mono fun b' l=>⟨l,u b' (V b' l)⟩
       · omega
       · omega
     · rcases X with⟨v1,_⟩|⟨_,_,v3⟩|⟨v1,_⟩
       · omega
       · refine(C.own _ z v z3 v3).mono fun b' l=>?_
         obtain⟨e0,l⟩:=l;have ek:k=off:=by omega
         subst ek;exact⟨l,u b' (V b' l)⟩
       · omega
     · rcases X with⟨v1,_⟩|⟨_,v1,_⟩|⟨_,v2⟩
       · omega
       · omega
       · exact(J k z v z2 (by simpa using v2)).mono fun b' l=>⟨l,u b' (V b' l)⟩
   · left;exact⟨⟨by simp,by simp[e],by simp⟩,m7 e⟩
 · by_cases e:j=i
   · subst e; exact⟨_,A0 (by rw[F]; exact U)⟩
   · exact⟨ds,by rw[m7 e]; exact hj⟩
 · by_cases e:j=i
   · subst e; exact E.fr.bxs j _ a0
   · rw[m7 e]at hj; exact E.fr.bxs j ds hj
end
end Go.Cb
namespace Go.Cb
open Classical
section
variable {c:Cx} {g:Gh} {w:World} {pr:Nat→Option Pl} {bx:Nat→Nat} {σ:Sig} {a:Act} {o:Oper} {call:e9} {b b' r:AV} {st st':St} {fr as:List AV}
noncomputable def Gh.land (g:Gh) (pr:Nat→Option Pl) (i off:Nat):Gh:={ g with sr:=fun b=>if pr b=some .fly then some (i,some off)else g.sr b }
theorem c7r (h:S c g w pr bx σ a) {I off n:Nat} {t:TypeId} {x y:Operand} {p1:Opd} {cs:List AV} (ho:o.op=.store t x y) (hn:C8 c t=some n)
 (L:σ.st[I]?=some (.cells cs)) (hx:a.eval x=.pointer (some (ad (g.m I) off))) (c4:F9 c y p1=true) (c6:(p1.read σ).plain=true) (b2:(p1.read σ).cells.length=n) (d2:off+n≤cs.length)
 {next:Act→World→Prop} {Q:Exit→Act→World→Prop} (hd:o.dst=none)
 (Y:Post c g w a { p1.spend σ with st:=σ.st.set I (.cells (B7 cs off (p1.read σ).cells)) } next):o.wp c.P a w next Q:=by
 obtain⟨F,J,hA,_⟩:=P9 h c4 .fly;have G:=a2M hA c6;have d1:(p1.spend σ).st=σ.st:=by cases p1<;>rfl
 have c3:I < g.n:=by rw[h.st.n]; exact(List.getElem?_eq_some_iff.1 L).1
 obtain⟨B,b0,arr,T,hh,b8,W,b5,U⟩:=h.st.obj I _ L;have a1:(a.eval y).cells.size=n:=by have:=G.rel.length;rw[b2]at this;exact this.symm.trans (by simp)
 have d0:cs.length≤arr.size:=by have:=W.length; rw[List.length_take]at this; simp at this; omega
 have X:=a1A (c:=c) (w:=w) (v:=a.eval y) ho hx rfl (by rw[a1]; exact hn) hh (by omega) G.one;generalize O:(a.eval y).cells.toList=vs at *
 have c7:vs.length=n:=by rw[← O]; simpa using a1
 rw[a1,← c7]at X;obtain⟨r1,r2⟩:=a6o (off:=off) W b5 G.rel G.one;have b7:(B7 cs off (p1.read σ).cells).length=cs.length:=by unfold B7;simp only[List.length_append,List.length_take,List.length_drop];omega
 have b6:(arr.toList.take cs.length).take off++vs++(arr.toList.take cs.length).drop (off+vs.length)=(arr.toList.take off++vs++arr.toList.drop (off+vs.length)).take cs.length:=by
  rw[List.take_take,Nat.min_eq_left (by omega),List.drop_take,List.take_append,List.length_append,List.length_take,Nat.min_eq_left (by simp; omega),
   List.take_of_length_le (l:=arr.toList.take off++vs) (by rw[List.length_append,List.length_take,Nat.min_eq_left (by simp; omega)]; omega)]
 rw[b6]at r1 r2;have c2:(arr.toList.take off++vs++arr.toList.drop (off+vs.length)).length=arr.size:=by simp only[List.length_append,List.length_take,List.length_drop,Array.length_toList];omega
 generalize b4:arr.toList.take off++vs++arr.toList.drop (off+vs.length)=new at *
 let g2:=g.land F I off
 let pr2:Nat→Option Pl:=fun b=>if F b=some .fly then none else F b
 have N:Ext g w g (w.setRow (g.m I) new.toArray):=Ext.setRow _ b0;have he:Ext g w g2 (w.setRow (g.m I) new.toArray):=⟨N.n,N.m,N.cp,N.cl,N.cell⟩;have u:∀ b,b≠g.m I→M8 g w g2 (w.setRow (g.m I) new.toArray) b:=fun b L=>⟨setRow_other w _ b _ L,fun _ x=>x⟩
 have V:∀ b q,F b=some q→b≠g.m I:=fun b q C e=>by have:=(J.fr.prv _ _ C).1;rw[e,B]at this; cases this
 have E:∀ b q,g.sr b=some q→g2.sr b=some q:=fun b q C=>by
  show(if F b=some .fly then some (I,some off)else g.sr b)=some q;rw[if_neg]
  · exact C
  · intro e; have:=(J.fr.prv _ _ e).1; rw[this]at C; cases C
 have b1:∀ b,F b=some .fly→g2.sr b=some (I,some off):=fun b L=>by show(if F b=some .fly then some (I,some off)else g.sr b)=_;rw[if_pos L]
 unfold Oper.wp;rw[X];simp only[Oper.upon,hd,Act.put];refine Y a _ g2 pr2 bx rfl ⟨?_,⟨?_,fun o' ob M=>?_,fun b q C=>?_,fun b f hf=>by simpa using J.st.cli b f hf⟩,J.gl.ext he,fun b L=>J.fresh b (by simpa using L),fun b q C=>?_⟩
  ⟨he,by simp,Env.setRow _ _ _,fun b _ Z a2=>⟨u b (fun e=>by rw[e,B]at Z; cases Z),?_⟩⟩
 · refine J.fr.change (fun q=>q≠.fly) he (fun b q C c0=>⟨?_,u b (V b q C)⟩) (fun b q C=>?_) (fun j t' ht=>.inl ⟨⟨by simp,by simp,by simp⟩,rfl⟩) (fun t' ht=>.inl ⟨by simp,rfl⟩) rfl (fun j ds hj=>⟨ds,hj⟩) J.fr.bxs
   · simp only[pr2];rw[if_neg (by rw[C]; intro e; exact c0 (Option.some.inj e))];exact C
   · simp only[pr2]at C;split at C
     · cases C
     · rename_i c1;obtain⟨q1,q2,q3⟩:=J.fr.prv b q C;refine⟨?_,by simpa using q2,q3⟩;show(if F b=some .fly then some (I,some off)else g.sr b)=none;rw[if_neg c1]; exact q1
 · show g.n=_;rw[List.length_set]; exact h.st.n
 · by_cases e:o'=I
   · subst e;rw[List.getElem?_set_self (by rw[← h.st.n]; exact c3)]at M;simp only[Option.some.injEq]at M;subst M;refine⟨E _ _ B,b0,new.toArray,T,setRow_heap w _ arr _ T _ hh,(show new.toArray.size=g.cp o' from by simpa[c2]using b8),by rw[b7]; exact r1.ext he _ _,by rw[b7]; exact r2,fun k z v hz hv=>?_⟩;rw[List.getElem?_toArray,← b4]at hv;unfold B7 at hz;have c8:=a1W (by omega) hz;have a0:=a1W (by simp; omega) hv;have b3:∀ b',g.sr b'=some (o',some k)→b'≠g.m o':=fun b' i e=>by rw[e,B]at i; simp at i
     rcases c8 with⟨z1,z2⟩|⟨z1,z2,z3⟩|⟨z1,z2⟩
     · rcases a0 with⟨_,v2⟩|⟨v1,_⟩|⟨v1,_⟩
       · exact(U k z v z2 (by simpa using v2)).mono fun b' i=>⟨E b' _ i,u b' (b3 b' i)⟩
       · omega
       · omega
     · rcases a0 with⟨v1,_⟩|⟨_,_,v3⟩|⟨v1,_⟩
       · omega
       · refine(G.own _ z v z3 v3).mono fun b' i=>?_
         obtain⟨e0,i⟩:=i;have ek:k=off:=by omega
         subst ek;exact⟨b1 b' i,u b' (V b' _ i)⟩
       · omega
     · rcases a0 with⟨v1,_⟩|⟨_,v1,_⟩|⟨_,v2⟩
       · omega
       · omega
       · exact(U k z v z2 (by simpa using v2)).mono fun b' i=>⟨E b' _ i,u b' (b3 b' i)⟩
   · rw[List.getElem?_set_ne (Ne.symm e)]at M;refine(h.st.obj o' ob M).mono (by rw[h.st.n]; exact(List.getElem?_eq_some_iff.1 M).1) he fun b k L=>⟨E b _ L,u b fun e2=>?_⟩
     rw[e2,B]at L;simp only[Option.some.injEq,Prod.mk.injEq]at L;exact e L.1.symm
 · have:b < w.heap.size:=by
    simp only[g2,Gh.land]at C;split at C
    · exact(J.fr.prv b _ ‹_›).2.1
    · exact J.st.inn b q C
   simpa using this
 · simp only[g2,Gh.land]at C;split at C
   · exact(J.fr.prv b _ ‹_›).2.2
   · exact J.stA b q C
 · show(if F b=some .fly then some (I,some off)else g.sr b)=none;rw[if_neg]
   · exact Z
   · intro e; exact a2 (J.fr.prv b _ e).2.2
theorem a7E {x:AV} {v:Value} {mine:Nat→Prop}:OwnC g w mine x.weak1 v:=by intro xs e;cases x<;>simp[AV.weak1]at e
theorem RelL.set {cs:List AV} {us:List Value} {k:Nat} {x:AV} {v:Value} (h:RelL g w cs us) (hu:us[k]?=some v) (B:Rel g w x v):RelL g w (cs.set k x) us:=by
 refine RelL.of_get (by simpa using h.length) fun i y u t j=>?_
 by_cases e:i=k
 · subst e;rw[hu]at j;simp only[Option.some.injEq]at j;subst j;have hl:i < cs.length:=by rw[h.length]; exact(List.getElem?_eq_some_iff.1 hu).1
   rw[List.getElem?_set_self hl]at t;simp only[Option.some.injEq]at t;subst t;exact B
 · rw[List.getElem?_set_ne (Ne.symm e)]at t;obtain⟨C,l,z⟩:=h.get t;rw[j]at l;simp only[Option.some.injEq]at l;subst l;exact z
theorem b0K {mine:Nat→Prop} {x:AV} {v:Value} (h:Rel g w x v) (i:v.oneCell'=true) (j:OwnC g w mine x v):ArgOK g w bx fr mine x v:=by
 cases x
 case agg cs =>simp only[Rel]at h;obtain⟨y,rfl,_⟩:=h;simp[Value.oneCell']at i
 case loc=>simp[Rel]at h
 case box=>simp[Rel]at h
 all_goals exact⟨h,j,fun _ e=>(by cases e)⟩
theorem a1u {t:TypeId} {x:Operand} {bb f:Nat} {v:Value} (j:o.op=.load t x) (i:D6 c t=some false) (u:a.eval x=.pointer (some (ad bb f))) (l:w.cell? (ad bb f)=some v) :
 (execOp a.eval o).run c.P w=.ok (.value v) w:=by
 simp[execOp,j,u,Instr.loadAt,Instr.sureAddr,loadVar,a2z c rfl i,l]
theorem c0h (fx:Fx c) (h:S c g w pr bx σ a) {i s off:Nat} (hs:c.slots[i]?=some s) {t:TypeId} {x:Operand} {cs:List AV} {z:AV} {p:Dst} (ho:o.op=.load t x) (a0:D6 c t=some false)
 (W:σ.fr.getD i .undef=.box cs) (hz:cs[off]?=some z) (hx:a.eval x=.pointer (some (ad (bx i) off))) (hd:B9 c o.dst p=true) {next:Act→World→Prop} {Q:Exit→Act→World→Prop}
 (F:Post c g w a (p.put z { σ with fr:=σ.fr.set i (.box (cs.set off z.weak1)) }) next):o.wp c.P a w next Q:=by
 have L:i < σ.fr.length:=by rw[h.fr.len]; exact(List.getElem?_eq_some_iff.1 hs).1
 have E:=h.fr.var i s hs;rw[W]at E;obtain⟨M,I,a2,arr,T,hh,C,l,B⟩:=E;obtain⟨v,hv,O⟩:=C.get hz;have J:arr[off]?=some v:=by simpa using hv
 have h1:v.oneCell'=true:=l v (by rw[Array.mem_toList_iff]; exact Array.mem_of_getElem? J);have N:=a1u (c:=c) (o:=o) ho a0 hx (by rw[cell_of_row w _ off arr T _ hh]; exact J);have G:=B off z v hz J;have U:RelL g w (cs.set off z.weak1) arr.toList:=C.set hv O.weak1;have hS:S c g w (mvp pr (.cell i off) p.pl) bx { σ with fr:=σ.fr.set i (.box (cs.set off z.weak1)) } a:=by
  refine⟨h.fr.change (·≠.cell i off) (Ext.refl g w) (fun b q hq b0=>⟨a0Y hq b0,rfl,fun _ x=>x⟩) (fun b q hq=>?_) (fun j t' ht=>?_) (fun t' ht=>.inl ⟨by simp,rfl⟩) (by simp) (fun j Y X=>?_) (fun j Y X=>?_),h.st,h.gl,h.fresh,h.stA⟩
  · obtain⟨q',b1⟩:=a8r hq;exact h.fr.prv b q' b1
  · by_cases e:j=i
    · subst e;obtain rfl:t'=s:=Option.some.inj (ht.symm.trans hs);right;rw[A0 L];refine⟨M,a0Y I (by simp),a2,arr,T,hh,U,l,fun k y u V hu=>?_⟩;by_cases Z:k=off
      · subst Z;rw[List.getElem?_set_self (List.getElem?_eq_some_iff.1 hz).1]at V;simp only[Option.some.injEq]at V;subst V;exact a7E
      · rw[List.getElem?_set_ne (Ne.symm Z)]at V;exact(B k y u V hu).mono fun b' a1=>⟨a0Y a1 (by simp[Z]),rfl,fun _ x=>x⟩
    · left;exact⟨⟨by simp,by simp,by simp[e]⟩,m7 e⟩
  · by_cases e:j=i
    · subst e; exact⟨_,A0 L⟩
    · exact⟨Y,by rw[m7 e]; exact X⟩
  · by_cases e:j=i
    · subst e; exact h.fr.bxs j _ W
    · rw[m7 e]at X; exact h.fr.bxs j Y X
 unfold Oper.wp;rw[N];exact F _ _ g _ bx (C9 _ _ _) (Z2 fx hS hd (mine:=fun b=>mvp pr (.cell i off) p.pl b=some p.pl) (b0K O h1 (G.mono fun b W=>⟨b2L W,rfl,fun _ x=>x⟩)) fun _ x=>x) (Tr.refl _ _ _)
noncomputable def Gh.give (g:Gh) (i off:Nat):Gh:={ g with sr:=fun b=>if g.sr b=some (i,some off)then none else g.sr b }
theorem c1b (fx:Fx c) (h:S c g w pr bx σ a) {E off:Nat} {t:TypeId} {x:Operand} {cs:List AV} {z:AV} {p:Dst} (ho:o.op=.load t x) (a2:D6 c t=some false)
 (F:σ.st[E]?=some (.cells cs)) (hz:cs[off]?=some z) (hx:a.eval x=.pointer (some (ad (g.m E) off))) (hd:B9 c o.dst p=true) {next:Act→World→Prop} {Q:Exit→Act→World→Prop}
 (L:Post c g w a (p.put z { σ with st:=σ.st.set E (.cells (cs.set off z.weak1)) }) next):o.wp c.P a w next Q:=by
 have b4:E < g.n:=by rw[h.st.n]; exact(List.getElem?_eq_some_iff.1 F).1
 obtain⟨N,b1,arr,T,hh,b2,J,G,I⟩:=h.st.obj E _ F;obtain⟨v,V,Y⟩:=J.get hz;have a1:arr[off]?=some v:=by
  rw[List.getElem?_take]at V;split at V
  · simpa using V
  · cases V
 have h1:v.oneCell'=true:=G v (List.mem_of_getElem? V);have X:=a1u (c:=c) (o:=o) ho a2 hx (by rw[cell_of_row w _ off arr T _ hh]; exact a1);have M:=I off z v hz a1;let g2:=g.give E off
 let pr2:Nat→Option Pl:=fun b=>if g.sr b=some (E,some off)then some p.pl else pr b
 have U:Ext g w g2 w:=⟨Nat.le_refl _,fun _ _=>rfl,fun _ _=>rfl,fun _ _ x=>x,fun _ _ _=>rfl⟩;have i:∀ b,M8 g w g2 w b:=fun b=>⟨rfl,fun _ x=>x⟩
 have a0:RelL g w (cs.set off z.weak1) (arr.toList.take (cs.set off z.weak1).length):=by rw[List.length_set]; exact J.set V Y.weak1
 have B:∀ b O k,g.sr b=some (O,k)→(O≠E∨k≠some off)→g2.sr b=some (O,k):=fun b O k F b3=>by
  show(if g.sr b=some (E,some off)then none else g.sr b)=_;rw[if_neg]
  · exact F
  · rw[F]; intro e;simp only[Option.some.injEq,Prod.mk.injEq]at e;rcases b3 with h1|h1
    · exact h1 e.1
    · exact h1 e.2
 have W:∀ b q,pr b=some q→pr2 b=some q:=fun b q l=>by
  simp only[pr2];rw[if_neg]
  · exact l
  · rw[(h.fr.prv b q l).1]; simp
 have hS:S c g2 w pr2 bx { σ with st:=σ.st.set E (.cells (cs.set off z.weak1)) } a:=by
  refine⟨h.fr.change (fun _=>True) U (fun b q l _=>⟨W b q l,i b⟩) (fun b q l=>?_) (fun j t' ht=>.inl ⟨⟨trivial,trivial,fun _=>trivial⟩,rfl⟩) (fun t' ht=>.inl ⟨trivial,rfl⟩) rfl (fun j ds hj=>⟨ds,hj⟩) h.fr.bxs,
   ⟨?_,fun O ob C=>?_,fun b q l=>?_,h.st.cli⟩,h.gl.ext U,h.fresh,fun b q l=>?_⟩
  · simp only[pr2]at l;show(if g.sr b=some (E,some off)then none else g.sr b)=none∧_;split at l
    · rename_i e;exact⟨by rw[if_pos e],h.st.inn b _ e,h.stA b _ e⟩
    · rename_i e;obtain⟨q1,q2,q3⟩:=h.fr.prv b q l;exact⟨by rw[if_neg e]; exact q1,q2,q3⟩
  · show g.n=_;rw[List.length_set]; exact h.st.n
  · by_cases e:O=E
    · subst e;rw[List.getElem?_set_self (by rw[← h.st.n]; exact b4)]at C;simp only[Option.some.injEq]at C;subst C;refine⟨B _ _ _ N (.inr (by simp)),b1,arr,T,hh,b2,a0.ext U _ _,by rw[List.length_set]; exact G,fun k y u hy hu=>?_⟩;by_cases ek:k=off
      · subst ek;rw[List.getElem?_set_self (List.getElem?_eq_some_iff.1 hz).1]at hy;simp only[Option.some.injEq]at hy;subst hy;exact a7E
      · rw[List.getElem?_set_ne (Ne.symm ek)]at hy;exact(I k y u hy hu).mono fun b' b0=>⟨B b' _ _ b0 (.inr (by simp[ek])),i b'⟩
    · rw[List.getElem?_set_ne (Ne.symm e)]at C;exact(h.st.obj O ob C).mono (by rw[h.st.n]; exact(List.getElem?_eq_some_iff.1 C).1) U fun b k F=>⟨B b _ _ F (.inl e),i b⟩
  · simp only[g2,Gh.give]at l;split at l
    · cases l
    · exact h.st.inn b q l
  · simp only[g2,Gh.give]at l;split at l
    · cases l
    · exact h.stA b q l
 have b5:Tr c.A g w g2 w:=⟨U,Nat.le_refl _,Env.refl w,fun b _ Z _=>⟨i b,by show(if g.sr b=some (E,some off)then none else g.sr b)=none;rw[if_neg (by rw[Z]; simp)]; exact Z⟩⟩;unfold Oper.wp;rw[X];refine L _ _ g2 pr2 bx (C9 _ _ _) (Z2 fx hS hd (mine:=fun b=>pr2 b=some p.pl) (b0K (Y.ext U) h1 (M.mono fun b F=>⟨?_,i b⟩)) fun _ x=>x) b5;simp only[pr2];rw[if_pos F]
end
end Go.Cb
namespace Go.Cb
open Classical
section
variable {c:Cx} {g:Gh} {w:World} {pr:Nat→Option Pl} {bx:Nat→Nat} {σ:Sig} {a:Act} {o:Oper} {call:e9} {b b' r:AV} {st st':St} {fr as:List AV}
theorem a82 {us vs:List Value} {bb f:Nat} (h:w.rangeAt bb f us) (l:w.rangeAt bb (f+us.length) vs):w.rangeAt bb f (us++vs):=by
 intro j v i;by_cases t:j < us.length
 · rw[List.getElem?_append_left t]at i; exact h j v i
 · rw[List.getElem?_append_right (by omega)]at i;have:=l _ v i;rw[show f+us.length+(j - us.length)=f+j by omega]at this;exact this
theorem RelRows.vals {bb i:Nat}:∀ {xs:List (List AV)} {f:Nat},RelRows g w bb f i xs →
 ∃ us,us.length=xs.length*i∧RelL g w xs.flatten us∧w.rangeAt bb f us∧(∀ u∈us,u.oneCell'=true)∧∀ j,j < us.length→g.cl bb (f+j)
 | [],f,_=>⟨[],by simp,by simp[RelL],fun j v h=>by simp at h,by simp,by simp⟩
 | x::xs,f,h=>by
  simp only[RelRows]at h;obtain⟨y,z,B⟩:=h;obtain⟨us,t,E,F,G⟩:=z.vals;obtain⟨vs,v0,I,v2,v3,v4⟩:=RelRows.vals B;have hl:us.length=i:=by rw[← t.length]; exact y
  refine⟨us++vs,by rw[List.length_append,hl,v0,List.length_cons,Nat.succ_mul]; omega,by rw[List.flatten_cons]; exact t.append I,a82 E (by rw[hl]; exact v2),fun u hu=>?_,fun j C=>?_⟩
  · rcases List.mem_append.1 hu with hu|hu
    · exact F u hu
    · exact v3 u hu
  · rw[List.length_append]at C;by_cases l:j < us.length
    · exact G j l
    · have:=v4 (j - us.length) (by omega);rw[show f+i+(j - us.length)=f+j by omega]at this;exact this
theorem RelCells.mk {bb:Nat}:∀ {cs:List AV} {us:List Value} {f:Nat},RelL g w cs us→w.rangeAt bb f us→(∀ u∈us,u.oneCell'=true)→(∀ j,j < us.length→g.cl bb (f+j))→RelCells g w bb f cs
 | [],_,_,_,_,_,_=>by simp[RelCells]
 | x::cs,us,f,h,hr,h1,hc=>by
  simp only[RelL]at h;obtain⟨v,us,rfl,i,l⟩:=h;simp only[RelCells];refine⟨⟨v,by simpa using hr 0 v rfl,h1 v (by simp),by simpa using hc 0 (by simp),i⟩,RelCells.mk l (fun j u hu=>?_) (fun u hu=>h1 u (by simp[hu])) (fun j t=>?_)⟩
  · have:=hr (j+1) u (by simpa using hu);rw[show f+(j+1)=f+1+j by omega]at this;exact this
  · have:=hc (j+1) (by simp; omega);rw[show f+(j+1)=f+1+j by omega]at this;exact this
theorem RelRows.mk {bb i:Nat}:∀ {xs:List (List AV)} {us:List Value} {f:Nat},(∀ x∈xs,x.length=i)→RelL g w xs.flatten us→w.rangeAt bb f us→(∀ u∈us,u.oneCell'=true)→(∀ j,j < us.length→g.cl bb (f+j))→RelRows g w bb f i xs
 | [],_,_,_,_,_,_,_=>by simp[RelRows]
 | x::xs,us,f,hx,h,hr,h1,hc=>by
  have t:=hx x (by simp);rw[List.flatten_cons]at h;have z:RelL g w x (us.take i):=by
   have:=h.take i
   rwa [List.take_append_of_le_length (by omega),List.take_of_length_le (by omega)]at this
  have B:RelL g w xs.flatten (us.drop i):=by
   have:=h.drop i
   rwa [List.drop_append_of_le_length (by omega),List.drop_of_length_le (by omega),List.nil_append]at this
  simp only[RelRows];refine⟨t,RelCells.mk z (fun j u hu=>?_) (fun u hu=>h1 u (List.mem_of_mem_take hu)) (fun j l=>hc j (by rw[List.length_take]at l; omega)),RelRows.mk (fun y C=>hx y (by simp[C])) B (fun j u hu=>?_) (fun u hu=>h1 u (List.mem_of_mem_drop hu)) (fun j l=>?_)⟩
  · rw[List.getElem?_take]at hu;split at hu
    · exact hr j u hu
    · cases hu
  · rw[List.getElem?_drop]at hu;have:=hr _ u hu;rw[show f+(i+j)=f+i+j by omega]at this;exact this
  · rw[List.length_drop]at l;have:=hc (i+j) (by omega);rw[show f+(i+j)=f+i+j by omega]at this;exact this
def Gh.claim (g:Gh) (bb i hi:Nat):Gh:={ g with cl:=fun b' f=>g.cl b' f∨(b'=bb∧i≤f∧f < hi) }
theorem T8 {P:Program} (t ty e:TypeId) (i:TypeInfo) (T:TypeId) (J:P.underlying t=some (.slice e)) (hi:P.info? e=some i)
 (C l y:Nat) (x:Array Value) (hg:w.heap[C]?=some (.cells x T (0,0)))
 (a1:Addr) (m c1:Nat) (news:List Value) (hl:news.length=m*i.size) (z:∀ j u,news[j]?=some u→w.cell? (a1.add j)=some u) (G:∀ u∈news,u.oneCell'=true)
 (B:l+m≤y) (E:l*i.size+news.length≤x.size) :
 (Builtin.append_ #[t,t] ty #[.slice (some ⟨C,0,none⟩) l y,.slice (some a1) m c1]).run P w =
  .ok (.slice (some ⟨C,0,none⟩) (l+m) y) (w.setRow C (x.toList.take (l*i.size)++news++x.toList.drop (l*i.size+news.length)).toArray):=by
 have I:=run_firstCells_some (P:=P) w i.size m a1 m c1 news hl z;have F:=run_storeCells_at P C (l*i.size) T news 0 x w hg (by simpa using E) G;simp only[Nat.add_zero]at F;simp[Builtin.append_,run_underlying J,sizeOf,typeInfo,hi,Builtin.lenOf,B,I,Addr.add_lit,F]
theorem P8 {P:Program} (t ty e:TypeId) (i:TypeInfo) (u:P.underlying t=some (.slice e)) (hi:P.info? e=some i) (a0 a1:Option Addr) (n cap c1:Nat) (j:n≤cap) :
 (Builtin.append_ #[t,t] ty #[.slice a0 n cap,.slice a1 0 c1]).run P w=.ok (.slice a0 n cap) w:=by
 have l:(Builtin.firstCells i.size 0 (.slice a1 0 c1)).run P w=.ok #[] w:=by
  cases a1 with
  | none=>rfl
  | some x=>simp[Builtin.firstCells,loadCells,loadCellsFrom]
 cases a0<;>simp[Builtin.append_,run_underlying u,sizeOf,typeInfo,hi,Builtin.lenOf,j,l,storeCells]
theorem P2 {t:TypeId} {x y:Operand} {at_:Array TypeId} (l:o.op=.call { callee:=.builtin .append,args:=#[x,y],argTypes:=at_ }) (i:at_=#[t,t]) {v u j:Value} {w':World}
 (z:a.eval x=v) (B:a.eval y=u) (h:(Builtin.append_ #[t,t] o.type #[v,u]).run c.P w=.ok j w'):(execOp a.eval o).run c.P w=.ok (.value j) w':=by
 subst i;unfold execOp;simp only[l,resolve,invoke,builtin,Sem.run_bind,Sem.run_pure,Result.andThen_ok,List.map_toArray,List.map_cons,List.map_nil,z,B,h]
theorem a3y (L:Fx c) (h:S c g w pr bx σ a) {od:Option Tmp} {d:Dst} (B:B9 c od d=true) (C:od.isSome=true) {g2:Gh} {E:World} {pr2:Nat→Option Pl} (J:Ext g w g2 E) (F:SRel g2 E st')
 (hm:∀ b p,pr b=some p→p≠d.pl→pr2 b=some p∧M8 g w g2 E b) (y:∀ b p,pr2 b=some p→g2.sr b=none∧b < E.heap.size∧c.A b) (G:w.heap.size≤E.heap.size) (z:∀ b p,g2.sr b=some p→c.A b)
 {v:Value} (O:ArgOK g2 E bx σ.fr (fun b=>pr2 b=some d.pl) r v):S c g2 E pr2 bx { d.put r σ with st:=st' } (a.put od v):=by
 unfold B9 at B;split at B
 · simp at C
 · rename_i s U;simp only[Bool.and_eq_true,beq_iff_eq,decide_eq_true_eq]at B;obtain⟨⟨rfl,hn⟩,hl⟩:=B;have M:=h.fr.put_t (S3 hn) hl (a:=.undef) (v:=v) ValOK.undef;refine⟨?_,F,h.gl.ext J,fun b u=>h.fresh b (Nat.le_trans G u),z⟩;refine M.change (·≠.tmp s) J (fun b p u N=>hm b p u N) y (fun j t I=>.inl ⟨⟨by simp,by simp,by simp⟩,rfl⟩) (fun t I=>?_) rfl (fun j cs l=>⟨cs,l⟩) h.fr.bxs;by_cases e:t=s
   · subst e;right;rw[I9 (by rw[h.fr.size]; exact hl)];simp only[Dst.put,C6,Nat.beq_refl,if_true];exact O.tmp (σ:=σ) fun _ x=>x
   · left;exact⟨by simpa using e,by simp[Dst.put,C6,e]⟩
 · rename_i s i;simp only[Bool.and_eq_true,beq_iff_eq]at B;obtain⟨hs,u⟩:=B;have u:=S3 u;have hi:i < σ.fr.length:=by rw[h.fr.len]; exact(List.getElem?_eq_some_iff.1 hs).1
   have M:=h.fr.put_v L.nd L.lt hs u (a:=.undef) (v:=v) ValOK.undef (by simp);refine⟨?_,F,h.gl.ext J,fun b u=>h.fresh b (Nat.le_trans G u),z⟩;refine M.change (·≠.var i) J (fun b p u N=>hm b p u N) y (fun j t I=>?_) (fun t I=>.inl ⟨by simp,rfl⟩) (by simp[Dst.put]) (fun j cs l=>?_) (fun j cs l=>?_)
   · by_cases e:j=i
     · subst e;obtain rfl:t=s:=Option.some.inj (I.symm.trans hs);right;rw[I9 (by rw[h.fr.size]; exact L.lt t (List.mem_of_getElem? I))];simp only[Dst.put];rw[A0 hi];exact O.var (σ:=σ) fun _ x=>x
     · left;exact⟨⟨by simp[e],by simp,by simp⟩,by simp only[Dst.put]; rw[m7 e,m7 e]⟩
   · by_cases e:j=i
     · subst e; rw[A0 hi]at l; cases l
     · rw[m7 e]at l;exact⟨cs,by simp only[Dst.put]; rw[m7 e]; exact l⟩
   · by_cases e:j=i
     · subst e;simp only[Dst.put]at l;rw[A0 hi]at l;cases r<;>simp[AV.strip]at l
     · simp only[Dst.put]at l;rw[m7 e]at l;exact h.fr.bxs j cs l
 · cases B
theorem b1r {t:Nat} {xs:List (List AV)} {bb f j:Nat} (h:s5 t xs=true) (u:RelRows g w bb f j xs):∀ r∈xs,r.length=t:=by
 cases xs with
 | nil=>simp
 | cons x xs =>have l:=u.all;simp only[s5,beq_iff_eq]at h;have y:=l x (by simp);intro r i;rw[l r i]; omega
theorem a9q {own:Bool} {xs:List (List AV)} {v:Value} {y:Nat} (h:Rel g w (.list own xs) v) (C:s5 y xs=true) :
 ∃ a0 cap us,v=.slice a0 xs.length cap∧xs.length≤cap∧(a0=none→cap=0)∧us.length=xs.length*y∧RelL g w xs.flatten us∧(∀ u∈us,u.oneCell'=true)∧(∀ r∈xs,r.length=y) ∧
  (∀ a1,a0=some a1→∀ (j:Nat) u,us[j]?=some u→w.cell? (a1.add j)=some u)∧(xs≠[]→∃ bb f,a0=some (ad bb f)∧w.rangeAt bb f us∧∀ j,j < us.length→g.cl bb (f+j)):=by
 simp only[Rel]at h;obtain⟨a0,n,cap,rfl,rfl,t,hn,E⟩:=h;cases xs with
 | nil=>exact⟨a0,cap,[],rfl,t,hn,by simp,by simp[RelL],by simp,by simp,fun _ _ j u hu=>by simp at hu,fun h=>absurd rfl h⟩
 | cons x xs =>
  obtain⟨bb,f,z,rfl,i⟩:=E (by simp);have l:=b1r C i;obtain rfl:z=y:=by have L:=i.all x (by simp); have M:=l x (by simp); omega
  obtain⟨us,F,G,B,I,J⟩:=i.vals;refine⟨_,cap,us,rfl,t,hn,F,G,I,l,fun a1 e j u hu=>?_,fun _=>⟨bb,f,rfl,B,J⟩⟩;simp only[Option.some.injEq]at e;subst e;rw[Addr.add_ad];exact B j u hu
theorem a7s (fx:Fx c) (h:S c g w pr bx σ a) {t e sz bytes:Nat} {i:TypeInfo} {z:Value} {x y:Operand} {p0:Opd} {d:Dst} {at_:Array TypeId}
 (ho:o.op=.call { callee:=.builtin .append,args:=#[x,y],argTypes:=at_ }) (c7:at_=#[t,t]) (hu:c.P.underlying t=some (.slice e)) (hi:c.P.info? e=some i) (hz:i.zero=some z) (h0:i.size=sz) (f9:i.bytes=bytes)
 (h7:z.cells.size=sz) (f8:0 < bytes) (g5:F9 c x p0=true) (hd:B9 c o.dst d=true) (b5:o.dst.isSome=true) {xs ys:List (List AV)}
 (e0:p0.read σ=.list true xs) (hY:∃ a1 E vs,a.eval y=.slice a1 ys.length E∧ys.length≤E∧(a1=none→E=0)∧vs.length=ys.length*sz∧RelL g w ys.flatten vs∧(∀ u∈vs,u.oneCell'=true)∧(∀ r∈ys,r.length=sz)∧(∀ a2,a1=some a2→∀ (j:Nat) u,vs[j]?=some u→w.cell? (a2.add j)=some u)∧(ys≠[]→∃ bb f,a1=some (ad bb f))) (g6:s5 sz xs=true) (F:(xs.length+ys.length)*bytes≤2 ^ 47)
 {next:Act→World→Prop} {Q:Exit→Act→World→Prop} (V:Post c g w a (d.put (.list true (xs++ys)) (p0.spend σ)) next):o.wp c.P a w next Q:=by
 subst h0; subst f9;have f5:(2:Nat) ^ 47=140737488355328:=by decide
 rw[f5]at F;obtain⟨b1,O,hA,_⟩:=P9 h g5 d.pl;rw[e0]at hA;have hA:ValOK g w (fun b=>b1 b=some d.pl) (.list true xs) (a.eval x):=hA;obtain⟨a0,cap,us,ev,g1,e6,ul,ur,u1,ux,uc,ub⟩:=a9q hA.rel g6;obtain⟨a1,E,vs,eu,_,g3,vl,vr,v1,vx,vc,vb⟩:=hY;have X:∀ r∈xs++ys,r.length=i.size:=fun r hr=>by
  rcases List.mem_append.1 hr with hr|hr
  · exact ux r hr
  · exact vx r hr
 have c0:xs.length+ys.length≤140737488355328:=Nat.le_trans (Nat.le_mul_of_pos_right _ f8) F;unfold Oper.wp;by_cases c2:ys=[]
 · subst c2;have J:=P2 (c:=c) (w:=w) ho c7 ev eu (P8 (P:=c.P) t o.type e i hu hi a0 a1 xs.length cap E g1);rw[J,List.append_nil]at *
   rw[← ev];exact V _ _ g b1 bx (C9 _ _ _) (Z2 fx O hd hA fun _ x=>x) (Tr.refl _ _ _)
 · have hm:0 < ys.length:=List.length_pos_iff.2 c2;obtain⟨b8,f1,rfl⟩:=vb c2;have d6:=vc _ rfl;have Z:(p0.spend σ).st=σ.st:=by cases p0<;>rfl
   by_cases W:xs.length+ys.length≤cap
   · -- there is room
     rcases hA.own xs rfl with⟨a',n',h'⟩|⟨G,n',l,h8,arr,T,h',U,b7,h6,hh,c3,d1,e1⟩
     · rw[ev]at h';simp only[Value.slice.injEq]at h';omega
     · rw[ev]at h';simp only[Value.slice.injEq]at h';obtain⟨rfl,rfl,rfl⟩:=h';obtain rfl:h8=i.size:=by
        cases xs with
        | nil=>exact absurd rfl b7
        | cons x0 xs=>have h1:=h6 x0 (by simp); have h2:=ux x0 (by simp); omega
       have e4:xs.length*i.size+vs.length≤arr.size:=by rw[vl,c3,← Nat.add_mul]; exact Nat.mul_le_mul_right _ W
       have J:=P2 (c:=c) (w:=w) ho c7 ev eu (T8 (P:=c.P) (w:=w) t o.type e i T hu hi G xs.length cap arr hh (ad b8 f1) ys.length E vs vl d6 v1 W e4);have hN:(xs.length+ys.length)*i.size=xs.length*i.size+vs.length:=by rw[Nat.add_mul,vl]
       generalize f7:xs.length*i.size=N at *
       have d9:arr.toList.length=arr.size:=by simp
       generalize L:arr.toList.take N++vs++arr.toList.drop (N+vs.length)=new at *
       have g4:new.length=arr.size:=by rw[← L]; simp only[List.length_append,List.length_take,List.length_drop,d9]; omega
       have h3:(arr.toList.take N).length=N:=by rw[List.length_take,d9]; omega
       have d2:=O.fr.prv G _ U;let g2:=g.claim G N (N+vs.length)
       have d0:∀ b f,g.cl b f→(w.setRow G new.toArray).cell? (ad b f)=w.cell? (ad b f):=fun b f I=>by
        by_cases eb:b=G
        · subst eb;have d3:f < N:=Nat.lt_of_not_le fun b2=>e1 f b2 I
          rw[cell_of_row _ b f new.toArray T (0,0) (setRow_heap w b arr _ T _ hh),cell_of_row w b f arr T (0,0) hh,List.getElem?_toArray,← L,List.append_assoc,
           List.getElem?_append_left (by omega),List.getElem?_take,if_pos d3,Array.getElem?_toList]
        · exact a1j _ eb
       have he:Ext g w g2 (w.setRow G new.toArray):=⟨Nat.le_refl _,fun _ _=>rfl,fun _ _=>rfl,fun b f I=>.inl I,d0⟩;have B:∀ b,b≠G→M8 g w g2 (w.setRow G new.toArray) b:=fun b F=>⟨setRow_other w _ b _ F,fun f I=>by
        rcases I with I|⟨e,_⟩
        · exact I
        · exact absurd e F⟩
       have f0:∀ b q,g.sr b=some q→b≠G:=fun b q Y e=>by rw[e,d2.1]at Y; cases Y
       have M:(w.setRow G new.toArray).rangeAt G N vs:=fun j u hu'=>by
        have hj:j < vs.length:=(List.getElem?_eq_some_iff.1 hu').1;show(w.setRow G new.toArray).cell? (ad G (N+j))=some u;rw[cell_of_row _ G _ new.toArray T (0,0) (setRow_heap w G arr _ T _ hh),List.getElem?_toArray,← L,List.append_assoc,
         List.getElem?_append_right (by omega),h3,List.getElem?_append_left (by omega)]
        rw[show N+j - N=j by omega];exact hu'
       obtain⟨bb,f,f4,g7,e2⟩:=ub b7;have d7:G=bb∧0=f:=by simpa[ad]using f4
       obtain⟨rfl,rfl⟩:=d7;have b4:Rel g2 (w.setRow G new.toArray) (.list true (xs++ys)) (.slice (some (ad G 0)) (xs.length+ys.length) cap):=by simp only[Rel];refine⟨_,_,_,rfl,by rw[List.length_append],W,fun h=>(by cases h),fun _=>⟨G,0,i.size,rfl,?_⟩⟩;refine(RelRows.ext he _ _ _ _ (RelRows.mk ux ur g7 u1 e2)).append ?_;rw[f7,Nat.zero_add];exact RelRows.mk vx (vr.ext he _ _) M v1 (fun j hj=>.inr ⟨rfl,by omega,by omega⟩)
       have b3:Own g2 (w.setRow G new.toArray) (fun b=>b1 b=some d.pl) (xs++ys) (.slice (some (ad G 0)) (xs.length+ys.length) cap) :=
        .inr ⟨G,_,cap,i.size,new.toArray,T,rfl,U,by simp[b7],X,setRow_heap w G arr _ T _ hh,by simp[g4,c3],d1,fun f I hc=>by
         rcases hc with hc|⟨_,_,hc⟩
         · exact e1 f (by omega) hc
         · omega⟩
       rw[J];have b6:SRel g2 (w.setRow G new.toArray) σ.st:=by
        rw[← Z];exact O.st.evolve he rfl (by simp) (fun b q Y=>⟨Y,B b (f0 b q Y)⟩) (fun _ _ x=>x) (fun b f I=>by
         rcases I with I|⟨e,_⟩
         · exact .inl I
         · right; rw[e]; simpa using d2.2.1)
       refine V _ _ g2 b1 bx (C9 _ _ _) ?_ ⟨he,by simp,Env.setRow _ _ _,fun b _ d5 d8=>⟨B b (fun e=>d8 (e ▸ d2.2.2)),d5⟩⟩;have:=a3y fx O hd b5 he b6 (pr2:=b1) (fun b p F hp=>⟨F,B b (fun e=>by rw[e,U]at F; exact hp (Option.some.inj F).symm)⟩)
        (fun b p F=>⟨(O.fr.prv b p F).1,by simpa using(O.fr.prv b p F).2.1,(O.fr.prv b p F).2.2⟩) (by simp) O.stA (r:=.list true (xs++ys)) (v:=.slice (some (ad G 0)) (xs.length+ys.length) cap)
        ⟨b4,fun zs ez=>(by cases ez; exact b3),fun _ ez=>(by cases ez)⟩
       have c6:∀ (q:Sig),q.st=σ.st→({ d.put (.list true (xs++ys)) q with st:=σ.st }:Sig)=d.put (.list true (xs++ys)) q:=fun q Y=>by cases d<;>simp[Dst.put,← Y]
       rw[c6 _ Z]at this;exact this
   · -- a new row
     obtain⟨C,l,J,hC,f6,c8,d1⟩:∃ (C:Array Value) (l:Nat),(Builtin.append_ #[t,t] o.type #[.slice a0 xs.length cap,.slice (some (ad b8 f1)) ys.length E]).run c.P w =
      .ok (.slice (some (ad w.heap.size 0)) (xs.length+ys.length) l) (w.drew.alloc (.cells C e))∧C.toList.take ((xs.length+ys.length)*i.size)=us++vs∧C.size=l*i.size∧xs.length+ys.length≤l∧l≤maxLen:=by
      have d4:xs.length+ys.length≤maxLen:=by unfold maxLen; omega
      have b2:=grownCap_ge w (xs.length+ys.length) cap e;have e5:(us++vs).length=(xs.length+ys.length)*i.size:=by rw[List.length_append,ul,vl,Nat.add_mul]
      have f3:∀ k,(Builtin.zeroCells z.cells k).size=k*i.size:=fun k=>by rw[size_zeroCells,h7]
      cases a0 with
      | none =>
       have g0:=e6 rfl;have h5:xs=[]:=List.eq_nil_of_length_eq_zero (by omega);subst h5;subst g0;have h4:us=[]:=List.eq_nil_of_length_eq_zero (by simpa using ul);subst h4;simp only[List.length_nil,Nat.zero_add]at b2 F c0 d4 ⊢;refine⟨_,_,run_append_nil (P:=c.P) w t o.type e i z hu hi hz (ad b8 f1) ys.length E vs vl d6 hm (by omega) (by omega),?_,?_,b2,grownCap_le_maxLen w ys.length 0 e d4⟩
       · rw[Array.toList_append,List.toList_toArray,List.nil_append,← vl,List.take_left]
       · rw[Array.size_append,f3,List.size_toArray,vl,← Nat.add_mul];congr 1; omega
      | some b0 =>
       refine⟨_,_,run_append_grow (P:=c.P) w t o.type e i z hu hi hz b0 xs.length cap us ul (uc b0 rfl) (ad b8 f1) ys.length E vs vl d6 (by omega) (by omega) (growslice_fits (by omega) F),?_,?_,b2,grownCap_le_maxLen w _ cap e d4⟩
       · simp only[Array.toList_append,List.append_assoc];rw[← List.append_assoc,← e5];exact List.take_left
       · simp only[Array.size_append,List.size_toArray,f3,ul,vl,← Nat.add_mul];congr 1; omega
     have J:=P2 (c:=c) (w:=w) ho c7 ev eu J;have hN:(xs.length+ys.length)*i.size=us.length+vs.length:=by rw[Nat.add_mul,ul,vl]
     generalize c1:w.drew.alloc (.cells C e)=w2 at *
     have e3:Env w w2:=by rw[← c1];exact(Env.drawn (w:=w) (w':=w.drew) rfl rfl rfl).trans (Env.alloc w.drew _ (by intro c t z e; cases e; rfl))
     have h9:w2.heap.size=w.heap.size+1:=by rw[← c1]; simp
     have L:w2.heap[w.heap.size]?=some (.cells C e (0,0)):=by rw[← c1]; exact heap_alloc_new w.drew _
     have c4:∀ b,b < w.heap.size→w2.heap[b]?=w.heap[b]?:=fun b F=>by rw[← c1]; exact heap_alloc_old w.drew _ F
     let g2:=g.claim w.heap.size 0 (us.length+vs.length)
     have he:Ext g w g2 w2:=⟨Nat.le_refl _,fun _ _=>rfl,fun _ _=>rfl,fun b f I=>.inl I,fun b f I=>World.cell?_of_block (c4 b (O.st.cli b f I))⟩;have B:∀ b,b < w.heap.size→M8 g w g2 w2 b:=fun b F=>⟨c4 b F,fun f I=>by
      rcases I with I|⟨e',_⟩
      · exact I
      · omega⟩
     have f2:g.sr w.heap.size=none:=by
      cases Y:g.sr w.heap.size with
      | none=>rfl
      | some p=>exact absurd (O.st.inn _ p Y) (Nat.lt_irrefl _)
     let pr2:Nat→Option Pl:=fun b=>if b=w.heap.size then some d.pl else b1 b
     have M:w2.rangeAt w.heap.size 0 (us++vs):=fun j u hj=>by
      show w2.cell? (ad w.heap.size (0+j))=some u;rw[Nat.zero_add,cell_of_row w2 _ j C e (0,0) L,← Array.getElem?_toList];rw[← hC,List.getElem?_take]at hj;split at hj
      · exact hj
      · cases hj
     have b4:Rel g2 w2 (.list true (xs++ys)) (.slice (some (ad w.heap.size 0)) (xs.length+ys.length) l):=by
      simp only[Rel];refine⟨_,_,_,rfl,by rw[List.length_append],c8,fun h=>(by cases h),fun _=>⟨w.heap.size,0,i.size,rfl,?_⟩⟩;refine RelRows.mk X ?_ M (fun u hu'=>?_) (fun j hj=>.inr ⟨rfl,by omega,by rw[List.length_append]at hj; omega⟩)
      · rw[List.flatten_append]; exact(ur.ext he _ _).append (vr.ext he _ _)
      · rcases List.mem_append.1 hu' with hu'|hu'
        · exact u1 u hu'
        · exact v1 u hu'
     have b3:Own g2 w2 (fun b=>pr2 b=some d.pl) (xs++ys) (.slice (some (ad w.heap.size 0)) (xs.length+ys.length) l) :=
      .inr ⟨w.heap.size,_,l,i.size,C,e,rfl,by simp[pr2],by simp[c2],X,L,f6,d1,fun f I hc=>by
       rcases hc with hc|⟨_,_,hc⟩
       · exact absurd (O.st.cli _ f hc) (Nat.lt_irrefl _)
       · omega⟩
     rw[J];have b6:SRel g2 w2 σ.st:=by
      rw[← Z];exact O.st.evolve he rfl (by omega) (fun b q Y=>⟨Y,B b (O.st.inn b q Y)⟩) (fun _ _ x=>x) (fun b f I=>by
       rcases I with I|⟨e',_⟩
       · exact .inl I
       · right; omega)
     refine V _ _ g2 pr2 bx (C9 _ _ _) ?_ ⟨he,by omega,e3,fun b F d5 _=>⟨B b F,d5⟩⟩;have:=a3y fx O hd b5 he b6 (pr2:=pr2) (fun b p F hp=>by
      have d3:=(O.fr.prv b p F).2.1;exact⟨by simp only[pr2]; rw[if_neg (by omega)]; exact F,B b d3⟩)
      (fun b p F=>by
       simp only[pr2]at F;split at F
       · rename_i e'; subst e'; exact⟨f2,by omega,O.fresh _ (Nat.le_refl _)⟩
       · obtain⟨q1,q2,q3⟩:=O.fr.prv b p F; exact⟨q1,by omega,q3⟩) (by omega) O.stA (r:=.list true (xs++ys)) (v:=.slice (some (ad w.heap.size 0)) (xs.length+ys.length) l)
      ⟨b4,fun zs ez=>(by cases ez; exact b3),fun _ ez=>(by cases ez)⟩
     have c6:∀ (q:Sig),q.st=σ.st→({ d.put (.list true (xs++ys)) q with st:=σ.st }:Sig)=d.put (.list true (xs++ys)) q:=fun q Y=>by cases d<;>simp[Dst.put,← Y]
     rw[c6 _ Z]at this;exact this
theorem b70 (W:Fx c) (h:S c g w pr bx σ a) {t e E bytes:Nat} {i:TypeInfo} {z:Value} {x y:Operand} {p0 p1:Opd} {d:Dst} {at_:Array TypeId}
 (Z:o.op=.call { callee:=.builtin .append,args:=#[x,y],argTypes:=at_ }) (F:at_=#[t,t]) (hu:c.P.underlying t=some (.slice e)) (hi:c.P.info? e=some i) (hz:i.zero=some z) (O:i.size=E) (I:i.bytes=bytes)
 (U:z.cells.size=E) (G:0 < bytes) (J:F9 c x p0=true) (L:Q8 c y p1=true) (Y:B9 c o.dst d=true) (u:o.dst.isSome=true) {own:Bool} {xs ys:List (List AV)}
 (e0:p0.read σ=.list true xs) (V:p1.read σ=.list own ys) (M:s5 E xs=true) (N:s5 E ys=true) (X:(xs.length+ys.length)*bytes≤2 ^ 47)
 {next:Act→World→Prop} {Q:Exit→Act→World→Prop} (j:Post c g w a (d.put (.list true (xs++ys)) (p0.spend σ)) next):o.wp c.P a w next Q:=by
 have C:=R3 h L;rw[V]at C;have C:ValOK g w No (.list own ys) (a.eval y):=C;obtain⟨a1,B,vs,eu,v0,l,vl,vr,v1,vx,vc,vb⟩:=a9q C.rel N;exact a7s W h Z F hu hi hz O I U G J Y u e0 ⟨a1,B,vs,eu,v0,l,vl,vr,v1,vx,vc,fun hn=>let ⟨bb,f,e,_⟩:=vb hn; ⟨bb,f,e⟩⟩ M X j
theorem b0x:∀ cs:List AV,(cs.map fun c=>[c]).flatten=cs
 | []=>rfl
 | c::cs=>by rw[List.map_cons,List.flatten_cons,b0x cs]; rfl
theorem b7q (N:Fx c) (h:S c g w pr bx σ a) {t e bytes:Nat} {i:TypeInfo} {z:Value} {x y:Operand} {p0 p1:Opd} {d:Dst} {at_:Array TypeId}
 (V:o.op=.call { callee:=.builtin .append,args:=#[x,y],argTypes:=at_ }) (B:at_=#[t,t]) (hu:c.P.underlying t=some (.slice e)) (hi:c.P.info? e=some i) (X:i.zero=some z) (J:i.size=1) (E:i.bytes=bytes)
 (L:z.cells.size=1) (C:0 < bytes) (F:F9 c x p0=true) (G:Q8 c y p1=true) (U:B9 c o.dst d=true) (l:o.dst.isSome=true) {xs:List (List AV)}
 (e0:p0.read σ=.list true xs) (M:p1.read σ=.nils) (I:s5 1 xs=true) (O:xs.length*bytes≤2 ^ 47)
 {next:Act→World→Prop} {Q:Exit→Act→World→Prop} (j:Post c g w a (d.put (.list true xs) (p0.spend σ)) next):o.wp c.P a w next Q:=by
 have u:=R3 h G;rw[M]at u;have u:ValOK g w No .nils (a.eval y):=u;have eu:a.eval y=.slice none 0 0:=by have W:=u.rel;simpa[Rel]using W
 exact a7s (ys:=[]) N h V B hu hi X J E L C F U l e0 ⟨none,0,[],eu,Nat.le_refl _,fun _=>rfl,by simp,by simp[RelL],by simp,by simp,by simp,by simp⟩ I (by simpa using O) (by rw[List.append_nil]; exact j)
theorem c2T (fx:Fx c) (h:S c g w pr bx σ a) {t e bytes:Nat} {i:TypeInfo} {z:Value} {x y:Operand} {p0 p1:Opd} {d:Dst} {at_:Array TypeId}
 (ho:o.op=.call { callee:=.builtin .append,args:=#[x,y],argTypes:=at_ }) (M:at_=#[t,t]) (hu:c.P.underlying t=some (.slice e)) (hi:c.P.info? e=some i) (hz:i.zero=some z) (a0:i.size=1) (O:i.bytes=bytes)
 (a1:z.cells.size=1) (N:0 < bytes) (X:F9 c x p0=true) (Y:Q8 c y p1=true) (hd:B9 c o.dst d=true) (B:o.dst.isSome=true) {xs:List (List AV)} {C:Nat} {cs:List AV}
 (e0:p0.read σ=.list true xs) (e1:p1.read σ=.sl C 0 cs.length 1) (U:σ.st[C]?=some (.cells cs)) (Z:s5 1 xs=true) (hb:(xs.length+cs.length)*bytes≤2 ^ 47)
 {next:Act→World→Prop} {Q:Exit→Act→World→Prop} (l:Post c g w a (d.put (.list true (xs++cs.map fun c=>[c])) (p0.spend σ)) next):o.wp c.P a w next Q:=by
 have I:=R3 h Y;rw[e1]at I;have I:ValOK g w No (.sl C 0 cs.length 1) (a.eval y):=I;have L:=I.rel;simp only[Rel]at L;obtain⟨b2,cap,eu,W,b0⟩:=L;obtain⟨_,_,arr,T,hh,b1,G,F,_⟩:=h.st.obj C _ U;have E:(arr.toList.take cs.length).length=cs.length:=G.length.symm;have V:(cs.map fun c=>[c]).flatten=cs:=b0x cs;refine a7s (ys:=cs.map fun c=>[c]) fx h ho M hu hi hz a0 O a1 N X hd B e0 ⟨some (ad (g.m C) 0),cap,arr.toList.take cs.length,by simpa using eu,by simpa using W,(by simp),by rw[E,List.length_map,Nat.mul_one],by rw[V]; exact G,F,?_,?_,fun _=>⟨_,_,rfl⟩⟩ Z (by simpa using hb) l
 · intro r L;obtain⟨c,_,rfl⟩:=List.mem_map.1 L;rfl
 · intro a2 ea j u J;cases ea;rw[Addr.add_ad,Nat.zero_add];rw[cell_of_row w (g.m C) j arr T (0,0) hh,← Array.getElem?_toList];rw[List.getElem?_take]at J;split at J
   · exact J
   · cases J
end
end Go.Cb
namespace Go.Cb
open Classical
theorem X4 {i:Nat}:∀ {rs:List (List AV)},(∀ r∈rs,r.length=i)→rs.flatten.length=rs.length*i
 | [],_=>by simp
 | r::rs,h=>by rw[List.flatten_cons,List.length_append,X4 (fun x j=>h x (by simp[j])),h r (by simp),List.length_cons,Nat.succ_mul]; omega
theorem a2P {j:Nat} {c:List AV} (u:c.length=j):∀ {rs:List (List AV)} {i:Nat},(∀ r∈rs,r.length=j)→i < rs.length→(rs.set i c).flatten=B7 rs.flatten (i*j) c
 | [],_,_,h=>by simp at h
 | r::rs,0,hr,_=>by have t:=hr r (by simp);simp only[List.set_cons_zero,List.flatten_cons,B7,Nat.zero_mul,List.take_zero,List.nil_append,Nat.zero_add];rw[List.drop_append_of_le_length (by omega),List.drop_of_length_le (by omega),List.nil_append]
 | r::rs,i+1,hr,h=>by
  have t:=hr r (by simp);have z:=a2P u (rs:=rs) (i:=i) (fun x y=>hr x (by simp[y])) (by simpa using h);simp only[List.set_cons_succ,List.flatten_cons,z,B7];have l:(i+1)*j=r.length+i*j:=by rw[Nat.succ_mul]; omega
  have t1:r.take (r.length+i*j)=r:=List.take_of_length_le (by omega);have t2:r.drop (r.length+i*j+c.length)=[]:=List.drop_of_length_le (by omega);rw[l,List.take_append,t1,show r.length+i*j - r.length=i*j by omega,List.drop_append,t2,show r.length+i*j+c.length - r.length=i*j+c.length by omega];simp[List.append_assoc]
theorem a1M (z:Array Value):∀ len:Nat,((Array.range (len*z.size)).map (z[· % z.size]!)).toList=(List.replicate len z.toList).flatten
 | 0=>by simp
 | len+1=>by
  have l:=a1M z len;rw[Array.toList_map,Array.toList_range]at l ⊢;rw[Nat.succ_mul,List.range_add,List.map_append,l,List.replicate_succ',List.flatten_append];congr 1;rw[List.map_map];simp only[List.flatten_cons,List.flatten_nil,List.append_nil];apply List.ext_getElem
  · simp
  · intro i j t;simp only[List.length_map,List.length_range]at j;simp only[List.getElem_map,List.getElem_range,Function.comp];have e:(len*z.size+i) % z.size=i:=by rw[Nat.add_comm,Nat.add_mul_mod_self_right,Nat.mod_eq_of_lt j]
    rw[e,Array.getElem_toList];exact getElem!_pos z i j
section
variable {c:Cx} {g:Gh} {w:World} {pr:Nat→Option Pl} {bx:Nat→Nat} {σ:Sig} {a:Act} {o:Oper} {call:e9} {b b' r:AV} {st st':St} {fr as:List AV}
theorem a4M {y:Nat}:∀ {is:List Nat} {I:List AV} {rs t:List (List AV)} {arr:Array Value} {vs:List Value},
 D8 y is I rs=some t→ArgsOK g w bx fr I vs→(∀ x∈rs,x.length=y)→RelL g w rs.flatten arr.toList→(∀ u∈arr.toList,u.oneCell'=true) →
 ∃ j,Instr.fill (fun i=>some (i*y,y)) arr (is.zip vs)=some j∧(∀ x∈t,x.length=y)∧RelL g w t.flatten j.toList∧(∀ u∈j.toList,u.oneCell'=true)∧t.length=rs.length
 | [],[],rs,t,arr,vs,h,ha,hr,hl,h1=>by simp only[D8,Option.some.injEq]at h;subst h;exact⟨arr,by simp[Instr.fill],hr,hl,h1,rfl⟩
 | i::is,p::I,rs,t,arr,vs,h,ha,hr,hl,h1=>by
  simp only[D8]at h;split at h
  · rename_i W;obtain⟨z,C,hi⟩:=W;cases ha with
    | cons U V =>
     rename_i v vs;have l:=(b1a U z).weak;have B:(p.cells.map AV.weak1).length=y:=by simpa using C
     have G:v.cells.toList.length=v.cells.size:=by simp
     have Z:v.cells.size=y:=by have:=l.rel.length; omega
     have F:=X4 hr;have E:rs.flatten.length=arr.size:=hl.length.trans (by simp);have Y:i*y+y≤arr.size:=by rw[← E,F,← Nat.succ_mul]; exact Nat.mul_le_mul_right _ hi
     have X:=a6U v (i*y) arr (by omega);obtain⟨J,L⟩:=a6o (off:=i*y) hl h1 l.rel l.one;rw[G,← X]at J L;rw[← a2P B hr hi]at J;obtain⟨j,M,e2,N,O,S⟩:=a4M h V (fun x hx=>by
      rcases List.mem_or_eq_of_mem_set hx with hx|hx
      · exact hr x hx
      · rw[hx]; exact B) J L
     refine⟨j,?_,e2,N,O,by rw[S,List.length_set]⟩;simp only[List.zip_cons_cons,Instr.fill];rw[if_neg (by simp; omega)];exact M
  · cases h
 | [],_::_,_,_,_,_,h,_,_,_,_=>by simp[D8]at h
 | _::_,[],_,_,_,_,h,_,_,_,_=>by simp[D8]at h
theorem b7z (fx:Fx c) (h:S c g w pr bx σ a) {t e len Z:Nat} {parts:Array (Nat×Operand)} {F:TypeInfo} {z:Value} {zero rs:List (List AV)} {z1:List AV} {is:List Nat} {d:Dst}
 (ho:o.op=.buildSlice t len parts) (hu:c.P.underlying t=some (.slice e)) (a2:c.P.info? e=some F) (hz:F.zero=some z) (b2:F.size=Z) (M:z.cells.size=Z) (a0:len*Z≤2 ^ 24) (O:len*Z≠0)
 (b3:H0 z.cells.toList z1=true) (y:zero=List.replicate len z1) (b0:parts.toList.map (·.1)=is) (hr:ArgsOK g w bx σ.fr as (parts.toList.map fun p=>a.eval p.2)) (hs:D8 Z is as zero=some rs)
 (hd:B9 c o.dst d=true) (L:o.dst.isSome=true) {next:Act→World→Prop} {Q:Exit→Act→World→Prop} (J:Post c g w a (d.put (.list true rs) σ) next):o.wp c.P a w next Q:=by
 subst b2; subst b0;obtain⟨q1,q2,_⟩:=L5 b3 g w;have Y:z1.length=F.size:=by rw[q1.length,Array.length_toList]; exact M
 have E:∀ x∈zero,x.length=F.size:=fun x hx=>by rw[y]at hx; rw[List.eq_of_mem_replicate hx]; exact Y
 have I:∀ n,RelL g w (List.replicate n z1).flatten (List.replicate n z.cells.toList).flatten∧∀ u∈(List.replicate n z.cells.toList).flatten,u.oneCell'=true:=by
  intro n;induction n with
  | zero=>simp[RelL]
  | succ n ih =>rw[List.replicate_succ,List.replicate_succ,List.flatten_cons,List.flatten_cons];exact⟨q1.append ih.1,fun u hu=>(List.mem_append.1 hu).elim (q2 u) (ih.2 u)⟩
 have X:=a1M z.cells len;obtain⟨arr,e1,e2,e3,e4,e5⟩:=a4M (arr:=(Array.range (len*z.cells.size)).map (z.cells[· % z.cells.size]!)) hs hr E (by rw[X,y]; exact(I len).1) (by rw[X]; exact(I len).2);rw[M]at e1;rw[← a2D]at e1;have V:=run_buildSlice (P:=c.P) w t e len (parts.map fun(i,x)=>(i,a.eval x)) arr F z hu a2 hz (by omega) O (by rw[M,show(parts.map fun(i,x)=>(i,a.eval x)).toList=parts.toList.map fun p=>(p.1,a.eval p.2)by simp]; exact e1);have G:rs.length=len:=by rw[e5,y,List.length_replicate]
 have b4:arr.toList.length=len*F.size:=by rw[← e3.length,X4 e2,G]
 let g2:=g.claim w.heap.size 0 (len*F.size)
 have N:=heap_alloc_new w (_root_.Go.Obj.cells arr e);have he:Ext g w g2 (w.alloc (.cells arr e)):=⟨Nat.le_refl _,fun _ _=>rfl,fun _ _=>rfl,fun b f B=>.inl B,fun b f B=>World.cell?_alloc_lt _ _ _ (h.st.cli b f B)⟩;have l:∀ b,b < w.heap.size→M8 g w g2 (w.alloc (.cells arr e)) b:=fun b C=>⟨heap_alloc_old w _ C,fun f B=>by
  rcases B with B|⟨e',_⟩
  · exact B
  · omega⟩
 have U:Rel g2 (w.alloc (.cells arr e)) (.list true rs) (.slice (some (ad w.heap.size 0)) len len):=by simp only[Rel];refine⟨_,_,_,rfl,G.symm,Nat.le_refl _,fun h=>(by cases h),fun _=>⟨w.heap.size,0,F.size,rfl,?_⟩⟩;refine RelRows.mk e2 (e3.ext he _ _) (fun j u hj=>?_) e4 (fun j hj=>.inr ⟨rfl,by omega,by omega⟩);show(w.alloc (.cells arr e)).cell? (ad w.heap.size (0+j))=some u;rw[Nat.zero_add,cell_of_row _ _ j arr e (0,0) N,← Array.getElem?_toList];exact hj
 unfold Oper.wp;rw[show(execOp a.eval o).run c.P w=.ok (.value (.slice (some ⟨w.heap.size,0,none⟩) len len)) (w.alloc (.cells arr e))by simp only[execOp,ho,Sem.run_bind,V,Result.andThen_ok,Sem.run_pure]];have W:SRel g2 (w.alloc (.cells arr e)) σ.st:=h.st.evolve he rfl (by simp) (fun b q hq=>⟨hq,l b (h.st.inn b q hq)⟩) (fun _ _ x=>x) (fun b f B=>by
  rcases B with B|⟨e',_⟩
  · exact .inl B
  · right; simp; omega)
 refine J _ _ g2 pr bx (C9 _ _ _) ?_ ⟨he,by simp,Env.alloc w _ (by intro c t z e; cases e; rfl),fun b C b1 _=>⟨l b C,b1⟩⟩;have:=a3y fx h hd L he W (pr2:=pr) (fun b p C _=>⟨C,l b (h.fr.prv b p C).2.1⟩)
  (fun b p C=>⟨(h.fr.prv b p C).1,by have:=(h.fr.prv b p C).2.1; simp; omega,(h.fr.prv b p C).2.2⟩) (by simp) h.stA (r:=.list true rs) (v:=.slice (some ⟨w.heap.size,0,none⟩) len len)
  ⟨U,fun zs _=>.inl ⟨_,_,rfl⟩,fun _ ez=>(by cases ez)⟩
 have a1:({ d.put (.list true rs) σ with st:=σ.st }:Sig)=d.put (.list true rs) σ:=by cases d<;>simp[Dst.put]
 rw[a1]at this;exact this
theorem RelM.length {es:List (AV×AV)} {l:List MapEntry} (h:RelM g w es l):es.length=l.length:=by
 induction h with
 | nil=>rfl
 | cons _ _ _ _ i=>simp[i]
theorem RelM.push {es:List (AV×AV)} {l:List MapEntry} (h:RelM g w es l) {k v:AV} {e:MapEntry} (hk:Rel g w k e.key) (i:Rel g w v e.val) (hn:v.weak=v):RelM g w (es++[(k,v)]) (l++[e]):=by
 induction h with
 | nil=>exact .cons hk i hn .nil
 | cons a1 a2 a3 _ j=>exact .cons a1 a2 a3 j
theorem RelM.set {es:List (AV×AV)} {l:List MapEntry} (h:RelM g w es l):∀ {i:Nat} {k v:AV} {e:MapEntry},Rel g w k e.key→Rel g w v e.val→v.weak=v→RelM g w (es.set i (k,v)) (l.set i e):=by
 induction h with
 | nil=>intro i k v e _ _ _; exact .nil
 | cons a1 a2 a3 a4 t =>
  intro i k v e hk j hn;cases i with
  | zero=>exact .cons hk j hn a4
  | succ i=>exact .cons a1 a2 a3 (t hk j hn)
theorem I6 (x:AV):x.weak.weak=x.weak:=by cases x<;>simp only[AV.weak];rw[List.map_map];congr 1;apply List.map_congr_left;intro y _;cases y<;>rfl
theorem b1t {d:TypeDesc} {u v:Value} (h:Instr.sameNow d u v=some true) (n:Nat):Instr.sameBits n v u=true:=by
 unfold Instr.sameNow at h;split at h
 · split at h
   · rename_i e;simp only[Option.some.injEq,beq_iff_eq]at h;subst e; subst h;simp[Instr.sameBits]
   · cases h
 · simp only[Option.some.injEq]at h;rw[MapKept.bytes_beq]at h;subst h;simp only[Instr.sameBits];rw[MapKept.bytes_beq]
 · simp only[Option.some.injEq,beq_iff_eq]at h;subst h;simp[Instr.sameBits]
 · cases h
theorem b3g (h:S c g w pr bx σ a) {t kt et G M:Nat} {m k x:Operand} {E xv:AV} {es V:List (AV×AV)} (ho:o.op=.mapUpdate t m k x∨o.op=.insert t m k x) (hu:c.P.underlying t=some (.map kt et)) (hk:M2 c.P M kt=true)
 (L:σ.st[G]?=some (.map es)) (hm:a.eval m=.map (some (g.m G))) (d1:ArgOK g w bx σ.fr No E (a.eval k)) (d3:ArgOK g w bx σ.fr No xv (a.eval x)) (hp:xv.plain=true) (hd:o.dst=none)
 (hs:(match I0 M E es 0 with
  | some (some (i,_))=>some (es.set i (E,xv.weak))
  | some none=>(Q4 M E E).bind fun _=>some (es++[(E,xv.weak)])
  | none=>none)=some V) {next:Act→World→Prop} {Q:Exit→Act→World→Prop} (a1:Post c g w a { σ with st:=σ.st.set G (.map V) } next):o.wp c.P a w next Q:=by
 have d2:G < g.n:=by rw[h.st.n]; exact(List.getElem?_eq_some_iff.1 L).1
 obtain⟨d,W⟩:∃ d,c.P.underlying kt=some d:=by
  unfold M2 at hk;cases hd:c.P.underlying kt with
  | none=>simp[hd]at hk
  | some d=>exact⟨d,rfl⟩
 obtain⟨B,b8,C,clock,hh,Y⟩:=h.st.obj G _ L;have b5:=MapKept.run_getObj_map (P:=c.P) hh;have b2:=a2o (P:=c.P) (w:=w) hk false (a.eval k);have c4:=(d3.plain hp).rel.weak;have b6:(∃ z,Q4 M E E=some z)∨es≠[]→∃ y z,Q4 M E y=some z:=by
  rintro(⟨z,hz⟩|hne)
  · exact⟨E,z,hz⟩
  · cases es with
    | nil=>exact absurd rfl hne
    | cons e es =>
     obtain⟨k0,v0⟩:=e;cases J:Q4 M E k0 with
     | none=>simp[I0,J]at hs
     | some z=>exact⟨k0,z,J⟩
 have a0:Rel g w E (a.eval k):=by
  have:∃ y z,Q4 M E y=some z:=by
   apply b6;cases es with
   | nil =>
    left;simp only[I0]at hs;cases J:Q4 M E E with
    | none=>simp[J]at hs
    | some z=>exact⟨z,rfl⟩
   | cons=>right; simp
  obtain⟨y,z,hz⟩:=this;exact d1.rel (fun i f e=>by subst e; simp[Q4]at hz) (fun cs e=>by subst e; simp[Q4]at hz)
 -- the new row of entries
 obtain⟨u,l,c3,c2⟩:∃ (u:Array MapEntry) (l:Nat),(execOp a.eval o).run c.P w=.ok .skip { w with heap:=w.heap.setIfInBounds (g.m G) (.map u l) }∧RelM g w V u.toList:=by
  have c6:∀ W',(Instr.mapUpdate t (.map (some (g.m G))) (a.eval k) (a.eval x)).run c.P w=.ok () W'→(execOp a.eval o).run c.P w=.ok .skip W':=fun W' hW=>by rcases ho with ho|ho<;>simp only[execOp,ho,hm,Sem.run_bind,hW,Result.andThen_ok,Sem.run_pure]
  have U:=fun(ob:_root_.Go.Obj)=>MapKept.run_setObj_map (P:=c.P) ob hh
  cases N:I0 M E es 0 with
  | none=>simp[N]at hs
  | some r0 =>
   have b7:=a4N W hk a0 Y N;cases r0 with
   | none =>
    simp only[N]at hs;obtain⟨z,_,hs⟩:=Option.bind_eq_some_iff.1 hs;simp only[Option.some.injEq]at hs;subst hs;have Z:=MapKept.run_findKey (P:=c.P) (w:=w) W b7;refine⟨C.push { key:=a.eval k,val:=a.eval x,born:=clock },clock+1,c6 _ ?_,?_⟩
    · simp[Instr.mapUpdate,run_underlying hu,b5,b2,Z,U]
    · rw[Array.toList_push];exact Y.push a0 c4 (I6 _)
   | some p =>
    obtain⟨i,v⟩:=p;simp only[N,Option.some.injEq]at hs;subst hs;obtain⟨e,X,_,c7,_,_,c8⟩:=b7;simp only[Nat.sub_zero]at X;have Z:=MapKept.run_findKey (P:=c.P) (w:=w) W c7;have b3:C[i]?=some e:=by simpa using X
    have d0:(Instr.keyThatStays e.key (a.eval k)).run c.P w=.ok (a.eval k) w:=by simp[Instr.keyThatStays,b1t c8]
    refine⟨C.modify i fun e=>{ e with key:=a.eval k,val:=a.eval x },clock,c6 _ ?_,?_⟩
    · simp[Instr.mapUpdate,run_underlying hu,b5,b2,Z,U,b3,d0]
    · have hl:(C.modify i fun e=>{ e with key:=a.eval k,val:=a.eval x }).toList=C.toList.set i { e with key:=a.eval k,val:=a.eval x }:=by
       apply List.ext_getElem?;intro j;rw[Array.getElem?_toList,Array.getElem?_modify,List.getElem?_set];by_cases ej:i=j
       · subst ej;rw[if_pos rfl,if_pos rfl,b3];rw[if_pos (by simpa using(List.getElem?_eq_some_iff.1 X).1)];rfl
       · rw[if_neg ej,if_neg ej,Array.getElem?_toList]
      rw[hl];exact Y.set a0 c4 (I6 _)
 have b4:Env w { w with heap:=w.heap.setIfInBounds (g.m G) (.map u l) }:=⟨rfl,rfl⟩;generalize b1:({ w with heap:=w.heap.setIfInBounds (g.m G) (.map u l) }:World)=w2 at *
 have c0:w2.heap[g.m G]?=some (.map u l):=by rw[← b1]; exact(MapKept.heap_set hh).1
 have O:∀ b,b≠g.m G→w2.heap[b]?=w.heap[b]?:=fun b L=>by rw[← b1]; exact(MapKept.heap_set hh).2 b L
 have b0:w2.heap.size=w.heap.size:=by rw[← b1]; simp
 have he:Ext g w g w2:=⟨Nat.le_refl _,fun _ _=>rfl,fun _ _=>rfl,fun _ _ x=>x,fun b f N=>World.cell?_of_block (O b fun e=>b8 f (e ▸ N))⟩;have F:∀ b,b≠g.m G→M8 g w g w2 b:=fun b L=>⟨O b L,fun _ x=>x⟩
 have c1:∀ b q,pr b=some q→b≠g.m G:=fun b q J e=>by have:=(h.fr.prv _ _ J).1;rw[e,B]at this; cases this
 unfold Oper.wp;rw[c3];simp only[Oper.upon,hd,Act.put];refine a1 a _ g pr bx rfl ⟨?_,⟨?_,fun o' ob I=>?_,fun b q J=>by rw[b0]; exact h.st.inn b q J,fun b f N=>by rw[b0]; exact h.st.cli b f N⟩,h.gl.ext he,fun b L=>h.fresh b (by omega),h.stA⟩
  ⟨he,by omega,b4,fun b _ a2 _=>⟨F b (fun e=>by rw[e,B]at a2; cases a2),a2⟩⟩
 · exact h.fr.change (fun _=>True) he (fun b q J _=>⟨J,F b (c1 b q J)⟩) (fun b q J=>by rw[b0]; exact h.fr.prv b q J) (fun j t' ht=>.inl ⟨⟨trivial,trivial,fun _=>trivial⟩,rfl⟩) (fun t' ht=>.inl ⟨trivial,rfl⟩) rfl (fun j ds hj=>⟨ds,hj⟩) h.fr.bxs
 · rw[List.length_set]; exact h.st.n
 · by_cases e:o'=G
   · subst e;rw[List.getElem?_set_self (by rw[← h.st.n]; exact d2)]at I;simp only[Option.some.injEq]at I;subst I;exact⟨B,b8,u,l,c0,c2.ext he⟩
   · rw[List.getElem?_set_ne (Ne.symm e)]at I;refine(h.st.obj o' ob I).mono (by rw[h.st.n]; exact(List.getElem?_eq_some_iff.1 I).1) he fun b k L=>⟨L,F b fun e2=>?_⟩
     rw[e2,B]at L;simp only[Option.some.injEq,Prod.mk.injEq]at L;exact e L.1.symm
end
end Go.Cb
