import Derived.Test.YtbibkdncfclnbaaGreatDoorXAm1
import Derived.WalkKit
import Derived.Deep.MidRow
import Derived.Laws.StructEq
import Derived.MapKept
import Derived.Laws.BytesArg
import Derived.Great.BuildSlice
set_option maxRecDepth 4000
set_option linter.all false
namespace Go.Cb
structure Gh where
 n:Nat
 m:Nat→Nat
 cl:Nat→Nat→Prop
 sr:Nat→Option (Nat×Option Nat)
 cp:Nat→Nat
abbrev ad (b f:Nat):Addr:=⟨b,f,none⟩
mutual
def Rel (g:Gh) (w:World):AV→Value→Prop
 | .undef,_=>True
 | .bool b,v=>v=.bool b
 | .int k n,v=>v=.int k n
 | .str s,v=>∃ b:ByteArray,v=.string b∧b.data.toList.map UInt8.toNat=s
 | .list _ xs,v=>∃ a n cap,v=.slice a n cap∧n=xs.length∧n≤cap∧(a=none→cap=0)∧(xs≠[]→∃ b f sz,a=some (ad b f)∧RelRows g w b f sz xs)
 | .ptr o f,v=>o < g.n∧v=.pointer (some (ad (g.m o) f))
 | .nilp,v=>v=.pointer none
 | .ro cs,v=>∃ b f,v=.pointer (some (ad b f))∧RelCells g w b f cs
 | .loc _ _,_=>False
 | .box _,_=>False
 | .map o,v=>o < g.n∧v=.map (some (g.m o))
 | .nilm,v=>v=.map none
 | .func f first e,v=>∃ a b:Array Value,v=.func (.func f) a b∧RelL g w first a.toList∧RelL g w e b.toList
 | .nilf,v=>v=.nilFunc
 | .agg cs,v=>∃ a:Array Value,v=.agg a∧RelL g w cs a.toList∧∀ c∈a.toList,c.oneCell'=true
 | .tuple vs,v=>∃ a:Array Value,v=.tuple a∧RelL g w vs a.toList
 | .iface t x,v=>∃ y,v=.iface t y∧Rel g w x y
 | .nili,v=>v=.nilIface
 | .nils,v=>v=.slice none 0 0
 | .sl o f n sz,v=>o < g.n∧∃ cap,v=.slice (some (ad (g.m o) f)) n cap∧n≤cap∧f+cap*sz=g.cp o
 | .fresh xs,v=>∃ b n cap sz,v=.slice (some (ad b 0)) n cap∧n=xs.length∧n≤cap∧RelRows g w b 0 sz xs∧∀ (k:Nat) (ys:List (List AV)),xs.flatten[k]?=some (.list true ys)→g.cl b k∧∃ a n,w.cell? (ad b k)=some (.slice a n n)
def RelL (g:Gh) (w:World):List AV→List Value→Prop
 | [],vs=>vs=[]
 | c::cs,vs=>∃ v r,vs=v::r∧Rel g w c v∧RelL g w cs r
def RelCells (g:Gh) (w:World) (b f:Nat):List AV→Prop
 | []=>True
 | c::cs=>(∃ v,w.cell? (ad b f)=some v∧v.oneCell'=true∧g.cl b f∧Rel g w c v)∧RelCells g w b (f+1) cs
def RelRows (g:Gh) (w:World) (b f sz:Nat):List (List AV)→Prop
 | []=>True
 | r::rs=>r.length=sz∧RelCells g w b f r∧RelRows g w b (f+sz) sz rs
end
structure Ext (g:Gh) (w:World) (g':Gh) (w':World):Prop where
 n:g.n≤g'.n
 m:∀ o,o < g.n→g'.m o=g.m o
 cp:∀ o,o < g.n→g'.cp o=g.cp o
 cl:∀ b f,g.cl b f→g'.cl b f
 cell:∀ b f,g.cl b f→w'.cell? (ad b f)=w.cell? (ad b f)
theorem Ext.refl (g:Gh) (w:World):Ext g w g w:=⟨AK _,fun _ _=>rfl,fun _ _=>rfl,fun _ _ h=>h,fun _ _ _=>rfl⟩
theorem Ext.trans {g g' e:Gh} {w w' u:World} (h:Ext g w g' w') (l:Ext g' w' e u):Ext g w e u :=
 ⟨Nat.le_trans h.n l.n,fun o t=>(l.m o (Nat.lt_of_lt_of_le t h.n)).trans (h.m o t),fun o t=>(l.cp o (Nat.lt_of_lt_of_le t h.n)).trans (h.cp o t),fun b f c=>l.cl b f (h.cl b f c),
  fun b f c=>(l.cell b f (h.cl b f c)).trans (h.cell b f c)⟩
section
variable {g g':Gh} {w w':World} (h:Ext g w g' w')
include h
mutual
theorem Rel.ext:∀ (a:AV) (v:Value),Rel g w a v→Rel g' w' a v
 | .undef,_,_=>by simp[Rel]
 | .bool _,_,r=>by simpa[Rel]using r
 | .int _ _,_,r=>by simpa[Rel]using r
 | .str _,_,r=>by simpa[Rel]using r
 | .list _ xs,_,r=>by simp only[Rel]at r ⊢;obtain⟨a,n,cap,t,u,I,J,L⟩:=r;exact⟨a,n,cap,t,u,I,J,fun W=>let ⟨b,f,sz,e,C⟩:=L W; ⟨b,f,sz,e,RelRows.ext b f sz xs C⟩⟩
 | .ptr _ _,_,r=>by simp only[Rel]at r ⊢;exact⟨Nat.lt_of_lt_of_le r.1 h.n,by rw[h.m _ r.1]; exact r.2⟩
 | .nilp,_,r=>by simpa[Rel]using r
 | .ro cs,_,r=>by simp only[Rel]at r ⊢;obtain⟨b,f,e,C⟩:=r;exact⟨b,f,e,RelCells.ext b f cs C⟩
 | .loc _ _,_,r=>by simp[Rel]at r
 | .box _,_,r=>by simp[Rel]at r
 | .map _,_,r=>by simp only[Rel]at r ⊢;exact⟨Nat.lt_of_lt_of_le r.1 h.n,by rw[h.m _ r.1]; exact r.2⟩
 | .nilm,_,r=>by simpa[Rel]using r
 | .func _ x y,_,r=>by simp only[Rel]at r ⊢;obtain⟨a,b,e,l,z⟩:=r;exact⟨a,b,e,RelL.ext x _ l,RelL.ext y _ z⟩
 | .nilf,_,r=>by simpa[Rel]using r
 | .agg cs,_,r=>by simp only[Rel]at r ⊢;obtain⟨a,e,l,z⟩:=r;exact⟨a,e,RelL.ext cs _ l,z⟩
 | .tuple vs,_,r=>by simp only[Rel]at r ⊢;obtain⟨a,e,l⟩:=r;exact⟨a,e,RelL.ext vs _ l⟩
 | .iface _ x,_,r=>by simp only[Rel]at r ⊢;obtain⟨y,e,l⟩:=r;exact⟨y,e,Rel.ext x _ l⟩
 | .nili,_,r=>by simpa[Rel]using r
 | .nils,_,r=>by simpa[Rel]using r
 | .sl _ _ _ _,_,r=>by simp only[Rel]at r ⊢;exact⟨Nat.lt_of_lt_of_le r.1 h.n,by rw[h.m _ r.1,h.cp _ r.1]; exact r.2⟩
 | .fresh xs,_,r=>by simp only[Rel]at r ⊢;obtain⟨b,n,cap,sz,e,T,N,U,M⟩:=r;exact⟨b,n,cap,sz,e,T,N,RelRows.ext b 0 sz xs U,fun k ys O=>let ⟨t,a,m,u⟩:=M k ys O; ⟨h.cl _ _ t,a,m,(h.cell _ _ t).trans u⟩⟩
theorem RelL.ext:∀ (as:List AV) (vs:List Value),RelL g w as vs→RelL g' w' as vs
 | [],_,r=>by simpa[RelL]using r
 | a::as,_,r=>by simp only[RelL]at r ⊢;obtain⟨v,l,e,t,u⟩:=r;exact⟨v,l,e,Rel.ext a v t,RelL.ext as l u⟩
theorem RelCells.ext:∀ (b f:Nat) (cs:List AV),RelCells g w b f cs→RelCells g' w' b f cs
 | _,_,[],_=>by simp[RelCells]
 | b,f,c::cs,r=>by simp only[RelCells]at r ⊢;obtain⟨⟨v,e,o,cl,l⟩,t⟩:=r;exact⟨⟨v,(h.cell b f cl).trans e,o,h.cl b f cl,Rel.ext c v l⟩,RelCells.ext b (f+1) cs t⟩
theorem RelRows.ext:∀ (b f sz:Nat) (xs:List (List AV)),RelRows g w b f sz xs→RelRows g' w' b f sz xs
 | _,_,_,[],_=>by simp[RelRows]
 | b,f,sz,x::xs,r=>by simp only[RelRows]at r ⊢;obtain⟨e,l,t⟩:=r;exact⟨e,RelCells.ext b f x l,RelRows.ext b (f+sz) sz xs t⟩
end
end
theorem Rel.weak1 {g:Gh} {w:World}:∀ {a:AV} {v:Value},Rel g w a v→Rel g w a.weak1 v:=by intro a v h;cases a<;>first|exact h|(simp only[AV.weak1,Rel]at h ⊢; exact h)
theorem RelL.weak1 {g:Gh} {w:World}:∀ {as:List AV} {vs:List Value},RelL g w as vs→RelL g w (as.map AV.weak1) vs
 | [],_,h=>h
 | a::as,_,h=>by simp only[RelL,AH]at h ⊢;obtain⟨v,r,e,l,t⟩:=h;exact⟨v,r,e,l.weak1,RelL.weak1 t⟩
theorem Rel.weak {g:Gh} {w:World} {a:AV} {v:Value} (h:Rel g w a v):Rel g w a.weak v:=by
 cases a<;>first
  | exact h
  | (simp only[AV.weak,Rel]at h ⊢; exact h)
  | (simp only[AV.weak,Rel]at h ⊢
     obtain⟨x,e,l,t⟩:=h;exact⟨x,e,l.weak1,t⟩)
theorem RelL.length {g:Gh} {w:World}:∀ {as:List AV} {vs:List Value},RelL g w as vs→as.length=vs.length
 | [],_,h=>by simp[RelL]at h; simp[h]
 | a::as,_,h=>by simp only[RelL]at h;obtain⟨v,r,rfl,_,e⟩:=h;simp[RelL.length e]
theorem RelL.get {g:Gh} {w:World}:∀ {as:List AV} {vs:List Value},RelL g w as vs→∀ {i:Nat} {a:AV},as[i]?=some a→∃ v,vs[i]?=some v∧Rel g w a v
 | [],_,_,_,_,hi=>by simp at hi
 | a::as,_,h,i,b,hi=>by
  simp only[RelL]at h;obtain⟨v,r,rfl,e,l⟩:=h;cases i with
  | zero=>simp at hi; subst hi; exact⟨v,rfl,e⟩
  | succ i=>simpa using RelL.get l (by simpa using hi)
theorem RelL.of_get {g:Gh} {w:World}:∀ {as:List AV} {vs:List Value},as.length=vs.length→(∀ (i:Nat) (a:AV) (v:Value),as[i]?=some a→vs[i]?=some v→Rel g w a v)→RelL g w as vs
 | [],[],_,_=>by simp[RelL]
 | a::as,v::vs,hl,h=>by simp only[RelL];exact⟨v,vs,rfl,h 0 a v rfl rfl,RelL.of_get (by simpa using hl) fun i a v e l=>h (i+1) a v (by simpa using e) (by simpa using l)⟩
theorem RelL.append {g:Gh} {w:World}:∀ {as bs:List AV} {vs us:List Value},RelL g w as vs→RelL g w bs us→RelL g w (as++bs) (vs++us)
 | [],_,_,_,h,h'=>by simp[RelL]at h; subst h; simpa using h'
 | a::as,_,_,_,h,h'=>by simp only[RelL,List.cons_append]at h ⊢;obtain⟨v,r,rfl,e,l⟩:=h;exact⟨v,r++_,rfl,e,RelL.append l h'⟩
theorem RelL.take {g:Gh} {w:World}:∀ {as:List AV} {vs:List Value} (n:Nat),RelL g w as vs→RelL g w (as.take n) (vs.take n)
 | [],_,n,h=>by simp[RelL]at h; subst h; simp[RelL]
 | a::as,_,0,h=>by simp[RelL]
 | a::as,_,n+1,h=>by simp only[RelL,List.take_succ_cons]at h ⊢;obtain⟨v,r,rfl,e,l⟩:=h;exact⟨v,r.take n,rfl,e,RelL.take n l⟩
theorem RelL.drop {g:Gh} {w:World}:∀ {as:List AV} {vs:List Value} (n:Nat),RelL g w as vs→RelL g w (as.drop n) (vs.drop n)
 | [],_,n,h=>by simp[RelL]at h; subst h; simp[RelL]
 | a::as,_,0,h=>by simpa using h
 | a::as,_,n+1,h=>by simp only[RelL,List.drop_succ_cons]at h ⊢;obtain⟨v,r,rfl,_,e⟩:=h;exact RelL.drop n e
theorem RelCells.drop {g:Gh} {w:World} {b:Nat}:∀ {cs:List AV} {f:Nat} (n:Nat),RelCells g w b f cs→RelCells g w b (f+n) (cs.drop n)
 | [],_,n,_=>by simp[RelCells]
 | c::cs,f,0,h=>h
 | c::cs,f,n+1,h=>by simp only[RelCells]at h;have:=RelCells.drop n h.2;rw[List.drop_succ_cons,show f+(n+1)=f+1+n by omega];exact this
theorem RelCells.take {g:Gh} {w:World} {b:Nat}:∀ {cs:List AV} {f:Nat} (n:Nat),RelCells g w b f cs→RelCells g w b f (cs.take n)
 | [],_,n,_=>by simp[RelCells]
 | c::cs,f,0,h=>by simp[RelCells]
 | c::cs,f,n+1,h=>by simp only[RelCells,List.take_succ_cons]at h ⊢;exact⟨h.1,RelCells.take n h.2⟩
theorem RelCells.get {g:Gh} {w:World} {b:Nat}:∀ {cs:List AV} {f i:Nat} {c:AV},RelCells g w b f cs→cs[i]?=some c →
 ∃ v,w.cell? (ad b (f+i))=some v∧v.oneCell'=true∧g.cl b (f+i)∧Rel g w c v
 | [],_,_,_,_,hi=>by simp at hi
 | a::cs,f,i,c,h,hi=>by
  simp only[RelCells]at h;cases i with
  | zero=>simp at hi; subst hi; exact h.1
  | succ i =>have:=RelCells.get h.2 (i:=i) (by simpa using hi);rw[show f+(i+1)=f+1+i by omega]; exact this
theorem RelRows.get {g:Gh} {w:World} {b sz:Nat}:∀ {xs:List (List AV)} {f i:Nat} {r:List AV},RelRows g w b f sz xs→xs[i]?=some r →
 r.length=sz∧RelCells g w b (f+i*sz) r
 | [],_,_,_,_,hi=>by simp at hi
 | a::xs,f,i,r,h,hi=>by
  simp only[RelRows]at h;cases i with
  | zero=>simp at hi; subst hi; exact⟨h.1,by simpa using h.2.1⟩
  | succ i =>have:=RelRows.get h.2.2 (i:=i) (by simpa using hi);rw[show f+(i+1)*sz=f+sz+i*sz by rw[Nat.succ_mul]; omega]; exact this
theorem RelRows.drop {g:Gh} {w:World} {b sz:Nat}:∀ {xs:List (List AV)} {f:Nat} (n:Nat),RelRows g w b f sz xs→RelRows g w b (f+n*sz) sz (xs.drop n)
 | [],_,n,_=>by simp[RelRows]
 | c::cs,f,0,h=>by simpa using h
 | c::cs,f,n+1,h=>by simp only[RelRows]at h;have:=RelRows.drop n h.2.2;rw[List.drop_succ_cons,show f+(n+1)*sz=f+sz+n*sz by rw[Nat.succ_mul]; omega];exact this
theorem RelRows.take {g:Gh} {w:World} {b sz:Nat}:∀ {xs:List (List AV)} {f:Nat} (n:Nat),RelRows g w b f sz xs→RelRows g w b f sz (xs.take n)
 | [],_,n,_=>by simp[RelRows]
 | c::cs,f,0,h=>by simp[RelRows]
 | c::cs,f,n+1,h=>by simp only[RelRows,List.take_succ_cons]at h ⊢;exact⟨h.1,h.2.1,RelRows.take n h.2.2⟩
theorem RelRows.append {g:Gh} {w:World} {b sz:Nat}:∀ {xs ys:List (List AV)} {f:Nat},RelRows g w b f sz xs→RelRows g w b (f+xs.length*sz) sz ys→RelRows g w b f sz (xs++ys)
 | [],_,_,_,h=>by simpa using h
 | x::xs,ys,f,h,h'=>by simp only[RelRows,List.cons_append]at h ⊢;refine⟨h.1,h.2.1,RelRows.append h.2.2 ?_⟩;rw[show f+sz+xs.length*sz=f+(x::xs).length*sz by simp[Nat.succ_mul]; omega];exact h'
theorem RelRows.all {g:Gh} {w:World} {b sz:Nat} {xs:List (List AV)} {f:Nat} (h:RelRows g w b f sz xs):∀ r∈xs,r.length=sz:=by intro r e;obtain⟨i,hi⟩:=List.mem_iff_getElem?.1 e;exact(h.get hi).1
end Go.Cb
namespace Go.Cb
def Own (g:Gh) (w:World) (mine:Nat→Prop) (xs:List (List AV)) (v:Value):Prop :=
 (∃ a n,v=.slice a n n) ∨
 ∃ b n cap sz arr T,v=.slice (some (ad b 0)) n cap∧mine b∧xs≠[]∧(∀ r∈xs,r.length=sz)∧w.heap[b]?=some (.cells arr T (0,0)) ∧
  arr.size=cap*sz∧cap≤maxLen∧∀ f,n*sz≤f→¬ g.cl b f
def OwnC (g:Gh) (w:World) (mine:Nat→Prop) (c:AV) (v:Value):Prop:=∀ xs,c=.list true xs→Own g w mine xs v
def OwnN (c:AV) (v:Value):Prop:=∀ xs,c=.list true xs→∃ a n,v=.slice a n n
def d5h (a:AV) (v:Value):Prop:=∀ cs,a=.agg cs→∀ vs:Array Value,v=.agg vs→∀ (k:Nat) (c:AV) (u:Value),cs[k]?=some c→vs[k]?=some u→OwnN c u
inductive Pl where
 | var (i:Nat)|tmp (s:Nat)|cell (i k:Nat)|box (i:Nat)|fly
 deriving DecidableEq
structure ValOK (g:Gh) (w:World) (mine:Nat→Prop) (a:AV) (v:Value):Prop where
 rel:Rel g w a v
 own:OwnC g w mine a v
 agg:d5h a v
def BoxOK (g:Gh) (w:World) (pr:Nat→Option Pl) (b i:Nat) (cs:List AV):Prop :=
 pr b=some (.box i)∧(∀ f,¬ g.cl b f)∧∃ arr T,w.heap[b]?=some (.cells arr T (0,0))∧RelL g w cs arr.toList∧(∀ c∈arr.toList,c.oneCell'=true) ∧
  ∀ (k:Nat) (c:AV) (v:Value),cs[k]?=some c→arr[k]?=some v→OwnC g w (fun b'=>pr b'=some (.cell i k)) c v
def VarOK (g:Gh) (w:World) (pr:Nat→Option Pl) (bx:Nat→Nat) (i:Nat) (a:AV) (v:Value):Prop :=
 match a with
 | .box cs=>v=.pointer (some (ad (bx i) 0))∧BoxOK g w pr (bx i) i cs
 | .loc ..=>False
 | a=>ValOK g w (fun b=>pr b=some (.var i)) a v
def TmpOK (g:Gh) (w:World) (pr:Nat→Option Pl) (bx:Nat→Nat) (fr:List AV) (s:Nat) (a:AV) (v:Value):Prop :=
 match a with
 | .box _=>False
 | .loc j off=>(∃ cs,fr.getD j .undef=.box cs)∧v=.pointer (some (ad (bx j) off))
 | a=>ValOK g w (fun b=>pr b=some (.tmp s)) a v
structure FR (A:Nat→Prop) (g:Gh) (w:World) (pr:Nat→Option Pl) (bx:Nat→Nat) (slots bxs:List Nat) (nt:Nat) (fr:List AV) (τ:Nat→AV) (tmps:Array Value):Prop where
 size:tmps.size=nt
 len:fr.length=slots.length
 var:∀ i s,slots[i]?=some s→VarOK g w pr bx i (fr.getD i .undef) (tmps.getD s undef)
 tmp:∀ s,s ∉ slots→TmpOK g w pr bx fr s (τ s) (tmps.getD s undef)
 prv:∀ b p,pr b=some p→g.sr b=none∧b < w.heap.size∧A b
 bxs:∀ i cs,fr.getD i .undef=.box cs→i∈bxs
inductive RelM (g:Gh) (w:World):List (AV×AV)→List MapEntry→Prop where
 | nil:RelM g w [] []
 | cons {k v:AV} {e:MapEntry} {es:List (AV×AV)} {l:List MapEntry} (hk:Rel g w k e.key) (hv:Rel g w v e.val) (hn:v.weak=v) (h:RelM g w es l):RelM g w ((k,v)::es) (e::l)
def ObjOK (g:Gh) (w:World) (o:Nat):Obj→Prop
 | .cells cs=>g.sr (g.m o)=some (o,none)∧(∀ f,¬ g.cl (g.m o) f)∧∃ arr T,w.heap[g.m o]?=some (.cells arr T (0,0))∧arr.size=g.cp o∧RelL g w cs (arr.toList.take cs.length) ∧
  (∀ c∈arr.toList.take cs.length,c.oneCell'=true)∧∀ (k:Nat) (c:AV) (v:Value),cs[k]?=some c→arr[k]?=some v→OwnC g w (fun b=>g.sr b=some (o,some k)) c v
 | .map es=>g.sr (g.m o)=some (o,none)∧(∀ f,¬ g.cl (g.m o) f)∧∃ ents clock,w.heap[g.m o]?=some (.map ents clock)∧RelM g w es ents.toList
 | .dead=>True
structure SRel (g:Gh) (w:World) (st:St):Prop where
 n:g.n=st.length
 obj:∀ o ob,st[o]?=some ob→ObjOK g w o ob
 inn:∀ b p,g.sr b=some p→b < w.heap.size
 cli:∀ b f,g.cl b f→b < w.heap.size
def L1 (g:Gh) (w:World) (g':Gh) (w':World) (b:Nat):Prop:=w'.heap[b]?=w.heap[b]?∧∀ f,g'.cl b f→g.cl b f
structure Env (w w':World):Prop where
 os:w'.os=w.os
 out:w'.output=w.output
 fz:∀ a:Addr,a.block < w.heap.size→w'.frozen? a=w.frozen? a
theorem Env.refl (w:World):Env w w:=⟨rfl,rfl,fun _ _=>rfl⟩
theorem Env.trans {w w' e:World} (h:Env w w') (l:Env w' e) (u:w.heap.size≤w'.heap.size:=by first|exact AK _|assumption):Env w e:=⟨l.os.trans h.os,l.out.trans h.out,fun a t=>(l.fz a (Nat.lt_of_lt_of_le t u)).trans (h.fz a t)⟩
theorem Env.drawn {w w':World} (h:w'.heap=w.heap) (e:w'.os=w.os) (l:w'.output=w.output):Env w w':=⟨e,l,fun a _=>by unfold World.frozen?; rw[h]⟩
theorem Env.alloc (w:World) (ob:_root_.Go.Obj) (h:∀ c t z,ob=.cells c t z→z=(0,0)):Env w (w.alloc ob):=by
 refine⟨rfl,rfl,fun a _=>?_⟩;unfold World.frozen?;rcases Nat.lt_trichotomy a.block w.heap.size with hb|hb|hb
 · rw[heap_alloc_old w ob hb]
 · rw[hb,heap_alloc_new w ob,Array.getElem?_eq_none (by omega)];cases ob with
   | cells c t z =>rw[h c t z rfl];simp
   | _=>rfl
 · rw[Array.getElem?_eq_none (by simp; omega),Array.getElem?_eq_none (by omega)]
theorem Env.setRow (w:World) (b:Nat) (cs:Array Value):Env w (w.setRow b cs):=by
 refine⟨rfl,rfl,fun a _=>?_⟩;unfold World.frozen? World.setRow;simp only[Array.getElem?_modify];by_cases e:b=a.block
 · rw[if_pos e];cases w.heap[a.block]? with
   | none=>rfl
   | some o=>cases o<;>rfl
 · rw[if_neg e]
structure Tr (A:Nat→Prop) (g:Gh) (w:World) (g':Gh) (w':World):Prop where
 ext:Ext g w g' w'
 size:w.heap.size≤w'.heap.size
 env:Env w w'
 keep:∀ b,b < w.heap.size→g.sr b=none→¬ A b→L1 g w g' w' b∧g'.sr b=none
theorem Tr.refl (A:Nat→Prop) (g:Gh) (w:World):Tr A g w g w:=⟨Ext.refl g w,AK _,Env.refl w,fun _ _ h _=>⟨⟨rfl,fun _ h=>h⟩,h⟩⟩
theorem Tr.trans {A:Nat→Prop} {g g' e:Gh} {w w' l:World} (h:Tr A g w g' w') (t:Tr A g' w' e l):Tr A g w e l :=
 ⟨h.ext.trans t.ext,Nat.le_trans h.size t.size,h.env.trans t.env h.size,fun b v C u=>by obtain⟨⟨y,c1⟩,I⟩:=h.keep b v C u;obtain⟨⟨e2,x⟩,J⟩:=t.keep b (Nat.lt_of_lt_of_le v h.size) I u;exact⟨⟨e2.trans y,fun f z=>c1 f (x f z)⟩,J⟩⟩
theorem Tr.wider {A B:Nat→Prop} {g g':Gh} {w w':World} (h:Tr A g w g' w') (e:∀ b,A b→B b):Tr B g w g' w' :=
 ⟨h.ext,h.size,h.env,fun b u v l=>h.keep b u v (fun t=>l (e b t))⟩
theorem Own.mono {g g':Gh} {w w':World} {mine l:Nat→Prop} {xs:List (List AV)} {v:Value} (h:Own g w mine xs v)
 (M:∀ b,mine b→l b∧L1 g w g' w' b):Own g' w' l xs v:=by
 rcases h with h|⟨b,n,cap,sz,arr,T,e,z,U,N,L,O,C,u⟩
 · exact .inl h
 · obtain⟨y,I,t⟩:=M b z;exact .inr ⟨b,n,cap,sz,arr,T,e,y,U,N,I.trans L,O,C,fun f J x=>u f J (t f x)⟩
theorem OwnC.mono {g g':Gh} {w w':World} {mine l:Nat→Prop} {c:AV} {v:Value} (h:OwnC g w mine c v)
 (t:∀ b,mine b→l b∧L1 g w g' w' b):OwnC g' w' l c v:=fun xs e=>(h xs e).mono t
theorem ValOK.mono {g g':Gh} {w w':World} {mine e:Nat→Prop} {a:AV} {v:Value} (h:ValOK g w mine a v) (l:Ext g w g' w')
 (t:∀ b,mine b→e b∧L1 g w g' w' b):ValOK g' w' e a v:=⟨h.rel.ext l,h.own.mono t,h.agg⟩
theorem BoxOK.mono {g g':Gh} {w w':World} {pr e:Nat→Option Pl} {b i:Nat} {cs:List AV} (h:BoxOK g w pr b i cs) (M:Ext g w g' w')
 (t:∀ b p,pr b=some p→(p=.box i∨∃ k,p=.cell i k)→e b=some p∧L1 g w g' w' b):BoxOK g' w' e b i cs:=by
 obtain⟨x,y,arr,T,z,C,I,J⟩:=h;obtain⟨p1,u,c1⟩:=t b _ x (.inl rfl);exact⟨p1,fun f N=>y f (c1 f N),arr,T,u.trans z,RelL.ext M _ _ C,I,fun k c v L O=>(J k c v L O).mono fun b' l=>t b' _ l (.inr ⟨k,rfl⟩)⟩
theorem VarOK.mono {g g':Gh} {w w':World} {pr t:Nat→Option Pl} {bx e:Nat→Nat} {i:Nat} {a:AV} {v:Value} (h:VarOK g w pr bx i a v) (x:Ext g w g' w')
 (y:∀ b p,pr b=some p→(p=.var i∨p=.box i∨∃ k,p=.cell i k)→t b=some p∧L1 g w g' w' b) (l:∀ cs,a=.box cs→e i=bx i):VarOK g' w' t e i a v:=by
 cases a<;>first
  | exact ValOK.mono h x fun b u=>y b _ u (.inl rfl)
  | exact h
  | (rename_i cs
     refine⟨by rw[l cs rfl]; exact h.1,?_⟩;rw[l cs rfl];exact BoxOK.mono h.2 x fun b p u z=>y b p u (.inr z))
theorem TmpOK.mono {g g':Gh} {w w':World} {pr t:Nat→Option Pl} {bx e:Nat→Nat} {fr l:List AV} {s:Nat} {a:AV} {v:Value} (h:TmpOK g w pr bx fr s a v) (C:Ext g w g' w')
 (I:∀ b,pr b=some (.tmp s)→t b=some (.tmp s)∧L1 g w g' w' b) (x:∀ j cs,fr.getD j .undef=.box cs→e j=bx j∧∃ u,l.getD j .undef=.box u):TmpOK g' w' t e l s a v:=by
 cases a<;>first
  | exact ValOK.mono h C I
  | exact h
  | (obtain⟨⟨cs,z⟩,J⟩:=h
     obtain⟨y,e2⟩:=x _ cs z;exact⟨e2,by rw[y]; exact J⟩)
theorem FR.evolve {A:Nat→Prop} {g g':Gh} {w w':World} {pr:Nat→Option Pl} {bx:Nat→Nat} {slots bxs:List Nat} {nt:Nat} {fr:List AV} {τ:Nat→AV} {tmps:Array Value}
 (h:FR A g w pr bx slots bxs nt fr τ tmps) (l:Tr (fun _=>False) g w g' w'):FR A g' w' pr bx slots bxs nt fr τ tmps:=by
 have key:∀ b p,pr b=some p→L1 g w g' w' b∧g'.sr b=none:=fun b p e=>by obtain⟨u,v,_⟩:=h.prv b p e;exact l.keep b v u (fun x=>x)
 exact⟨h.size,h.len,fun i s t=>(h.var i s t).mono l.ext (fun b p e _=>⟨e,(key b p e).1⟩) (fun _ _=>rfl),
  fun s t=>(h.tmp s t).mono l.ext (fun b e=>⟨e,(key b _ e).1⟩) (fun j cs y=>⟨rfl,cs,y⟩),
  fun b p e=>⟨(key b p e).2,Nat.lt_of_lt_of_le (h.prv b p e).2.1 l.size,(h.prv b p e).2.2⟩,h.bxs⟩
theorem RelM.ext {g g':Gh} {w w':World} (e:Ext g w g' w') {es:List (AV×AV)} {l:List MapEntry} (h:RelM g w es l):RelM g' w' es l:=by
 induction h with
 | nil=>exact .nil
 | cons t v u _ x=>exact .cons (t.ext e) (v.ext e) u x
theorem ObjOK.mono {g g':Gh} {w w':World} {o:Nat} {ob:Obj} (M:o < g.n) (h:ObjOK g w o ob) (l:Ext g w g' w')
 (L:∀ b k,g.sr b=some (o,k)→g'.sr b=some (o,k)∧L1 g w g' w' b):ObjOK g' w' o ob:=by
 cases ob with
 | cells cs =>obtain⟨x,y,arr,T,z,J,N,O,U⟩:=h;obtain⟨p1,u,c1⟩:=L _ _ x;have e:=l.m o M;refine⟨by rw[e]; exact p1,fun f t=>y f (c1 f (by rw[e]at t; exact t)),arr,T,by rw[e]; exact u.trans z,by rw[l.cp o M]; exact J,RelL.ext l _ _ N,O,fun k c v I W=>(U k c v I W).mono fun b' C=>L b' _ C⟩
 | map es =>obtain⟨x,I,ents,clock,y,z⟩:=h;obtain⟨p1,u,c1⟩:=L _ _ x;have e:=l.m o M;exact⟨by rw[e]; exact p1,fun f t=>I f (c1 f (by rw[e]at t; exact t)),ents,clock,by rw[e]; exact u.trans y,z.ext l⟩
 | dead=>trivial
theorem SRel.evolve {g g':Gh} {w w':World} {st:St} (h:SRel g w st) (y:Ext g w g' w') (I:g'.n=g.n) (l:w.heap.size≤w'.heap.size)
 (C:∀ b p,g.sr b=some p→g'.sr b=some p∧L1 g w g' w' b) (v:∀ b p,g'.sr b=some p→g.sr b=some p) (u:∀ b f,g'.cl b f→g.cl b f∨b < w'.heap.size):SRel g' w' st :=
 ⟨I.trans h.n,fun o ob e=>(h.obj o ob e).mono (by rw[h.n]; exact(AB.1 e).1) y fun b k t=>C b _ t,
  fun b p t=>Nat.lt_of_lt_of_le (h.inn b p (v b p t)) l,fun b f z=>(u b f z).elim (fun x=>Nat.lt_of_lt_of_le (h.cli b f x) l) id⟩
theorem K0 {tmps:Array Value} {s:Nat} {v:Value} (h:s < tmps.size):(tmps.setIfInBounds s v).getD s undef=v:=by simp[Array.getD_eq_getD_getElem?,h]
theorem L6 {tmps:Array Value} {s t:Nat} {v:Value} (h:t≠s):(tmps.setIfInBounds s v).getD t undef=tmps.getD t undef:=by simp[Array.getD_eq_getD_getElem?,Ne.symm h]
theorem q7 {fr:List AV} {i:Nat} {a:AV} (h:i < fr.length):(fr.set i a).getD i .undef=a:=by simp[h]
theorem l7 {fr:List AV} {i j:Nat} {a:AV} (h:j≠i):(fr.set i a).getD j .undef=fr.getD j .undef:=by simp[Ne.symm h]
section
variable {A:Nat→Prop} {g:Gh} {w:World} {pr:Nat→Option Pl} {bx:Nat→Nat} {slots bxs:List Nat} {nt:Nat} {fr:List AV} {τ:Nat→AV} {tmps:Array Value}
theorem b4p (l:slots.Nodup) {i j s t:Nat} (hi:slots[i]?=some s) (y:slots[j]?=some t) (h:i≠j):s≠t:=by intro e;subst e;obtain⟨x,u⟩:=AB.1 hi;obtain⟨z,v⟩:=AB.1 y;exact h ((List.getElem_inj l).1 (u.trans v.symm))
theorem FR.put_t (h:FR A g w pr bx slots bxs nt fr τ tmps) {s:Nat} (y:s ∉ slots) (x:s < nt) {a:AV} {v:Value} (z:TmpOK g w pr bx fr s a v) :
 FR A g w pr bx slots bxs nt fr (C4 τ s a) (tmps.setIfInBounds s v):=by
 refine⟨by simpa using h.size,h.len,fun i t l=>?_,fun t l=>?_,h.prv,h.bxs⟩
 · have u:t≠s:=fun e=>y (e ▸ List.mem_of_getElem? l)
   rw[L6 u]; exact h.var i t l
 · by_cases e:t=s
   · subst e;rw[K0 (by rw[h.size]; exact x)];simpa[C4]using z
   · rw[L6 e];have:C4 τ s a t=τ t:=by simp[C4,e]
     rw[this]; exact h.tmp t l
theorem FR.put_v (h:FR A g w pr bx slots bxs nt fr τ tmps) (L:slots.Nodup) (I:∀ s∈slots,s < nt) {i s:Nat} (z:slots[i]?=some s) (C:i ∉ bxs) {a:AV} {v:Value}
 (N:VarOK g w pr bx i a v) (J:∀ cs,a≠.box cs):FR A g w pr bx slots bxs nt (fr.set i a) τ (tmps.setIfInBounds s v):=by
 have hi:i < fr.length:=by rw[h.len]; exact(AB.1 z).1
 have y:∀ j cs,fr.getD j .undef=.box cs→(fr.set i a).getD j .undef=.box cs:=fun j cs l=>by
  have:j≠i:=fun e=>C (e ▸ h.bxs j cs l)
  rw[l7 this]; exact l
 refine⟨by simpa using h.size,by simpa using h.len,fun j t u=>?_,fun t u=>?_,h.prv,fun j cs l=>?_⟩
 · by_cases e:j=i
   · subst e;obtain rfl:t=s:=Option.some.inj (u.symm.trans z);rw[K0 (by rw[h.size]; exact I t (List.mem_of_getElem? u)),q7 hi];exact N
   · rw[L6 (b4p L u z e),l7 e]; exact h.var j t u
 · have M:t≠s:=fun e=>u (e ▸ List.mem_of_getElem? z)
   rw[L6 M];exact(h.tmp t u).mono (Ext.refl g w) (fun b C=>⟨C,rfl,fun _ x=>x⟩) (fun j cs l=>⟨rfl,cs,y j cs l⟩)
 · by_cases e:j=i
   · subst e; rw[q7 hi]at l; exact absurd l (J cs)
   · rw[l7 e]at l; exact h.bxs j cs l
theorem ValOK.of_weak {mine:Nat→Prop} {a:AV} {v:Value} (h:Rel g w a v):ValOK g w mine a.weak v:=by
 refine⟨h.weak,fun xs e=>?_,fun cs e vs _ k c u l _ xs e2=>?_⟩
 · cases a<;>simp[AV.weak]at e
 · cases a<;>simp[AV.weak]at e;subst e;rw[AU]at l;cases t:(‹List AV›)[k]? with
   | none=>simp[t]at l
   | some d =>simp[t]at l;subst l;cases d<;>simp[AV.weak1]at e2
end
end Go.Cb
namespace Go.Cb
@[simp] theorem fN_eq {α:Type} (m:Nat) (k:Nat→α):fN m k=k m:=by cases m<;>rfl
@[simp] theorem fI_eq {α:Type} (n:Int) (k:Int→α):fI n k=k n:=by cases n<;>simp[fI]
@[simp] theorem fL_eq {α β:Type} (l:List α) (k:List α→β):fL l k=k l:=by
 induction l generalizing k with
 | nil=>rfl
 | cons a l ih=>simp[fL,ih]
@[simp] theorem fLN_eq {β:Type} (l:List Nat) (k:List Nat→β):fLN l k=k l:=by
 induction l generalizing k with
 | nil=>rfl
 | cons a l ih=>simp[fLN,ih]
@[simp] theorem fV_eq {α:Type} (v:AV) (k:AV→α):fV v k=k v:=by cases v<;>first|rfl|(rename_i b; cases b<;>rfl)|(rename_i b _; cases b<;>rfl)
@[simp] theorem fNew_eq {α:Type} (v:AV) (k:AV→α):a3m v k=k v:=by cases v<;>simp[a3m]
theorem b6Y {α:Type} (xs:List Opd) (σ:Sig) (k:List AV→α):a5X xs σ k=k (xs.map (·.read σ)):=by
 induction xs generalizing k with
 | nil=>rfl
 | cons x xs e=>simp[a5X,e]
theorem S7 (call:d8) (o:AOper) (σ:Sig):J4 call o σ =
 match sem o.kind call (o.args.map (·.read σ)) (match o.box with|some i=>σ.fr.getD i .undef|none=>.undef) σ.st with
 | some (r,bx,st) =>
  let σ:=d9 o.args σ
  match o.box with
  | some i=>some (o.dst.put r { σ with fr:=σ.fr.set i bx,st })
  | none=>some (o.dst.put r { σ with st })
 | none=>none:=by
 unfold J4;rw[b6Y];cases sem o.kind call (o.args.map (·.read σ)) (match o.box with|some i=>σ.fr.getD i .undef|none=>.undef) σ.st with
 | none=>rfl
 | some x =>
  obtain⟨r,bx,st⟩:=x;dsimp only;have e:∀ {α:Type} (k:AV→α),(if o.kind.fresh=true then a3m r else fV r) k=k r:=fun k=>by split<;>simp
  have e2:∀ {α:Type} (k:AV→α),(if o.kind.alters=true then a3m bx else fV bx) k=k bx:=fun k=>by split<;>simp
  rw[e];cases o.box with
  | none=>rfl
  | some i=>dsimp only; rw[e2]
structure Cx where
 P:Program
 slots:List Nat
 bxs:List Nat
 nt:Nat
 gt:List (Nat×List AV)
 A:Nat→Prop
def a8j:List AV→List AV→Bool
 | [],[]=>true
 | .str a::x,.str b::y=>a == b && a8j x y
 | _,_=>false
def a00:Value→AV→Bool
 | .bool b,.bool c=>b == c
 | .int k n,.int e m=>decide (k=e) && decide (n=m)
 | .string s,.str l=>s.data.toList.map UInt8.toNat == l
 | .slice none 0 0,.list true []=>true
 | .slice none 0 0,.nils=>true
 | .pointer none,.nilp=>true
 | .map none,.nilm=>true
 | .nilFunc,.nilf=>true
 | .nilIface,.nili=>true
 | _,_=>false
def E1:List Value→List AV→Bool
 | [],[]=>true
 | v::vs,a::as=>a00 v a && E1 vs as
 | _,_=>false
def a4U:Value→AV→Bool
 | .agg vs,.agg as=>E1 vs.toList as
 | .slice none 0 0,.nils=>true
 | v,a=>a00 v a
section
variable (c:Cx)
def D5 (x:Operand) (p:Opd):Bool :=
 match x,p with
 | .tmp s,.t s'=>s == s' && !c.slots.contains s
 | .tmp s,.ts s'=>s == s' && !c.slots.contains s
 | .tmp s,.v i=>c.slots[i]? == some s
 | .tmp s,.vs i=>c.slots[i]? == some s
 | .tmp s,.l i=>c.slots[i]? == some s
 | .const v,.c a=>a4U v a
 | .func f,.c (.func f' [] [])=>f == f'
 | .global g,.c (.ro cs)=>c.gt.any fun e=>e.1 == g && a8j e.2 cs
 | _,_=>false
def Opd.steals:Opd→Bool
 | .ts _|.vs _=>true
 | _=>false
def O3 (x:Operand) (p:Opd):Bool:=D5 c x p && !p.steals
def a1P:List Operand→List Opd→Bool
 | [],[]=>true
 | x::xs,p::ps=>O3 c x p && a1P xs ps
 | _,_=>false
def s7 (d:Option Tmp) (p:Dst):Bool :=
 match d,p with
 | none,.none=>true
 | some s,.t s'=>s == s' && !c.slots.contains s && decide (s < c.nt)
 | some s,.v i=>c.slots[i]? == some s && !c.bxs.contains i
 | _,_=>false
def B6 (t:TypeId):Option Bool :=
 match c.P.underlying t with
 | some (.struct _)|some (.array _ _)=>some true
 | some _=>some false
 | none=>none
def B1 (t:TypeId):Option Nat:=(c.P.info? t).map (·.size)
def a1b (t:TypeId) (f:Nat):Option Field :=
 match c.P.underlying t with
 | some (.struct fs)=>fs[f]?
 | _=>none
end
end Go.Cb
namespace Go.Cb
def Globs (gt:List (Nat×List AV)) (g:Gh) (w:World):Prop:=∀ e∈gt,RelCells g w e.1 0 e.2∧g.cl e.1 e.2.length∧w.cell? (ad e.1 e.2.length)=none
theorem Globs.ext {gt:List (Nat×List AV)} {g g':Gh} {w w':World} (h:Globs gt g w) (t:Ext g w g' w'):Globs gt g' w' :=
 fun e l=>⟨RelCells.ext t _ _ _ (h e l).1,t.cl _ _ (h e l).2.1,(t.cell _ _ (h e l).2.1).trans (h e l).2.2⟩
structure S (c:Cx) (g:Gh) (w:World) (pr:Nat→Option Pl) (bx:Nat→Nat) (σ:Sig) (a:Act):Prop where
 fr:FR c.A g w pr bx c.slots c.bxs c.nt σ.fr σ.τ a.tmps
 st:SRel g w σ.st
 gl:Globs c.gt g w
 fresh:∀ b,w.heap.size≤b→c.A b
 stA:∀ b p,g.sr b=some p→c.A b
def ArgOK (g:Gh) (w:World) (bx:Nat→Nat) (fr:List AV) (mine:Nat→Prop) (a:AV) (v:Value):Prop :=
 match a with
 | .loc j off=>(∃ cs,fr.getD j .undef=.box cs)∧v=.pointer (some (ad (bx j) off))
 | .box _=>True
 | a=>ValOK g w mine a v
abbrev No:Nat→Prop:=fun _=>False
theorem b0h:∀ {x y:List AV},a8j x y=true→x=y
 | [],[],_=>rfl
 | .str a::x,.str b::y,h=>by simp only[a8j,AA,beq_iff_eq]at h;rw[h.1,b0h h.2]
theorem ValOK.mk' {g:Gh} {w:World} {mine:Nat→Prop} {a:AV} {v:Value} (h:Rel g w a v) (l:∀ xs,a≠.list true xs) (t:∀ cs,a≠.agg cs):ValOK g w mine a v :=
 ⟨h,fun xs e=>absurd e (l xs),fun cs e=>absurd e (t cs)⟩
theorem a6E {v:Value} {a:AV} (h:a00 v a=true) (g:Gh) (w:World):ValOK g w No a v:=by
 unfold a00 at h;split at h
 · simp only[beq_iff_eq]at h;subst h;exact ValOK.mk' (by simp[Rel]) (by simp) (by simp)
 · simp only[AA,decide_eq_true_eq]at h;obtain⟨rfl,rfl⟩:=h;exact ValOK.mk' (by simp[Rel]) (by simp) (by simp)
 · simp only[beq_iff_eq]at h;exact ValOK.mk' (by simp only[Rel]; exact⟨_,rfl,h⟩) (by simp) (by simp)
 · exact⟨by simp only[Rel]; exact⟨none,0,0,rfl,rfl,AK _,fun _=>rfl,fun h=>absurd rfl h⟩,fun _ _=>.inl ⟨_,_,rfl⟩,fun _ e=>(by cases e)⟩
 · exact ValOK.mk' (by simp[Rel]) (by simp) (by simp)
 · exact ValOK.mk' (by simp[Rel]) (by simp) (by simp)
 · exact ValOK.mk' (by simp[Rel]) (by simp) (by simp)
 · exact ValOK.mk' (by simp[Rel]) (by simp) (by simp)
 · exact ValOK.mk' (by simp[Rel]) (by simp) (by simp)
 · cases h
theorem b27 {v:Value} {a:AV} (h:a00 v a=true):v.oneCell'=true:=by unfold a00 at h;split at h<;>first|rfl|cases h
theorem J1:∀ {vs:List Value} {as:List AV},E1 vs as=true→∀ (g:Gh) (w:World),RelL g w as vs∧(∀ v∈vs,v.oneCell'=true) ∧
 ∀ (k:Nat) (a:AV) (v:Value),as[k]?=some a→vs[k]?=some v→OwnN a v
 | [],[],_,g,w=>by simp[RelL]
 | v::vs,a::as,h,g,w=>by
  simp only[E1,AA]at h;obtain⟨t,y⟩:=h;obtain⟨z,C,I⟩:=J1 y g w;have x:=a6E t g w;refine⟨by simp only[RelL]; exact⟨v,vs,rfl,x.rel,z⟩,?_,?_⟩
  · intro u hu;rcases List.mem_cons.1 hu with rfl|hu
    · exact b27 t
    · exact C u hu
  · intro k b u l hu;cases k with
    | zero =>
     simp at l hu;subst l; subst hu;intro xs e;rcases x.own xs e with h|⟨_,_,_,_,_,_,_,h,_⟩
     · exact h
     · exact h.elim
    | succ k=>exact I k b u (by simpa using l) (by simpa using hu)
theorem b5o {v:Value} {a:AV} (h:a4U v a=true) (g:Gh) (w:World):ValOK g w No a v:=by
 unfold a4U at h;split at h
 · rename_i vs as;obtain⟨l,t,x⟩:=J1 h g w;refine⟨by simp only[Rel]; exact⟨vs,rfl,l,t⟩,fun xs e=>(by cases e),fun cs e us e2 k c u y hu=>?_⟩;cases e; cases e2;exact x k c u y (by simpa using hu)
 · exact ValOK.mk' (by simp[Rel]) (by simp) (by simp)
 · exact a6E h g w
theorem b5v {v:Value} {a:AV} (h:a4U v a=true) (g:Gh) (w:World) (bx:Nat→Nat) (fr:List AV):ArgOK g w bx fr No a v:=by have l:=b5o h g w;cases a<;>first|exact l|trivial|(unfold a4U at h; split at h<;>first|(rename_i e; cases e; done)|(unfold a00 at h; split at h<;>simp_all))
section
variable {c:Cx} {g:Gh} {w:World} {pr:Nat→Option Pl} {bx:Nat→Nat} {σ:Sig} {a:Act}
theorem P7 {l:List Nat} {s:Nat} (h:(!l.contains s)=true):s ∉ l:=by simpa using h
theorem VarOK.arg {i:Nat} {b:AV} {v:Value} (h:VarOK g w pr bx i b v):ArgOK g w bx σ.fr No b.weak v:=by cases b<;>first|exact ValOK.of_weak (ValOK.rel h)|exact h.elim|trivial
theorem TmpOK.arg {s:Nat} {b:AV} {v:Value} (h:TmpOK g w pr bx σ.fr s b v):ArgOK g w bx σ.fr No b.weak v:=by cases b<;>first|exact ValOK.of_weak (ValOK.rel h)|exact h|trivial
theorem P9 (h:S c g w pr bx σ a) {x:Operand} {p:Opd} (l:O3 c x p=true):ArgOK g w bx σ.fr No (p.read σ) (a.eval x):=by
 simp only[O3,AA]at l;obtain⟨l,u⟩:=l;unfold D5 at l;split at l
 · simp only[AA,beq_iff_eq]at l;obtain⟨rfl,J⟩:=l;exact(h.fr.tmp _ (P7 J)).arg
 · simp[Opd.steals]at u
 · exact(h.fr.var _ _ (by simpa using l)).arg
 · simp[Opd.steals]at u
 · rename_i s i;have y:=h.fr.var i s (by simpa using l);simp only[Opd.read,Act.eval];cases t:σ.fr.getD i .undef<;>rw[t]at y<;>first
    | exact⟨⟨_,t⟩,y.1⟩
    | exact ValOK.mk' (by simp[Rel]) (by simp) (by simp)
 · rename_i v b;simp only[Opd.read,Act.eval];exact b5v l g w bx σ.fr
 · simp only[beq_iff_eq]at l;subst l;exact(show ValOK g w No (.func _ [] []) _ from ValOK.mk' (by simp[Act.eval,Rel,RelL]) (by simp) (by simp))
 · rename_i gi cs;simp only[List.any_eq_true,AA,beq_iff_eq]at l;obtain⟨e,I,z,C⟩:=l;have:=(h.gl e I).1;rw[z,b0h C]at this;exact(show ValOK g w No (.ro cs) _ from ValOK.mk' (by simp only[Act.eval,Rel]; exact⟨gi,0,rfl,this⟩) (by simp) (by simp))
 · cases l
inductive ArgsOK (g:Gh) (w:World) (bx:Nat→Nat) (fr:List AV):List AV→List Value→Prop where
 | nil:ArgsOK g w bx fr [] []
 | cons {a:AV} {v:Value} {as:List AV} {vs:List Value} (h:ArgOK g w bx fr No a v) (t:ArgsOK g w bx fr as vs):ArgsOK g w bx fr (a::as) (v::vs)
theorem R8 (h:S c g w pr bx σ a):∀ {xs:List Operand} {ps:List Opd},a1P c xs ps=true→ArgsOK g w bx σ.fr (ps.map (·.read σ)) (xs.map a.eval)
 | [],[],_=>.nil
 | x::xs,p::ps,hp=>by simp only[a1P,AA]at hp;exact .cons (P9 h hp.1) (R8 h hp.2)
theorem D7:∀ {xs:List Operand} {ps:List Opd},a1P c xs ps=true→d9 ps σ=σ
 | [],[],_=>rfl
 | x::xs,p::ps,hp=>by
  simp only[a1P,O3,Bool.and_eq_true]at hp;simp only[d9];have:p.spend σ=σ:=by have:=hp.1.2;cases p<;>simp_all [Opd.steals,Opd.spend]
  rw[this];exact D7 hp.2
def Post (c:Cx) (g:Gh) (w:World) (a:Act) (σ':Sig) (next:Act→World→Prop):Prop :=
 ∀ e w' g' t l,e.defers=a.defers→S c g' w' t l σ' e→Tr c.A g w g' w'→next e w'
structure Fx (c:Cx):Prop where
 nd:c.slots.Nodup
 lt:∀ s∈c.slots,s < c.nt
theorem C2 (a:Act) (d:Option Tmp) (v:Value):(a.put d v).defers=a.defers:=by cases d<;>rfl
theorem ValOK.undef {mine:Nat→Prop} {v:Value}:ValOK g w mine .undef v:=ValOK.mk' (by simp[Rel]) (by simp) (by simp)
theorem ArgOK.tmp {mine:Nat→Prop} {s:Nat} {b:AV} {v:Value} (h:ArgOK g w bx σ.fr mine b v) (l:∀ b,mine b→pr b=some (.tmp s)):TmpOK g w pr bx σ.fr s b.stripB v:=by
 cases b<;>first
  | exact ValOK.mono h (Ext.refl g w) fun b e=>⟨l b e,rfl,fun _ x=>x⟩
  | exact h
  | exact ValOK.undef
theorem ArgOK.var {mine:Nat→Prop} {i:Nat} {b:AV} {v:Value} (h:ArgOK g w bx σ.fr mine b v) (l:∀ b,mine b→pr b=some (.var i)):VarOK g w pr bx i b.strip v:=by
 cases b<;>first
  | exact ValOK.mono h (Ext.refl g w) fun b e=>⟨l b e,rfl,fun _ x=>x⟩
  | exact ValOK.undef
def Dst.pl:Dst→Pl
 | .t s=>.tmp s
 | .v i=>.var i
 | _=>.tmp 0
theorem a0x (t:Fx c) (h:S c g w pr bx σ a) {d:Option Tmp} {p:Dst} (l:s7 c d p=true) {mine:Nat→Prop} {r:AV} {v:Value} (x:ArgOK g w bx σ.fr mine r v)
 (u:∀ b,mine b→pr b=some p.pl):S c g w pr bx (p.put r σ) (a.put d v):=by
 unfold s7 at l;split at l
 · exact h
 · rename_i s s';simp only[AA,beq_iff_eq,decide_eq_true_eq]at l;obtain⟨⟨rfl,z⟩,y⟩:=l;exact⟨h.fr.put_t (P7 z) y (x.tmp u),h.st,h.gl,h.fresh,h.stA⟩
 · rename_i s i;simp only[AA,beq_iff_eq]at l;refine⟨h.fr.put_v t.nd t.lt l.1 (P7 l.2) (x.var u) ?_,h.st,h.gl,h.fresh,h.stA⟩;intro cs e;cases r<;>simp[AV.strip]at e
 · cases l
theorem b4h (l:Fx c) (h:S c g w pr bx σ a) {o:Oper} {p:Dst} (t:s7 c o.dst p=true) {r:AV} {v:Value}
 (e:(execOp a.eval o).run c.P w=.ok (.value v) w) (y:ArgOK g w bx σ.fr No r v) {next:Act→World→Prop} {Q:Exit→Act→World→Prop}
 (u:Post c g w a (p.put r σ) next):o.wp c.P a w next Q:=by
 unfold Oper.wp;rw[e];exact u _ _ g pr bx (C2 _ _ _) (a0x l h t y fun _ x=>x.elim) (Tr.refl _ _ _)
end
end Go.Cb
namespace Go.Cb
theorem blt_eq (a b:Nat):Nat.blt a b=decide (a < b):=by rw[Bool.eq_iff_iff,Nat.blt_eq]; simp
theorem wrap_i64 {n:Int} (e:-9223372036854775808≤n) (l:n < 9223372036854775808):IntKind.i64.wrap n=n:=by simp only[IntKind.wrap,IntKind.signed,IntKind.bits];simp only[show((2:Int) ^ 64)=18446744073709551616 from by decide,show((2:Int) ^ (64 - 1))=9223372036854775808 from by decide,Bool.true_and,decide_eq_true_eq];omega
theorem b1I {n:Int} (e:-2147483648≤n) (l:n < 2147483648):IntKind.i32.wrap n=n:=by simp only[IntKind.wrap,IntKind.signed,IntKind.bits];simp only[show((2:Int) ^ 32)=4294967296 from by decide,show((2:Int) ^ (32 - 1))=2147483648 from by decide,Bool.true_and,decide_eq_true_eq];omega
theorem c54 {n:Int} (e:0≤n) (l:n < 256):IntKind.u8.wrap n=n:=by unfold IntKind.wrap;rw[show IntKind.u8.signed=false from rfl];simp only[Bool.false_and,Bool.false_eq_true,if_false];exact Int.emod_eq_of_lt e l
theorem c0x {n:Int} (e:0≤n) (l:n < 18446744073709551616):IntKind.u64.wrap n=n:=by unfold IntKind.wrap;rw[show IntKind.u64.signed=false from rfl];simp only[Bool.false_and,Bool.false_eq_true,if_false];exact Int.emod_eq_of_lt e l
theorem Q8 (k:IntKind) (n:Int):n7 k n=k.wrap n:=by
 unfold n7;split
 case h_7=>rfl
 case h_1 =>
  rw[blt_eq];split
  · rename_i m h;have h:=of_decide_eq_true h;exact(wrap_i64 (by simp only[Int.ofNat_eq_natCast]; omega) (by simp only[Int.ofNat_eq_natCast]; omega)).symm
  · rfl
 case h_2 =>
  rw[blt_eq];split
  · rename_i m h;have h:=of_decide_eq_true h;exact(wrap_i64 (by simp only[Int.negSucc_eq]; omega) (by simp only[Int.negSucc_eq]; omega)).symm
  · rfl
 case h_3 =>
  rw[blt_eq];split
  · rename_i m h;have h:=of_decide_eq_true h;exact(c54 (by simp only[Int.ofNat_eq_natCast]; omega) (by simp only[Int.ofNat_eq_natCast]; omega)).symm
  · rfl
 case h_4 =>
  rw[blt_eq];split
  · rename_i m h;have h:=of_decide_eq_true h;exact(c0x (by simp only[Int.ofNat_eq_natCast]; omega) (by simp only[Int.ofNat_eq_natCast]; omega)).symm
  · rfl
 case h_5 =>
  rw[blt_eq];split
  · rename_i m h;have h:=of_decide_eq_true h;exact(b1I (by simp only[Int.ofNat_eq_natCast]; omega) (by simp only[Int.ofNat_eq_natCast]; omega)).symm
  · rfl
 case h_6 =>
  rw[blt_eq];split
  · rename_i m h;have h:=of_decide_eq_true h;exact(b1I (by simp only[Int.negSucc_eq]; omega) (by simp only[Int.negSucc_eq]; omega)).symm
  · rfl
@[simp] theorem eqI_eq (a b:Int):eqI a b=(a == b):=by cases a<;>cases b<;>simp only[eqI]<;>rw[Bool.eq_iff_iff]<;>simp only[Nat.beq_eq,beq_iff_eq,Int.ofNat_eq_natCast,Int.negSucc_eq,Bool.false_eq_true,false_iff]<;>omega
@[simp] theorem ltI_eq (a b:Int):ltI a b=decide (a < b):=by cases a<;>cases b<;>simp only[ltI,blt_eq]<;>rw[Bool.eq_iff_iff]<;>simp<;>omega
@[simp] theorem addI_eq (a b:Int):a3i a b=a+b:=by cases a<;>cases b<;>rfl
@[simp] theorem subI_eq (a b:Int):a1F a b=a - b:=by
 cases a<;>cases b<;>simp only[a1F]<;>try rfl
 rename_i m n;split
 · rename_i h;have:=Nat.le_of_ble_eq_true h;show((m - n:Nat):Int)=(m:Int) - (n:Int);omega
 · rfl
theorem a3u:∀ a b:List Nat,eqN a b=(a == b)
 | [],[]=>rfl
 | [],_::_=>rfl
 | _::_,[]=>rfl
 | x::a,y::b=>by simp only[eqN,a3u a b]; rw[Bool.eq_iff_iff]; simp
mutual
theorem a6Z:∀ (a b:AV),J2 a b=true↔a=b
 | .undef,b=>by cases b<;>simp[J2]
 | .bool x,b=>by cases b<;>simp[J2]
 | .int k x,b=>by cases b<;>simp[J2]
 | .str x,b=>by cases b<;>simp[J2,a3u]
 | .list o xs,b=>by cases b<;>simp[J2];rw[a4C];intro _;rfl
 | .ptr o f,b=>by cases b<;>simp[J2]
 | .nilp,b=>by cases b<;>simp[J2]
 | .ro xs,b=>by cases b<;>simp[J2];rw[E5]
 | .loc o f,b=>by cases b<;>simp[J2]
 | .box xs,b=>by cases b<;>simp[J2];rw[E5]
 | .map o,b=>by cases b<;>simp[J2]
 | .nilm,b=>by cases b<;>simp[J2]
 | .func f xs ys,b=>by cases b<;>simp[J2,and_assoc];rw[E5,E5];intro _;rfl
 | .nilf,b=>by cases b<;>simp[J2]
 | .agg xs,b=>by cases b<;>simp[J2];rw[E5]
 | .tuple xs,b=>by cases b<;>simp[J2];rw[E5]
 | .iface t x,b=>by cases b<;>simp[J2];rw[a6Z];intro _;rfl
 | .nili,b=>by cases b<;>simp[J2]
 | .nils,b=>by cases b<;>simp[J2]
 | .sl o f n s,b=>by cases b<;>simp[J2,and_assoc]
 | .fresh xs,b=>by cases b<;>simp[J2];rw[a4C]
theorem E5:∀ (a b:List AV),R5 a b=true↔a=b
 | [],b=>by cases b<;>simp[R5]
 | x::xs,b=>by cases b<;>simp[R5];rw[a6Z,E5]
theorem a4C:∀ (a b:List (List AV)),a3z a b=true↔a=b
 | [],b=>by cases b<;>simp[a3z]
 | x::xs,b=>by cases b<;>simp[a3z];rw[E5,a4C]
end
theorem b2m:∀ (a b:List (AV×AV)),a9w a b=true↔a=b
 | [],b=>by cases b<;>simp[a9w]
 | (x,y)::xs,b=>by
  cases b with
  | nil=>simp[a9w]
  | cons z zs=>obtain⟨e,z2⟩:=z; simp[a9w,a6Z,b2m]
theorem a0k (a b:Obj):a7D a b=true↔a=b:=by cases a<;>cases b<;>simp[a7D,E5,b2m]
theorem b1U:∀ (a b:St),b1X a b=true↔a=b
 | [],b=>by cases b<;>simp[b1X]
 | x::xs,b=>by cases b<;>simp[b1X,a0k,b1U]
theorem b91 (a b:Ex):b9t a b=true↔a=b:=by cases a<;>cases b<;>simp[b9t]
theorem a9Q (a b:Out):b0K a b=true↔a=b:=by obtain⟨a1,a2,a3⟩:=a;obtain⟨e,l,t⟩:=b;simp[b0K,E5,b1U,b91,and_assoc]
theorem a7Q {kill:List Nat} {x y:Option Out} {o:Out} (h:a4i kill x y=some o):∃ a b,x=some a∧y=some b∧P0 kill a=o∧P0 kill b=o:=by
 unfold a4i at h;split at h
 · split at h
   · rename_i a b e;simp only[AD]at h;exact⟨a,b,rfl,rfl,h,((a9Q _ _).1 e).symm.trans h⟩
   · cases h
 · cases h
theorem a4K {kill:List Nat} {a b:Out} (h:P0 kill a=P0 kill b):a4i kill (some a) (some b)=some (P0 kill a):=by unfold a4i;dsimp only;rw[if_pos ((a9Q _ _).2 h)]
def o9 (c:Cx) (g:Gh) (w:World) (bx:Nat→Nat) (fr:List AV) (a:Act) (o:Oper) (r:AV):Prop :=
 ∃ v,(execOp a.eval o).run c.P w=.ok (.value v) w∧ArgOK g w bx fr No r v
theorem I6 {P:Program} {t:TypeId} {n:Nat} (h:(P.info? t).map (·.size)=some n) (w:World):(sizeOf t).run P w=.ok n w:=by obtain⟨i,hi,e⟩:=AL.1 h;simp[sizeOf,typeInfo,hi,e]
theorem a2N {P:Program} {t:TypeId} {b:Bool} (c:Cx) (v:c.P=P) (h:B6 c t=some b) (w:World):(isAgg t).run P w=.ok b w:=by
 subst v;unfold B6 at h;unfold isAgg;split at h
 · rename_i fs hu; simp at h; subst h; simp[run_underlying hu]
 · rename_i n e hu; simp at h; subst h; simp[run_underlying hu]
 · rename_i d l u hu;simp at h; subst h;simp only[Sem.run_bind,run_underlying hu,Result.andThen_ok];cases d<;>first|rfl|exact(l _ rfl).elim|exact(u _ _ rfl).elim
 · cases h
theorem Addr.add_ad (b f n:Nat):(ad b f).add n=ad b (f+n):=by
 unfold Addr.add;split
 · rename_i h; subst h; rfl
 · rfl
section
variable {c:Cx} {g:Gh} {w:World} {pr:Nat→Option Pl} {bx:Nat→Nat} {σ:Sig} {a:Act} {o:Oper} {call:d8} {b b' r:AV} {st st':St}
theorem ArgOK.rel {fr:List AV} {mine:Nat→Prop} {x:AV} {v:Value} (h:ArgOK g w bx fr mine x v) (e:∀ i f,x≠.loc i f) (l:∀ cs,x≠.box cs):Rel g w x v:=by cases x<;>first|exact ValOK.rel h|exact absurd rfl (e _ _)|exact absurd rfl (l _)
theorem ArgOK.plain {fr:List AV} {mine:Nat→Prop} {x:AV} {v:Value} (h:ArgOK g w bx fr mine x v) (e:x.plain=true):ValOK g w mine x v:=by cases x<;>first|exact h|(simp[AV.plain]at e)
theorem ArgOK.of_val {fr:List AV} {mine:Nat→Prop} {x:AV} {v:Value} (h:ValOK g w mine x v) (e:∀ i f,x≠.loc i f):ArgOK g w bx fr mine x v:=by cases x<;>first|exact h|exact absurd rfl (e _ _)|trivial
theorem ArgsOK.one {fr:List AV} {as:List AV} {v:Value} (h:ArgsOK g w bx fr as [v]):∃ p,as=[p]∧ArgOK g w bx fr No p v:=by cases h with|cons e h=>cases h; exact⟨_,rfl,e⟩
theorem ArgsOK.two {fr:List AV} {as:List AV} {v u:Value} (h:ArgsOK g w bx fr as [v,u]):∃ p q,as=[p,q]∧ArgOK g w bx fr No p v∧ArgOK g w bx fr No q u:=by cases h with|cons e h=>obtain⟨q,rfl,l⟩:=ArgsOK.one h; exact⟨_,q,rfl,e,l⟩
theorem ArgsOK.three {fr:List AV} {as:List AV} {v u t:Value} (h:ArgsOK g w bx fr as [v,u,t]) :
 ∃ p q s,as=[p,q,s]∧ArgOK g w bx fr No p v∧ArgOK g w bx fr No q u∧ArgOK g w bx fr No s t:=by
 cases h with|cons e h=>obtain⟨q,s,rfl,l,x⟩:=ArgsOK.two h; exact⟨_,q,s,rfl,e,l,x⟩
variable {fr:List AV} {as:List AV}
theorem c1s {x y z:Operand} (M:o.op=.pick x y z) (U:ArgsOK g w bx fr as [a.eval x,a.eval y,a.eval z])
 (l:G5 call as b st=some (r,b',st')):o9 c g w bx fr a o r∧b'=b∧st'=st:=by
 obtain⟨p,q,s,rfl,N,O,T⟩:=U.three;unfold G5 at l;split at l
 · rename_i t W s' e;simp only[AN,and_true]at e;obtain⟨rfl,rfl,rfl⟩:=e;have L:a.eval x=.bool t:=by simpa[Rel]using N.rel (by simp) (by simp)
   have key:∀ (u:AV) (vx:Value),ArgOK g w bx fr No u vx→(if u.plain=true then some (u,b,st)else none)=some (r,b',st')→ArgOK g w bx fr No r vx∧b'=b∧st'=st:=by
    intro u vx hu v;split at v
    · simp only[AD,AJ]at v;obtain⟨rfl,rfl,rfl⟩:=v;exact⟨hu,rfl,rfl⟩
    · cases v
   cases t with
   | true=>obtain⟨C,I,J⟩:=key q _ O (by simpa using l); exact⟨⟨a.eval y,by simp[execOp,M,L,asBool],C⟩,I,J⟩
   | false=>obtain⟨C,I,J⟩:=key s _ T (by simpa using l); exact⟨⟨a.eval z,by simp[execOp,M,L,asBool],C⟩,I,J⟩
 · cases l
theorem b4X {x:Operand} (u:o.op=.nilCheck x) (y:ArgsOK g w bx fr as [a.eval x])
 (v:G7 call as b st=some (r,b',st')):o9 c g w bx fr a o r∧b'=b∧st'=st:=by
 obtain⟨p,rfl,t⟩:=y.one;unfold G7 at v;split at v<;>try cases v
 · rename_i k f l;simp only[AN,and_true]at l; subst l;have e:=t.rel (by simp) (by simp);simp only[Rel]at e;exact⟨⟨a.eval x,by simp[execOp,u,e.2],t⟩,rfl,rfl⟩
 · rename_i k f l;simp only[AN,and_true]at l; subst l;exact⟨⟨a.eval x,by simp[execOp,u,t.2],t⟩,rfl,rfl⟩
 · rename_i cs l;simp only[AN,and_true]at l; subst l;have e:=t.rel (by simp) (by simp);simp only[Rel]at e;obtain⟨bb,f,e,_⟩:=e;exact⟨⟨a.eval x,by simp[execOp,u,e],t⟩,rfl,rfl⟩
 · rename_i f z C l;simp only[AN,and_true]at l; subst l;have e:=t.rel (by simp) (by simp);simp only[Rel]at e;obtain⟨a1,a2,e,_⟩:=e;exact⟨⟨a.eval x,by simp[execOp,u,e],t⟩,rfl,rfl⟩
theorem a3p {s:TypeId} {f:Nat} {fl:Field} {n:Nat} {bb l:Nat} (e:a1b c s f=some fl) (u:B1 c fl.type=some n) (t:n≠0) :
 (Instr.fieldAt s (.pointer (some (ad bb l))) f).run c.P w=.ok (.pointer (some (ad bb (l+fl.offset)))) w:=by
 unfold a1b at e;split at e
 · rename_i fs hu;simp[Instr.fieldAt,run_underlying hu,e,Instr.sureAddr,fieldPlace,I6 (w:=w) u,t,Addr.add_ad]
 · cases e
theorem c4U {s:TypeId} {x:Operand} {f:Nat} {fl:Field} {n off:Nat} (C:o.op=.fieldAddr s x f) (y:a1b c s f=some fl) (z:B1 c fl.type=some n) (v:n≠0) (t:fl.offset=off)
 (L:ArgsOK g w bx fr as [a.eval x]) (I:O0 off call as b st=some (r,b',st')):o9 c g w bx fr a o r∧b'=b∧st'=st:=by
 obtain⟨p,rfl,u⟩:=L.one;subst t;unfold O0 at I;split at I<;>try cases I
 · rename_i k f l;simp only[AN,and_true]at l; subst l;have e:=u.rel (by simp) (by simp);simp only[Rel]at e;exact⟨⟨.pointer (some (ad (g.m k) (f+fl.offset))),by simp only[execOp,C,e.2,Sem.run_bind,a3p (c:=c) y z v,Result.andThen_ok,Sem.run_pure],ValOK.mk' (by simp[Rel,e.1]) (by simp) (by simp)⟩,rfl,rfl⟩
 · rename_i k f l;simp only[AN,and_true]at l; subst l;exact⟨⟨.pointer (some (ad (bx k) (f+fl.offset))),by simp only[execOp,C,u.2,Sem.run_bind,a3p (c:=c) y z v,Result.andThen_ok,Sem.run_pure],⟨u.1,rfl⟩⟩,rfl,rfl⟩
 · rename_i cs l;simp only[AN,and_true]at l; subst l;have e:=u.rel (by simp) (by simp);simp only[Rel]at e;obtain⟨bb,f,e,J⟩:=e;exact⟨⟨.pointer (some (ad bb (f+fl.offset))),by simp only[execOp,C,e,Sem.run_bind,a3p (c:=c) y z v,Result.andThen_ok,Sem.run_pure],ValOK.mk' (by simp only[Rel]; exact⟨bb,_,rfl,J.drop _⟩) (by simp) (by simp)⟩,rfl,rfl⟩
theorem c4t {x:Operand} {i:Nat} (I:o.op=.extract x i) (J:ArgsOK g w bx fr as [a.eval x])
 (t:Z4 i call as b st=some (r,b',st')):o9 c g w bx fr a o r∧b'=b∧st'=st:=by
 obtain⟨p,rfl,z⟩:=J.one;unfold Z4 at t;split at t
 · rename_i vs y;simp only[AN,and_true]at y; subst y;have e:=z.rel (by simp) (by simp);simp only[Rel]at e;obtain⟨arr,e,C⟩:=e;split at t
   · rename_i u hu;obtain⟨v,L,l⟩:=C.get hu;simp only[AD,AJ]at t;obtain⟨rfl,rfl,rfl⟩:=t;refine⟨⟨v,?_,ArgOK.of_val (ValOK.of_weak l) ?_⟩,rfl,rfl⟩
     · have:arr[i]?=some v:=by simpa using L
       simp[execOp,I,e,Instr.extract,this]
     · intro i f; cases u<;>simp[AV.weak]<;>simp[Rel]at l
   · cases t
 · cases t
theorem c7d {t:TypeId} {x:Operand} {op:UnOp} (y:o.op=.unOp op t x) (z:ArgsOK g w bx fr as [a.eval x])
 (u:a1g op call as b st=some (r,b',st')):o9 c g w bx fr a o r∧b'=b∧st'=st:=by
 obtain⟨p,rfl,v⟩:=z.one;unfold a1g at u;split at u<;>try cases u
 · rename_i t l;simp only[AN,and_true]at l; subst l;have e:a.eval x=.bool t:=by simpa[Rel]using v.rel (by simp) (by simp)
   exact⟨⟨.bool !t,by simp[execOp,y,e,Op.unary],ValOK.mk' (by simp[Rel]) (by simp) (by simp)⟩,rfl,rfl⟩
 · rename_i k n l;simp only[AN,and_true]at l; subst l;have e:a.eval x=.int k n:=by simpa[Rel]using v.rel (by simp) (by simp)
   exact⟨⟨.int k (k.wrap (0 - n)),by simp[execOp,y,e,Op.unary,Op.intArith],ValOK.mk' (by simp only[Rel,Q8]) (by simp) (by simp)⟩,rfl,rfl⟩
end
end Go.Cb
namespace Go.Cb
section
variable {c:Cx} {g:Gh} {w:World} {pr:Nat→Option Pl} {bx:Nat→Nat} {a:Act} {o:Oper} {call:d8} {b b' r:AV} {st st':St} {fr as:List AV}
theorem b1T {x:AV} {v:Value} (h:Rel g w x v) (e:v.oneCell'=true):ArgOK g w bx fr No x.weak1 v:=by
 cases x
 case agg cs =>simp only[Rel]at h;obtain⟨y,rfl,_⟩:=h;simp[Value.oneCell']at e
 case loc=>simp[Rel]at h
 case box=>simp[Rel]at h
 all_goals exact ValOK.mk' (Rel.weak1 h) (by simp[AV.weak1]) (by simp[AV.weak1])
theorem b3G {cs:List AV} {us:List Value} (h:RelL g w cs us) (l:∀ u∈us,u.oneCell'=true):ArgOK g w bx fr No (.agg (cs.map AV.weak1)) (.agg us.toArray):=by
 refine⟨by simp only[Rel]; exact⟨us.toArray,rfl,by simpa using h.weak1,by simpa using l⟩,fun xs e=>(by cases e),fun ds e vs _ k d u t _ xs e2=>?_⟩;simp only[AV.agg.injEq]at e;subst e;rw[AU]at t;cases l:cs[k]? with
 | none=>simp[l]at t
 | some d' =>simp[l]at t;subst t;cases d'<;>simp[AV.weak1]at e2
theorem RelCells.vals:∀ {cs:List AV} {bb f:Nat},RelCells g w bb f cs→∃ us,RelL g w cs us∧w.rangeAt bb f us∧(∀ u∈us,u.oneCell'=true)∧∀ j,j < us.length→g.cl bb (f+j)
 | [],_,_,_=>⟨[],by simp[RelL],fun j v h=>by simp at h,by simp,by simp⟩
 | x::cs,bb,f,h=>by
  simp only[RelCells]at h;obtain⟨⟨v,C,e,t,z⟩,l⟩:=h;obtain⟨us,I,J,L,M⟩:=RelCells.vals l;refine⟨v::us,by simp only[RelL]; exact⟨v,us,rfl,z,I⟩,fun j u hu=>?_,?_,fun j y=>?_⟩
  · cases j with
    | zero=>simp at hu; subst hu; exact C
    | succ j=>rw[show f+(j+1)=f+1+j by omega]; exact J j u (by simpa using hu)
  · intro u hu;rcases List.mem_cons.1 hu with rfl|hu
    · exact e
    · exact L u hu
  · cases j with
    | zero=>exact t
    | succ j=>rw[show f+(j+1)=f+1+j by omega]; exact M j (by simpa using y)
theorem a6J {bb:Nat} {arr:Array Value} {T:TypeId} {z:Nat×Nat} (h:w.heap[bb]?=some (.cells arr T z)) (off:Nat):w.rangeAt bb off (arr.toList.drop off):=by intro j v e;rw[cell_of_row w bb (off+j) arr T z h];simpa using e
theorem b1P {bb:Nat} {arr:Array Value} {T:TypeId} {z:Nat×Nat} (h:w.heap[bb]?=some (.cells arr T z)) (n off:Nat):w.rangeAt bb off ((arr.toList.take n).drop off):=by
 intro j v e;rw[cell_of_row w bb (off+j) arr T z h];rw[List.getElem?_drop,List.getElem?_take]at e;split at e
 · simpa using e
 · cases e
theorem a0z {t:TypeId} {x:Operand} {bb f n:Nat} {J:Bool} {cs:List AV} {us:List Value} (T:o.op=.load t x) (e:B6 c t=some J) (Y:B1 c t=some n)
 (U:a.eval x=.pointer (some (ad bb f))) (I:RelL g w cs us) (O:w.rangeAt bb f us) (N:∀ u∈us,u.oneCell'=true) (l:l8 J n cs=some r):o9 c g w bx fr a o r:=by
 cases J with
 | true =>
  simp only[l8,if_true]at l;split at l
  · rename_i L;simp only[AD]at l;subst l;have C:n≤us.length:=by rw[← I.length]; exact L
    obtain⟨d,hu,W⟩:∃ d,c.P.underlying t=some d∧d.isRow=true:=by unfold B6 at e;split at e<;>first|exact⟨_,‹_›,rfl⟩|simp at e
    refine⟨.agg (us.take n).toArray,?_,b3G (I.take n) fun u hu=>N u (List.mem_of_mem_take hu)⟩;have M:=run_loadAt_mid (P:=c.P) w bb f t (us.take n) d (fun j v z=>O j v (by
     rw[List.getElem?_take]at z; split at z
     · exact z
     · cases z)) hu W (by rw[show(c.P.info? t).map (·.size)=some n from Y,AP,Nat.min_eq_left C])
    simp only[execOp,T,U,Sem.run_bind,M,Result.andThen_ok,Sem.run_pure]
  · cases l
 | false =>
  simp only[l8,Bool.false_eq_true,if_false]at l;cases cs with
  | nil=>simp at l
  | cons y ys =>
   simp only[AD]at l;subst l;simp only[RelL]at I;obtain⟨v,Z,rfl,M,_⟩:=I;refine⟨v,?_,b1T M (N v (by simp))⟩;have z:w.cell? (ad bb f)=some v:=by simpa using O 0 v rfl
   simp[execOp,T,U,Instr.loadAt,Instr.sureAddr,loadVar,a2N c rfl e,z]
theorem b2E {t:TypeId} {x:Operand} {z:Bool} {n:Nat} (M:o.op=.load t x) (y:B6 c t=some z) (L:B1 c t=some n) (N:ArgsOK g w bx fr as [a.eval x])
 (u:X3 z n call as b st=some (r,b',st')):o9 c g w bx fr a o r∧b'=b∧st'=st:=by
 obtain⟨p,rfl,I⟩:=N.one;unfold X3 at u;split at u
 · rename_i cs l;simp only[AN,and_true]at l; subst l;obtain⟨v,O,C⟩:=AL.1 u;simp only[AJ]at C;obtain⟨rfl,rfl,rfl⟩:=C;have e:=I.rel (by simp) (by simp);simp only[Rel]at e;obtain⟨bb,f,e,J⟩:=e;obtain⟨us,T,U,W,_⟩:=J.vals;exact⟨a0z M y L e T U W O,rfl,rfl⟩
 · cases u
theorem b9x {τ:Nat→AV} (h:FR c.A g w pr bx c.slots c.bxs c.nt fr τ a.tmps) {i:Nat} {t:TypeId} {x:Operand} {J:Bool} {n:Nat} {s:Nat} (hi:c.slots[i]?=some s) (Y:o.op=.load t x) (C:B6 c t=some J) (W:B1 c t=some n) (Z:ArgsOK g w bx fr as [a.eval x])
 (l:P3 i J n call as (fr.getD i .undef) st=some (r,b',st')):o9 c g w bx fr a o r∧b'=fr.getD i .undef∧st'=st:=by
 obtain⟨p,rfl,M⟩:=Z.one;unfold P3 at l;split at l
 · rename_i j off cs y N;simp only[AN,and_true]at y; subst y;split at l
   · rename_i I;subst I;obtain⟨v,hv,L⟩:=AL.1 l;simp only[AJ]at L;obtain⟨rfl,rfl,rfl⟩:=L;have e:=h.var i s hi;rw[N]at e;obtain⟨_,_,_,arr,T,O,U,z,_⟩:=e;exact⟨a0z Y C W M.2 (U.drop off) (a6J O off) (fun u hu=>z u (List.mem_of_mem_drop hu)) hv,rfl,rfl⟩
   · cases l
 · cases l
theorem b1e (h:SRel g w st) {t:TypeId} {x:Operand} {J:Bool} {n:Nat} (W:o.op=.load t x) (C:B6 c t=some J) (U:B1 c t=some n) (Y:ArgsOK g w bx fr as [a.eval x])
 (l:G4 J n call as b st=some (r,b',st')):o9 c g w bx fr a o r∧b'=b∧st'=st:=by
 obtain⟨p,rfl,M⟩:=Y.one;unfold G4 at l;split at l
 · rename_i oo off y;simp only[AN,and_true]at y; subst y;split at l
   · rename_i cs I;obtain⟨v,Z,L⟩:=AL.1 l;simp only[AJ]at L;obtain⟨rfl,rfl,rfl⟩:=L;have e:=M.rel (by simp) (by simp);simp only[Rel]at e;obtain⟨_,_,arr,T,N,_,O,z,_⟩:=h.obj _ _ I;exact⟨a0z W C U e.2 (O.drop off) (b1P N cs.length off) (fun u hu=>z u (List.mem_of_mem_drop hu)) Z,rfl,rfl⟩
   · cases l
 · cases l
theorem b9r (h:SRel g w st) {t:TypeId} {x:Operand} {u:Bool} {n:Nat} (y:o.op=.load t x) (e:B6 c t=some u) (v:B1 c t=some n) (z:ArgsOK g w bx fr as [a.eval x])
 (l:J6 u n call as b st=some (r,b',st')):o9 c g w bx fr a o r∧b'=b∧st'=st:=by
 unfold J6 at l;split at l
 · exact b2E (call:=call) y e v z l
 · exact b1e (call:=call) h y e v z l
 · cases l
theorem c2b {t:TypeId} {z:Bool} {n off:Nat} {cs:List AV} {arr:Array Value} (x:B6 c t=some z) (T:B1 c t=some n)
 (M:RelL g w cs arr.toList) (J:∀ u∈arr.toList,u.oneCell'=true) (I:off+n≤cs.length) (l:l8 z n (cs.drop off)=some r) :
 ∃ v,(part t arr off).run c.P w=.ok v w∧ArgOK g w bx fr No r v:=by
 cases z with
 | true =>
  simp only[l8,if_true]at l;split at l
  · rename_i N;simp only[AD]at l;subst l;refine⟨.agg (arr.extract off (off+n)),?_,?_⟩
    · simp[part,a2N c rfl x,I6 (w:=w) T]
    · have e:arr.extract off (off+n)=((arr.toList.drop off).take n).toArray:=by apply Array.ext';simp[Array.toList_extract]
      rw[e];exact b3G ((M.drop off).take n) fun u hu=>J u (List.mem_of_mem_drop (List.mem_of_mem_take hu))
  · cases l
 | false =>
  simp only[l8,Bool.false_eq_true,if_false]at l;have C:=M.drop off;cases L:cs.drop off with
  | nil=>simp[L]at l
  | cons y ys =>
   rw[L]at l C;simp only[AD]at l;subst l;simp only[RelL]at C;obtain⟨v,us,hu,U,_⟩:=C;have O:arr[off]?=some v:=by
    have:(arr.toList.drop off)[0]?=some v:=by rw[hu]; rfl
    simpa using this
   refine⟨v,by simp[part,a2N c rfl x,O],b1T U (J v ?_)⟩;rw[Array.mem_toList_iff];exact Array.mem_of_getElem? O
theorem c5W {s:TypeId} {x:Operand} {f:Nat} {fl:Field} {n off:Nat} {M:Bool} (Y:o.op=.field s x f) (z:a1b c s f=some fl) (I:B6 c fl.type=some M) (W:B1 c fl.type=some n) (y:fl.offset=off)
 (Z:ArgsOK g w bx fr as [a.eval x]) (l:a0T off n M call as b st=some (r,b',st')):o9 c g w bx fr a o r∧b'=b∧st'=st:=by
 obtain⟨p,rfl,O⟩:=Z.one;subst y;unfold a0T at l;split at l
 · rename_i cs t;simp only[AN,and_true]at t; subst t;split at l
   · rename_i J;obtain⟨v,hv,N⟩:=AL.1 l;simp only[AJ]at N;obtain⟨rfl,rfl,rfl⟩:=N;have e:=O.rel (by simp) (by simp);simp only[Rel]at e;obtain⟨arr,e,U,C⟩:=e;obtain⟨u,hu,T⟩:=c2b (c:=c) (bx:=bx) (fr:=fr) I W U C J hv;unfold a1b at z;split at z
     · rename_i fs L;exact⟨⟨u,by simp[execOp,Y,e,Instr.field,run_underlying L,z,asAgg,hu],T⟩,rfl,rfl⟩
     · cases z
   · cases l
 · cases l
theorem c1f {t:TypeId} {x:Operand} {at_:Array TypeId} (z:o.op=.call { callee:=.builtin .len,args:=#[x],argTypes:=at_ }) (y:at_[0]?=some t) (hu:c.P.underlying t=some .string)
 (C:ArgsOK g w bx fr as [a.eval x]) (u:Y2 call as b st=some (r,b',st')):o9 c g w bx fr a o r∧b'=b∧st'=st:=by
 obtain⟨p,rfl,v⟩:=C.one;unfold Y2 at u;split at u
 · rename_i s l;simp only[AN,and_true]at l; subst l;simp only[AD,AJ]at u;obtain⟨rfl,rfl,rfl⟩:=u;have e:=v.rel (by simp) (by simp);simp only[Rel]at e;obtain⟨bs,e,rfl⟩:=e;refine⟨⟨.int .i64 bs.size,?_,ValOK.mk' (by simp only[Rel,AG]; rfl) (by simp) (by simp)⟩,rfl,rfl⟩;simp[execOp,z,resolve,invoke,builtin,Builtin.len_,y,run_underlying hu,e,goInt]
 · cases u
theorem c05 {t e:TypeId} {x:Operand} {at_:Array TypeId} (z:o.op=.call { callee:=.builtin .len,args:=#[x],argTypes:=at_ }) (y:at_[0]?=some t) (hu:c.P.underlying t=some (.slice e))
 (I:ArgsOK g w bx fr as [a.eval x]) (u:H6 call as b st=some (r,b',st')):o9 c g w bx fr a o r∧b'=b∧st'=st:=by
 obtain⟨p,rfl,v⟩:=I.one;unfold H6 at u;split at u
 · rename_i own xs l;simp only[AN,and_true]at l; subst l;simp only[AD,AJ]at u;obtain⟨rfl,rfl,rfl⟩:=u;have e:=v.rel (by simp) (by simp);simp only[Rel]at e;obtain⟨C,n,cap,e,rfl,_⟩:=e;refine⟨⟨.int .i64 xs.length,?_,ValOK.mk' (by simp[Rel]) (by simp) (by simp)⟩,rfl,rfl⟩;simp[execOp,z,resolve,invoke,builtin,Builtin.len_,y,run_underlying hu,e,goInt]
 · rename_i oo f n sz l;simp only[AN,and_true]at l; subst l;simp only[AD,AJ]at u;obtain⟨rfl,rfl,rfl⟩:=u;have e:=v.rel (by simp) (by simp);simp only[Rel]at e;obtain⟨_,cap,e,_⟩:=e;refine⟨⟨.int .i64 n,?_,ValOK.mk' (by simp[Rel]) (by simp) (by simp)⟩,rfl,rfl⟩;simp[execOp,z,resolve,invoke,builtin,Builtin.len_,y,run_underlying hu,e,goInt]
 · rename_i l;simp only[AN,and_true]at l; subst l;simp only[AD,AJ]at u;obtain⟨rfl,rfl,rfl⟩:=u;have e:=v.rel (by simp) (by simp);simp only[Rel]at e;refine⟨⟨.int .i64 0,?_,ValOK.mk' (by simp[Rel]) (by simp) (by simp)⟩,rfl,rfl⟩;simp[execOp,z,resolve,invoke,builtin,Builtin.len_,y,run_underlying hu,e,goInt]
 · cases u
theorem c0R {x y:Operand} {at_:Array TypeId} (C:o.op=.call { callee:=.builtin .min,args:=#[x,y],argTypes:=at_ })
 (I:ArgsOK g w bx fr as [a.eval x,a.eval y]) (e:a1c call as b st=some (r,b',st')):o9 c g w bx fr a o r∧b'=b∧st'=st:=by
 obtain⟨p,q,rfl,u,v⟩:=I.two;unfold a1c at e;split at e
 · rename_i k m J n l;simp only[AN,and_true]at l;obtain⟨rfl,rfl⟩:=l;split at e
   · rename_i z;subst z;simp only[AD,AJ]at e;obtain⟨rfl,rfl,rfl⟩:=e;have t:a.eval x=.int k m:=by simpa[Rel]using u.rel (by simp) (by simp)
     have e2:a.eval y=.int k n:=by simpa[Rel]using v.rel (by simp) (by simp)
     refine⟨⟨.int k (b6z m n),?_,ValOK.mk' (by simp[Rel]) (by simp) (by simp)⟩,rfl,rfl⟩;simp[execOp,C,resolve,invoke,builtin,Builtin.min_,Builtin.min2,t,e2,b6z]
   · cases e
 · cases e
theorem c5G {t e:TypeId} {x i:Operand} {sz:Nat} (W:o.op=.indexAddr t x i) (hu:c.P.underlying t=some (.slice e)) (U:B1 c e=some sz)
 (hr:ArgsOK g w bx fr as [a.eval x,a.eval i]) (l:L8 sz call as b st=some (r,b',st')):o9 c g w bx fr a o r∧b'=b∧st'=st:=by
 obtain⟨p,q,rfl,N,O⟩:=hr.two;unfold L8 at l;split at l
 · rename_i own xs k J u;simp only[AN,and_true]at u;obtain⟨rfl,rfl⟩:=u;have e2:a.eval i=.int k J:=by simpa[Rel]using O.rel (by simp) (by simp)
   have v:=N.rel (by simp) (by simp);simp only[Rel]at v;obtain⟨a0,n,cap,v,rfl,_,_,hx⟩:=v;split at l
   · rename_i z;split at l
     · rename_i row y;split at l
       · rename_i T;simp only[AD,AJ]at l;obtain⟨rfl,rfl,rfl⟩:=l;obtain⟨C,_⟩:=AB.1 y;obtain⟨bb,f,M,rfl,I⟩:=hx (by intro Z; subst Z; simp at C);obtain⟨a1,hc⟩:=I.get y;obtain rfl:M=sz:=by omega
         have L:J < (xs.length:Int):=by omega
         refine⟨⟨.pointer (some (ad bb (f+J.toNat*M))),?_,ValOK.mk' (by simp only[Rel]; exact⟨bb,_,rfl,hc⟩) (by simp) (by simp)⟩,rfl,rfl⟩;simp[execOp,W,v,e2,Instr.indexAt,asIntOf,run_underlying hu,I6 (w:=w) U,z,L,Addr.add_ad]
       · cases l
     · cases l
   · cases l
 · rename_i oo f n s k J u;simp only[AN,and_true]at u;obtain⟨rfl,rfl⟩:=u;have e2:a.eval i=.int k J:=by simpa[Rel]using O.rel (by simp) (by simp)
   have v:=N.rel (by simp) (by simp);simp only[Rel]at v;obtain⟨Y,cap,v,_⟩:=v;split at l
   · rename_i hb;obtain⟨z,C,rfl⟩:=hb;simp only[AD,AJ]at l;obtain⟨rfl,rfl,rfl⟩:=l;refine⟨⟨.pointer (some (ad (g.m oo) (f+J.toNat*s))),?_,ValOK.mk' (by simp only[Rel]; exact⟨Y,trivial⟩) (by simp) (by simp)⟩,rfl,rfl⟩;simp[execOp,W,v,e2,Instr.indexAt,asIntOf,run_underlying hu,I6 (w:=w) U,z,C,Addr.add_ad]
   · cases l
 · cases l
theorem c0T {t e:TypeId} {x i:Operand} {len sz:Nat} (M:o.op=.indexAddr t x i) (hu:c.P.underlying t=some (.array len e)) (L:B1 c e=some sz)
 (N:ArgsOK g w bx fr as [a.eval x,a.eval i]) (u:P5 len sz call as b st=some (r,b',st')):o9 c g w bx fr a o r∧b'=b∧st'=st:=by
 obtain⟨p,q,rfl,C,I⟩:=N.two;have run:∀ (bb f:Nat) (k:IntKind) (v:Int),a.eval x=.pointer (some (ad bb f))→a.eval i=.int k v→0≤v∧v < (len:Int) →
  (execOp a.eval o).run c.P w=.ok (.value (.pointer (some (ad bb (f+v.toNat*sz))))) w:=by
  intro bb f k v y e2 z;simp[execOp,M,y,e2,Instr.indexAt,asIntOf,run_underlying hu,Instr.sureAddr,I6 (w:=w) L,z.1,z.2,Addr.add_ad]
 unfold P5 at u;split at u
 · rename_i cs k v l;simp only[AN,and_true]at l;obtain⟨rfl,rfl⟩:=l;have e2:a.eval i=.int k v:=by simpa[Rel]using I.rel (by simp) (by simp)
   have y:=C.rel (by simp) (by simp);simp only[Rel]at y;obtain⟨bb,f,y,J⟩:=y;split at u
   · rename_i z;simp only[AD,AJ]at u;obtain⟨rfl,rfl,rfl⟩:=u;exact⟨⟨_,run bb f k v y e2 z,ValOK.mk' (by simp only[Rel]; exact⟨bb,_,rfl,J.drop _⟩) (by simp) (by simp)⟩,rfl,rfl⟩
   · cases u
 · rename_i oo f k v l;simp only[AN,and_true]at l;obtain⟨rfl,rfl⟩:=l;have e2:a.eval i=.int k v:=by simpa[Rel]using I.rel (by simp) (by simp)
   have y:=C.rel (by simp) (by simp);simp only[Rel]at y;split at u
   · rename_i z;simp only[AD,AJ]at u;obtain⟨rfl,rfl,rfl⟩:=u;exact⟨⟨_,run _ f k v y.2 e2 z,ValOK.mk' (by simp[Rel,y.1]) (by simp) (by simp)⟩,rfl,rfl⟩
   · cases u
 · rename_i oo f k v l;simp only[AN,and_true]at l;obtain⟨rfl,rfl⟩:=l;have e2:a.eval i=.int k v:=by simpa[Rel]using I.rel (by simp) (by simp)
   split at u
   · rename_i z;simp only[AD,AJ]at u;obtain⟨rfl,rfl,rfl⟩:=u;exact⟨⟨_,run _ f k v C.2 e2 z,⟨C.1,rfl⟩⟩,rfl,rfl⟩
   · cases u
 · cases u
theorem c2t {t:TypeId} {x i:Operand} (T:o.op=.index t x i) (hu:c.P.underlying t=some .string)
 (U:ArgsOK g w bx fr as [a.eval x,a.eval i]) (e:S3 call as b st=some (r,b',st')):o9 c g w bx fr a o r∧b'=b∧st'=st:=by
 obtain⟨p,q,rfl,N,O⟩:=U.two;unfold S3 at e;split at e
 · rename_i s k C l;simp only[AN,and_true]at l;obtain⟨rfl,rfl⟩:=l;have e2:a.eval i=.int k C:=by simpa[Rel]using O.rel (by simp) (by simp)
   have z:=N.rel (by simp) (by simp);simp only[Rel]at z;obtain⟨bs,z,rfl⟩:=z;split at e
   · rename_i I;split at e
     · rename_i n M;simp only[AD,AJ]at e;obtain⟨rfl,rfl,rfl⟩:=e;rw[AU]at M;obtain⟨y,J,rfl⟩:=AL.1 M;have L:bs[C.toNat]?=some y:=by
        obtain⟨u,J⟩:=AB.1 J;have v:C.toNat < bs.size:=by rw[Array.length_toList]at u; exact u
        rw[getElem?_pos bs C.toNat v];rw[← J]; rfl
       refine⟨⟨.int .u8 y.toNat,?_,ValOK.mk' (by simp[Rel]) (by simp) (by simp)⟩,rfl,rfl⟩;simp[execOp,T,z,e2,Instr.index,asIntOf,run_underlying hu,I,L]
     · cases e
   · cases e
 · cases e
theorem b9m {t u:TypeId} {x:Operand} {k:IntKind} {M:IntKind} (J:o.op=.convert t u x) (z:c.P.underlying t=some (.int M)) (hu:c.P.underlying u=some (.int k))
 (L:ArgsOK g w bx fr as [a.eval x]) (v:Y5 k call as b st=some (r,b',st')):o9 c g w bx fr a o r∧b'=b∧st'=st:=by
 obtain⟨p,rfl,C⟩:=L.one;unfold Y5 at v;split at v
 · rename_i y n l;simp only[AN,and_true]at l; subst l;simp only[AD,AJ]at v;obtain⟨rfl,rfl,rfl⟩:=v;have e:a.eval x=.int y n:=by simpa[Rel]using C.rel (by simp) (by simp)
   have I:(convert t u (.int y n)).run c.P w=.ok (.int k (k.wrap n)) w:=by unfold convert;rw[Sem.run_bind,run_underlying z,Result.andThen_ok,Sem.run_bind,run_underlying hu,Result.andThen_ok];rfl
   refine⟨⟨.int k (k.wrap n),?_,ValOK.mk' ?_ (by simp) (by simp)⟩,rfl,rfl⟩
   · simp only[execOp,J,e,Sem.run_bind,I,Result.andThen_ok,Sem.run_pure]
   · rw[Q8]; simp only[Rel]
 · cases v
end
end Go.Cb
namespace Go.Cb
theorem a4Q {a b:List UInt8} (h:a.map UInt8.toNat=b.map UInt8.toNat):a=b:=by
 induction a generalizing b with
 | nil=>cases b<;>simp_all
 | cons x a e =>
  cases b with
  | nil=>simp at h
  | cons y b =>simp only[AH,AN]at h;rw[UInt8.toNat_inj.1 h.1,e h.2]
theorem b4d (a b:List UInt8):eqN (a.map UInt8.toNat) (b.map UInt8.toNat)=(a == b):=by rw[a3u,Bool.eq_iff_iff];simp only[beq_iff_eq];exact⟨a4Q,fun h=>by rw[h]⟩
theorem b0b:∀ a b:List UInt8,m2 (a.map UInt8.toNat) (b.map UInt8.toNat)=Op.bytesLess a b
 | [],[]=>rfl
 | [],_::_=>rfl
 | _::_,[]=>rfl
 | x::a,y::b=>by
  simp only[AH,m2,Op.bytesLess,b0b a b,blt_eq];congr 1
  · rw[Bool.eq_iff_iff,AA,AA];simp[UInt8.toNat_inj]
section
variable {c:Cx} {g:Gh} {w:World} {pr:Nat→Option Pl} {bx:Nat→Nat} {a:Act} {o:Oper} {call:d8} {b b' r:AV} {st st':St} {fr as:List AV}
theorem c4L {t O:TypeId} {x y:Operand} {op:BinOp} {k C:IntKind} {m n:Int} (N:o.op=.binOp op t x y O) (L:a.eval x=.int k m) (e2:a.eval y=.int C n)
 (l:n4 op (.int k m) (.int C n)=some r):∃ v,(execOp a.eval o).run c.P w=.ok (.value v) w∧ValOK g w No r v:=by
 have key:∀ v,(binOp op t (.int k m) (.int C n)).run c.P w=.ok v w→(execOp a.eval o).run c.P w=.ok (.value v) w:=by
  intro v h;have M:(eqGuard op t x y (.int k m) (.int C n)).run c.P w=.ok () w:=by cases op<;>rfl
  simp only[execOp,N,L,e2,Sem.run_bind,M,h,Result.andThen_ok,Sem.run_pure]
 have int:∀ I z,r=.int I z→ValOK g w No r (.int I z):=fun I z e=>by rw[e]; exact ValOK.mk' (by simp[Rel]) (by simp) (by simp)
 have bool:∀ z,r=.bool z→ValOK g w No r (.bool z):=fun z e=>by rw[e]; exact ValOK.mk' (by simp[Rel]) (by simp) (by simp)
 unfold n4 at l;by_cases J:k=C
 · subst J;cases op<;>simp only[if_true]at l
   case shl=>split at l<;>simp at l; rename_i u; exact⟨_,key _ (by simp[binOp,Op.shift,u]),int _ _ l.symm⟩
   case shr=>split at l<;>simp at l; rename_i u; exact⟨_,key _ (by simp[binOp,Op.shift,u]),int _ _ l.symm⟩
   case add=>simp[Q8]at l; exact⟨_,key _ (by simp[binOp,Op.intArith]),int _ _ l.symm⟩
   case sub=>simp[Q8]at l; exact⟨_,key _ (by simp[binOp,Op.intArith]),int _ _ l.symm⟩
   case mul=>simp[Q8]at l; exact⟨_,key _ (by simp[binOp,Op.intArith]),int _ _ l.symm⟩
   case quo=>split at l<;>simp at l; rename_i u; exact⟨_,key _ (by simp[binOp,Op.intDiv,u]),int _ _ l.symm⟩
   case rem=>split at l<;>simp at l; rename_i u; exact⟨_,key _ (by simp[binOp,Op.intDiv,u]),int _ _ l.symm⟩
   case and=>simp at l; exact⟨_,key _ (by simp[binOp,Op.intBits]),int _ _ l.symm⟩
   case eql=>simp at l; exact⟨_,key _ (by simp[binOp,Op.intCmp]),bool _ l.symm⟩
   case neq=>simp at l; exact⟨_,key _ (by simp[binOp,Op.intCmp,bne]),bool _ l.symm⟩
   case lss=>simp at l; exact⟨_,key _ (by simp[binOp,Op.intCmp]),bool _ l.symm⟩
   case leq=>simp at l; exact⟨.bool (decide (m≤n)),key _ (by simp[binOp,Op.intCmp]),bool _ (by rw[← l]; congr 1; rw[Bool.eq_iff_iff]; simp)⟩
   case gtr=>simp at l; exact⟨_,key _ (by simp[binOp,Op.intCmp]),bool _ l.symm⟩
   case geq=>simp at l; exact⟨.bool (decide (m ≥ n)),key _ (by simp[binOp,Op.intCmp]),bool _ (by rw[← l]; congr 1; rw[Bool.eq_iff_iff]; simp)⟩
   all_goals simp at l
 · cases op<;>simp only[J,if_false]at l
   case shl=>split at l<;>simp at l; rename_i u; exact⟨_,key _ (by simp[binOp,Op.shift,u]),int _ _ l.symm⟩
   case shr=>split at l<;>simp at l; rename_i u; exact⟨_,key _ (by simp[binOp,Op.shift,u]),int _ _ l.symm⟩
   all_goals simp at l
theorem c41 {t W:TypeId} {x y:Operand} {op:BinOp} {s u:ByteArray} (U:o.op=.binOp op t x y W) (J:a.eval x=.string s) (e2:a.eval y=.string u)
 (l:n4 op (.str (s.data.toList.map UInt8.toNat)) (.str (u.data.toList.map UInt8.toNat))=some r):∃ v,(execOp a.eval o).run c.P w=.ok (.value v) w∧ValOK g w No r v:=by
 have key:∀ v,(binOp op t (.string s) (.string u)).run c.P w=.ok v w→(execOp a.eval o).run c.P w=.ok (.value v) w:=by
  intro v h;have T:(eqGuard op t x y (.string s) (.string u)).run c.P w=.ok () w:=by cases op<;>rfl
  simp only[execOp,U,J,e2,Sem.run_bind,T,h,Result.andThen_ok,Sem.run_pure]
 have bool:∀ z,r=.bool z→ValOK g w No r (.bool z):=fun z e=>by rw[e]; exact ValOK.mk' (by simp[Rel]) (by simp) (by simp)
 unfold n4 at l;cases op<;>simp only[b4d,b0b,AD]at l
 case add =>
  split at l<;>simp at l;rename_i I;refine⟨.string (s++u),key _ ?_,?_⟩
  · have C:¬ (((s.size+u.size:Nat):Int) > IntKind.i64.max):=by
     simp only[AG,Array.length_toList]at I;have L:s.data.size=s.size:=rfl;have M:u.data.size=u.size:=rfl;have N:IntKind.i64.max=9223372036854775807:=by decide
     rw[N];have O:(2:Nat) ^ 62=4611686018427387904:=by decide
     rw[O,L,M]at I;omega
    show(Op.stringOp .add s u).run c.P w=_;simp only[Op.stringOp,if_neg C,Sem.run_pure]
  · rw[← l];refine ValOK.mk' ?_ (by simp) (by simp);simp only[Rel];exact⟨s++u,rfl,by simp[ByteArray.data_append]⟩
 case eql=>exact⟨_,key _ (by simp[binOp,Op.stringOp,ByteArray.toList_eq]),bool _ l.symm⟩
 case neq=>exact⟨_,key _ (by simp[binOp,Op.stringOp,ByteArray.toList_eq]),bool _ l.symm⟩
 case lss=>exact⟨_,key _ (by simp[binOp,Op.stringOp,ByteArray.toList_eq]),bool _ l.symm⟩
 case leq=>exact⟨_,key _ (by simp[binOp,Op.stringOp,ByteArray.toList_eq]),bool _ l.symm⟩
 case gtr=>exact⟨_,key _ (by simp only[binOp,Op.stringOp,ByteArray.toList_eq,Sem.run_pure]),bool _ l.symm⟩
 case geq=>exact⟨_,key _ (by simp[binOp,Op.stringOp,ByteArray.toList_eq]),bool _ l.symm⟩
 all_goals simp at l
theorem a1i {P:Program} {w:World} {k:IntKind} {t:TypeId} {cs:Array Value} {off:Nat} {v:Value} (hu:P.underlying t=some (.int k)∨P.underlying t=some .string) (e:cs[off]?=some v):(part t cs off).run P w=.ok v w:=by rcases hu with hu|hu<;>simp[part,isAgg,run_underlying hu,e]
theorem b9R {t yt:TypeId} {x y:Operand} {neg:Bool} {f0 f1:Field} {k0:IntKind} (Y:o.op=.binOp (if neg then .neq else .eql) t x y yt) (W:c.P.eqGuardType c.P.depth t=false) (C:c.P.stoodInHeld t=false)
 (hu:c.P.underlying t=some (.struct #[f0,f1])) (n0:f0.name≠ "_") (n1:f1.name≠ "_") (o0:f0.offset=0) (o1:f1.offset=1) (O:c.P.underlying f0.type=some (.int k0)) (T:c.P.underlying f1.type=some .string)
 (hr:ArgsOK g w bx fr as [a.eval x,a.eval y]) (e:a0X neg call as b st=some (r,b',st')):o9 c g w bx fr a o r∧b'=b∧st'=st:=by
 obtain⟨p,q,rfl,h1,h2⟩:=hr.two;unfold a0X at e;split at e
 case h_2=>cases e
 rename_i k m s k' n s' u;simp only[AN,and_true]at u;obtain⟨rfl,rfl⟩:=u;split at e
 case isFalse=>cases e
 rename_i hk;subst hk;simp only[AD,AJ]at e;obtain⟨rfl,rfl,rfl⟩:=e;have l:=h1.rel (by simp) (by simp);have e2:=h2.rel (by simp) (by simp);simp only[Rel,RelL]at l e2;obtain⟨xs,l,⟨_,_,hx,rfl,_,_,rfl,⟨bs,rfl,v⟩,rfl⟩,_⟩:=l;obtain⟨ys,e2,⟨_,_,hy,rfl,_,_,rfl,⟨cs,rfl,z⟩,rfl⟩,_⟩:=e2;have J:xs[0]?=some (.int k m):=by rw[← Array.getElem?_toList,hx]; rfl
 have L:xs[1]?=some (.string bs):=by rw[← Array.getElem?_toList,hx]; rfl
 have M:ys[0]?=some (.int k n):=by rw[← Array.getElem?_toList,hy]; rfl
 have N:ys[1]?=some (.string cs):=by rw[← Array.getElem?_toList,hy]; rfl
 have U:c.P.fieldsOf t=#[f0,f1]:=by unfold Program.fieldsOf; rw[hu]
 have I:(bs.toList == cs.toList)=eqN s s':=by rw[a3u,← v,← z,ByteArray.toList_eq,ByteArray.toList_eq,Bool.eq_iff_iff];simp only[beq_iff_eq];exact⟨fun h=>by rw[h],fun h=>a4Q h⟩
 have Z:(Op.equalIn 10000 t (.agg xs) (.agg ys)).run c.P w=.ok (eqI m n && eqN s s') w:=by
  rw[show(10000:Nat)=9999+1 from rfl,run_equalIn_struct w 9999 t xs ys (by rw[hu,U]) C,U];simp only[Op.eqFields,n0,n1,o0,o1,ne_eq,not_false_eq_true,if_true,Sem.run_bind,a1i (.inl O) J,a1i (.inl O) M,Result.andThen_ok];rw[show(9999:Nat)=9998+1 from rfl,run_equalIn_int w 9998 f0.type k k0 m n O];have p1:=a1i (w:=w) (k:=.i64) (.inr T) L;have p2:=a1i (w:=w) (k:=.i64) (.inr T) N;simp only[Result.andThen_ok,← eqI_eq];cases eqI m n with
  | false=>simp
  | true =>simp only[Bool.not_true,Bool.false_eq_true,if_false,Sem.run_bind,p1,p2,Result.andThen_ok,run_equalIn_string w 9998 f1.type bs cs T,I];cases eqN s s'<;>simp
 refine⟨⟨.bool (a8l neg m n s s'),?_,ValOK.mk' (by simp[Rel]) (by simp) (by simp)⟩,rfl,rfl⟩;cases neg with
 | false=>simp[execOp,Y,l,e2,run_eqGuard_agg w .eql t x y xs ys W,run_eql_struct w t xs ys,Z,a8l]
 | true=>simp[execOp,Y,l,e2,run_eqGuard_agg w .neq t x y xs ys W,run_neq_struct w t xs ys,Z,a8l]
theorem c4m {t W:TypeId} {x y:Operand} {op:BinOp} (M:o.op=.binOp op t x y W) (T:ArgsOK g w bx fr as [a.eval x,a.eval y])
 (N:E3 op call as b st=some (r,b',st')):o9 c g w bx fr a o r∧b'=b∧st'=st:=by
 obtain⟨p,q,rfl,I,J⟩:=T.two;simp only[E3]at N;obtain⟨v,l,L⟩:=AL.1 N;simp only[AJ]at L;obtain⟨rfl,rfl,rfl⟩:=L;have O:∀ i f,v≠.loc i f:=by
  intro i f e;subst e;unfold n4 at l;split at l
  · cases op<;>simp at l<;>(first|(split at l<;>simp at l)|skip)<;>(first|(split at l<;>simp at l)|skip)
  · cases op<;>simp at l
  · cases l
 unfold n4 at l;split at l
 · rename_i k m U n;have z:a.eval x=.int k m:=by simpa[Rel]using I.rel (by simp) (by simp)
   have e2:a.eval y=.int U n:=by simpa[Rel]using J.rel (by simp) (by simp)
   obtain⟨u,hu,C⟩:=c4L (c:=c) (g:=g) (w:=w) M z e2 (r:=v) (by unfold n4; exact l);exact⟨⟨u,hu,ArgOK.of_val C O⟩,rfl,rfl⟩
 · have z:=I.rel (by simp) (by simp);have e2:=J.rel (by simp) (by simp);simp only[Rel]at z e2;obtain⟨s,z,rfl⟩:=z;obtain⟨u,e2,rfl⟩:=e2;obtain⟨u,hu,C⟩:=c41 (c:=c) (g:=g) (w:=w) M z e2 (r:=v) (by unfold n4; exact l);exact⟨⟨u,hu,ArgOK.of_val C O⟩,rfl,rfl⟩
 · cases l
theorem a0Y (t:TypeId) (x y:Value):Op.equal t x y=Op.equalIn (9999+1) t x y:=rfl
theorem c2j {t O:TypeId} {x y:Operand} {op:BinOp} (I:o.op=.binOp op t x y O) (hu:c.P.underlying t=some .bool) (N:ArgsOK g w bx fr as [a.eval x,a.eval y])
 (J:Y4 op call as b st=some (r,b',st')):o9 c g w bx fr a o r∧b'=b∧st'=st:=by
 obtain⟨p,q,rfl,L,M⟩:=N.two;simp only[Y4]at J;obtain⟨v,e,C⟩:=AL.1 J;simp only[AJ]at C;obtain⟨rfl,rfl,rfl⟩:=C;unfold a7z at e;split at e
 · rename_i m n;have z:a.eval x=.bool m:=by simpa[Rel]using L.rel (by simp) (by simp)
   have e2:a.eval y=.bool n:=by simpa[Rel]using M.rel (by simp) (by simp)
   have l:(Op.equal t (.bool m) (.bool n)).run c.P w=.ok (m == n) w:=by rw[a0Y,Op.equalIn,Sem.run_bind,run_underlying hu,Result.andThen_ok];rfl
   cases op<;>simp at e
   · subst e;have u:(eqGuard .eql t x y (.bool m) (.bool n)).run c.P w=.ok () w:=rfl;exact⟨⟨.bool (m == n),by simp only[execOp,I,z,e2,u,binOp,Sem.run_bind,l,Result.andThen_ok,Sem.run_pure],ValOK.mk' (by simp[Rel]) (by simp) (by simp)⟩,rfl,rfl⟩
   · subst e;have u:(eqGuard .neq t x y (.bool m) (.bool n)).run c.P w=.ok () w:=rfl;exact⟨⟨.bool !(m == n),by simp only[execOp,I,z,e2,u,binOp,Sem.run_bind,l,Result.andThen_ok,Sem.run_pure],ValOK.mk' (by simp[Rel]) (by simp) (by simp)⟩,rfl,rfl⟩
 · cases e
theorem c1g {t Z e:TypeId} {x y:Operand} {op:BinOp} (U:o.op=.binOp op t x y Z) (hu:c.P.underlying t=some (.pointer e)) (Y:ArgsOK g w bx fr as [a.eval x,a.eval y])
 (W:Y3 op call as b st=some (r,b',st')):o9 c g w bx fr a o r∧b'=b∧st'=st:=by
 obtain⟨p,q,rfl,M,N⟩:=Y.two;simp only[Y3]at W;obtain⟨v,l,T⟩:=AL.1 W;simp only[AJ]at T;obtain⟨rfl,rfl,rfl⟩:=T;have key:∀ (p1 p2:Option Addr) (z:Bool),a.eval x=.pointer p1→a.eval y=.pointer p2→(Op.equal t (.pointer p1) (.pointer p2)).run c.P w=.ok z w →
  (op=.eql→(execOp a.eval o).run c.P w=.ok (.value (.bool z)) w)∧(op=.neq→(execOp a.eval o).run c.P w=.ok (.value (.bool !z)) w):=by
  intro p1 p2 z u e2 C;constructor
  · intro L; subst L;have O:∀ o,(eqGuard o t x y (.pointer p1) (.pointer p2)).run c.P w=.ok () w:=fun o=>by cases o<;>rfl
    simp only[execOp,U,u,e2,O,binOp,Sem.run_bind,C,Result.andThen_ok,Sem.run_pure]
  · intro L; subst L;have O:∀ o,(eqGuard o t x y (.pointer p1) (.pointer p2)).run c.P w=.ok () w:=fun o=>by cases o<;>rfl
    simp only[execOp,U,u,e2,O,binOp,Sem.run_bind,C,Result.andThen_ok,Sem.run_pure]
 have bool:∀ z,ValOK g w No (.bool z) (.bool z):=fun z=>ValOK.mk' (by simp[Rel]) (by simp) (by simp)
 unfold a1M at l;split at l
 · have u:=M.rel (by simp) (by simp);have e2:=N.rel (by simp) (by simp);simp only[Rel]at u e2;obtain⟨I,J⟩:=key _ _ false u.2 e2 (by rw[a0Y,Op.equalIn,Sem.run_bind,run_underlying hu,Result.andThen_ok]; rfl);cases op<;>simp at l
   · subst l; exact⟨⟨_,I rfl,bool _⟩,rfl,rfl⟩
   · subst l; exact⟨⟨_,J rfl,bool _⟩,rfl,rfl⟩
 · have u:=M.rel (by simp) (by simp);have e2:=N.rel (by simp) (by simp);simp only[Rel]at u e2;obtain⟨I,J⟩:=key _ _ false u e2.2 (by rw[a0Y,Op.equalIn,Sem.run_bind,run_underlying hu,Result.andThen_ok]; rfl);cases op<;>simp at l
   · subst l; exact⟨⟨_,I rfl,bool _⟩,rfl,rfl⟩
   · subst l; exact⟨⟨_,J rfl,bool _⟩,rfl,rfl⟩
 · have u:=M.rel (by simp) (by simp);have e2:=N.rel (by simp) (by simp);simp only[Rel]at u e2;obtain⟨I,J⟩:=key _ _ true u e2 (by rw[a0Y,Op.equalIn,Sem.run_bind,run_underlying hu,Result.andThen_ok]; rfl);cases op<;>simp at l
   · subst l; exact⟨⟨_,I rfl,bool _⟩,rfl,rfl⟩
   · subst l; exact⟨⟨_,J rfl,bool _⟩,rfl,rfl⟩
 · cases l
end
end Go.Cb
namespace Go.Cb
section
variable {c:Cx} {g:Gh} {w:World} {pr:Nat→Option Pl} {bx:Nat→Nat} {a:Act} {o:Oper} {call:d8} {b b' r:AV} {st st':St} {fr as:List AV}
theorem b2b {P:Program} {x:AV} {v:Value} {l n:Nat} {code:BoundsCode} (h:U0 x l=some n) (u:ArgOK g w bx fr No x v):(Instr.sliceBound v l code).run P w=.ok n w∧n≤l:=by
 unfold U0 at h;split at h
 · rename_i k i;split at h
   · rename_i t;simp only[AD]at h;subst h;have e:v=.int k i:=by simpa[Rel]using u.rel (by simp) (by simp)
     subst e;exact⟨by simp[Instr.sliceBound,asIntOf,t.1,t.2],by omega⟩
   · cases h
 · cases h
theorem a3a {P:Program} {isS:Bool} {len cap:Nat} {low high:Option Value} {rs:List AV} {l h:Nat} (u:J3 low.isSome high.isSome rs len=some (l,h))
 (J:ArgsOK g w bx fr rs (low.toList++high.toList)) (T:len≤cap):(∃ N,(Instr.sliceBounds isS len cap low high none).run P w=.ok (l,N,cap) w∧N=h)∧l≤h∧h≤len:=by
 have O:∀ {x:AV} {v:Value} {n:Nat} {code:BoundsCode},U0 x len=some n→ArgOK g w bx fr No x v→(Instr.sliceBound v cap code).run P w=.ok n w∧n≤len:=by
  intro x v n code t L;unfold U0 at t;split at t
  · rename_i k i;split at t
    · rename_i M;simp only[AD]at t;subst t;have e:v=.int k i:=by simpa[Rel]using L.rel (by simp) (by simp)
      subst e;exact⟨by simp[Instr.sliceBound,asIntOf,M.1,show i≤(cap:Int)by omega],by omega⟩
    · cases t
  · cases t
 cases low with
 | none =>
  cases high with
  | none =>cases J;simp only[J3,Option.isSome_none,AD,AJ]at u;obtain⟨rfl,rfl⟩:=u;exact⟨⟨_,by simp[Instr.sliceBounds],rfl⟩,Aa _,AK _⟩
  | some W =>obtain⟨p,rfl,t⟩:=ArgsOK.one (by simpa using J);simp only[J3,Option.isSome_none,Option.isSome_some]at u;obtain⟨n,z,y⟩:=AL.1 u;simp only[AJ]at y;obtain⟨rfl,rfl⟩:=y;obtain⟨C,I⟩:=O (code:=if isS then .sliceAcap else .sliceAlen) z t;exact⟨⟨_,by simp[Instr.sliceBounds,C],rfl⟩,Aa _,I⟩
 | some lv =>
  cases high with
  | none =>obtain⟨p,rfl,t⟩:=ArgsOK.one (by simpa using J);simp only[J3,Option.isSome_none,Option.isSome_some]at u;obtain⟨n,z,y⟩:=AL.1 u;simp only[AJ]at y;obtain⟨rfl,rfl⟩:=y;obtain⟨C,I⟩:=b2b (P:=P) (code:=.sliceB) z t;exact⟨⟨_,by simp[Instr.sliceBounds,C],rfl⟩,I,AK _⟩
  | some W =>
   obtain⟨p,q,rfl,t,L⟩:=ArgsOK.two (by simpa using J);simp only[J3,Option.isSome_some]at u;split at u
   · rename_i m U;obtain⟨n,z,y⟩:=AL.1 u;simp only[AJ]at y;obtain⟨rfl,rfl⟩:=y;obtain⟨C,I⟩:=O (code:=if isS then .sliceAcap else .sliceAlen) U L;obtain⟨Y,v2⟩:=b2b (P:=P) (code:=.sliceB) z t;exact⟨⟨_,by simp[Instr.sliceBounds,C,Y],rfl⟩,v2,I⟩
   · cases u
theorem ArgsOK.cons_inv {v:Value} {vs:List Value} (h:ArgsOK g w bx fr as (v::vs)):∃ p ps,as=p::ps∧ArgOK g w bx fr No p v∧ArgsOK g w bx fr ps vs:=by cases h with|cons e h=>exact⟨_,_,rfl,e,h⟩
theorem c6a {t:TypeId} {x:Operand} {C hi:Option Operand} (O:o.op=.slice t x C hi none) (hu:c.P.underlying t=some .string)
 (T:ArgsOK g w bx fr as (a.eval x::((C.map a.eval).toList++(hi.map a.eval).toList))) (z:Z3 C.isSome hi.isSome call as b st=some (r,b',st')):o9 c g w bx fr a o r∧b'=b∧st'=st:=by
 obtain⟨p,ps,rfl,M,N⟩:=T.cons_inv;unfold Z3 at z;split at z
 · rename_i s rs e;simp only[AN]at e;obtain⟨rfl,rfl⟩:=e;obtain⟨⟨l,h⟩,I,J⟩:=AL.1 z;simp only[AJ]at J;obtain⟨rfl,rfl,rfl⟩:=J;have y:=M.rel (by simp) (by simp);simp only[Rel]at y;obtain⟨bs,y,rfl⟩:=y;have u:(bs.data.toList.map UInt8.toNat).length=bs.size:=by rw[AG]; rfl
   rw[u]at I;obtain⟨⟨L,v,rfl⟩,W,U⟩:=a3a (P:=c.P) (isS:=false) (low:=C.map a.eval) (high:=hi.map a.eval) (cap:=bs.size) (by simpa using I) N (AK _);refine⟨⟨.string (bs.extract l L),?_,ValOK.mk' ?_ (by simp) (by simp)⟩,rfl,rfl⟩
   · simp[execOp,O,y,Instr.sliceAt,Instr.slice,run_underlying hu,v]
   · simp only[Rel];refine⟨_,rfl,?_⟩;rw[ByteArray.data_extract,Array.toList_extract,List.extract_eq_take_drop,← List.map_take,← List.map_drop,List.drop_take]
 · cases z
theorem c6A {t e:TypeId} {x:Operand} {Y hi:Option Operand} {sz:Nat} (ho:o.op=.slice t x Y hi none) (hu:c.P.underlying t=some (.slice e)) (hn:B1 c e=some sz)
 (hr:ArgsOK g w bx fr as (a.eval x::((Y.map a.eval).toList++(hi.map a.eval).toList))) (I:Y9 sz Y.isSome hi.isSome call as b st=some (r,b',st')):o9 c g w bx fr a o r∧b'=b∧st'=st:=by
 obtain⟨p,ps,rfl,h1,h2⟩:=hr.cons_inv;unfold Y9 at I;split at I
 · rename_i own xs rs y;simp only[AN]at y;obtain⟨rfl,rfl⟩:=y;split at I
   · rename_i L;obtain⟨⟨l,h⟩,Z,O⟩:=AL.1 I;simp only[AJ]at O;obtain⟨rfl,rfl,rfl⟩:=O;have C:=h1.rel (by simp) (by simp);simp only[Rel]at C;obtain⟨a0,n,cap,C,rfl,v,T,hx⟩:=C;obtain⟨⟨N,z,rfl⟩,hl,hh⟩:=a3a (P:=c.P) (isS:=true) (low:=Y.map a.eval) (high:=hi.map a.eval) (cap:=cap) (by simpa using Z) h2 v;refine⟨⟨.slice (if cap=l then a0 else a0.map (·.add (l*sz))) (N - l) (cap - l),?_,ValOK.mk' ?_ (by simp) (by simp)⟩,rfl,rfl⟩
     · simp[execOp,ho,C,Instr.sliceAt,Instr.slice,run_underlying hu,z,I6 (w:=w) hn]
     · simp only[Rel];refine⟨_,_,_,rfl,by simp; omega,by omega,fun J=>?_,fun a4=>?_⟩
       · have:a0=none:=by split at J<;>simp_all
         have:=T this;omega
       · have a7:l < N:=by
          rcases Nat.lt_or_ge l N with h0|h0
          · exact h0
          · exact absurd (by rw[List.drop_eq_nil_iff]; simp; omega) a4
         have W:xs≠[]:=by intro h0; subst h0; simp at hh; omega
         obtain⟨bb,f,M,rfl,U⟩:=hx W;obtain rfl:M=sz:=by
          cases xs with
          | nil=>exact absurd rfl W
          | cons row rest =>simp only[l5,beq_iff_eq]at L;simp only[RelRows]at U;omega
         rw[if_neg (by omega)];exact⟨bb,f+l*M,M,by simp[Addr.add_ad],(U.take N).drop l⟩
   · cases I
 · rename_i oo f n s rs y;simp only[AN]at y;obtain⟨rfl,rfl⟩:=y;split at I
   · rename_i a6;subst a6;obtain⟨⟨l,h⟩,u,O⟩:=AL.1 I;simp only[AJ]at O;obtain⟨rfl,rfl,rfl⟩:=O;unfold slB at u;split at u
     case h_2=>cases u
     rename_i p Z;split at u
     case isFalse=>cases u
     rename_i hlc;obtain rfl:=Option.some.inj u;have C:=h1.rel (by simp) (by simp);simp only[Rel]at C;obtain⟨a5,cap,C,v,a1⟩:=C;obtain⟨⟨N,z,a2⟩,hl,hh⟩:=a3a (P:=c.P) (isS:=true) (low:=Y.map a.eval) (high:=hi.map a.eval) (cap:=cap) (by simpa using Z) h2 v;subst a2;dsimp only at hlc;refine⟨⟨.slice (if cap=l then some (ad (g.m oo) f)else(some (ad (g.m oo) f)).map (·.add (l*s))) (N - l) (cap - l),?_,ValOK.mk' ?_ (by simp) (by simp)⟩,rfl,rfl⟩
     · simp[execOp,ho,C,Instr.sliceAt,Instr.slice,run_underlying hu,z,I6 (w:=w) hn]
     · simp only[Rel];refine⟨a5,cap - l,?_,by omega,?_⟩
       · rcases hlc with rfl|hlc
         · simp[Addr.add_ad]
         · rw[if_neg (by omega)];simp[Addr.add_ad]
       · rw[← a1,Nat.add_assoc,← Nat.add_mul];congr 2;omega
   · cases I
 · cases I
theorem c6t {t e:TypeId} {x:Operand} {k z:IntKind} (N:o.op=.slice t x none (some (.const (.int k 0))) (some (.const (.int z 0)))) (hu:c.P.underlying t=some (.slice e)) (M:(B1 c e).isSome=true)
 (O:ArgsOK g w bx fr as [a.eval x]) (u:a0G call as b st=some (r,b',st')):o9 c g w bx fr a o r∧b'=b∧st'=st:=by
 obtain⟨p,rfl,L⟩:=O.one;unfold a0G at u;split at u
 · rename_i own xs l;simp only[AN,and_true]at l; subst l;simp only[AD,AJ]at u;obtain⟨rfl,rfl,rfl⟩:=u;have v:=L.rel (by simp) (by simp);simp only[Rel]at v;obtain⟨a0,n,cap,v,rfl,C,I,T⟩:=v;obtain⟨sz,y⟩:=Option.isSome_iff_exists.1 M;refine⟨⟨.slice a0 0 0,?_,⟨by simp only[Rel]; exact⟨a0,0,0,rfl,rfl,AK _,fun _=>rfl,fun h=>absurd rfl h⟩,fun xs _=>.inl ⟨a0,0,rfl⟩,fun cs e=>(by cases e)⟩⟩,rfl,rfl⟩;have c1:a.eval (.const (.int k 0))=.int k 0:=rfl;have J:a.eval (.const (.int z 0))=.int z 0:=rfl;simp[execOp,N,v,c1,J,Instr.sliceAt,Instr.slice,run_underlying hu,Instr.sliceBounds,Instr.sliceBound,asIntOf,I6 (w:=w) y]
 · cases u
theorem a6G:∀ {len sz:Nat} {cs:List AV} {bb f:Nat},cs.length=len*sz→RelCells g w bb f cs→RelRows g w bb f sz (a1n sz len cs)
 | 0,_,_,_,_,_,_=>by simp[a1n,RelRows]
 | len+1,sz,cs,bb,f,e,h=>by rw[Nat.succ_mul]at e;simp only[a1n,RelRows];exact⟨by rw[AP]; omega,h.take sz,a6G (by rw[List.length_drop]; omega) (h.drop sz)⟩
theorem a1I:∀ (sz len:Nat) (cs:List AV),(a1n sz len cs).length=len
 | _,0,_=>rfl
 | sz,len+1,cs=>by simp[a1n,a1I sz len]
theorem c42 {t e:TypeId} {x:Operand} {L hi:Option Operand} {len sz:Nat} (ho:o.op=.slice t x L hi none) (hu:c.P.underlying t=some (.array len e)) (Z:B1 c e=some sz)
 (hr:ArgsOK g w bx fr as (a.eval x::((L.map a.eval).toList++(hi.map a.eval).toList))) (v:a0F len sz L.isSome hi.isSome call as b st=some (r,b',st')):o9 c g w bx fr a o r∧b'=b∧st'=st:=by
 obtain⟨p,ps,rfl,O,T⟩:=hr.cons_inv;unfold a0F at v;split at v
 · rename_i cs rs y;simp only[AN]at y;obtain⟨rfl,rfl⟩:=y;split at v
   · rename_i z;obtain⟨⟨l,h⟩,U,N⟩:=AL.1 v;simp only[AJ]at N;obtain⟨rfl,rfl,rfl⟩:=N;have I:=O.rel (by simp) (by simp);simp only[Rel]at I;obtain⟨bb,f,I,W⟩:=I;obtain⟨⟨J,C,rfl⟩,hl,hh⟩:=a3a (P:=c.P) (isS:=false) (low:=L.map a.eval) (high:=hi.map a.eval) (cap:=len) (by simpa using U) T (AK _);refine⟨⟨.slice (some (if len=l then ad bb f else(ad bb f).add (l*sz))) (J - l) (len - l),?_,ValOK.mk' ?_ (by simp) (by simp)⟩,rfl,rfl⟩
     · simp[execOp,ho,I,Instr.sliceAt,run_underlying hu,Instr.sureAddr,C,I6 (w:=w) Z]
     · simp only[Rel];refine⟨_,_,_,rfl,by rw[List.length_drop,AP,a1I]; omega,by omega,fun u=>by simp at u,fun M=>?_⟩;have Y:l < J:=by
        rcases Nat.lt_or_ge l J with h0|h0
        · exact h0
        · exact absurd (by rw[List.drop_eq_nil_iff,AP,a1I]; omega) M
       rw[if_neg (by omega),Addr.add_ad];exact⟨bb,f+l*sz,sz,rfl,((a6G z W).take J).drop l⟩
   · cases v
 · cases v
theorem a0W:∀ {as:List AV} {vs:List Value},ArgsOK g w bx fr as vs→D1 as=true→RelL g w (as.map AV.weak) vs
 | [],_,h,_=>by cases h; simp[RelL]
 | x::as,_,h,hp=>by
  cases h with
  | cons e l =>simp only[D1,AA]at hp;simp only[AH,RelL];exact⟨_,_,rfl,(e.plain hp.1).rel.weak,a0W l hp.2⟩
theorem c4R {f n:Nat} {first e:Array Operand} (v:o.op=.makeFunc (.func f) first e) (u:first.size=n) (y:ArgsOK g w bx fr as ((first++e).toList.map a.eval))
 (l:a0L f n call as b st=some (r,b',st')):o9 c g w bx fr a o r∧b'=b∧st'=st:=by
 unfold a0L at l;split at l
 · rename_i x;simp only[AD,AJ]at l;obtain⟨rfl,rfl,rfl⟩:=l;have t:=a0W y x;refine⟨⟨.func (.func f) (first.map a.eval) (e.map a.eval),by simp[execOp,v,Instr.makeFunc],ValOK.mk' ?_ (by simp) (by simp)⟩,rfl,rfl⟩;simp only[Rel];refine⟨_,_,rfl,?_,?_⟩
   · have:=t.take n;rw[show((first++e).toList.map a.eval).take n=(first.map a.eval).toList by simp[← u]]at this;exact this
   · have:=t.drop n;rw[show((first++e).toList.map a.eval).drop n=(e.map a.eval).toList by simp[← u]]at this;exact this
 · cases l
end
end Go.Cb
namespace Go.Cb
theorem b1C (off:Nat):∀ (l:List Value) (k:Nat) (arr:Array Value),off+k+l.length≤arr.size →
 ((l.zipIdx k).foldl (fun cs (x:Value×Nat)=>cs.setIfInBounds (off+x.2) x.1) arr).toList=arr.toList.take (off+k)++l++arr.toList.drop (off+k+l.length)
 | [],k,arr,_=>by simp
 | v::l,k,arr,h=>by simp only[AY]at h;rw[List.zipIdx_cons,List.foldl_cons,b1C off l (k+1) (arr.setIfInBounds (off+k) v) (by simp; omega)];have:=list_seg_step arr.toList (off+k) v l (by simpa using by omega);rw[Array.toList_setIfInBounds,show off+(k+1)=off+k+1 by omega];simpa[AY,Nat.add_assoc]using this
theorem a7s (v:Value) (off:Nat) (arr:Array Value) (h:off+v.cells.size≤arr.size) :
 (v.cells.zipIdx.foldl (fun cs x=>match x with|(c,j)=>cs.setIfInBounds (off+j) c) arr).toList=arr.toList.take off++v.cells.toList++arr.toList.drop (off+v.cells.size):=by
 have:=b1C off v.cells.toList 0 arr (by simpa using h);rw[← Array.foldl_toList,Array.toList_zipIdx];simpa using this
section
variable {c:Cx} {g:Gh} {w:World} {pr:Nat→Option Pl} {bx:Nat→Nat} {a:Act} {o:Oper} {call:d8} {b b' r:AV} {st st':St} {fr as:List AV}
structure RowOK (g:Gh) (w:World) (cs:List AV) (vs:List Value):Prop where
 rel:RelL g w cs vs
 one:∀ v∈vs,v.oneCell'=true
 own:∀ (k:Nat) (x:AV) (v:Value),cs[k]?=some x→vs[k]?=some v→OwnN x v
theorem RowOK.append {cs ds:List AV} {vs us:List Value} (h:RowOK g w cs vs) (l:RowOK g w ds us):RowOK g w (cs++ds) (vs++us):=by
 refine⟨h.rel.append l.rel,fun v hv=>?_,fun k x v e hv=>?_⟩
 · rcases AQ.1 hv with hv|hv
   · exact h.one v hv
   · exact l.one v hv
 · have u:=h.rel.length;by_cases t:k < cs.length
   · rw[List.getElem?_append_left t]at e;rw[List.getElem?_append_left (by omega)]at hv;exact h.own k x v e hv
   · rw[List.getElem?_append_right (by omega)]at e;rw[List.getElem?_append_right (by omega),← u]at hv;exact l.own _ x v e hv
theorem RowOK.take {cs:List AV} {vs:List Value} (h:RowOK g w cs vs) (n:Nat):RowOK g w (cs.take n) (vs.take n):=by
 refine⟨h.rel.take n,fun v e=>h.one v (List.mem_of_mem_take e),fun k x v l e=>?_⟩;rw[List.getElem?_take]at l e;split at l
 · rename_i t;rw[if_pos t]at e;exact h.own k x v l e
 · cases l
theorem RowOK.drop {cs:List AV} {vs:List Value} (h:RowOK g w cs vs) (n:Nat):RowOK g w (cs.drop n) (vs.drop n):=by refine⟨h.rel.drop n,fun v e=>h.one v (List.mem_of_mem_drop e),fun k x v l e=>?_⟩;rw[List.getElem?_drop]at l e;exact h.own _ x v l e
theorem RowOK.weak {cs:List AV} {vs:List Value} (h:RowOK g w cs vs):RowOK g w (cs.map AV.weak1) vs:=by
 refine⟨h.rel.weak1,h.one,fun k x v l u xs e=>?_⟩;rw[AU]at l;cases t:cs[k]? with
 | none=>simp[t]at l
 | some d=>simp[t]at l; subst l; cases d<;>simp[AV.weak1]at e
theorem b2I {x:AV} {v:Value} (h:ArgOK g w bx fr No x v) (I:x.plain=true):RowOK g w x.cells v.cells.toList:=by
 have C:=h.plain I;cases x with
 | agg cs =>have l:=C.rel;simp only[Rel]at l;obtain⟨arr,rfl,J,L⟩:=l;exact⟨J,L,fun k y u t hu=>C.agg cs rfl arr rfl k y u t (by simpa[Value.cells]using hu)⟩
 | undef=>simp[AV.plain]at I
 | loc=>simp[AV.plain]at I
 | box=>simp[AV.plain]at I
 | tuple=>simp[AV.plain]at I
 | fresh=>simp[AV.plain]at I
 | list own xs =>
  have l:=C.rel;simp only[Rel]at l;obtain⟨a0,n,cap,rfl,_⟩:=l;refine⟨by simp only[AV.cells,Value.cells,RelL]; exact⟨_,[],rfl,C.rel,rfl⟩,by simp[Value.cells,Value.oneCell'],fun k y u t hu ys e=>?_⟩;obtain rfl:k=0:=by cases k with|zero=>rfl|succ k=>simp[AV.cells]at t
  simp[AV.cells]at t;simp[Value.cells]at hu;subst hu;rw[← t]at e;rcases C.own ys e with⟨a1,N,J⟩|⟨_,_,_,_,_,_,_,J,_⟩
  · exact⟨a1,N,J⟩
  · exact J.elim
 | _ =>
  have z:v.oneCell'=true:=by
   have l:=C.rel;simp only[Rel]at l;first
    | (subst l; rfl)
    | (obtain⟨_,rfl⟩:=l; rfl)
    | (obtain⟨_,rfl,_⟩:=l; rfl)
    | (obtain⟨_,_,rfl,_⟩:=l; rfl)
  have M:v.cells=#[v]:=by cases v<;>first|rfl|cases z
  rw[M];refine⟨by simp only[AV.cells,RelL]; exact⟨v,[],rfl,C.rel,rfl⟩,by simpa using z,fun k y u t _ ys e=>?_⟩;obtain rfl:k=0:=by cases k with|zero=>rfl|succ k=>simp[AV.cells]at t
  simp[AV.cells]at t;rw[← t]at e;cases e
theorem b0W:∀ {t:List (Nat×Nat)} {ps:List AV} {cs u:List AV} {arr:Array Value} {vs:List Value} {is:List Nat} {place:Nat→Option (Nat×Nat)},
 L7 t ps cs=some u→ArgsOK g w bx fr ps vs→RowOK g w cs arr.toList→is.map place=t.map some→is.length=vs.length →
 ∃ e,Instr.fill place arr (is.zip vs)=some e∧RowOK g w u e.toList
 | [],[],cs,u,arr,vs,is,place,h,ha,hr,hp,hl=>by simp only[L7,AD]at h;subst h;cases ha;exact⟨arr,by cases is<;>simp[Instr.fill],hr⟩
 | (off,n)::t,p::ps,cs,u,arr,vs,is,place,h,ha,hr,hp,hl=>by
  simp only[L7]at h;split at h
  · rename_i M;obtain⟨x,z,T⟩:=M;cases ha with
    | cons J L =>
     rename_i v vs;cases is with
     | nil=>simp at hp
     | cons i is =>
      simp only[AH,AN]at hp;have l:=b2I J x;have C:v.cells.size=n:=by have U:=l.rel.length;have W:v.cells.toList.length=v.cells.size:=Array.length_toList;omega
      have N:cs.length=arr.size:=hr.rel.length.trans Array.length_toList;have O:=a7s v off arr (by omega);have y:RowOK g w (y8 cs off p.cells) (arr.toList.take off++v.cells.toList++arr.toList.drop (off+v.cells.size)):=by unfold y8;rw[C,z];exact((hr.take off).append l).append (hr.drop (off+n))
      rw[← O]at y;obtain⟨e,I,e2⟩:=b0W h L y hp.2 (by simpa using hl);refine⟨e,?_,e2⟩;simp only[List.zip_cons_cons,Instr.fill,hp.1];rw[if_neg (by simp; omega)];exact I
  · cases h
 | [],_::_,_,_,_,_,_,_,h,_,_,_,_=>by simp[L7]at h
 | _::_,[],_,_,_,_,_,_,h,_,_,_,_=>by simp[L7]at h
theorem RowOK.agg {cs:List AV} {arr:Array Value} (h:RowOK g w cs arr.toList):ValOK g w No (.agg cs) (.agg arr) :=
 ⟨by simp only[Rel]; exact⟨arr,rfl,h.rel,h.one⟩,fun xs e=>(by cases e),fun ds e vs e2 k x u l hu=>by simp only[AV.agg.injEq]at e;simp only[Value.agg.injEq]at e2;subst e; subst e2;exact h.own k x u l (by simpa using hu)⟩
def a7a (P:Program) (t:TypeId):Option (List (Nat×Nat)) :=
 match P.underlying t with
 | some (.struct fields)=>fields.toList.mapM (fun f=>(P.info? f.type).map fun i=>(f.offset,i.size))
 | _=>none
theorem a2U (a:Act) (parts:List (Nat×Operand)):(parts.map fun p=>(p.1,a.eval p.2))=(parts.map (·.1)).zip (parts.map fun p=>a.eval p.2):=by
 induction parts with
 | nil=>rfl
 | cons p ps e=>simp[e]
theorem b7R {t:TypeId} {parts:Array (Nat×Operand)} {zero:List AV} {l places:List (Nat×Nat)} {z:Value} (T:o.op=.build t parts) (e:a7a c.P t=some places)
 (W:(c.P.info? t).bind (·.zero)=some z) (I:E1 z.cells.toList zero=true) (u:(parts.toList.map (·.1)).map (fun i=>places[i]?)=l.map some)
 (U:ArgsOK g w bx fr as (parts.toList.map fun p=>a.eval p.2)) (L:O5 zero l call as b st=some (r,b',st')):o9 c g w bx fr a o r∧b'=b∧st'=st:=by
 simp only[O5]at L;obtain⟨cs,y,J⟩:=AL.1 L;simp only[AJ]at J;obtain⟨rfl,rfl,rfl⟩:=J;obtain⟨Y,z2,z3⟩:=J1 I g w;obtain⟨arr,M,N⟩:=b0W (place:=fun i=>places.toArray[i]?) y U ⟨Y,z2,z3⟩ (is:=parts.toList.map (·.1)) (by simpa using u) (by simp);refine⟨⟨.agg arr,?_,N.agg⟩,rfl,rfl⟩;have O:c.P.built t (parts.map fun(i,x)=>(i,a.eval x)).toList=some arr:=by
  unfold a7a at e;split at e
  · rename_i fields hu;obtain⟨Z,C,v⟩:=Option.bind_eq_some_iff.1 W;unfold Program.built;simp only[C,hu,v,e];rw[show(parts.map fun(i,x)=>(i,a.eval x)).toList=parts.toList.map fun p=>(p.1,a.eval p.2)by simp,a2U];exact M
  · cases e
 simp only[execOp,T,Sem.run_bind,run_build w t _ _ O,Result.andThen_ok,Sem.run_pure]
def K4 (P:Program) (e:Nat) (l:TypeId):Bool :=
 match P.underlying l,e with
 | some (.int _),0=>true
 | some .string,1=>true
 | some .bool,2=>true
 | _,_=>false
theorem c0g (s t:ByteArray):(s == t)=true↔s.data.toList=t.data.toList:=by rw[MapKept.bytes_beq];exact⟨fun h=>by rw[h],fun h=>ByteArray.ext (Array.toList_inj.mp h)⟩
theorem a9P {P:Program} {J:Nat} {L:TypeId} {d:TypeDesc} (M:P.underlying L=some d) (I:K4 P J L=true) {x y:AV} {u v:Value} (e:Rel g w x u) (l:Rel g w y v) {z:Bool} (h:T9 J x y=some z) :
 Instr.sameNow d u v=some z:=by
 unfold K4 at I;rw[M]at I;unfold T9 at h;split at h
 · split at h
   · rename_i C;obtain⟨rfl,rfl⟩:=C;simp only[Rel]at e l;subst e; subst l;cases d<;>simp at I;simp only[eqI_eq,AD]at h;simp[Instr.sameNow,h]
   · cases h
 · split at h
   · rename_i C;subst C;simp only[Rel]at e l;obtain⟨s,rfl,rfl⟩:=e;obtain⟨t,rfl,rfl⟩:=l;cases d<;>simp at I;rw[b4d,AD]at h;simp only[Instr.sameNow,AD];rw[← h,Bool.eq_iff_iff,c0g]; simp only[beq_iff_eq]
   · cases h
 · split at h
   · rename_i C;subst C;simp only[Rel]at e l;subst e; subst l;cases d<;>simp at I;simpa[Instr.sameNow]using h
   · cases h
 · cases h
theorem a4Y {P:Program} {N:Nat} {O:TypeId} {d:TypeDesc} (t:P.underlying O=some d) (y:K4 P N O=true) {x:AV} {u:Value} (I:Rel g w x u) :
 ∀ {es:List (AV×AV)} {l:List MapEntry} {i:Nat} {z:Option (Nat×AV)},RelM g w es l→K7 N x es i=some z →
  match z with
  | none=>Instr.findNow d u l i=some none
  | some (j,v)=>∃ e,l[j - i]?=some e∧i≤j∧Instr.findNow d u l i=some (some (j,e.val))∧Rel g w v e.val∧v.weak=v∧Instr.sameNow d u e.key=some true
 | [],_,i,z,h,hf=>by cases h;simp only[K7,AD]at hf;subst hf;rfl
 | (k,v)::es,_,i,z,h,hf=>by
  cases h with
  | cons J T U W =>
   rename_i e l;simp only[K7]at hf;split at hf
   · rename_i C;simp only[AD]at hf;subst hf;have:=a9P t y I J C;exact⟨e,by simp,AK _,by simp[Instr.findNow,this],T,U,this⟩
   · rename_i C;have L:=a9P t y I J C;have M:=a4Y t y I W hf;cases z with
     | none=>simp only[Instr.findNow,L]; exact M
     | some p =>obtain⟨j,Y⟩:=p;obtain⟨e',i1,i2,i3,i4⟩:=M;refine⟨e',?_,by omega,by simp only[Instr.findNow,L]; exact i3,i4⟩;rw[show j - i=(j - (i+1))+1 by omega];simpa using i1
   · cases hf
theorem a2q {P:Program} {u:Nat} {t:TypeId} (l:K4 P u t=true) (e:Bool) (v:Value):(Instr.checkKey e 10000 t v).run P w=.ok () w:=by unfold K4 at l;split at l<;>first|(rename_i hu; rw[show(10000:Nat)=9999+1 from rfl,Instr.checkKey,Sem.run_bind,run_underlying hu,Result.andThen_ok]; cases v<;>rfl)|cases l
def a3U:Value→Bool
 | .agg _=>true
 | _=>false
theorem c1E {t:TypeId} {I:Bool} {z:Value} {zero:List AV} {v:AV} (N:B6 c t=some I) (O:(c.P.info? t).bind (·.zero)=some z) (L:E1 z.cells.toList zero=true) (l:I=a3U z) (C:l8 I zero.length zero=some v) :
 Rel g w v z∧v.weak=v:=by
 obtain⟨M,z2,z3⟩:=J1 L g w;cases I with
 | true =>simp only[l8,if_true,AK,List.take_length,AD]at C;subst C;cases z<;>simp[a3U]at l;refine⟨by simp only[Rel]; exact⟨_,rfl,M.weak1,z2⟩,?_⟩;simp only[AV.weak,List.map_map];congr 1;apply List.map_congr_left;intro x _;cases x<;>rfl
 | false =>
  simp only[l8,Bool.false_eq_true,if_false]at C;cases zero with
  | nil=>simp at C
  | cons y ys =>
   simp only[AD]at C;subst C;simp only[RelL]at M;obtain⟨u,us,e,J,_⟩:=M;have hu:u=z:=by cases z<;>simp[Value.cells]at e<;>first|exact e.1.symm|simp[a3U]at l
   subst hu;refine⟨J.weak1,?_⟩;cases y<;>first
    | rfl
    | (simp only[Rel]at J
       obtain⟨_,rfl,_⟩:=J;simp[a3U]at l)
def a1x (P:Program) (t:TypeId) (zero:List AV):Bool :=
 match (P.info? t).bind (·.zero)with
 | some z=>E1 z.cells.toList zero
 | none=>false
def a9f (P:Program) (t:TypeId) (e:Bool):Bool :=
 match (P.info? t).bind (·.zero)with
 | some z=>e == a3U z
 | none=>false
theorem ArgOK.of_rel {x:AV} {v:Value} (h:Rel g w x v) (l:x.weak=x):ArgOK g w bx fr No x v:=by
 rw[← l];refine ArgOK.of_val (ValOK.of_weak h) fun i f e=>?_
 rw[l]at e;subst e;simp[Rel]at h
theorem c0b (h:SRel g w st) {t kt W:TypeId} {m k:Operand} {kc:Nat} {zero:List AV} {U ok:Bool} (ho:o.op=.lookup t m k ok) (hu:c.P.underlying t=some (.map kt W)) (hk:K4 c.P kc kt=true)
 (a5:B6 c W=some U) (hz:a1x c.P W zero=true) (Y:a9f c.P W U=true) (hr:ArgsOK g w bx fr as [a.eval m,a.eval k]) (O:S6 kc zero U ok call as b st=some (r,b',st')) :
 o9 c g w bx fr a o r∧b'=b∧st'=st:=by
 obtain⟨p,q,rfl,h1,h2⟩:=hr.two;obtain⟨d,hd⟩:∃ d,c.P.underlying kt=some d:=by
  unfold K4 at hk;cases hd:c.P.underlying kt with
  | none=>simp[hd]at hk
  | some d=>exact⟨d,rfl⟩
 obtain⟨z,a4,a9,b0⟩:∃ z,(c.P.info? W).bind (·.zero)=some z∧E1 z.cells.toList zero=true∧U=a3U z:=by
  unfold a1x at hz;unfold a9f at Y;cases hq:(c.P.info? W).bind (·.zero)with
  | none=>simp[hq]at hz
  | some z=>simp only[hq]at hz Y; exact⟨z,rfl,hz,by simpa using Y⟩
 have J:(zeroValue W).run c.P w=.ok z w:=by obtain⟨i,hi,a6⟩:=Option.bind_eq_some_iff.1 a4;simp[zeroValue,typeInfo,hi,a6]
 have a0:=fun(e:Bool)=>a2q (P:=c.P) (w:=w) hk e (a.eval k)
 have e1:=h1.rel
 -- what is left when the entries are known
 have fin:∀ (es:List (AV×AV)) (l:List MapEntry),RelM g w es l→(Rel g w q (a.eval k)∨es=[]) →
  (∀ (y:Option (Nat×Value)),Instr.findNow d (a.eval k) l 0=some y →
   (execOp a.eval o).run c.P w=.ok (.value (if ok then .tuple #[(match y with|some (_,x)=>x|none=>z),.bool y.isSome]else(match y with|some (_,x)=>x|none=>z))) w) →
  (match K7 kc q es 0 with
   | some T=>match (match T with|some (_,v)=>some v|none=>l8 U zero.length zero)with
    | some v=>some (if ok then AV.tuple [v,.bool T.isSome]else v,b,st)
    | none=>none
   | none=>none)=some (r,b',st')→o9 c g w bx fr a o r∧b'=b∧st'=st:=by
  intro es l L hq run u;cases hf:K7 kc q es 0 with
  | none=>simp[hf]at u
  | some T =>
   simp only[hf]at u;obtain⟨y,f1,f2⟩:∃ y,Instr.findNow d (a.eval k) l 0=some y∧(y.isSome=T.isSome∧∀ v,(match T with|some (_,v)=>some v|none=>l8 U zero.length zero)=some v →
    Rel g w v (match y with|some (_,x)=>x|none=>z)∧v.weak=v):=by
    have nil:T=none→Instr.findNow d (a.eval k) l 0=some none→∃ y,Instr.findNow d (a.eval k) l 0=some y∧(y.isSome=T.isSome∧∀ v,(match T with|some (_,v)=>some v|none=>l8 U zero.length zero)=some v →
     Rel g w v (match y with|some (_,x)=>x|none=>z)∧v.weak=v):=by
     intro e0 hn;subst e0;exact⟨none,hn,rfl,fun v Z=>c1E a5 a4 a9 b0 Z⟩
    rcases hq with hq|hq
    · have:=a4Y hd hk hq L hf;cases T with
      | none=>exact nil rfl this
      | some p =>obtain⟨j,v⟩:=p;obtain⟨e,_,_,e1,e2,e3,_⟩:=this;exact⟨some (j,e.val),e1,rfl,fun v' Z=>by simp only[AD]at Z; subst Z; exact⟨e2,e3⟩⟩
    · subst hq;cases L;simp only[K7,AD]at hf;exact nil hf.symm rfl
   have a2:=run y f1;split at u
   · rename_i v Z;simp only[AD,AJ]at u;obtain⟨rfl,rfl,rfl⟩:=u;obtain⟨k1,k2⟩:=f2.2 v Z;refine⟨⟨_,a2,?_⟩,rfl,rfl⟩;cases ok with
     | false=>exact ArgOK.of_rel k1 k2
     | true =>refine ValOK.mk' ?_ (by simp) (by simp);simp only[Rel,if_true];refine⟨_,rfl,?_⟩;simp only[RelL];exact⟨_,_,rfl,k1,_,_,rfl,by rw[f2.1]; simp[Rel],rfl⟩
   · cases u
 unfold S6 at O;dsimp only at O;split at O
 · rename_i kk I;simp only[AN,and_true]at I;obtain⟨rfl,rfl⟩:=I;have em:a.eval m=.map none:=by simpa[Rel]using h1.rel (by simp) (by simp)
   refine fin [] [] .nil (.inr rfl) (fun y N=>?_) O;have M:=MapKept.run_findKey (P:=c.P) (w:=w) hd N;have C:=a0 true;cases y with
   | none=>simp[execOp,ho,em,Instr.lookup,run_underlying hu,C,M,J]
   | some p=>simp[Instr.findNow]at N
 · rename_i oo kk I;simp only[AN,and_true]at I;obtain⟨rfl,rfl⟩:=I;have em:=h1.rel (by simp) (by simp);simp only[Rel]at em;split at O
   · rename_i es a7;obtain⟨_,_,ents,clock,hb,L⟩:=h.obj _ _ a7;have a1:=MapKept.run_getObj_map (P:=c.P) hb;have hq:Rel g w q (a.eval k)∨es=[]:=by
      cases es with
      | nil=>exact .inr rfl
      | cons e es =>
       refine .inl (h2.rel (fun i f hq=>?_) (fun cs hq=>?_)) <;>
       · subst hq;obtain⟨k0,v0⟩:=e;simp[K7,T9]at O
     refine fin es ents.toList L hq (fun y N=>?_) O;have M:=MapKept.run_findKey (P:=c.P) (w:=w) hd N;have C:=a0 ents.isEmpty;cases y with
     | none=>simp[execOp,ho,em.2,Instr.lookup,run_underlying hu,a1,C,M,J]
     | some p=>obtain⟨j,x⟩:=p; simp[execOp,ho,em.2,Instr.lookup,run_underlying hu,a1,C,M]
   · cases O
 · cases O
theorem a4R {bb:Nat}:∀ {xs:List (List AV)} {s:List Nat} {f sz:Nat},S9 xs=some s→RelRows g w bb f sz xs→∃ ns:List Int,ns.length=xs.length∧(∀ i,i < xs.length→w.cell? ⟨bb,f+i,none⟩=some (.int .u8 (ns.getD i 0)))∧(strOfNums ns).data.toList.map UInt8.toNat=s
 | [],s,f,sz,h,_=>by simp only[S9,AD]at h;subst h;exact⟨[],rfl,by simp,rfl⟩
 | x::xs,s,f,sz,h,hr=>by
  simp only[RelRows]at hr;obtain⟨z,u,C⟩:=hr;unfold S9 at h;split at h
  · rename_i e; cases e
  · rename_i n rs e;simp only[AN]at e;obtain⟨rfl,rfl⟩:=e;obtain rfl:sz=1:=by simpa using z.symm
    split at h
    · rename_i J;obtain⟨s',l,rfl⟩:=AL.1 h;obtain⟨ns,y,e2,t⟩:=a4R l C;simp only[RelCells,Rel]at u;obtain⟨⟨v,I,_,_,rfl⟩,_⟩:=u;refine⟨n::ns,by simp[y],fun i hi=>?_,?_⟩
      · cases i with
        | zero=>exact I
        | succ i =>have:=e2 i (by simpa using hi);rw[show f+(i+1)=f+1+i by omega];simpa using this
      · rw[strOfNums_data]at t ⊢;simp only[AH,t,AN,and_true];rw[UInt8.toNat_ofNat'];omega
    · cases h
  · cases h
theorem c5C {t u e:TypeId} {x:Operand} (N:o.op=.convert t u x) (L:c.P.underlying t=some (.slice e)) (J:c.P.underlying e=some (.int .u8)) (hu:c.P.underlying u=some .string)
 (O:ArgsOK g w bx fr as [a.eval x]) (v:a0Q call as b st=some (r,b',st')):o9 c g w bx fr a o r∧b'=b∧st'=st:=by
 obtain⟨p,rfl,M⟩:=O.one;unfold a0Q at v;split at v
 · rename_i own xs C;simp only[AN,and_true]at C; subst C;obtain⟨s,I,v⟩:=AL.1 v;simp only[AJ]at v;obtain⟨rfl,rfl,rfl⟩:=v;have z:=M.rel (by simp) (by simp);simp only[Rel]at z;obtain⟨a0,n,cap,z,rfl,_,_,T⟩:=z;have run:∀ y,(convert t u (a.eval x)).run c.P w=.ok (.string y) w→(execOp a.eval o).run c.P w=.ok (.value (.string y)) w:=fun y U=>by simp only[execOp,N,Sem.run_bind,U,Result.andThen_ok,Sem.run_pure]
   cases xs with
   | nil =>
    simp only[S9,AD]at I;subst I;refine⟨⟨.string ByteArray.empty,run _ ?_,ValOK.mk' (by simp only[Rel]; exact⟨_,rfl,rfl⟩) (by simp) (by simp)⟩,rfl,rfl⟩;rw[z,List.length_nil];cases a0 with
    | none=>exact run_convert_bytes_nil w t e L J _ _ u hu
    | some a1 =>rw[run_convert_bytes_string w t u e _ _ _ L J hu];simp[Conv.bytesToString,loadCells,loadCellsFrom]
   | cons x0 xs =>obtain⟨bb,f,sz,rfl,l⟩:=T (by simp);obtain⟨ns,W,Y,Z⟩:=a4R I l;refine⟨⟨.string (strOfNums ns),run _ ?_,ValOK.mk' (by simp only[Rel]; exact⟨_,rfl,Z⟩) (by simp) (by simp)⟩,rfl,rfl⟩;rw[z];exact run_convert_bytes_arg w t e L J bb f _ cap ns W Y u hu
 · cases v
end
end Go.Cb
namespace Go.Cb
open Classical
theorem FR.change {A:Nat→Prop} {g g':Gh} {w w':World} {pr t:Nat→Option Pl} {bx:Nat→Nat} {slots bxs:List Nat} {nt:Nat} {fr l:List AV} {τ u:Nat→AV} {tmps:Array Value}
 (h:FR A g w pr bx slots bxs nt fr τ tmps) (ok:Pl→Prop) (N:Ext g w g' w')
 (O:∀ b p,pr b=some p→ok p→t b=some p∧L1 g w g' w' b)
 (z:∀ b p,t b=some p→g'.sr b=none∧b < w'.heap.size∧A b)
 (J:∀ i s,slots[i]?=some s→((ok (.var i)∧ok (.box i)∧∀ k,ok (.cell i k))∧l.getD i .undef=fr.getD i .undef)∨VarOK g' w' t bx i (l.getD i .undef) (tmps.getD s undef))
 (I:∀ s,s ∉ slots→(ok (.tmp s)∧u s=τ s)∨TmpOK g' w' t bx l s (u s) (tmps.getD s undef))
 (y:l.length=fr.length) (v:∀ j cs,fr.getD j .undef=.box cs→∃ L,l.getD j .undef=.box L) (x:∀ j cs,l.getD j .undef=.box cs→j∈bxs) :
 FR A g' w' t bx slots bxs nt l u tmps:=by
 refine⟨h.size,y.trans h.len,fun i s C=>?_,fun s C=>?_,z,x⟩
 · rcases J i s C with⟨⟨o1,o2,o3⟩,e⟩|hv
   · rw[e];refine(h.var i s C).mono N (fun b p M U=>O b p M ?_) (fun _ _=>rfl);rcases U with rfl|rfl|⟨k,rfl⟩
     · exact o1
     · exact o2
     · exact o3 k
   · exact hv
 · rcases I s C with⟨o1,e⟩|hv
   · rw[e];exact(h.tmp s C).mono N (fun b M=>O b _ M o1) (fun j cs T=>⟨rfl,v j cs T⟩)
   · exact hv
noncomputable def mvp (pr:Nat→Option Pl) (src dst:Pl):Nat→Option Pl:=fun b=>if pr b=some src then some dst else pr b
theorem a0Z {pr:Nat→Option Pl} {src dst p:Pl} {b:Nat} (h:pr b=some p) (l:p≠src):mvp pr src dst b=some p:=by
 unfold mvp;rw[if_neg]
 · exact h
 · rw[h]; intro e; exact l (Option.some.inj e)
theorem b4A {pr:Nat→Option Pl} {src dst:Pl} {b:Nat} (h:pr b=some src):mvp pr src dst b=some dst:=by simp[mvp,h]
theorem a8T {pr:Nat→Option Pl} {src dst p:Pl} {b:Nat} (h:mvp pr src dst b=some p):∃ q,pr b=some q:=by
 unfold mvp at h;split at h
 · exact⟨_,‹_›⟩
 · exact⟨p,h⟩
section
variable {c:Cx} {g:Gh} {w:World} {pr:Nat→Option Pl} {bx:Nat→Nat} {σ:Sig} {a:Act} {o:Oper} {call:d8} {b b' r:AV} {st st':St} {fr as:List AV}
def Opd.src:Opd→Option Pl
 | .ts s=>some (.tmp s)
 | .vs i=>some (.var i)
 | _=>none
theorem M4 (h:S c g w pr bx σ a) {x:Operand} {p:Opd} (N:D5 c x p=true) {src:Pl} (l:p.src=some src) (dst:Pl) :
 S c g w (mvp pr src dst) bx (p.spend σ) a∧(∀ v cs,p.read σ=.loc v cs→(p.spend σ)=σ) ∧
  ArgOK g w bx σ.fr (fun b=>pr b=some src) (p.read σ) (a.eval x):=by
 have I:∀ b q,mvp pr src dst b=some q→g.sr b=none∧b < w.heap.size∧c.A b:=fun b q L=>by obtain⟨q',Z⟩:=a8T L;exact h.fr.prv b q' Z
 unfold D5 at N;split at N<;>first|(simp only[Opd.src]at l; cases l; done)|(cases N; done)|simp only[Opd.src]at l
 · -- a temporary
   rename_i s s';simp only[AA,beq_iff_eq]at N;obtain⟨rfl,Y⟩:=N;have Y:=P7 Y;simp only[AD]at l;subst l;have J:=h.fr.tmp s Y;have hw:∀ U,TmpOK g w U bx σ.fr s (σ.τ s).weak (a.tmps.getD s undef):=fun U=>by cases y:σ.τ s<;>rw[y]at J<;>first|exact ValOK.of_weak (ValOK.rel J)|exact J
   refine⟨⟨h.fr.change (·≠.tmp s) (Ext.refl g w) (fun b q L C=>⟨a0Z L C,rfl,fun _ x=>x⟩) I (fun i t _=>.inl ⟨⟨by simp,by simp,by simp⟩,rfl⟩) (fun t a0=>?_) rfl (fun j cs z=>⟨cs,z⟩) h.fr.bxs,h.st,h.gl,h.fresh,h.stA⟩,?_,?_⟩
   · by_cases e:t=s
     · subst e;right;simp only[Opd.spend,C4,Nat.beq_refl,if_true];exact hw _
     · left;exact⟨by simpa using e,by simp[Opd.spend,C4,e]⟩
   · intro v cs y;simp only[Opd.read]at y;simp only[Opd.spend,y,AV.weak];have:C4 σ.τ s (.loc v cs)=σ.τ:=by
      funext t;by_cases e:t=s
      · subst e; simp[C4,y]
      · simp[C4,e]
     rw[this]
   · simp only[Opd.read,Act.eval];cases y:σ.τ s<;>rw[y]at J<;>first|exact J|exact J.elim
 · -- a variable
   rename_i s i;have hs:c.slots[i]?=some s:=by simpa using N
   simp only[AD]at l;subst l;have hi:i < σ.fr.length:=by rw[h.fr.len]; exact(AB.1 hs).1
   have y:=h.fr.var i s hs;have O:∀ j cs,σ.fr.getD j .undef=.box cs→(Opd.spend (.vs i) σ).fr.getD j .undef=.box cs:=fun j cs z=>by
    simp only[Opd.spend];by_cases e:j=i
    · subst e; rw[q7 hi,z]; rfl
    · rw[l7 e]; exact z
   refine⟨⟨h.fr.change (·≠.var i) (Ext.refl g w) (fun b q L C=>⟨a0Z L C,rfl,fun _ x=>x⟩) I (fun j t J=>?_) (fun t _=>.inl ⟨by simp,rfl⟩) (by simp[Opd.spend]) (fun j cs z=>⟨cs,O j cs z⟩) (fun j cs z=>?_),h.st,h.gl,h.fresh,h.stA⟩,?_,?_⟩
   · by_cases e:j=i
     · subst e;obtain rfl:t=s:=Option.some.inj (J.symm.trans hs);simp only[Opd.spend,q7 hi];right;have M:∀ (x:AV) (u:Value),VarOK g w pr bx j x u→VarOK g w (mvp pr (.var j) dst) bx j x.weak u:=by
        intro x u W;cases x<;>first
         | exact ValOK.of_weak (ValOK.rel W)
         | exact W.elim
         | exact⟨W.1,W.2.mono (Ext.refl g w) (fun b q L C=>⟨a0Z L (by rcases C with rfl|⟨k,rfl⟩<;>simp),rfl,fun _ x=>x⟩)⟩
       exact M _ _ y
     · left;exact⟨⟨by simp[e],by simp,by simp⟩,by simp only[Opd.spend,l7 e]⟩
   · by_cases e:j=i
     · subst e;simp only[Opd.spend,q7 hi]at z;cases C:σ.fr.getD j .undef<;>rw[C]at z<;>simp[AV.weak]at z;exact h.fr.bxs j _ C
     · simp only[Opd.spend,l7 e]at z;exact h.fr.bxs j cs z
   · intro v cs T;simp only[Opd.read]at T;rw[T]at y;exact y.elim
   · simp only[Opd.read,Act.eval];cases C:σ.fr.getD i .undef<;>rw[C]at y<;>first|exact y|exact y.elim|trivial
theorem Ext.alloc (e:∀ b f,g.cl b f→b < w.heap.size) (ob:_root_.Go.Obj):Ext g w g (w.alloc ob) :=
 ⟨AK _,fun _ _=>rfl,fun _ _=>rfl,fun _ _ h=>h,fun b f h=>World.cell?_alloc_lt _ _ _ (e b f h)⟩
theorem Tr.alloc (A:Nat→Prop) (u:∀ b f,g.cl b f→b < w.heap.size) (ob:_root_.Go.Obj) (y:∀ c t z,ob=.cells c t z→z=(0,0):=by intro c t z e; cases e; rfl):Tr A g w g (w.alloc ob) :=
 ⟨Ext.alloc u ob,by simp,Env.alloc w ob y,fun b l v _=>⟨⟨heap_alloc_old w ob l,fun _ x=>x⟩,v⟩⟩
theorem SRel.alloc (h:SRel g w st) (ob:_root_.Go.Obj):SRel g (w.alloc ob) st :=
 h.evolve (Ext.alloc h.cli ob) rfl (by simp) (fun b _ e=>⟨e,heap_alloc_old w ob (h.inn b _ e),fun _ x=>x⟩) (fun _ _ x=>x) (fun _ _ x=>.inl x)
theorem b8b (Z:Fx c) (h:S c g w pr bx σ a) {i s:Nat} (J:c.slots[i]?=some s) (hi:i∈c.bxs) (hu:σ.fr.getD i .undef=.undef) {cs:List AV} {arr:Array Value} {T:TypeId} (O:RowOK g w cs arr.toList) :
 ∃ u l,S c g (w.alloc (.cells arr T)) u l { σ with fr:=σ.fr.set i (.box cs) } (a.put (some s) (.pointer (some (ad w.heap.size 0)))):=by
 have M:i < σ.fr.length:=by rw[h.fr.len]; exact(AB.1 J).1
 have U:s < a.tmps.size:=by rw[h.fr.size]; exact Z.lt s (List.mem_of_getElem? J)
 have W:g.sr w.heap.size=none:=by
  cases hq:g.sr w.heap.size with
  | none=>rfl
  | some p=>exact absurd (h.st.inn _ p hq) (Nat.lt_irrefl _)
 have L:=Ext.alloc h.st.cli (_root_.Go.Obj.cells arr T);have N:∀ b p,pr b=some p→b≠w.heap.size:=fun b p y e=>by have:=(h.fr.prv b p y).2.1; omega
 let u:Nat→Option Pl:=fun b=>if b=w.heap.size then some (.box i)else pr b
 let l:Nat→Nat:=fun j=>if j=i then w.heap.size else bx j
 have z:∀ b p,pr b=some p→u b=some p∧L1 g w g (w.alloc (.cells arr T)) b:=fun b p y =>⟨by simp only[u,if_neg (N b p y)]; exact y,heap_alloc_old w _ (h.fr.prv b p y).2.1,fun _ x=>x⟩
 refine⟨u,l,⟨⟨by simpa[Act.put]using h.fr.size,by simpa using h.fr.len,fun j t I=>?_,fun t I=>?_,fun b p y=>?_,fun j ds C=>?_⟩,h.st.alloc _,h.gl.ext L,fun b y=>h.fresh b (by simp at y; omega),h.stA⟩⟩
 · by_cases e:j=i
   · subst e;obtain rfl:t=s:=Option.some.inj (I.symm.trans J);simp only[Act.put];rw[K0 U,q7 M];refine⟨by simp[l],?_⟩;simp only[l,if_true];refine⟨by simp[u],fun f hf=>absurd (h.st.cli _ f hf) (Nat.lt_irrefl _),arr,T,heap_alloc_new w _,RelL.ext L _ _ O.rel,O.one,fun k x v hx hv xs ex=>.inl (O.own k x v hx (by simpa using hv) xs ex)⟩
   · simp only[Act.put];rw[L6 (b4p Z.nd I J e),l7 e];exact(h.fr.var j t I).mono L (fun b p y _=>z b p y) (fun _ _=>by simp[l,e])
 · have Y:t≠s:=fun e=>I (e ▸ List.mem_of_getElem? J)
   simp only[Act.put];rw[L6 Y];refine(h.fr.tmp t I).mono L (fun b y=>z b _ y) (fun j ds C=>?_);have e:j≠i:=fun e=>by subst e; rw[hu]at C; cases C
   exact⟨by simp[l,e],ds,by rw[l7 e]; exact C⟩
 · by_cases e:b=w.heap.size
   · subst e; exact⟨W,by simp,h.fresh _ (AK _)⟩
   · simp only[u,if_neg e]at y;obtain⟨h1,h2,h3⟩:=h.fr.prv b p y;exact⟨h1,by simp; omega,h3⟩
 · by_cases e:j=i
   · subst e; exact hi
   · simp only[l7 e]at C; exact h.fr.bxs j ds C
noncomputable def Gh.more (g:Gh) (b:Nat) (cap:Nat:=0):Gh where
 n:=g.n+1
 m:=fun o=>if o=g.n then b else g.m o
 cl:=g.cl
 sr:=fun b'=>if b'=b then some (g.n,none)else g.sr b'
 cp:=fun o=>if o=g.n then cap else g.cp o
theorem c55 (h:S c g w pr bx σ a) {cap:Nat} {ob:Obj} {O:_root_.Go.Obj} (T:∀ c t z,O=.cells c t z→z=(0,0)) (L:Ext g w (g.more w.heap.size cap) (w.alloc O)→ObjOK (g.more w.heap.size cap) (w.alloc O) g.n ob) :
 S c (g.more w.heap.size cap) (w.alloc O) pr bx { σ with st:=σ.st++[ob] } a∧Tr c.A g w (g.more w.heap.size cap) (w.alloc O)∧(g.more w.heap.size cap).m σ.st.length=w.heap.size∧σ.st.length < (g.more w.heap.size cap).n:=by
 have C:Ext g w (g.more w.heap.size cap) (w.alloc O):=⟨by simp[Gh.more],fun o u=>by simp[Gh.more,Nat.ne_of_lt u],fun o u=>by simp[Gh.more,Nat.ne_of_lt u],fun _ _ h=>h,fun b f J=>World.cell?_alloc_lt _ _ _ (h.st.cli b f J)⟩;have y:Tr No g w (g.more w.heap.size cap) (w.alloc O):=⟨C,by simp,Env.alloc w O T,fun b l N _=>⟨⟨heap_alloc_old w O l,fun _ x=>x⟩,by simp only[Gh.more]; rw[if_neg (by omega)]; exact N⟩⟩;refine⟨⟨h.fr.evolve y,⟨by simp[Gh.more,h.st.n],fun o M u=>?_,fun b p l=>?_,fun b f J=>?_⟩,h.gl.ext C,fun b l=>h.fresh b (by simp at l; omega),fun b p l=>?_⟩,y.wider (fun _ x=>x.elim),by simp[Gh.more,h.st.n],by simp[Gh.more,h.st.n]⟩
 · rcases Nat.lt_or_ge o σ.st.length with v|hge
   · rw[List.getElem?_append_left v]at u;refine(h.st.obj o M u).mono (by rw[h.st.n]; exact v) C fun b k l=>?_
     have I:=h.st.inn b _ l;exact⟨by simp only[Gh.more]; rw[if_neg (by omega)]; exact l,heap_alloc_old w O I,fun _ x=>x⟩
   · rw[List.getElem?_append_right hge]at u;have e:o=σ.st.length:=by
      rcases Nat.lt_or_ge σ.st.length o with h1|h1
      · rw[List.getElem?_eq_none (by simp; omega)]at u; cases u
      · omega
     subst e;simp at u;subst u;rw[← h.st.n];exact L C
 · simp only[Gh.more]at l;split at l
   · rename_i e; subst e; simp
   · have:=h.st.inn b p l; simp; omega
 · have:=h.st.cli b f J; simp; omega
 · simp only[Gh.more]at l;split at l
   · rename_i e; subst e; exact h.fresh _ (AK _)
   · exact h.stA b p l
theorem a2B (h:S c g w pr bx σ a) {cs:List AV} {arr:Array Value} {T:TypeId} (e:RowOK g w cs arr.toList) :
 Ext g w (g.more w.heap.size arr.size) (w.alloc (.cells arr T))→ObjOK (g.more w.heap.size arr.size) (w.alloc (.cells arr T)) g.n (.cells cs):=fun t=>by
 refine⟨by simp[Gh.more],fun f l=>?_,arr,T,by simp only[Gh.more,if_true]; exact heap_alloc_new w _,by simp[Gh.more],by rw[e.rel.length,List.take_length]; exact RelL.ext t _ _ e.rel,by rw[e.rel.length,List.take_length]; exact e.one,fun k x v y u xs ex=>.inl (e.own k x v y (by simpa using u) xs ex)⟩;simp only[Gh.more,if_true]at l;exact Nat.lt_irrefl _ (h.st.cli _ f l)
theorem b6u (h:S c g w pr bx σ a) :
 Ext g w (g.more w.heap.size 0) (w.alloc (.map #[] 0))→ObjOK (g.more w.heap.size 0) (w.alloc (.map #[] 0)) g.n (.map []):=fun _ =>
 ⟨by simp[Gh.more],fun f e=>Nat.lt_irrefl _ (h.st.cli _ f (by simpa[Gh.more]using e)),#[],0,by simp only[Gh.more,if_true]; exact heap_alloc_new w _,.nil⟩
end
end Go.Cb
namespace Go.Cb
open Classical
section
variable {c:Cx} {g:Gh} {w:World} {pr:Nat→Option Pl} {bx:Nat→Nat} {σ:Sig} {a:Act} {o:Oper} {call:d8} {b b' r:AV} {st st':St} {fr as:List AV}
theorem N8 (h:S c g w pr bx σ a) {x:Operand} {p:Opd} (I:D5 c x p=true) (dst:Pl) :
 ∃ l,S c g w l bx (p.spend σ) a∧ArgOK g w bx σ.fr (fun b=>l b=some dst) (p.read σ) (a.eval x)∧∀ b q,l b=some q→∃ L,pr b=some L:=by
 cases t:p.src with
 | some src =>
  obtain⟨J,_,e⟩:=M4 h I t dst;refine⟨_,J,?_,fun b q v=>a8T v⟩;cases C:p.read σ<;>rw[C]at e<;>first
   | exact ValOK.mono e (Ext.refl g w) (fun b u=>⟨b4A u,rfl,fun _ x=>x⟩)
   | exact e
 | none =>
  have z:p.steals=false:=by cases p<;>simp_all [Opd.src,Opd.steals]
  have y:p.spend σ=σ:=by cases p<;>simp_all [Opd.src,Opd.spend]
  rw[y];refine⟨pr,h,?_,fun b q v=>⟨q,v⟩⟩;have e:=P9 h (x:=x) (p:=p) (by simp[O3,I,z]);cases C:p.read σ<;>rw[C]at e<;>first
   | exact ValOK.mono e (Ext.refl g w) (fun b u=>u.elim)
   | exact e
structure RowM (g:Gh) (w:World) (mine:Nat→Prop) (cs:List AV) (vs:List Value):Prop where
 rel:RelL g w cs vs
 one:∀ v∈vs,v.oneCell'=true
 own:∀ (k:Nat) (x:AV) (v:Value),cs[k]?=some x→vs[k]?=some v→OwnC g w (fun b=>k=0∧mine b) x v
theorem a24 {mine:Nat→Prop} {x:AV} {v:Value} (h:ArgOK g w bx fr mine x v) (I:x.plain=true):RowM g w mine x.cells v.cells.toList:=by
 have C:=h.plain I;cases x with
 | agg cs =>have l:=C.rel;simp only[Rel]at l;obtain⟨arr,rfl,J,L⟩:=l;exact⟨J,L,fun k y u t hu xs e=>.inl (C.agg cs rfl arr rfl k y u t (by simpa[Value.cells]using hu) xs e)⟩
 | undef=>simp[AV.plain]at I
 | loc=>simp[AV.plain]at I
 | box=>simp[AV.plain]at I
 | tuple=>simp[AV.plain]at I
 | fresh=>simp[AV.plain]at I
 | list own xs =>
  have l:=C.rel;simp only[Rel]at l;obtain⟨a0,n,cap,rfl,_⟩:=l;refine⟨by simp only[AV.cells,Value.cells,RelL]; exact⟨_,[],rfl,C.rel,rfl⟩,by simp[Value.cells,Value.oneCell'],fun k y u t hu ys e=>?_⟩;obtain rfl:k=0:=by cases k with|zero=>rfl|succ k=>simp[AV.cells]at t
  simp[AV.cells]at t;simp[Value.cells]at hu;subst hu;rw[← t]at e;exact(C.own ys e).mono fun b M=>⟨⟨rfl,M⟩,rfl,fun _ x=>x⟩
 | _ =>
  have z:v.oneCell'=true:=by
   have l:=C.rel;simp only[Rel]at l;first
    | (subst l; rfl)
    | (obtain⟨_,rfl⟩:=l; rfl)
    | (obtain⟨_,rfl,_⟩:=l; rfl)
    | (obtain⟨_,_,rfl,_⟩:=l; rfl)
  have N:v.cells=#[v]:=by cases v<;>first|rfl|cases z
  rw[N];refine⟨by simp only[AV.cells,RelL]; exact⟨v,[],rfl,C.rel,rfl⟩,by simpa using z,fun k y u t _ ys e=>?_⟩;obtain rfl:k=0:=by cases k with|zero=>rfl|succ k=>simp[AV.cells]at t
  simp[AV.cells]at t;rw[← t]at e;cases e
theorem a1C {t:TypeId} {x y:Operand} {bb off:Nat} {arr:Array Value} {T:TypeId} {v:Value} (J:o.op=.store t x y) (L:a.eval x=.pointer (some (ad bb off))) (M:a.eval y=v)
 (I:B1 c t=some v.cells.size) (C:w.heap[bb]?=some (.cells arr T (0,0))) (l:off+v.cells.size≤arr.size) (z:∀ u∈v.cells.toList,u.oneCell'=true) :
 (execOp a.eval o).run c.P w=.ok .skip (w.setRow bb (arr.toList.take off++v.cells.toList++arr.toList.drop (off+v.cells.size)).toArray):=by
 have e:=run_storeCells_at c.P bb off T v.cells.toList 0 arr w C (by simpa using l) z;simp only[Nat.add_zero,Array.length_toList]at e;simp only[execOp,J,L,M,Instr.storeAt,Instr.sureAddr,Sem.run_bind,Sem.run_pure,Result.andThen_ok,storeVar,I6 (w:=w) I,ne_eq,not_true,if_false];rw[e];rfl
theorem a1v {bb k f:Nat} (cs:Array Value) (h:k≠bb):(w.setRow bb cs).cell? (ad k f)=w.cell? (ad k f) :=
 World.cell?_of_block (setRow_other w bb k cs h)
theorem Ext.setRow {bb:Nat} (cs:Array Value) (h:∀ f,¬ g.cl bb f):Ext g w g (w.setRow bb cs) :=
 ⟨AK _,fun _ _=>rfl,fun _ _=>rfl,fun _ _ h=>h,fun t f l=>a1v cs fun e=>h f (e ▸ l)⟩
theorem a2e {α:Type} {l s:List α} {off k:Nat} {x:α} (v:off+s.length≤l.length) (h:(l.take off++s++l.drop (off+s.length))[k]?=some x) :
 (k < off∧l[k]?=some x)∨(off≤k∧k < off+s.length∧s[k - off]?=some x)∨(off+s.length≤k∧l[k]?=some x):=by
 have e:(l.take off).length=off:=by rw[AP]; omega
 by_cases t:k < off
 · left;rw[AX,List.getElem?_append_left (by omega),List.getElem?_take,if_pos t]at h;exact⟨t,h⟩
 · by_cases u:k < off+s.length
   · right; left;rw[AX,List.getElem?_append_right (by omega),e,List.getElem?_append_left (by omega)]at h;exact⟨by omega,u,h⟩
   · right; right;rw[AX,List.getElem?_append_right (by omega),e,List.getElem?_append_right (by omega),List.getElem?_drop]at h;rw[show off+s.length+(k - off - s.length)=k by omega]at h;exact⟨by omega,h⟩
theorem a5N {cs ds:List AV} {us vs:List Value} {off:Nat} (u:RelL g w cs us) (l:∀ v∈us,v.oneCell'=true) (t:RelL g w ds vs) (e:∀ v∈vs,v.oneCell'=true) :
 RelL g w (y8 cs off ds) (us.take off++vs++us.drop (off+vs.length))∧∀ v∈us.take off++vs++us.drop (off+vs.length),v.oneCell'=true:=by
 refine⟨?_,fun v hv=>?_⟩
 · unfold y8;rw[t.length];exact((u.take off).append t).append (u.drop _)
 · rcases AQ.1 hv with hv|hv
   · rcases AQ.1 hv with hv|hv
     · exact l v (List.mem_of_mem_take hv)
     · exact e v hv
   · exact l v (List.mem_of_mem_drop hv)
theorem c4Z (h:S c g w pr bx σ a) {i s off n:Nat} (hs:c.slots[i]?=some s) {t:TypeId} {x y:Operand} {p1:Opd} {cs:List AV} (ho:o.op=.store t x y) (hn:B1 c t=some n)
 (Z:σ.fr.getD i .undef=.box cs) (hx:a.eval x=.pointer (some (ad (bx i) off))) (b8:D5 c y p1=true) (c0:(p1.read σ).plain=true) (b0:(p1.read σ).cells.length=n) (c6:off+n≤cs.length)
 {next:Act→World→Prop} {Q:Exit→Act→World→Prop} (hd:o.dst=none)
 (a2:Post c g w a { p1.spend σ with fr:=(p1.spend σ).fr.set i (.box (y8 cs off (p1.read σ).cells)) } next):o.wp c.P a w next Q:=by
 obtain⟨b5,J,hA,_⟩:=N8 h b8 (.cell i off);have I:=a24 hA c0;have a0:i < σ.fr.length:=by rw[h.fr.len]; exact(AB.1 hs).1
 have a7:(p1.spend σ).fr.getD i .undef=.box cs:=by
  cases p1<;>simp only[Opd.spend]<;>try exact Z
  rename_i j;by_cases e:i=j
  · subst e; rw[q7 a0,Z]; rfl
  · rw[l7 e]; exact Z
 have L:(p1.spend σ).fr.length=σ.fr.length:=by cases p1<;>simp[Opd.spend]
 have Y:=J.fr.var i s hs;rw[a7]at Y;obtain⟨b3,C,a9,arr,T,hh,U,b2,O⟩:=Y;have a5:(a.eval y).cells.size=n:=by have:=I.rel.length;rw[b0]at this;exact this.symm.trans (by simp)
 have c4:cs.length=arr.size:=U.length.trans (by simp);have W:=a1C (c:=c) (w:=w) (v:=a.eval y) ho hx rfl (by rw[a5]; exact hn) hh (by omega) I.one;generalize N:(a.eval y).cells.toList=vs at *
 have c2:vs.length=n:=by rw[← N]; simpa using a5
 rw[a5,← c2]at W;obtain⟨r1,r2⟩:=a5N (off:=off) U b2 I.rel I.one;generalize b1:arr.toList.take off++vs++arr.toList.drop (off+vs.length)=new at *
 have he:Ext g w g (w.setRow (bx i) new.toArray):=Ext.setRow _ a9;have u:∀ b,b≠bx i→L1 g w g (w.setRow (bx i) new.toArray) b:=fun b Z=>⟨setRow_other w _ b _ Z,fun _ x=>x⟩
 have b4:∀ b q,g.sr b=some q→b≠bx i:=fun b q M e=>by have:=(J.fr.prv _ _ C).1;rw[e,this]at M; cases M
 unfold Oper.wp;rw[W];simp only[Oper.upon,hd,Act.put];have b6:c.A (bx i):=(J.fr.prv _ _ C).2.2;refine a2 a _ g b5 bx rfl ⟨?_,J.st.evolve he rfl (by simp) (fun b q M=>⟨M,u b (b4 b q M)⟩) (fun _ _ x=>x) (fun _ _ x=>.inl x),J.gl.ext he,fun b Z=>J.fresh b (by simpa using Z),J.stA⟩
  ⟨he,by simp,Env.setRow _ _ _,fun b _ c1 a6=>⟨u b fun e=>a6 (e ▸ b6),c1⟩⟩
 refine J.fr.change (fun q=>q≠.box i) he (fun b q M b7=>⟨M,u b fun e=>?_⟩) (fun b q M=>?_) (fun j t' ht=>?_) (fun t' ht=>.inl ⟨by simp,rfl⟩) (by simp) (fun j ds hj=>?_) (fun j ds hj=>?_)
 · rw[e,C]at M; exact b7 (Option.some.inj M).symm
 · obtain⟨q1,q2,q3⟩:=J.fr.prv b q M; exact⟨q1,by simpa using q2,q3⟩
 · by_cases e:j=i
   · subst e;obtain rfl:t'=s:=Option.some.inj (ht.symm.trans hs);right;rw[q7 (by rw[L]; exact a0)];refine⟨b3,C,a9,new.toArray,T,setRow_heap w _ arr _ T _ hh,by simpa using r1.ext he _ _,by simpa using r2,fun k z v hz hv=>?_⟩;rw[List.getElem?_toArray,← b1]at hv;unfold y8 at hz;have c3:=a2e (by omega) hz;have a4:=a2e (by simp; omega) hv;have a1:∀ b',b5 b'=some (.cell j k)→b'≠bx j:=fun b' l e=>by rw[e,C]at l; cases l
     rcases c3 with⟨z1,z2⟩|⟨z1,z2,z3⟩|⟨z1,z2⟩
     · rcases a4 with⟨_,v2⟩|⟨v1,_⟩|⟨v1,_⟩
       · exact(O k z v z2 (by simpa using v2)).mono fun b' l=>⟨l,u b' (a1 b' l)⟩
       · omega
       · omega
     · rcases a4 with⟨v1,_⟩|⟨_,_,v3⟩|⟨v1,_⟩
       · omega
       · refine(I.own _ z v z3 v3).mono fun b' l=>?_
         obtain⟨e0,l⟩:=l;have ek:k=off:=by omega
         subst ek;exact⟨l,u b' (a1 b' l)⟩
       · omega
     · rcases a4 with⟨v1,_⟩|⟨_,v1,_⟩|⟨_,v2⟩
       · omega
       · omega
       · exact(O k z v z2 (by simpa using v2)).mono fun b' l=>⟨l,u b' (a1 b' l)⟩
   · left;exact⟨⟨by simp,by simp[e],by simp⟩,l7 e⟩
 · by_cases e:j=i
   · subst e; exact⟨_,q7 (by rw[L]; exact a0)⟩
   · exact⟨ds,by rw[l7 e]; exact hj⟩
 · by_cases e:j=i
   · subst e; exact J.fr.bxs j _ a7
   · rw[l7 e]at hj; exact J.fr.bxs j ds hj
end
end Go.Cb
namespace Go.Cb
open Classical
section
variable {c:Cx} {g:Gh} {w:World} {pr:Nat→Option Pl} {bx:Nat→Nat} {σ:Sig} {a:Act} {o:Oper} {call:d8} {b b' r:AV} {st st':St} {fr as:List AV}
noncomputable def Gh.land (g:Gh) (pr:Nat→Option Pl) (oo off:Nat):Gh:={ g with sr:=fun b=>if pr b=some .fly then some (oo,some off)else g.sr b }
theorem c57 (h:S c g w pr bx σ a) {oo off n:Nat} {t:TypeId} {x y:Operand} {p1:Opd} {cs:List AV} (ho:o.op=.store t x y) (hn:B1 c t=some n)
 (U:σ.st[oo]?=some (.cells cs)) (hx:a.eval x=.pointer (some (ad (g.m oo) off))) (c6:D5 c y p1=true) (c7:(p1.read σ).plain=true) (b3:(p1.read σ).cells.length=n) (d3:off+n≤cs.length)
 {next:Act→World→Prop} {Q:Exit→Act→World→Prop} (hd:o.dst=none)
 (a5:Post c g w a { p1.spend σ with st:=σ.st.set oo (.cells (y8 cs off (p1.read σ).cells)) } next):o.wp c.P a w next Q:=by
 obtain⟨M,O,hA,_⟩:=N8 h c6 .fly;have N:=a24 hA c7;have d2:(p1.spend σ).st=σ.st:=by cases p1<;>rfl
 have c4:oo < g.n:=by rw[h.st.n]; exact(AB.1 U).1
 obtain⟨I,b1,arr,T,hh,c0,a2,b6,a0⟩:=h.st.obj oo _ U;have a9:(a.eval y).cells.size=n:=by have:=N.rel.length;rw[b3]at this;exact this.symm.trans (by simp)
 have d1:cs.length≤arr.size:=by have:=a2.length; rw[AP]at this; simp at this; omega
 have a4:=a1C (c:=c) (w:=w) (v:=a.eval y) ho hx rfl (by rw[a9]; exact hn) hh (by omega) N.one;generalize Z:(a.eval y).cells.toList=vs at *
 have c8:vs.length=n:=by rw[← Z]; simpa using a9
 rw[a9,← c8]at a4;obtain⟨r1,r2⟩:=a5N (off:=off) a2 b6 N.rel N.one;have b8:(y8 cs off (p1.read σ).cells).length=cs.length:=by unfold y8;simp only[AF,AP,List.length_drop];omega
 have b7:(arr.toList.take cs.length).take off++vs++(arr.toList.take cs.length).drop (off+vs.length)=(arr.toList.take off++vs++arr.toList.drop (off+vs.length)).take cs.length:=by
  rw[List.take_take,Nat.min_eq_left (by omega),List.drop_take,List.take_append,AF,AP,Nat.min_eq_left (by simp; omega),
   List.take_of_length_le (l:=arr.toList.take off++vs) (by rw[AF,AP,Nat.min_eq_left (by simp; omega)]; omega)]
 rw[b7]at r1 r2;have c3:(arr.toList.take off++vs++arr.toList.drop (off+vs.length)).length=arr.size:=by simp only[AF,AP,List.length_drop,Array.length_toList];omega
 generalize b5:arr.toList.take off++vs++arr.toList.drop (off+vs.length)=new at *
 let g2:=g.land M oo off
 let pr2:Nat→Option Pl:=fun b=>if M b=some .fly then none else M b
 have Y:Ext g w g (w.setRow (g.m oo) new.toArray):=Ext.setRow _ b1;have he:Ext g w g2 (w.setRow (g.m oo) new.toArray):=⟨Y.n,Y.m,Y.cp,Y.cl,Y.cell⟩;have C:∀ b,b≠g.m oo→L1 g w g2 (w.setRow (g.m oo) new.toArray) b:=fun b U=>⟨setRow_other w _ b _ U,fun _ x=>x⟩
 have a1:∀ b q,M b=some q→b≠g.m oo:=fun b q J e=>by have:=(O.fr.prv _ _ J).1;rw[e,I]at this; cases this
 have L:∀ b q,g.sr b=some q→g2.sr b=some q:=fun b q J=>by
  show(if M b=some .fly then some (oo,some off)else g.sr b)=some q;rw[if_neg]
  · exact J
  · intro e; have:=(O.fr.prv _ _ e).1; rw[this]at J; cases J
 have b2:∀ b,M b=some .fly→g2.sr b=some (oo,some off):=fun b U=>by show(if M b=some .fly then some (oo,some off)else g.sr b)=_;rw[if_pos U]
 unfold Oper.wp;rw[a4];simp only[Oper.upon,hd,Act.put];refine a5 a _ g2 pr2 bx rfl ⟨?_,⟨?_,fun o' ob W=>?_,fun b q J=>?_,fun b f hf=>by simpa using O.st.cli b f hf⟩,O.gl.ext he,fun b U=>O.fresh b (by simpa using U),fun b q J=>?_⟩
  ⟨he,by simp,Env.setRow _ _ _,fun b _ a6 b0=>⟨C b (fun e=>by rw[e,I]at a6; cases a6),?_⟩⟩
 · refine O.fr.change (fun q=>q≠.fly) he (fun b q J c1=>⟨?_,C b (a1 b q J)⟩) (fun b q J=>?_) (fun j t' ht=>.inl ⟨⟨by simp,by simp,by simp⟩,rfl⟩) (fun t' ht=>.inl ⟨by simp,rfl⟩) rfl (fun j ds hj=>⟨ds,hj⟩) O.fr.bxs
   · simp only[pr2];rw[if_neg (by rw[J]; intro e; exact c1 (Option.some.inj e))];exact J
   · simp only[pr2]at J;split at J
     · cases J
     · rename_i c2;obtain⟨q1,q2,q3⟩:=O.fr.prv b q J;refine⟨?_,by simpa using q2,q3⟩;show(if M b=some .fly then some (oo,some off)else g.sr b)=none;rw[if_neg c2]; exact q1
 · show g.n=_;rw[Ab]; exact h.st.n
 · by_cases e:o'=oo
   · subst e;rw[List.getElem?_set_self (by rw[← h.st.n]; exact c4)]at W;simp only[AD]at W;subst W;refine⟨L _ _ I,b1,new.toArray,T,setRow_heap w _ arr _ T _ hh,(show new.toArray.size=g.cp o' from by simpa[c3]using c0),by rw[b8]; exact r1.ext he _ _,by rw[b8]; exact r2,fun k z v hz hv=>?_⟩;rw[List.getElem?_toArray,← b5]at hv;unfold y8 at hz;have d0:=a2e (by omega) hz;have a7:=a2e (by simp; omega) hv;have b4:∀ b',g.sr b'=some (o',some k)→b'≠g.m o':=fun b' u e=>by rw[e,I]at u; simp at u
     rcases d0 with⟨z1,z2⟩|⟨z1,z2,z3⟩|⟨z1,z2⟩
     · rcases a7 with⟨_,v2⟩|⟨v1,_⟩|⟨v1,_⟩
       · exact(a0 k z v z2 (by simpa using v2)).mono fun b' u=>⟨L b' _ u,C b' (b4 b' u)⟩
       · omega
       · omega
     · rcases a7 with⟨v1,_⟩|⟨_,_,v3⟩|⟨v1,_⟩
       · omega
       · refine(N.own _ z v z3 v3).mono fun b' u=>?_
         obtain⟨e0,u⟩:=u;have ek:k=off:=by omega
         subst ek;exact⟨b2 b' u,C b' (a1 b' _ u)⟩
       · omega
     · rcases a7 with⟨v1,_⟩|⟨_,v1,_⟩|⟨_,v2⟩
       · omega
       · omega
       · exact(a0 k z v z2 (by simpa using v2)).mono fun b' u=>⟨L b' _ u,C b' (b4 b' u)⟩
   · rw[List.getElem?_set_ne (Ne.symm e)]at W;refine(h.st.obj o' ob W).mono (by rw[h.st.n]; exact(AB.1 W).1) he fun b k U=>⟨L b _ U,C b fun e2=>?_⟩
     rw[e2,I]at U;simp only[AD,AJ]at U;exact e U.1.symm
 · have:b < w.heap.size:=by
    simp only[g2,Gh.land]at J;split at J
    · exact(O.fr.prv b _ ‹_›).2.1
    · exact O.st.inn b q J
   simpa using this
 · simp only[g2,Gh.land]at J;split at J
   · exact(O.fr.prv b _ ‹_›).2.2
   · exact O.stA b q J
 · show(if M b=some .fly then some (oo,some off)else g.sr b)=none;rw[if_neg]
   · exact a6
   · intro e; exact b0 (O.fr.prv b _ e).2.2
theorem a7L {x:AV} {v:Value} {mine:Nat→Prop}:OwnC g w mine x.weak1 v:=by intro xs e;cases x<;>simp[AV.weak1]at e
theorem RelL.set {cs:List AV} {us:List Value} {k:Nat} {x:AV} {v:Value} (h:RelL g w cs us) (hu:us[k]?=some v) (J:Rel g w x v):RelL g w (cs.set k x) us:=by
 refine RelL.of_get (by simpa using h.length) fun i y u z l=>?_
 by_cases e:i=k
 · subst e;rw[hu]at l;simp only[AD]at l;subst l;have C:i < cs.length:=by rw[h.length]; exact(AB.1 hu).1
   rw[List.getElem?_set_self C]at z;simp only[AD]at z;subst z;exact J
 · rw[List.getElem?_set_ne (Ne.symm e)]at z;obtain⟨L,t,I⟩:=h.get z;rw[l]at t;simp only[AD]at t;subst t;exact I
theorem b2N {mine:Nat→Prop} {x:AV} {v:Value} (h:Rel g w x v) (l:v.oneCell'=true) (t:OwnC g w mine x v):ArgOK g w bx fr mine x v:=by
 cases x
 case agg cs =>simp only[Rel]at h;obtain⟨y,rfl,_⟩:=h;simp[Value.oneCell']at l
 case loc=>simp[Rel]at h
 case box=>simp[Rel]at h
 all_goals exact⟨h,t,fun _ e=>(by cases e)⟩
theorem a1H {t:TypeId} {x:Operand} {bb f:Nat} {v:Value} (l:o.op=.load t x) (e:B6 c t=some false) (y:a.eval x=.pointer (some (ad bb f))) (u:w.cell? (ad bb f)=some v) :
 (execOp a.eval o).run c.P w=.ok (.value v) w:=by
 simp[execOp,l,y,Instr.loadAt,Instr.sureAddr,loadVar,a2N c rfl e,u]
theorem b9B (fx:Fx c) (h:S c g w pr bx σ a) {i s off:Nat} (hs:c.slots[i]?=some s) {t:TypeId} {x:Operand} {cs:List AV} {z:AV} {p:Dst} (ho:o.op=.load t x) (a1:B6 c t=some false)
 (hb:σ.fr.getD i .undef=.box cs) (hz:cs[off]?=some z) (hx:a.eval x=.pointer (some (ad (bx i) off))) (hd:s7 c o.dst p=true) {next:Act→World→Prop} {Q:Exit→Act→World→Prop}
 (L:Post c g w a (p.put z { σ with fr:=σ.fr.set i (.box (cs.set off z.weak1)) }) next):o.wp c.P a w next Q:=by
 have U:i < σ.fr.length:=by rw[h.fr.len]; exact(AB.1 hs).1
 have J:=h.fr.var i s hs;rw[hb]at J;obtain⟨W,N,a4,arr,T,hh,I,l,C⟩:=J;obtain⟨v,hv,Z⟩:=I.get hz;have O:arr[off]?=some v:=by simpa using hv
 have h1:v.oneCell'=true:=l v (by rw[Array.mem_toList_iff]; exact Array.mem_of_getElem? O);have Y:=a1H (c:=c) (o:=o) ho a1 hx (by rw[cell_of_row w _ off arr T _ hh]; exact O);have M:=C off z v hz O;have a0:RelL g w (cs.set off z.weak1) arr.toList:=I.set hv Z.weak1;have hS:S c g w (mvp pr (.cell i off) p.pl) bx { σ with fr:=σ.fr.set i (.box (cs.set off z.weak1)) } a:=by
  refine⟨h.fr.change (·≠.cell i off) (Ext.refl g w) (fun b q hq a5=>⟨a0Z hq a5,rfl,fun _ x=>x⟩) (fun b q hq=>?_) (fun j t' ht=>?_) (fun t' ht=>.inl ⟨by simp,rfl⟩) (by simp) (fun j ds hj=>?_) (fun j ds hj=>?_),h.st,h.gl,h.fresh,h.stA⟩
  · obtain⟨q',a6⟩:=a8T hq;exact h.fr.prv b q' a6
  · by_cases e:j=i
    · subst e;obtain rfl:t'=s:=Option.some.inj (ht.symm.trans hs);right;rw[q7 U];refine⟨W,a0Z N (by simp),a4,arr,T,hh,a0,l,fun k y u hy hu=>?_⟩;by_cases ek:k=off
      · subst ek;rw[List.getElem?_set_self (AB.1 hz).1]at hy;simp only[AD]at hy;subst hy;exact a7L
      · rw[List.getElem?_set_ne (Ne.symm ek)]at hy;exact(C k y u hy hu).mono fun b' a2=>⟨a0Z a2 (by simp[ek]),rfl,fun _ x=>x⟩
    · left;exact⟨⟨by simp,by simp,by simp[e]⟩,l7 e⟩
  · by_cases e:j=i
    · subst e; exact⟨_,q7 U⟩
    · exact⟨ds,by rw[l7 e]; exact hj⟩
  · by_cases e:j=i
    · subst e; exact h.fr.bxs j _ hb
    · rw[l7 e]at hj; exact h.fr.bxs j ds hj
 unfold Oper.wp;rw[Y];exact L _ _ g _ bx (C2 _ _ _) (a0x fx hS hd (mine:=fun b=>mvp pr (.cell i off) p.pl b=some p.pl) (b2N Z h1 (M.mono fun b hb=>⟨b4A hb,rfl,fun _ x=>x⟩)) fun _ x=>x) (Tr.refl _ _ _)
noncomputable def Gh.give (g:Gh) (oo off:Nat):Gh:={ g with sr:=fun b=>if g.sr b=some (oo,some off)then none else g.sr b }
theorem b9F (fx:Fx c) (h:S c g w pr bx σ a) {oo off:Nat} {t:TypeId} {x:Operand} {cs:List AV} {z:AV} {p:Dst} (ho:o.op=.load t x) (a7:B6 c t=some false)
 (L:σ.st[oo]?=some (.cells cs)) (hz:cs[off]?=some z) (hx:a.eval x=.pointer (some (ad (g.m oo) off))) (hd:s7 c o.dst p=true) {next:Act→World→Prop} {Q:Exit→Act→World→Prop}
 (U:Post c g w a (p.put z { σ with st:=σ.st.set oo (.cells (cs.set off z.weak1)) }) next):o.wp c.P a w next Q:=by
 have b3:oo < g.n:=by rw[h.st.n]; exact(AB.1 L).1
 obtain⟨Y,b0,arr,T,hh,b1,O,M,N⟩:=h.st.obj oo _ L;obtain⟨v,hv,a2⟩:=O.get hz;have a6:arr[off]?=some v:=by
  rw[List.getElem?_take]at hv;split at hv
  · simpa using hv
  · cases hv
 have h1:v.oneCell'=true:=M v (List.mem_of_getElem? hv);have a1:=a1H (c:=c) (o:=o) ho a7 hx (by rw[cell_of_row w _ off arr T _ hh]; exact a6);have W:=N off z v hz a6;let g2:=g.give oo off
 let pr2:Nat→Option Pl:=fun b=>if g.sr b=some (oo,some off)then some p.pl else pr b
 have he:Ext g w g2 w:=⟨AK _,fun _ _=>rfl,fun _ _=>rfl,fun _ _ x=>x,fun _ _ _=>rfl⟩;have l:∀ b,L1 g w g2 w b:=fun b=>⟨rfl,fun _ x=>x⟩
 have a5:RelL g w (cs.set off z.weak1) (arr.toList.take (cs.set off z.weak1).length):=by rw[Ab]; exact O.set hv a2.weak1
 have I:∀ b Z k,g.sr b=some (Z,k)→(Z≠oo∨k≠some off)→g2.sr b=some (Z,k):=fun b Z k L b2=>by
  show(if g.sr b=some (oo,some off)then none else g.sr b)=_;rw[if_neg]
  · exact L
  · rw[L]; intro e;simp only[AD,AJ]at e;rcases b2 with h1|h1
    · exact h1 e.1
    · exact h1 e.2
 have a0:∀ b q,pr b=some q→pr2 b=some q:=fun b q C=>by
  simp only[pr2];rw[if_neg]
  · exact C
  · rw[(h.fr.prv b q C).1]; simp
 have hS:S c g2 w pr2 bx { σ with st:=σ.st.set oo (.cells (cs.set off z.weak1)) } a:=by
  refine⟨h.fr.change (fun _=>True) he (fun b q C _=>⟨a0 b q C,l b⟩) (fun b q C=>?_) (fun j t' ht=>.inl ⟨⟨trivial,trivial,fun _=>trivial⟩,rfl⟩) (fun t' ht=>.inl ⟨trivial,rfl⟩) rfl (fun j ds hj=>⟨ds,hj⟩) h.fr.bxs,
   ⟨?_,fun Z ob J=>?_,fun b q C=>?_,h.st.cli⟩,h.gl.ext he,h.fresh,fun b q C=>?_⟩
  · simp only[pr2]at C;show(if g.sr b=some (oo,some off)then none else g.sr b)=none∧_;split at C
    · rename_i e;exact⟨by rw[if_pos e],h.st.inn b _ e,h.stA b _ e⟩
    · rename_i e;obtain⟨q1,q2,q3⟩:=h.fr.prv b q C;exact⟨by rw[if_neg e]; exact q1,q2,q3⟩
  · show g.n=_;rw[Ab]; exact h.st.n
  · by_cases e:Z=oo
    · subst e;rw[List.getElem?_set_self (by rw[← h.st.n]; exact b3)]at J;simp only[AD]at J;subst J;refine⟨I _ _ _ Y (.inr (by simp)),b0,arr,T,hh,b1,a5.ext he _ _,by rw[Ab]; exact M,fun k y u hy hu=>?_⟩;by_cases ek:k=off
      · subst ek;rw[List.getElem?_set_self (AB.1 hz).1]at hy;simp only[AD]at hy;subst hy;exact a7L
      · rw[List.getElem?_set_ne (Ne.symm ek)]at hy;exact(N k y u hy hu).mono fun b' a9=>⟨I b' _ _ a9 (.inr (by simp[ek])),l b'⟩
    · rw[List.getElem?_set_ne (Ne.symm e)]at J;exact(h.st.obj Z ob J).mono (by rw[h.st.n]; exact(AB.1 J).1) he fun b k L=>⟨I b _ _ L (.inl e),l b⟩
  · simp only[g2,Gh.give]at C;split at C
    · cases C
    · exact h.st.inn b q C
  · simp only[g2,Gh.give]at C;split at C
    · cases C
    · exact h.stA b q C
 have b4:Tr c.A g w g2 w:=⟨he,AK _,Env.refl w,fun b _ a4 _=>⟨l b,by show(if g.sr b=some (oo,some off)then none else g.sr b)=none;rw[if_neg (by rw[a4]; simp)]; exact a4⟩⟩;unfold Oper.wp;rw[a1];refine U _ _ g2 pr2 bx (C2 _ _ _) (a0x fx hS hd (mine:=fun b=>pr2 b=some p.pl) (b2N (a2.ext he) h1 (W.mono fun b L=>⟨?_,l b⟩)) fun _ x=>x) b4;simp only[pr2];rw[if_pos L]
end
end Go.Cb
namespace Go.Cb
open Classical
section
variable {c:Cx} {g:Gh} {w:World} {pr:Nat→Option Pl} {bx:Nat→Nat} {σ:Sig} {a:Act} {o:Oper} {call:d8} {b b' r:AV} {st st':St} {fr as:List AV}
theorem a9x {us vs:List Value} {bb f:Nat} (h:w.rangeAt bb f us) (l:w.rangeAt bb (f+us.length) vs):w.rangeAt bb f (us++vs):=by
 intro j v e;by_cases t:j < us.length
 · rw[List.getElem?_append_left t]at e; exact h j v e
 · rw[List.getElem?_append_right (by omega)]at e;have:=l _ v e;rw[show f+us.length+(j - us.length)=f+j by omega]at this;exact this
theorem RelRows.vals {bb sz:Nat}:∀ {xs:List (List AV)} {f:Nat},RelRows g w bb f sz xs →
 ∃ us,us.length=xs.length*sz∧RelL g w xs.flatten us∧w.rangeAt bb f us∧(∀ u∈us,u.oneCell'=true)∧∀ j,j < us.length→g.cl bb (f+j)
 | [],f,_=>⟨[],by simp,by simp[RelL],fun j v h=>by simp at h,by simp,by simp⟩
 | x::xs,f,h=>by
  simp only[RelRows]at h;obtain⟨y,z,C⟩:=h;obtain⟨us,t,J,L,M⟩:=z.vals;obtain⟨vs,v0,N,v2,v3,v4⟩:=RelRows.vals C;have l:us.length=sz:=by rw[← t.length]; exact y
  refine⟨us++vs,by rw[AF,l,v0,AY,Nat.succ_mul]; omega,by rw[List.flatten_cons]; exact t.append N,a9x J (by rw[l]; exact v2),fun u hu=>?_,fun j I=>?_⟩
  · rcases AQ.1 hu with hu|hu
    · exact L u hu
    · exact v3 u hu
  · rw[AF]at I;by_cases e:j < us.length
    · exact M j e
    · have:=v4 (j - us.length) (by omega);rw[show f+sz+(j - us.length)=f+j by omega]at this;exact this
theorem RelCells.mk {bb:Nat}:∀ {cs:List AV} {us:List Value} {f:Nat},RelL g w cs us→w.rangeAt bb f us→(∀ u∈us,u.oneCell'=true)→(∀ j,j < us.length→g.cl bb (f+j))→RelCells g w bb f cs
 | [],_,_,_,_,_,_=>by simp[RelCells]
 | x::cs,us,f,h,hr,h1,hc=>by
  simp only[RelL]at h;obtain⟨v,us,rfl,e,l⟩:=h;simp only[RelCells];refine⟨⟨v,by simpa using hr 0 v rfl,h1 v (by simp),by simpa using hc 0 (by simp),e⟩,RelCells.mk l (fun j u hu=>?_) (fun u hu=>h1 u (by simp[hu])) (fun j t=>?_)⟩
  · have:=hr (j+1) u (by simpa using hu);rw[show f+(j+1)=f+1+j by omega]at this;exact this
  · have:=hc (j+1) (by simp; omega);rw[show f+(j+1)=f+1+j by omega]at this;exact this
theorem RelRows.mk {bb sz:Nat}:∀ {xs:List (List AV)} {us:List Value} {f:Nat},(∀ x∈xs,x.length=sz)→RelL g w xs.flatten us→w.rangeAt bb f us→(∀ u∈us,u.oneCell'=true)→(∀ j,j < us.length→g.cl bb (f+j))→RelRows g w bb f sz xs
 | [],_,_,_,_,_,_,_=>by simp[RelRows]
 | x::xs,us,f,hx,h,hr,h1,hc=>by
  have l:=hx x (by simp);rw[List.flatten_cons]at h;have t:RelL g w x (us.take sz):=by
   have:=h.take sz
   rwa [List.take_append_of_le_length (by omega),List.take_of_length_le (by omega)]at this
  have v:RelL g w xs.flatten (us.drop sz):=by
   have:=h.drop sz
   rwa [List.drop_append_of_le_length (by omega),List.drop_of_length_le (by omega),List.nil_append]at this
  simp only[RelRows];refine⟨l,RelCells.mk t (fun j u hu=>?_) (fun u hu=>h1 u (List.mem_of_mem_take hu)) (fun j e=>hc j (by rw[AP]at e; omega)),RelRows.mk (fun y z=>hx y (by simp[z])) v (fun j u hu=>?_) (fun u hu=>h1 u (List.mem_of_mem_drop hu)) (fun j e=>?_)⟩
  · rw[List.getElem?_take]at hu;split at hu
    · exact hr j u hu
    · cases hu
  · rw[List.getElem?_drop]at hu;have:=hr _ u hu;rw[show f+(sz+j)=f+sz+j by omega]at this;exact this
  · rw[List.length_drop]at e;have:=hc (sz+j) (by omega);rw[show f+(sz+j)=f+sz+j by omega]at this;exact this
def Gh.claim (g:Gh) (bb e hi:Nat):Gh:={ g with cl:=fun b' f=>g.cl b' f∨(b'=bb∧e≤f∧f < hi) }
theorem R1 {P:Program} (t ty e:TypeId) (i:TypeInfo) (T:TypeId) (U:P.underlying t=some (.slice e)) (hi:P.info? e=some i)
 (C l x:Nat) (v:Array Value) (N:w.heap[C]?=some (.cells v T (0,0)))
 (a1:Addr) (m c1:Nat) (news:List Value) (O:news.length=m*i.size) (y:∀ j u,news[j]?=some u→w.cell? (a1.add j)=some u) (L:∀ u∈news,u.oneCell'=true)
 (z:l+m≤x) (I:l*i.size+news.length≤v.size) :
 (Builtin.append_ #[t,t] ty #[.slice (some ⟨C,0,none⟩) l x,.slice (some a1) m c1]).run P w =
  .ok (.slice (some ⟨C,0,none⟩) (l+m) x) (w.setRow C (v.toList.take (l*i.size)++news++v.toList.drop (l*i.size+news.length)).toArray):=by
 have M:=run_firstCells_some (P:=P) w i.size m a1 m c1 news O y;have J:=run_storeCells_at P C (l*i.size) T news 0 v w N (by simpa using I) L;simp only[Nat.add_zero]at J;simp[Builtin.append_,run_underlying U,sizeOf,typeInfo,hi,Builtin.lenOf,z,M,Addr.add_lit,J]
theorem a0M {P:Program} (t ty e:TypeId) (i:TypeInfo) (v:P.underlying t=some (.slice e)) (hi:P.info? e=some i) (a0 a1:Option Addr) (n cap c1:Nat) (l:n≤cap) :
 (Builtin.append_ #[t,t] ty #[.slice a0 n cap,.slice a1 0 c1]).run P w=.ok (.slice a0 n cap) w:=by
 have u:(Builtin.firstCells i.size 0 (.slice a1 0 c1)).run P w=.ok #[] w:=by
  cases a1 with
  | none=>rfl
  | some x=>simp[Builtin.firstCells,loadCells,loadCellsFrom]
 cases a0<;>simp[Builtin.append_,run_underlying v,sizeOf,typeInfo,hi,Builtin.lenOf,l,u,storeCells]
theorem Z9 {t:TypeId} {x y:Operand} {at_:Array TypeId} (z:o.op=.call { callee:=.builtin .append,args:=#[x,y],argTypes:=at_ }) (e:at_=#[t,t]) {v u l:Value} {w':World}
 (C:a.eval x=v) (I:a.eval y=u) (h:(Builtin.append_ #[t,t] o.type #[v,u]).run c.P w=.ok l w'):(execOp a.eval o).run c.P w=.ok (.value l) w':=by
 subst e;unfold execOp;simp only[z,resolve,invoke,builtin,Sem.run_bind,Sem.run_pure,Result.andThen_ok,List.map_toArray,AH,AM,C,I,h]
theorem a3Q (T:Fx c) (h:S c g w pr bx σ a) {od:Option Tmp} {d:Dst} (C:s7 c od d=true) (I:od.isSome=true) {g2:Gh} {J:World} {pr2:Nat→Option Pl} (O:Ext g w g2 J) (L:SRel g2 J st')
 (hm:∀ b p,pr b=some p→p≠d.pl→pr2 b=some p∧L1 g w g2 J b) (y:∀ b p,pr2 b=some p→g2.sr b=none∧b < J.heap.size∧c.A b) (M:w.heap.size≤J.heap.size) (z:∀ b p,g2.sr b=some p→c.A b)
 {v:Value} (hr:ArgOK g2 J bx σ.fr (fun b=>pr2 b=some d.pl) r v):S c g2 J pr2 bx { d.put r σ with st:=st' } (a.put od v):=by
 unfold s7 at C;split at C
 · simp at I
 · rename_i s s';simp only[AA,beq_iff_eq,decide_eq_true_eq]at C;obtain⟨⟨rfl,hn⟩,Z⟩:=C;have U:=h.fr.put_t (P7 hn) Z (a:=.undef) (v:=v) ValOK.undef;refine⟨?_,L,h.gl.ext O,fun b u=>h.fresh b (Nat.le_trans M u),z⟩;refine U.change (·≠.tmp s) O (fun b p u W=>hm b p u W) y (fun j t N=>.inl ⟨⟨by simp,by simp,by simp⟩,rfl⟩) (fun t N=>?_) rfl (fun j cs l=>⟨cs,l⟩) h.fr.bxs;by_cases e:t=s
   · subst e;right;rw[K0 (by rw[h.fr.size]; exact Z)];simp only[Dst.put,C4,Nat.beq_refl,if_true];exact hr.tmp (σ:=σ) fun _ x=>x
   · left;exact⟨by simpa using e,by simp[Dst.put,C4,e]⟩
 · rename_i s i;simp only[AA,beq_iff_eq]at C;obtain⟨Y,u⟩:=C;have u:=P7 u;have hi:i < σ.fr.length:=by rw[h.fr.len]; exact(AB.1 Y).1
   have U:=h.fr.put_v T.nd T.lt Y u (a:=.undef) (v:=v) ValOK.undef (by simp);refine⟨?_,L,h.gl.ext O,fun b u=>h.fresh b (Nat.le_trans M u),z⟩;refine U.change (·≠.var i) O (fun b p u W=>hm b p u W) y (fun j t N=>?_) (fun t N=>.inl ⟨by simp,rfl⟩) (by simp[Dst.put]) (fun j cs l=>?_) (fun j cs l=>?_)
   · by_cases e:j=i
     · subst e;obtain rfl:t=s:=Option.some.inj (N.symm.trans Y);right;rw[K0 (by rw[h.fr.size]; exact T.lt t (List.mem_of_getElem? N))];simp only[Dst.put];rw[q7 hi];exact hr.var (σ:=σ) fun _ x=>x
     · left;exact⟨⟨by simp[e],by simp,by simp⟩,by simp only[Dst.put]; rw[l7 e,l7 e]⟩
   · by_cases e:j=i
     · subst e; rw[q7 hi]at l; cases l
     · rw[l7 e]at l;exact⟨cs,by simp only[Dst.put]; rw[l7 e]; exact l⟩
   · by_cases e:j=i
     · subst e;simp only[Dst.put]at l;rw[q7 hi]at l;cases r<;>simp[AV.strip]at l
     · simp only[Dst.put]at l;rw[l7 e]at l;exact h.fr.bxs j cs l
 · cases C
theorem b0P {sz:Nat} {xs:List (List AV)} {bb f l:Nat} (h:l5 sz xs=true) (u:RelRows g w bb f l xs):∀ r∈xs,r.length=sz:=by
 cases xs with
 | nil=>simp
 | cons x xs =>have t:=u.all;simp only[l5,beq_iff_eq]at h;have v:=t x (by simp);intro r e;rw[t r e]; omega
theorem a9L {own:Bool} {xs:List (List AV)} {v:Value} {sz:Nat} (h:Rel g w (.list own xs) v) (J:l5 sz xs=true) :
 ∃ a0 cap us,v=.slice a0 xs.length cap∧xs.length≤cap∧(a0=none→cap=0)∧us.length=xs.length*sz∧RelL g w xs.flatten us∧(∀ u∈us,u.oneCell'=true)∧(∀ r∈xs,r.length=sz) ∧
  (∀ a1,a0=some a1→∀ (j:Nat) u,us[j]?=some u→w.cell? (a1.add j)=some u)∧(xs≠[]→∃ bb f,a0=some (ad bb f)∧w.rangeAt bb f us∧∀ j,j < us.length→g.cl bb (f+j)):=by
 simp only[Rel]at h;obtain⟨a0,n,cap,rfl,rfl,y,C,L⟩:=h;cases xs with
 | nil=>exact⟨a0,cap,[],rfl,y,C,by simp,by simp[RelL],by simp,by simp,fun _ _ j u hu=>by simp at hu,fun h=>absurd rfl h⟩
 | cons x xs =>
  obtain⟨bb,f,z,rfl,l⟩:=L (by simp);have t:=b0P J l;obtain rfl:z=sz:=by have U:=l.all x (by simp); have W:=t x (by simp); omega
  obtain⟨us,M,N,I,O,T⟩:=l.vals;refine⟨_,cap,us,rfl,y,C,M,N,O,t,fun a1 e j u hu=>?_,fun _=>⟨bb,f,rfl,I,T⟩⟩;simp only[AD]at e;subst e;rw[Addr.add_ad];exact I j u hu
theorem a7r (fx:Fx c) (h:S c g w pr bx σ a) {t e sz bytes:Nat} {i:TypeInfo} {z:Value} {x y:Operand} {p0:Opd} {d:Dst} {at_:Array TypeId}
 (ho:o.op=.call { callee:=.builtin .append,args:=#[x,y],argTypes:=at_ }) (c7:at_=#[t,t]) (hu:c.P.underlying t=some (.slice e)) (hi:c.P.info? e=some i) (hz:i.zero=some z) (h0:i.size=sz) (f9:i.bytes=bytes)
 (h7:z.cells.size=sz) (f8:0 < bytes) (g5:D5 c x p0=true) (hd:s7 c o.dst d=true) (b5:o.dst.isSome=true) {xs ys:List (List AV)}
 (e0:p0.read σ=.list true xs) (hY:∃ a1 J vs,a.eval y=.slice a1 ys.length J∧ys.length≤J∧(a1=none→J=0)∧vs.length=ys.length*sz∧RelL g w ys.flatten vs∧(∀ u∈vs,u.oneCell'=true)∧(∀ r∈ys,r.length=sz)∧(∀ a2,a1=some a2→∀ (j:Nat) u,vs[j]?=some u→w.cell? (a2.add j)=some u)∧(ys≠[]→∃ bb f,a1=some (ad bb f))) (g6:l5 sz xs=true) (L:(xs.length+ys.length)*bytes≤2 ^ 47)
 {next:Act→World→Prop} {Q:Exit→Act→World→Prop} (a5:Post c g w a (d.put (.list true (xs++ys)) (p0.spend σ)) next):o.wp c.P a w next Q:=by
 subst h0; subst f9;have f5:(2:Nat) ^ 47=140737488355328:=by decide
 rw[f5]at L;obtain⟨b1,Z,hA,_⟩:=N8 h g5 d.pl;rw[e0]at hA;have hA:ValOK g w (fun b=>b1 b=some d.pl) (.list true xs) (a.eval x):=hA;obtain⟨a0,cap,us,ev,g1,e9,ul,ur,u1,ux,uc,ub⟩:=a9L hA.rel g6;obtain⟨a1,J,vs,eu,_,g3,vl,vr,v1,vx,vc,vb⟩:=hY;have a7:∀ r∈xs++ys,r.length=i.size:=fun r hr=>by
  rcases AQ.1 hr with hr|hr
  · exact ux r hr
  · exact vx r hr
 have c0:xs.length+ys.length≤140737488355328:=Nat.le_trans (Nat.le_mul_of_pos_right _ f8) L;unfold Oper.wp;by_cases c2:ys=[]
 · subst c2;have U:=Z9 (c:=c) (w:=w) ho c7 ev eu (a0M (P:=c.P) t o.type e i hu hi a0 a1 xs.length cap J g1);rw[U,List.append_nil]at *
   rw[← ev];exact a5 _ _ g b1 bx (C2 _ _ _) (a0x fx Z hd hA fun _ x=>x) (Tr.refl _ _ _)
 · have hm:0 < ys.length:=List.length_pos_iff.2 c2;obtain⟨b8,f1,rfl⟩:=vb c2;have d6:=vc _ rfl;have a9:(p0.spend σ).st=σ.st:=by cases p0<;>rfl
   by_cases a6:xs.length+ys.length≤cap
   · -- there is room
     rcases hA.own xs rfl with⟨a',n',h'⟩|⟨M,n',l,h8,arr,T,h',a4,b7,h6,hh,c3,d1,e3⟩
     · rw[ev]at h';simp only[Value.slice.injEq]at h';omega
     · rw[ev]at h';simp only[Value.slice.injEq]at h';obtain⟨rfl,rfl,rfl⟩:=h';obtain rfl:h8=i.size:=by
        cases xs with
        | nil=>exact absurd rfl b7
        | cons x0 xs=>have h1:=h6 x0 (by simp); have h2:=ux x0 (by simp); omega
       have e6:xs.length*i.size+vs.length≤arr.size:=by rw[vl,c3,← Nat.add_mul]; exact Nat.mul_le_mul_right _ a6
       have U:=Z9 (c:=c) (w:=w) ho c7 ev eu (R1 (P:=c.P) (w:=w) t o.type e i T hu hi M xs.length cap arr hh (ad b8 f1) ys.length J vs vl d6 v1 a6 e6);have hN:(xs.length+ys.length)*i.size=xs.length*i.size+vs.length:=by rw[Nat.add_mul,vl]
       generalize f7:xs.length*i.size=N at *
       have e2:arr.toList.length=arr.size:=by simp
       generalize W:arr.toList.take N++vs++arr.toList.drop (N+vs.length)=new at *
       have g4:new.length=arr.size:=by rw[← W]; simp only[AF,AP,List.length_drop,e2]; omega
       have h3:(arr.toList.take N).length=N:=by rw[AP,e2]; omega
       have d2:=Z.fr.prv M _ a4;let g2:=g.claim M N (N+vs.length)
       have d0:∀ b f,g.cl b f→(w.setRow M new.toArray).cell? (ad b f)=w.cell? (ad b f):=fun b f O=>by
        by_cases eb:b=M
        · subst eb;have d3:f < N:=Nat.lt_of_not_le fun b2=>e3 f b2 O
          rw[cell_of_row _ b f new.toArray T (0,0) (setRow_heap w b arr _ T _ hh),cell_of_row w b f arr T (0,0) hh,List.getElem?_toArray,← W,AX,
           List.getElem?_append_left (by omega),List.getElem?_take,if_pos d3,Array.getElem?_toList]
        · exact a1v _ eb
       have he:Ext g w g2 (w.setRow M new.toArray):=⟨AK _,fun _ _=>rfl,fun _ _=>rfl,fun b f O=>.inl O,d0⟩;have I:∀ b,b≠M→L1 g w g2 (w.setRow M new.toArray) b:=fun b L=>⟨setRow_other w _ b _ L,fun f O=>by
        rcases O with O|⟨e,_⟩
        · exact O
        · exact absurd e L⟩
       have f0:∀ b q,g.sr b=some q→b≠M:=fun b q hq e=>by rw[e,d2.1]at hq; cases hq
       have Y:(w.setRow M new.toArray).rangeAt M N vs:=fun j u hu'=>by
        have hj:j < vs.length:=(AB.1 hu').1;show(w.setRow M new.toArray).cell? (ad M (N+j))=some u;rw[cell_of_row _ M _ new.toArray T (0,0) (setRow_heap w M arr _ T _ hh),List.getElem?_toArray,← W,AX,
         List.getElem?_append_right (by omega),h3,List.getElem?_append_left (by omega)]
        rw[show N+j - N=j by omega];exact hu'
       obtain⟨bb,f,f4,g7,e4⟩:=ub b7;have d7:M=bb∧0=f:=by simpa[ad]using f4
       obtain⟨rfl,rfl⟩:=d7;have b4:Rel g2 (w.setRow M new.toArray) (.list true (xs++ys)) (.slice (some (ad M 0)) (xs.length+ys.length) cap):=by simp only[Rel];refine⟨_,_,_,rfl,by rw[AF],a6,fun h=>(by cases h),fun _=>⟨M,0,i.size,rfl,?_⟩⟩;refine(RelRows.ext he _ _ _ _ (RelRows.mk ux ur g7 u1 e4)).append ?_;rw[f7,Nat.zero_add];exact RelRows.mk vx (vr.ext he _ _) Y v1 (fun j hj=>.inr ⟨rfl,by omega,by omega⟩)
       have b3:Own g2 (w.setRow M new.toArray) (fun b=>b1 b=some d.pl) (xs++ys) (.slice (some (ad M 0)) (xs.length+ys.length) cap) :=
        .inr ⟨M,_,cap,i.size,new.toArray,T,rfl,a4,by simp[b7],a7,setRow_heap w M arr _ T _ hh,by simp[g4,c3],d1,fun f O hc=>by
         rcases hc with hc|⟨_,_,hc⟩
         · exact e3 f (by omega) hc
         · omega⟩
       rw[U];have b6:SRel g2 (w.setRow M new.toArray) σ.st:=by
        rw[← a9];exact Z.st.evolve he rfl (by simp) (fun b q hq=>⟨hq,I b (f0 b q hq)⟩) (fun _ _ x=>x) (fun b f O=>by
         rcases O with O|⟨e,_⟩
         · exact .inl O
         · right; rw[e]; simpa using d2.2.1)
       refine a5 _ _ g2 b1 bx (C2 _ _ _) ?_ ⟨he,by simp,Env.setRow _ _ _,fun b _ d5 e1=>⟨I b (fun e=>e1 (e ▸ d2.2.2)),d5⟩⟩;have:=a3Q fx Z hd b5 he b6 (pr2:=b1) (fun b p L hp=>⟨L,I b (fun e=>by rw[e,a4]at L; exact hp (Option.some.inj L).symm)⟩)
        (fun b p L=>⟨(Z.fr.prv b p L).1,by simpa using(Z.fr.prv b p L).2.1,(Z.fr.prv b p L).2.2⟩) (by simp) Z.stA (r:=.list true (xs++ys)) (v:=.slice (some (ad M 0)) (xs.length+ys.length) cap)
        ⟨b4,fun zs ez=>(by cases ez; exact b3),fun _ ez=>(by cases ez)⟩
       have c6:∀ (q:Sig),q.st=σ.st→({ d.put (.list true (xs++ys)) q with st:=σ.st }:Sig)=d.put (.list true (xs++ys)) q:=fun q hq=>by cases d<;>simp[Dst.put,← hq]
       rw[c6 _ a9]at this;exact this
   · -- a new row
     obtain⟨C,l,U,hC,f6,c8,d1⟩:∃ (C:Array Value) (l:Nat),(Builtin.append_ #[t,t] o.type #[.slice a0 xs.length cap,.slice (some (ad b8 f1)) ys.length J]).run c.P w =
      .ok (.slice (some (ad w.heap.size 0)) (xs.length+ys.length) l) (w.drew.alloc (.cells C e))∧C.toList.take ((xs.length+ys.length)*i.size)=us++vs∧C.size=l*i.size∧xs.length+ys.length≤l∧l≤maxLen:=by
      have d4:xs.length+ys.length≤maxLen:=by unfold maxLen; omega
      have b2:=grownCap_ge w (xs.length+ys.length) cap e;have e7:(us++vs).length=(xs.length+ys.length)*i.size:=by rw[AF,ul,vl,Nat.add_mul]
      have f3:∀ k,(Builtin.zeroCells z.cells k).size=k*i.size:=fun k=>by rw[size_zeroCells,h7]
      cases a0 with
      | none =>
       have g0:=e9 rfl;have h5:xs=[]:=List.eq_nil_of_length_eq_zero (by omega);subst h5;subst g0;have h4:us=[]:=List.eq_nil_of_length_eq_zero (by simpa using ul);subst h4;simp only[List.length_nil,Nat.zero_add]at b2 L c0 d4 ⊢;refine⟨_,_,run_append_nil (P:=c.P) w t o.type e i z hu hi hz (ad b8 f1) ys.length J vs vl d6 hm (by omega) (by omega),?_,?_,b2,grownCap_le_maxLen w ys.length 0 e d4⟩
       · rw[Array.toList_append,List.toList_toArray,List.nil_append,← vl,List.take_left]
       · rw[Array.size_append,f3,List.size_toArray,vl,← Nat.add_mul];congr 1; omega
      | some b0 =>
       refine⟨_,_,run_append_grow (P:=c.P) w t o.type e i z hu hi hz b0 xs.length cap us ul (uc b0 rfl) (ad b8 f1) ys.length J vs vl d6 (by omega) (by omega) (growslice_fits (by omega) L),?_,?_,b2,grownCap_le_maxLen w _ cap e d4⟩
       · simp only[Array.toList_append,AX];rw[← AX,← e7];exact List.take_left
       · simp only[Array.size_append,List.size_toArray,f3,ul,vl,← Nat.add_mul];congr 1; omega
     have U:=Z9 (c:=c) (w:=w) ho c7 ev eu U;have hN:(xs.length+ys.length)*i.size=us.length+vs.length:=by rw[Nat.add_mul,ul,vl]
     generalize c1:w.drew.alloc (.cells C e)=w2 at *
     have e5:Env w w2:=by rw[← c1];exact(Env.drawn (w:=w) (w':=w.drew) rfl rfl rfl).trans (Env.alloc w.drew _ (by intro c t z e; cases e; rfl))
     have h9:w2.heap.size=w.heap.size+1:=by rw[← c1]; simp
     have W:w2.heap[w.heap.size]?=some (.cells C e (0,0)):=by rw[← c1]; exact heap_alloc_new w.drew _
     have c4:∀ b,b < w.heap.size→w2.heap[b]?=w.heap[b]?:=fun b L=>by rw[← c1]; exact heap_alloc_old w.drew _ L
     let g2:=g.claim w.heap.size 0 (us.length+vs.length)
     have he:Ext g w g2 w2:=⟨AK _,fun _ _=>rfl,fun _ _=>rfl,fun b f O=>.inl O,fun b f O=>World.cell?_of_block (c4 b (Z.st.cli b f O))⟩;have I:∀ b,b < w.heap.size→L1 g w g2 w2 b:=fun b L=>⟨c4 b L,fun f O=>by
      rcases O with O|⟨e',_⟩
      · exact O
      · omega⟩
     have f2:g.sr w.heap.size=none:=by
      cases hq:g.sr w.heap.size with
      | none=>rfl
      | some p=>exact absurd (Z.st.inn _ p hq) (Nat.lt_irrefl _)
     let pr2:Nat→Option Pl:=fun b=>if b=w.heap.size then some d.pl else b1 b
     have Y:w2.rangeAt w.heap.size 0 (us++vs):=fun j u hj=>by
      show w2.cell? (ad w.heap.size (0+j))=some u;rw[Nat.zero_add,cell_of_row w2 _ j C e (0,0) W,← Array.getElem?_toList];rw[← hC,List.getElem?_take]at hj;split at hj
      · exact hj
      · cases hj
     have b4:Rel g2 w2 (.list true (xs++ys)) (.slice (some (ad w.heap.size 0)) (xs.length+ys.length) l):=by
      simp only[Rel];refine⟨_,_,_,rfl,by rw[AF],c8,fun h=>(by cases h),fun _=>⟨w.heap.size,0,i.size,rfl,?_⟩⟩;refine RelRows.mk a7 ?_ Y (fun u hu'=>?_) (fun j hj=>.inr ⟨rfl,by omega,by rw[AF]at hj; omega⟩)
      · rw[List.flatten_append]; exact(ur.ext he _ _).append (vr.ext he _ _)
      · rcases AQ.1 hu' with hu'|hu'
        · exact u1 u hu'
        · exact v1 u hu'
     have b3:Own g2 w2 (fun b=>pr2 b=some d.pl) (xs++ys) (.slice (some (ad w.heap.size 0)) (xs.length+ys.length) l) :=
      .inr ⟨w.heap.size,_,l,i.size,C,e,rfl,by simp[pr2],by simp[c2],a7,W,f6,d1,fun f O hc=>by
       rcases hc with hc|⟨_,_,hc⟩
       · exact absurd (Z.st.cli _ f hc) (Nat.lt_irrefl _)
       · omega⟩
     rw[U];have b6:SRel g2 w2 σ.st:=by
      rw[← a9];exact Z.st.evolve he rfl (by omega) (fun b q hq=>⟨hq,I b (Z.st.inn b q hq)⟩) (fun _ _ x=>x) (fun b f O=>by
       rcases O with O|⟨e',_⟩
       · exact .inl O
       · right; omega)
     refine a5 _ _ g2 pr2 bx (C2 _ _ _) ?_ ⟨he,by omega,e5,fun b L d5 _=>⟨I b L,d5⟩⟩;have:=a3Q fx Z hd b5 he b6 (pr2:=pr2) (fun b p L hp=>by
      have d3:=(Z.fr.prv b p L).2.1;exact⟨by simp only[pr2]; rw[if_neg (by omega)]; exact L,I b d3⟩)
      (fun b p L=>by
       simp only[pr2]at L;split at L
       · rename_i e'; subst e'; exact⟨f2,by omega,Z.fresh _ (AK _)⟩
       · obtain⟨q1,q2,q3⟩:=Z.fr.prv b p L; exact⟨q1,by omega,q3⟩) (by omega) Z.stA (r:=.list true (xs++ys)) (v:=.slice (some (ad w.heap.size 0)) (xs.length+ys.length) l)
      ⟨b4,fun zs ez=>(by cases ez; exact b3),fun _ ez=>(by cases ez)⟩
     have c6:∀ (q:Sig),q.st=σ.st→({ d.put (.list true (xs++ys)) q with st:=σ.st }:Sig)=d.put (.list true (xs++ys)) q:=fun q hq=>by cases d<;>simp[Dst.put,← hq]
     rw[c6 _ a9]at this;exact this
theorem b7P (fx:Fx c) (h:S c g w pr bx σ a) {t e sz bytes:Nat} {i:TypeInfo} {z:Value} {x y:Operand} {p0 p1:Opd} {d:Dst} {at_:Array TypeId}
 (ho:o.op=.call { callee:=.builtin .append,args:=#[x,y],argTypes:=at_ }) (J:at_=#[t,t]) (hu:c.P.underlying t=some (.slice e)) (hi:c.P.info? e=some i) (hz:i.zero=some z) (W:i.size=sz) (M:i.bytes=bytes)
 (Y:z.cells.size=sz) (L:0 < bytes) (N:D5 c x p0=true) (O:O3 c y p1=true) (hd:s7 c o.dst d=true) (v:o.dst.isSome=true) {own:Bool} {xs ys:List (List AV)}
 (Z:p0.read σ=.list true xs) (e1:p1.read σ=.list own ys) (T:l5 sz xs=true) (U:l5 sz ys=true) (hb:(xs.length+ys.length)*bytes≤2 ^ 47)
 {next:Act→World→Prop} {Q:Exit→Act→World→Prop} (l:Post c g w a (d.put (.list true (xs++ys)) (p0.spend σ)) next):o.wp c.P a w next Q:=by
 have I:=P9 h O;rw[e1]at I;have I:ValOK g w No (.list own ys) (a.eval y):=I;obtain⟨a1,C,vs,eu,v0,u,vl,vr,v1,vx,vc,vb⟩:=a9L I.rel U;exact a7r fx h ho J hu hi hz W M Y L N hd v Z ⟨a1,C,vs,eu,v0,u,vl,vr,v1,vx,vc,fun hn=>let ⟨bb,f,e,_⟩:=vb hn; ⟨bb,f,e⟩⟩ T hb l
theorem b2l:∀ cs:List AV,(cs.map fun c=>[c]).flatten=cs
 | []=>rfl
 | c::cs=>by rw[AH,List.flatten_cons,b2l cs]; rfl
theorem b69 (Z:Fx c) (h:S c g w pr bx σ a) {t e bytes:Nat} {i:TypeInfo} {z:Value} {x y:Operand} {p0 p1:Opd} {d:Dst} {at_:Array TypeId}
 (ho:o.op=.call { callee:=.builtin .append,args:=#[x,y],argTypes:=at_ }) (C:at_=#[t,t]) (hu:c.P.underlying t=some (.slice e)) (hi:c.P.info? e=some i) (hz:i.zero=some z) (O:i.size=1) (J:i.bytes=bytes)
 (T:z.cells.size=1) (I:0 < bytes) (L:D5 c x p0=true) (M:O3 c y p1=true) (hd:s7 c o.dst d=true) (u:o.dst.isSome=true) {xs:List (List AV)}
 (U:p0.read σ=.list true xs) (W:p1.read σ=.nils) (N:l5 1 xs=true) (hb:xs.length*bytes≤2 ^ 47)
 {next:Act→World→Prop} {Q:Exit→Act→World→Prop} (l:Post c g w a (d.put (.list true xs) (p0.spend σ)) next):o.wp c.P a w next Q:=by
 have v:=P9 h M;rw[W]at v;have v:ValOK g w No .nils (a.eval y):=v;have Y:a.eval y=.slice none 0 0:=by have hr:=v.rel;simpa[Rel]using hr
 exact a7r (ys:=[]) Z h ho C hu hi hz O J T I L hd u U ⟨none,0,[],Y,AK _,fun _=>rfl,by simp,by simp[RelL],by simp,by simp,by simp,by simp⟩ N (by simpa using hb) (by rw[List.append_nil]; exact l)
theorem c4I (fx:Fx c) (h:S c g w pr bx σ a) {t e bytes:Nat} {i:TypeInfo} {z:Value} {x y:Operand} {p0 p1:Opd} {d:Dst} {at_:Array TypeId}
 (ho:o.op=.call { callee:=.builtin .append,args:=#[x,y],argTypes:=at_ }) (O:at_=#[t,t]) (hu:c.P.underlying t=some (.slice e)) (hi:c.P.info? e=some i) (hz:i.zero=some z) (a6:i.size=1) (W:i.bytes=bytes)
 (a7:z.cells.size=1) (U:0 < bytes) (a1:D5 c x p0=true) (a4:O3 c y p1=true) (hd:s7 c o.dst d=true) (v:o.dst.isSome=true) {xs:List (List AV)} {ob:Nat} {cs:List AV}
 (e0:p0.read σ=.list true xs) (e1:p1.read σ=.sl ob 0 cs.length 1) (Y:σ.st[ob]?=some (.cells cs)) (a5:l5 1 xs=true) (hb:(xs.length+cs.length)*bytes≤2 ^ 47)
 {next:Act→World→Prop} {Q:Exit→Act→World→Prop} (l:Post c g w a (d.put (.list true (xs++cs.map fun c=>[c])) (p0.spend σ)) next):o.wp c.P a w next Q:=by
 have L:=P9 h a4;rw[e1]at L;have L:ValOK g w No (.sl ob 0 cs.length 1) (a.eval y):=L;have N:=L.rel;simp only[Rel]at N;obtain⟨b1,cap,eu,a0,a9⟩:=N;obtain⟨_,_,arr,T,hh,b0,J,I,_⟩:=h.st.obj ob _ Y;have C:(arr.toList.take cs.length).length=cs.length:=J.length.symm;have Z:(cs.map fun c=>[c]).flatten=cs:=b2l cs;refine a7r (ys:=cs.map fun c=>[c]) fx h ho O hu hi hz a6 W a7 U a1 hd v e0 ⟨some (ad (g.m ob) 0),cap,arr.toList.take cs.length,by simpa using eu,by simpa using a0,(by simp),by rw[C,AG,Nat.mul_one],by rw[Z]; exact J,I,?_,?_,fun _=>⟨_,_,rfl⟩⟩ a5 (by simpa using hb) l
 · intro r N;obtain⟨c,_,rfl⟩:=List.mem_map.1 N;rfl
 · intro a2 ea j u M;cases ea;rw[Addr.add_ad,Nat.zero_add];rw[cell_of_row w (g.m ob) j arr T (0,0) hh,← Array.getElem?_toList];rw[List.getElem?_take]at M;split at M
   · exact M
   · cases M
end
end Go.Cb
namespace Go.Cb
open Classical
theorem S8 {sz:Nat}:∀ {rs:List (List AV)},(∀ r∈rs,r.length=sz)→rs.flatten.length=rs.length*sz
 | [],_=>by simp
 | r::rs,h=>by rw[List.flatten_cons,AF,S8 (fun x e=>h x (by simp[e])),h r (by simp),AY,Nat.succ_mul]; omega
theorem a3e {sz:Nat} {c:List AV} (t:c.length=sz):∀ {rs:List (List AV)} {i:Nat},(∀ r∈rs,r.length=sz)→i < rs.length→(rs.set i c).flatten=y8 rs.flatten (i*sz) c
 | [],_,_,h=>by simp at h
 | r::rs,0,hr,_=>by have l:=hr r (by simp);simp only[List.set_cons_zero,List.flatten_cons,y8,Nat.zero_mul,List.take_zero,List.nil_append,Nat.zero_add];rw[List.drop_append_of_le_length (by omega),List.drop_of_length_le (by omega),List.nil_append]
 | r::rs,i+1,hr,h=>by
  have l:=hr r (by simp);have v:=a3e t (rs:=rs) (i:=i) (fun x u=>hr x (by simp[u])) (by simpa using h);simp only[List.set_cons_succ,List.flatten_cons,v,y8];have e:(i+1)*sz=r.length+i*sz:=by rw[Nat.succ_mul]; omega
  have t1:r.take (r.length+i*sz)=r:=List.take_of_length_le (by omega);have t2:r.drop (r.length+i*sz+c.length)=[]:=List.drop_of_length_le (by omega);rw[e,List.take_append,t1,show r.length+i*sz - r.length=i*sz by omega,List.drop_append,t2,show r.length+i*sz+c.length - r.length=i*sz+c.length by omega];simp[AX]
theorem a1S (z:Array Value):∀ len:Nat,((Array.range (len*z.size)).map (z[· % z.size]!)).toList=(List.replicate len z.toList).flatten
 | 0=>by simp
 | len+1=>by
  have t:=a1S z len;rw[Array.toList_map,Array.toList_range]at t ⊢;rw[Nat.succ_mul,List.range_add,AW,t,List.replicate_succ',List.flatten_append];congr 1;rw[List.map_map];simp only[List.flatten_cons,List.flatten_nil,List.append_nil];apply List.ext_getElem
  · simp
  · intro i l u;simp only[AG,List.length_range]at l;simp only[List.getElem_map,List.getElem_range,Function.comp];have e:(len*z.size+i) % z.size=i:=by rw[Nat.add_comm,Nat.add_mul_mod_self_right,Nat.mod_eq_of_lt l]
    rw[e,Array.getElem_toList];exact getElem!_pos z i l
section
variable {c:Cx} {g:Gh} {w:World} {pr:Nat→Option Pl} {bx:Nat→Nat} {σ:Sig} {a:Act} {o:Oper} {call:d8} {b b' r:AV} {st st':St} {fr as:List AV}
theorem a5E {sz:Nat}:∀ {is:List Nat} {ps:List AV} {rs t:List (List AV)} {arr:Array Value} {vs:List Value},
 K5 sz is ps rs=some t→ArgsOK g w bx fr ps vs→(∀ x∈rs,x.length=sz)→RelL g w rs.flatten arr.toList→(∀ u∈arr.toList,u.oneCell'=true) →
 ∃ e,Instr.fill (fun i=>some (i*sz,sz)) arr (is.zip vs)=some e∧(∀ x∈t,x.length=sz)∧RelL g w t.flatten e.toList∧(∀ u∈e.toList,u.oneCell'=true)∧t.length=rs.length
 | [],[],rs,t,arr,vs,h,ha,hr,hl,h1=>by simp only[K5,AD]at h;subst h;exact⟨arr,by simp[Instr.fill],hr,hl,h1,rfl⟩
 | i::is,p::ps,rs,t,arr,vs,h,ha,hr,hl,h1=>by
  simp only[K5]at h;split at h
  · rename_i hc;obtain⟨y,C,hi⟩:=hc;cases ha with
    | cons Y Z =>
     rename_i v vs;have l:=(b2I Y y).weak;have z:(p.cells.map AV.weak1).length=sz:=by simpa using C
     have L:v.cells.toList.length=v.cells.size:=by simp
     have a1:v.cells.size=sz:=by have:=l.rel.length; omega
     have J:=S8 hr;have I:rs.flatten.length=arr.size:=hl.length.trans (by simp);have a0:i*sz+sz≤arr.size:=by rw[← I,J,← Nat.succ_mul]; exact Nat.mul_le_mul_right _ hi
     have hf:=a7s v (i*sz) arr (by omega);obtain⟨M,N⟩:=a5N (off:=i*sz) hl h1 l.rel l.one;rw[L,← hf]at M N;rw[← a3e z hr hi]at M;obtain⟨e,O,e2,T,U,W⟩:=a5E h Z (fun x hx=>by
      rcases List.mem_or_eq_of_mem_set hx with hx|hx
      · exact hr x hx
      · rw[hx]; exact z) M N
     refine⟨e,?_,e2,T,U,by rw[W,Ab]⟩;simp only[List.zip_cons_cons,Instr.fill];rw[if_neg (by simp; omega)];exact O
  · cases h
 | [],_::_,_,_,_,_,h,_,_,_,_=>by simp[K5]at h
 | _::_,[],_,_,_,_,h,_,_,_,_=>by simp[K5]at h
theorem b7u (fx:Fx c) (h:S c g w pr bx σ a) {t e len sz:Nat} {parts:Array (Nat×Operand)} {L:TypeInfo} {z:Value} {zero rs:List (List AV)} {z1:List AV} {is:List Nat} {d:Dst}
 (ho:o.op=.buildSlice t len parts) (hu:c.P.underlying t=some (.slice e)) (a7:c.P.info? e=some L) (hz:L.zero=some z) (b1:L.size=sz) (U:z.cells.size=sz) (a5:len*sz≤2 ^ 24) (Y:len*sz≠0)
 (b2:E1 z.cells.toList z1=true) (y:zero=List.replicate len z1) (a9:parts.toList.map (·.1)=is) (hr:ArgsOK g w bx σ.fr as (parts.toList.map fun p=>a.eval p.2)) (hs:K5 sz is as zero=some rs)
 (hd:s7 c o.dst d=true) (T:o.dst.isSome=true) {next:Act→World→Prop} {Q:Exit→Act→World→Prop} (O:Post c g w a (d.put (.list true rs) σ) next):o.wp c.P a w next Q:=by
 subst b1; subst a9;obtain⟨q1,q2,_⟩:=J1 b2 g w;have a4:z1.length=L.size:=by rw[q1.length,Array.length_toList]; exact U
 have J:∀ x∈zero,x.length=L.size:=fun x hx=>by rw[y]at hx; rw[List.eq_of_mem_replicate hx]; exact a4
 have N:∀ n,RelL g w (List.replicate n z1).flatten (List.replicate n z.cells.toList).flatten∧∀ u∈(List.replicate n z.cells.toList).flatten,u.oneCell'=true:=by
  intro n;induction n with
  | zero=>simp[RelL]
  | succ n ih =>rw[List.replicate_succ,List.replicate_succ,List.flatten_cons,List.flatten_cons];exact⟨q1.append ih.1,fun u hu=>(AQ.1 hu).elim (q2 u) (ih.2 u)⟩
 have a2:=a1S z.cells len;obtain⟨arr,e1,e2,e3,e4,e5⟩:=a5E (arr:=(Array.range (len*z.cells.size)).map (z.cells[· % z.cells.size]!)) hs hr J (by rw[a2,y]; exact(N len).1) (by rw[a2]; exact(N len).2);rw[U]at e1;rw[← a2U]at e1;have a0:=run_buildSlice (P:=c.P) w t e len (parts.map fun(i,x)=>(i,a.eval x)) arr L z hu a7 hz (by omega) Y (by rw[U,show(parts.map fun(i,x)=>(i,a.eval x)).toList=parts.toList.map fun p=>(p.1,a.eval p.2)by simp]; exact e1);have M:rs.length=len:=by rw[e5,y,List.length_replicate]
 have b3:arr.toList.length=len*L.size:=by rw[← e3.length,S8 e2,M]
 let g2:=g.claim w.heap.size 0 (len*L.size)
 have W:=heap_alloc_new w (_root_.Go.Obj.cells arr e);have he:Ext g w g2 (w.alloc (.cells arr e)):=⟨AK _,fun _ _=>rfl,fun _ _=>rfl,fun b f C=>.inl C,fun b f C=>World.cell?_alloc_lt _ _ _ (h.st.cli b f C)⟩;have l:∀ b,b < w.heap.size→L1 g w g2 (w.alloc (.cells arr e)) b:=fun b I=>⟨heap_alloc_old w _ I,fun f C=>by
  rcases C with C|⟨e',_⟩
  · exact C
  · omega⟩
 have Z:Rel g2 (w.alloc (.cells arr e)) (.list true rs) (.slice (some (ad w.heap.size 0)) len len):=by simp only[Rel];refine⟨_,_,_,rfl,M.symm,AK _,fun h=>(by cases h),fun _=>⟨w.heap.size,0,L.size,rfl,?_⟩⟩;refine RelRows.mk e2 (e3.ext he _ _) (fun j u hj=>?_) e4 (fun j hj=>.inr ⟨rfl,by omega,by omega⟩);show(w.alloc (.cells arr e)).cell? (ad w.heap.size (0+j))=some u;rw[Nat.zero_add,cell_of_row _ _ j arr e (0,0) W,← Array.getElem?_toList];exact hj
 unfold Oper.wp;rw[show(execOp a.eval o).run c.P w=.ok (.value (.slice (some ⟨w.heap.size,0,none⟩) len len)) (w.alloc (.cells arr e))by simp only[execOp,ho,Sem.run_bind,a0,Result.andThen_ok,Sem.run_pure]];have a1:SRel g2 (w.alloc (.cells arr e)) σ.st:=h.st.evolve he rfl (by simp) (fun b q hq=>⟨hq,l b (h.st.inn b q hq)⟩) (fun _ _ x=>x) (fun b f C=>by
  rcases C with C|⟨e',_⟩
  · exact .inl C
  · right; simp; omega)
 refine O _ _ g2 pr bx (C2 _ _ _) ?_ ⟨he,by simp,Env.alloc w _ (by intro c t z e; cases e; rfl),fun b I b0 _=>⟨l b I,b0⟩⟩;have:=a3Q fx h hd T he a1 (pr2:=pr) (fun b p I _=>⟨I,l b (h.fr.prv b p I).2.1⟩)
  (fun b p I=>⟨(h.fr.prv b p I).1,by have:=(h.fr.prv b p I).2.1; simp; omega,(h.fr.prv b p I).2.2⟩) (by simp) h.stA (r:=.list true rs) (v:=.slice (some ⟨w.heap.size,0,none⟩) len len)
  ⟨Z,fun zs _=>.inl ⟨_,_,rfl⟩,fun _ ez=>(by cases ez)⟩
 have a6:({ d.put (.list true rs) σ with st:=σ.st }:Sig)=d.put (.list true rs) σ:=by cases d<;>simp[Dst.put]
 rw[a6]at this;exact this
theorem RelM.length {es:List (AV×AV)} {l:List MapEntry} (h:RelM g w es l):es.length=l.length:=by
 induction h with
 | nil=>rfl
 | cons _ _ _ _ e=>simp[e]
theorem RelM.push {es:List (AV×AV)} {l:List MapEntry} (h:RelM g w es l) {k v:AV} {e:MapEntry} (t:Rel g w k e.key) (x:Rel g w v e.val) (u:v.weak=v):RelM g w (es++[(k,v)]) (l++[e]):=by
 induction h with
 | nil=>exact .cons t x u .nil
 | cons a1 a2 a3 _ y=>exact .cons a1 a2 a3 y
theorem RelM.set {es:List (AV×AV)} {l:List MapEntry} (h:RelM g w es l):∀ {i:Nat} {k v:AV} {e:MapEntry},Rel g w k e.key→Rel g w v e.val→v.weak=v→RelM g w (es.set i (k,v)) (l.set i e):=by
 induction h with
 | nil=>intro i k v e _ _ _; exact .nil
 | cons a1 a2 a3 a4 y =>
  intro i k v e t x u;cases i with
  | zero=>exact .cons t x u a4
  | succ i=>exact .cons a1 a2 a3 (y t x u)
theorem L3 (x:AV):x.weak.weak=x.weak:=by cases x<;>simp only[AV.weak];rw[List.map_map];congr 1;apply List.map_congr_left;intro y _;cases y<;>rfl
theorem b03 {d:TypeDesc} {u v:Value} (h:Instr.sameNow d u v=some true) (n:Nat):Instr.sameBits n v u=true:=by
 unfold Instr.sameNow at h;split at h
 · split at h
   · rename_i e;simp only[AD,beq_iff_eq]at h;subst e; subst h;simp[Instr.sameBits]
   · cases h
 · simp only[AD]at h;rw[MapKept.bytes_beq]at h;subst h;simp only[Instr.sameBits];rw[MapKept.bytes_beq]
 · simp only[AD,beq_iff_eq]at h;subst h;simp[Instr.sameBits]
 · cases h
theorem b3V (h:S c g w pr bx σ a) {t kt et oo T:Nat} {m k x:Operand} {I xv:AV} {es Z:List (AV×AV)} (ho:o.op=.mapUpdate t m k x∨o.op=.insert t m k x) (hu:c.P.underlying t=some (.map kt et)) (hk:K4 c.P T kt=true)
 (N:σ.st[oo]?=some (.map es)) (hm:a.eval m=.map (some (g.m oo))) (d0:ArgOK g w bx σ.fr No I (a.eval k)) (d2:ArgOK g w bx σ.fr No xv (a.eval x)) (hp:xv.plain=true) (hd:o.dst=none)
 (O:(match K7 T I es 0 with
  | some (some (i,_))=>some (es.set i (I,xv.weak))
  | some none=>(T9 T I I).bind fun _=>some (es++[(I,xv.weak)])
  | none=>none)=some Z) {next:Act→World→Prop} {Q:Exit→Act→World→Prop} (a6:Post c g w a { σ with st:=σ.st.set oo (.map Z) } next):o.wp c.P a w next Q:=by
 have d1:oo < g.n:=by rw[h.st.n]; exact(AB.1 N).1
 obtain⟨d,a0⟩:∃ d,c.P.underlying kt=some d:=by
  unfold K4 at hk;cases hd:c.P.underlying kt with
  | none=>simp[hd]at hk
  | some d=>exact⟨d,rfl⟩
 obtain⟨C,b7,ents,clock,hh,a2⟩:=h.st.obj oo _ N;have b4:=MapKept.run_getObj_map (P:=c.P) hh;have b1:=a2q (P:=c.P) (w:=w) hk false (a.eval k);have c3:=(d2.plain hp).rel.weak;have b5:(∃ z,T9 T I I=some z)∨es≠[]→∃ y z,T9 T I y=some z:=by
  rintro(⟨z,hz⟩|hne)
  · exact⟨I,z,hz⟩
  · cases es with
    | nil=>exact absurd rfl hne
    | cons e es =>
     obtain⟨k0,v0⟩:=e;cases M:T9 T I k0 with
     | none=>simp[K7,M]at O
     | some z=>exact⟨k0,z,M⟩
 have a5:Rel g w I (a.eval k):=by
  have:∃ y z,T9 T I y=some z:=by
   apply b5;cases es with
   | nil =>
    left;simp only[K7]at O;cases M:T9 T I I with
    | none=>simp[M]at O
    | some z=>exact⟨z,rfl⟩
   | cons=>right; simp
  obtain⟨y,z,hz⟩:=this;exact d0.rel (fun i f e=>by subst e; simp[T9]at hz) (fun cs e=>by subst e; simp[T9]at hz)
 -- the new row of entries
 obtain⟨u,l,c2,c1⟩:∃ (u:Array MapEntry) (l:Nat),(execOp a.eval o).run c.P w=.ok .skip { w with heap:=w.heap.setIfInBounds (g.m oo) (.map u l) }∧RelM g w Z u.toList:=by
  have c4:∀ W',(Instr.mapUpdate t (.map (some (g.m oo))) (a.eval k) (a.eval x)).run c.P w=.ok () W'→(execOp a.eval o).run c.P w=.ok .skip W':=fun W' hW=>by rcases ho with ho|ho<;>simp only[execOp,ho,hm,Sem.run_bind,hW,Result.andThen_ok,Sem.run_pure]
  have Y:=fun(ob:_root_.Go.Obj)=>MapKept.run_setObj_map (P:=c.P) ob hh
  cases U:K7 T I es 0 with
  | none=>simp[U]at O
  | some r0 =>
   have b6:=a4Y a0 hk a5 a2 U;cases r0 with
   | none =>
    simp only[U]at O;obtain⟨z,_,O⟩:=Option.bind_eq_some_iff.1 O;simp only[AD]at O;subst O;have a4:=MapKept.run_findKey (P:=c.P) (w:=w) a0 b6;refine⟨ents.push { key:=a.eval k,val:=a.eval x,born:=clock },clock+1,c4 _ ?_,?_⟩
    · simp[Instr.mapUpdate,run_underlying hu,b4,b1,a4,Y]
    · rw[Array.toList_push];exact a2.push a5 c3 (L3 _)
   | some p =>
    obtain⟨i,v⟩:=p;simp only[U,AD]at O;subst O;obtain⟨e,a1,_,c6,_,_,c7⟩:=b6;simp only[Nat.sub_zero]at a1;have a4:=MapKept.run_findKey (P:=c.P) (w:=w) a0 c6;have b2:ents[i]?=some e:=by simpa using a1
    have c8:(Instr.keyThatStays e.key (a.eval k)).run c.P w=.ok (a.eval k) w:=by simp[Instr.keyThatStays,b03 c7]
    refine⟨ents.modify i fun e=>{ e with key:=a.eval k,val:=a.eval x },clock,c4 _ ?_,?_⟩
    · simp[Instr.mapUpdate,run_underlying hu,b4,b1,a4,Y,b2,c8]
    · have hl:(ents.modify i fun e=>{ e with key:=a.eval k,val:=a.eval x }).toList=ents.toList.set i { e with key:=a.eval k,val:=a.eval x }:=by
       apply List.ext_getElem?;intro j;rw[Array.getElem?_toList,Array.getElem?_modify,List.getElem?_set];by_cases ej:i=j
       · subst ej;rw[if_pos rfl,if_pos rfl,b2];rw[if_pos (by simpa using(AB.1 a1).1)];rfl
       · rw[if_neg ej,if_neg ej,Array.getElem?_toList]
      rw[hl];exact a2.set a5 c3 (L3 _)
 have b3:Env w { w with heap:=w.heap.setIfInBounds (g.m oo) (.map u l) }:=by
  refine⟨rfl,rfl,fun a _=>?_⟩;unfold World.frozen?;by_cases eb:a.block=g.m oo
  · rw[eb,(MapKept.heap_set hh).1,hh]
  · rw[(MapKept.heap_set hh).2 a.block eb]
 generalize b0:({ w with heap:=w.heap.setIfInBounds (g.m oo) (.map u l) }:World)=w2 at *
 have b8:w2.heap[g.m oo]?=some (.map u l):=by rw[← b0]; exact(MapKept.heap_set hh).1
 have W:∀ b,b≠g.m oo→w2.heap[b]?=w.heap[b]?:=fun b N=>by rw[← b0]; exact(MapKept.heap_set hh).2 b N
 have a9:w2.heap.size=w.heap.size:=by rw[← b0]; simp
 have he:Ext g w g w2:=⟨AK _,fun _ _=>rfl,fun _ _=>rfl,fun _ _ x=>x,fun b f U=>World.cell?_of_block (W b fun e=>b7 f (e ▸ U))⟩;have J:∀ b,b≠g.m oo→L1 g w g w2 b:=fun b N=>⟨W b N,fun _ x=>x⟩
 have c0:∀ b q,pr b=some q→b≠g.m oo:=fun b q M e=>by have:=(h.fr.prv _ _ M).1;rw[e,C]at this; cases this
 unfold Oper.wp;rw[c2];simp only[Oper.upon,hd,Act.put];refine a6 a _ g pr bx rfl ⟨?_,⟨?_,fun o' ob L=>?_,fun b q M=>by rw[a9]; exact h.st.inn b q M,fun b f U=>by rw[a9]; exact h.st.cli b f U⟩,h.gl.ext he,fun b N=>h.fresh b (by omega),h.stA⟩
  ⟨he,by omega,b3,fun b _ a7 _=>⟨J b (fun e=>by rw[e,C]at a7; cases a7),a7⟩⟩
 · exact h.fr.change (fun _=>True) he (fun b q M _=>⟨M,J b (c0 b q M)⟩) (fun b q M=>by rw[a9]; exact h.fr.prv b q M) (fun j t' ht=>.inl ⟨⟨trivial,trivial,fun _=>trivial⟩,rfl⟩) (fun t' ht=>.inl ⟨trivial,rfl⟩) rfl (fun j ds hj=>⟨ds,hj⟩) h.fr.bxs
 · rw[Ab]; exact h.st.n
 · by_cases e:o'=oo
   · subst e;rw[List.getElem?_set_self (by rw[← h.st.n]; exact d1)]at L;simp only[AD]at L;subst L;exact⟨C,b7,u,l,b8,c1.ext he⟩
   · rw[List.getElem?_set_ne (Ne.symm e)]at L;refine(h.st.obj o' ob L).mono (by rw[h.st.n]; exact(AB.1 L).1) he fun b k N=>⟨N,J b fun e2=>?_⟩
     rw[e2,C]at N;simp only[AD,AJ]at N;exact e N.1.symm
end
end Go.Cb
