import Derived.Test.YthbikoodicigeaaGreatDoorWps1
import Derived.Test.YthbikoodicigeaaGreatDoorAns1
import Derived.Deep.RegionHeld
import Derived.Test.YthbikoodicigeaaGreatDoorQuX
import Derived.Test.YthbikoodicigeaaGreatDoorMb0
import Derived.Test.YthbikoodicigeaaGreatDoorMdo
import Derived.Test.YthbikoodicigeaaGreatDoorMask
import Derived.Test.YthbikoodicigeaaGreatDoorMdo2
import Derived.Test.YthbikoodicigeaaGreatDoorMT
/-
 awake: a state that grew out of nothing, through calls of the machine's and steps of the world's.
-/
set_option maxRecDepth 100000
set_option linter.unusedVariables false
namespace Go.Cb.CodeA
open Go Go.Cb Go.Proofs Go.RowKit
structure AI (w0:World) (g:Gh) (W:World) (st:St):Prop where
 rel:SRel g W st
 tr:Tr No (gh0 w0) w0 g W
 gl:Globs gts g W
theorem AI.start {g:Gh} {w:World} (hs:SRel g w []) (hg:Globs gts g w):AI w (gh0 w) w [] :=
 ⟨srel0 w,Tr.refl _ _ _,hg.ext ⟨by rw [hs.n]; exact Nat.zero_le _,fun o ho=>by rw [hs.n] at ho; exact absurd ho (Nat.not_lt_zero _),fun o ho=>by rw [hs.n] at ho; exact absurd ho (Nat.not_lt_zero _),fun b f hc=>hs.cli b f hc,fun _ _ _=>rfl⟩⟩
theorem AI.size {w0:World} {g:Gh} {W:World} {st:St} (h:AI w0 g W st):w0.heap.size≤W.heap.size:=h.tr.size
theorem AI.new {w0:World} {g:Gh} {W:World} {st:St} (h:AI w0 g W st) {b:Nat} (hb:W.heap.size≤b):Un g b:=by
 refine ⟨?_,fun f hf=>absurd (h.rel.cli _ _ hf) (by omega)⟩
 cases hs:g.sr b with
 | none=>rfl
 | some p=>exact absurd (h.rel.inn _ _ hs) (by omega)
/-- what a call of the machine's leaves -/
structure AS (w0:World) (g:Gh) (W:World) (st':St) (r:AV) (e:Ending) (W':World) (v:Value) (g':Gh):Prop where
 ret:e=.returned v
 ai:AI w0 g' W' st'
 val:Rel g' W' r v
 un:∀ b,b < W.heap.size→Un g b→W'.heap[b]?=W.heap[b]?∧Un g' b
 size:W.heap.size≤W'.heap.size
 ext:Ext g W g' W'
theorem AI.call {w0:World} {g:Gh} {W:World} {st:St} {f:Nat} {xs:List AV} {r:AV} {st':St} (h:AI w0 g W st) (hev:Ev tbl1 f xs st r st') (hw:∀ x∈xs,x.weak=x) (hv:vf f=f) {vs:List Value} (hr:RelL g W xs vs) :
 Calls Tryz.prog f vs.toArray W (fun e W'=>∃ v g',AS w0 g W st' r e W' v g') :=
 (amT hev hw hv h.rel h.gl hr).mono fun e W' ⟨v,g',he,hS,ht,hvv⟩=>⟨v,g',he,⟨hS,h.tr.trans ht,h.gl.ext ht.ext⟩,hvv.rel,fun b hb hu =>
  let k:=ht.keep b hb hu.1 (fun x=>x)
  ⟨k.1.1,k.2,fun f hf=>hu.2 f (k.1.2 f hf)⟩,ht.size,ht.ext⟩
/-- a step of the world's -/
theorem AI.put {w0:World} {g:Gh} {W W':World} {st:St} (h:AI w0 g W st) (hs:W.heap.size≤W'.heap.size) (he:Env W W') (hk:∀ b,b < W.heap.size→W'.heap[b]?=W.heap[b]?∨(Un g b∧w0.heap.size≤b)):AI w0 g W' st∧Ext g W g W':=by
 have hk':∀ b,b < W.heap.size→(g.sr b≠none∨∃ f,g.cl b f)→W'.heap[b]?=W.heap[b]?:=fun b hb hc=>(hk b hb).resolve_right fun ⟨⟨h3,h4⟩,_⟩=>by
  rcases hc with hc|⟨f,hc⟩
  · exact hc h3
  · exact h4 f hc
 have hE:Ext g W g W':=⟨Nat.le_refl _,fun _ _=>rfl,fun _ _=>rfl,fun _ _ c=>c,fun b f hc=>by
  unfold World.cell?
  rw [hk' b (h.rel.cli _ _ hc) (.inr ⟨f,hc⟩)]⟩
 refine ⟨⟨h.rel.other hs hk',h.tr.other h.rel he hs (fun b hb hc=>?_),h.gl.ext hE⟩,hE⟩
 rcases hc with hc|⟨f,hc⟩
 · exact (hk b hb).resolve_right fun ⟨_,h5⟩=>by omega
 · exact hk' b hb (.inr ⟨f,hc⟩)
/-- at the end: a truth value, and all that was there is there -/
theorem AI.done {w0:World} {g g1:Gh} {W:World} {st:St} (hs:SRel g w0 []) (h:AI w0 g1 W st) (b:Bool) {e:Ending} (he:e=.returned (.bool b)):CallPost g w0 [] (.bool b) e W:=by
 have hold:∀ k,k < w0.heap.size→W.heap[k]?=w0.heap[k]?:=fun k hk=>(h.tr.keep k hk rfl fun x=>x).1.1
 have hk:∀ k,k < w0.heap.size→(g.sr k≠none∨∃ f,g.cl k f)→W.heap[k]?=w0.heap[k]?:=fun k hk _=>hold k hk
 refine ⟨.bool b,g,he,hs.other h.size hk,(Tr.refl No g w0).other hs h.tr.env h.size (fun k hk _=>hold k hk),ValOK.mk' (by simp only [Rel]) (by simp) (by simp)⟩
end Go.Cb.CodeA
/-
 the replica's View, where one mutation waits.
-/
set_option maxRecDepth 100000
set_option linter.unusedVariables false
set_option linter.unusedSimpArgs false
namespace Go.Cb.CodeA
open Go Go.Cb Go.Proofs Go.RowKit Go.Shelf Go.Conc
theorem AI.stp {w0:World} {g:Gh} {W W':World} {st:St} {C:Nat} (h:AI w0 g W st) (hs:Stp C W W') (hu:Un g C) (hC:w0.heap.size≤C):AI w0 g W' st∧Ext g W g W' :=
 h.put hs.size ⟨hs.os,hs.out⟩ fun b hb=>by
  by_cases e:b=C
  · subst e; exact .inr ⟨hu,hC⟩
  · exact .inl (hs.keep b hb e)
/-- the replica, its queue, and what the queue holds -/
structure QS (w0:World) (C S:Nat) (buf:Array Value) (g:Gh) (W:World):Prop where
 base:w0.heap.size≤C
 q:W.heap[C+1]?=some (.cells #[.chan (some C),.int .u64 0] 126 (0,0))
 r:W.heap[C+2]?=some (.cells #[.pointer (some ⟨S,0,none⟩),.slice none 0 0,.slice none 0 0,.slice none 0 0,.int .u64 0,.pointer (some ⟨C+1,0,none⟩)] 81 (0,0))
 c:∃ s r,W.heap[C]?=some (.chan 4 buf false s r false)
 u:∀ b,b=C∨b=C+1∨b=C+2→Un g b
theorem QS.lt {w0:World} {C S:Nat} {buf:Array Value} {g:Gh} {W:World} (h:QS w0 C S buf g W):C+2 < W.heap.size:=(Array.getElem?_eq_some_iff.1 h.r).1
theorem QS.cell {w0:World} {C S:Nat} {buf:Array Value} {g:Gh} {W:World} (h:QS w0 C S buf g W) (i:Nat) (v:Value) (hv:(#[.pointer (some ⟨S,0,none⟩),.slice none 0 0,.slice none 0 0,.slice none 0 0,.int .u64 0,.pointer (some ⟨C+1,0,none⟩)]:Array Value)[i]?=some v):W.cell? ⟨C+2,i,none⟩=some v:=by
 simp only [World.cell?,h.r]
 simpa using hv
theorem QS.stp {w0:World} {C S:Nat} {buf buf':Array Value} {g:Gh} {W W':World} (h:QS w0 C S buf g W) (hs:Stp C W W') (hc:∃ s r,W'.heap[C]?=some (.chan 4 buf' false s r false)):QS w0 C S buf' g W' :=
 ⟨h.base,(hs.keep _ (by have:=h.lt; omega) (by omega)).trans h.q,(hs.keep _ h.lt (by omega)).trans h.r,hc,h.u⟩
theorem QS.same {w0:World} {C S:Nat} {buf:Array Value} {g g':Gh} {W W':World} (h:QS w0 C S buf g W) (hs:∀ b,b=C∨b=C+1∨b=C+2→W'.heap[b]?=W.heap[b]?∧Un g' b):QS w0 C S buf g' W':=by
 obtain ⟨s,r,hc⟩:=h.c
 exact ⟨h.base,(hs _ (by simp)).1.trans h.q,(hs _ (by simp)).1.trans h.r,⟨s,r,(hs _ (by simp)).1.trans hc⟩,fun b hb=>(hs b hb).2⟩
theorem QS.call {w0:World} {C S:Nat} {buf:Array Value} {g g':Gh} {W W':World} {st':St} {r v:_} {e:Ending} (h:QS w0 C S buf g W) (ha:AS w0 g W st' r e W' v g'):QS w0 C S buf g' W' :=
 h.same fun b hb=>ha.un b (by have:=h.lt; omega) (h.u b hb)
/-- a view that tells what is in the store -/
structure VA (w0:World) (C S:Nat) (buf:Array Value) (st':St) (o:Nat) (g:Gh) (W:World) (e:Ending) (W':World) (g':Gh) (b:Addr) (cp:Nat):Prop where
 ret:e=.returned (.agg #[.slice (some b) 1 cp,.bool false,.slice none 0 0])
 ai:AI w0 g' W' st'
 val:Rel g' W' (.sl o 0 1 4) (.slice (some b) 1 cp)
 qs:QS w0 C S buf g' W'
 un:∀ k,k < W.heap.size→Un g k→k≠C→W'.heap[k]?=W.heap[k]?∧Un g' k
 size:W.heap.size≤W'.heap.size
 ext:Ext g W g' W'
theorem view_ai {w0:World} {C S:Nat} {g:Gh} {w:World} {st st':St} {o:Nat} {a:AV} (doc:ByteArray) (ds:List Nat) (hdoc:doc.data.toList.map UInt8.toNat=ds) (hA:AI w0 g w st) (hQ:QS w0 C S #[mM doc] g w) (h2:2 < g.n) (hS:S=g.m 2)
 (hev:Ev tbl1 42 [.ptr 2 0,.agg [.nils],.str ds,V40] st (.tuple [.agg [.sl o 0 1 4],a]) st') :
 Calls Tryz.prog 22 #[.pointer (some ⟨C+2,0,none⟩)] w fun e W'=>∃ g' b cp,VA w0 C S #[mM doc] st' o g w e W' g' b cp:=by
 obtain ⟨s,r,hc⟩:=hQ.c
 have hlt:=hQ.lt
 refine (view_g doc C S s r w (fun W W' b cp=>∃ g',AI w0 g' W' st'∧Rel g' W' (.sl o 0 1 4) (.slice (some b) 1 cp)∧(∀ k,k < W.heap.size→Un g k→W'.heap[k]?=W.heap[k]?∧Un g' k)∧W.heap.size≤W'.heap.size∧Ext g W g' W') hQ.q hQ.r hc ?_).mono ?_
 · intro W s' r' hst hch
   obtain ⟨hA',hE⟩:=hA.stp hst (hQ.u C (by simp)) hQ.base
   refine (hA'.call hev (fun x hx=>?_) (by decide) (vs:=[.pointer (some ⟨S,0,none⟩),.agg #[.slice none 0 0],.string doc,vE]) ?_).mono ?_
   · simp only [List.mem_cons,List.not_mem_nil,or_false] at hx
     rcases hx with rfl|rfl|rfl|rfl <;> rfl
   · subst hS
     simp only [RelL,Rel,V40]
     refine ⟨_,_,rfl,⟨h2,rfl⟩,_,_,rfl,⟨_,rfl,⟨_,_,rfl,rfl,rfl⟩,by simp [Value.oneCell']⟩,_,_,rfl,⟨_,rfl,hdoc⟩,_,_,rfl,⟨_,rfl,⟨_,_,rfl,rfl,_,_,rfl,rfl,_,_,rfl,⟨_,rfl,rfl⟩,_,_,rfl,⟨none,0,0,rfl,rfl,by simp,by simp,by simp⟩,_,_,rfl,⟨none,0,0,rfl,rfl,by simp,by simp,by simp⟩,rfl⟩,by simp [Value.oneCell']⟩,rfl⟩
   · rintro e W' ⟨v,g',hs⟩
     have hv:=hs.val
     simp only [Rel,RelL] at hv
     obtain ⟨ar,rfl,v1,l1,hl,⟨ar1,rfl,⟨v2,l2,hl2,⟨hn,cp,rfl,h3,h4⟩,rfl⟩,_⟩,v3,l3,rfl,_,rfl⟩:=hv
     obtain ⟨l⟩:=ar
     obtain ⟨l'⟩:=ar1
     simp only at hl hl2
     subst hl; subst hl2
     exact ⟨⟨_,cp,v3,hs.ret,g',hs.ai,by simp only [Rel]; exact ⟨hn,cp,rfl,h3,h4⟩,hs.un,hs.size,hs.ext⟩,hs.size,fun k hk hk'=>(hs.un k hk (by
      rcases hk' with hk'|hk'
      · exact hA.new hk'
      · exact hQ.u k hk')).1⟩
 · rintro e W' ⟨W2,W3,b,cp,rfl,hst,hs22,hch,⟨g',hA3,hv,hun,hsz,hE⟩,hsz3,hos,hout,hk⟩
   have hs2:=hst.size
   have hsz0:=hA.size
   have hunew:∀ k,w.heap.size≤k→k < W2.heap.size→Un g' k:=fun k h1 h2=>(hun k h2 (hA.new h1)).2
   obtain ⟨hA4,hE4⟩:=hA3.put (W':=W') hsz3 ⟨hos,hout⟩ (fun k hkk=>by
    by_cases e1:k=w.heap.size
    · exact .inr ⟨hunew k (by omega) (by omega),by omega⟩
    by_cases e2:k=w.heap.size+1
    · exact .inr ⟨hunew k (by omega) (by omega),by omega⟩
    exact .inl (hk k hkk e1 e2))
   obtain ⟨hA2,hE2⟩:=hA.stp hst (hQ.u C (by simp)) hQ.base
   have hQ2:QS w0 C S #[mM doc] g W2:=hQ.stp hst hch
   have hks:∀ k,k < w.heap.size→Un g k→W'.heap[k]?=W2.heap[k]?∧Un g' k:=fun k h1 h2=>by
    have h3:=hun k (by omega) h2
    exact ⟨(hk k (by omega) (by omega) (by omega)).trans h3.1,h3.2⟩
   refine ⟨g',b,cp,rfl,hA4,hv.ext hE4,hQ2.same fun k hk'=>hks k (by have:=hQ.lt; omega) (hQ.u k hk'),fun k h1 h2 h3=>?_,by omega,hE2.trans (hE.trans hE4)⟩
   exact ⟨(hks k h1 h2).1.trans (hst.keep k h1 h3),(hks k h1 h2).2⟩
end Go.Cb.CodeA
/-
 the replica's Ask, where one mutation waits.
-/
set_option maxRecDepth 100000
set_option linter.unusedVariables false
set_option linter.unusedSimpArgs false
namespace Go.Cb.CodeA
open Go Go.Cb Go.Proofs Go.RowKit Go.Shelf Go.Conc
/-- seven cells of a block are stored -/
abbrev set7 (W:World) (p:Nat) (x0 x1 x2 x3 x4 x5 x6:Value):World:=((((((W.setCell ⟨p,0,none⟩ x0).setCell ⟨p,1,none⟩ x1).setCell ⟨p,2,none⟩ x2).setCell ⟨p,3,none⟩ x3).setCell ⟨p,4,none⟩ x4).setCell ⟨p,5,none⟩ x5).setCell ⟨p,6,none⟩ x6
theorem set7_heap (W:World) (p k:Nat) (x0 x1 x2 x3 x4 x5 x6:Value) (h:k≠p):(set7 W p x0 x1 x2 x3 x4 x5 x6).heap[k]?=W.heap[k]?:=by
 simp only [set7]
 repeat rw [Below.heap_setCell _ _ _ _ h]
theorem set7_cell (W:World) (p:Nat) (a:Addr) (x0 x1 x2 x3 x4 x5 x6:Value) (h:a.block≠p):(set7 W p x0 x1 x2 x3 x4 x5 x6).cell? a=W.cell? a:=by
 unfold World.cell?
 rw [set7_heap _ _ _ _ _ _ _ _ _ _ h]
theorem set7_size (W:World) (p:Nat) (x0 x1 x2 x3 x4 x5 x6:Value):(set7 W p x0 x1 x2 x3 x4 x5 x6).heap.size=W.heap.size:=by simp [set7,World.setCell]
theorem setCell_os (W:World) (a:Addr) (v:Value):(W.setCell a v).os=W.os:=rfl
theorem setCell_out (W:World) (a:Addr) (v:Value):(W.setCell a v).output=W.output:=rfl
theorem set7_os (W:World) (p:Nat) (x0 x1 x2 x3 x4 x5 x6:Value):(set7 W p x0 x1 x2 x3 x4 x5 x6).os=W.os:=by simp only [set7,setCell_os]
theorem set7_out (W:World) (p:Nat) (x0 x1 x2 x3 x4 x5 x6:Value):(set7 W p x0 x1 x2 x3 x4 x5 x6).output=W.output:=by simp only [set7,setCell_out]
theorem set7_self (W:World) (p:Nat) (x0 x1 x2 x3 x4 x5 x6 y0 y1 y2 y3 y4 y5 y6:Value) (T:TypeId) (h:W.heap[p]?=some (.cells #[y0,y1,y2,y3,y4,y5,y6] T (0,0))):(set7 W p x0 x1 x2 x3 x4 x5 x6).heap[p]?=some (.cells #[x0,x1,x2,x3,x4,x5,x6] T (0,0)):=by
 simp only [set7,World.setCell,Array.getElem?_modify,h]
 simp
abbrev aV (k n:Int) (x:ByteArray) (a1:Option Addr) (n1 c1:Nat) (a2:Option Addr) (n2 c2:Nat) (a3:Option Addr) (n3 c3:Nat):Array Value:=#[.int .i64 11,.int .u8 k,.int .i64 n,.string x,.slice a1 n1 c1,.slice a2 n2 c2,.slice a3 n3 c3]
theorem ask_end {R:Ending→World→Prop} {t:Array Value} {W3:World} {p:Nat} {x0 x1 x2 x3 x4 x5 x6 y0 y1 y2 y3 y4 y5 y6:Value} (h6:t[6]?=some (.pointer (some ⟨p,0,none⟩))) (hb:W3.heap[p]?=some (.cells #[y0,y1,y2,y3,y4,y5,y6] 49 (0,0))) (hR:R (.returned (.agg #[x0,x1,x2,x3,x4,x5,x6])) (set7 W3 p x0 x1 x2 x3 x4 x5 x6)) :
 bodyPost Tryz.prog Tryz.f13 R .ret ⟨t,[]⟩ (set7 W3 p x0 x1 x2 x3 x4 x5 x6):=by
 have hfin:=set7_self W3 p x0 x1 x2 x3 x4 x5 x6 _ _ _ _ _ _ _ 49 hb
 revert hR
 generalize set7 W3 p x0 x1 x2 x3 x4 x5 x6=W4 at hfin ⊢
 intro hR
 have hcf:∀ (i:Nat) (v:Value),(#[x0,x1,x2,x3,x4,x5,x6]:Array Value)[i]?=some v→W4.cell? ⟨p,i,none⟩=some v:=fun i v hv=>by
  simp only [World.cell?,hfin]; simpa using hv
 have c0:=hcf 0 x0 rfl
 have c1:=hcf 1 x1 rfl
 have c2:=hcf 2 x2 rfl
 have c3:=hcf 3 x3 rfl
 have c4:=hcf 4 x4 rfl
 have c5:=hcf 5 x5 rfl
 have c6:=hcf 6 x6 rfl
 clear hcf hfin
 have e6:t[6]?.getD undef=.pointer (some ⟨p,0,none⟩):=by rw [h6]; rfl
 exact bodyPost_ret (v:=.agg #[x0,x1,x2,x3,x4,x5,x6]) (by simp [results,Tryz.f13,go_sem,e6,h6,c0,c1,c2,c3,c4,c5,c6]) rfl hR
/-- the machine's call that tells the answer -/
structure AQ (w0:World) (st':St) (g:Gh) (W:World) (e:Ending) (W':World) (k n:Int) (x:ByteArray) (a1:Option Addr) (n1 c1:Nat) (a2:Option Addr) (n2 c2:Nat) (a3:Option Addr) (n3 c3:Nat) (g':Gh):Prop where
 ret:e=.returned (.agg (aV k n x a1 n1 c1 a2 n2 c2 a3 n3 c3))
 ai:AI w0 g' W' st'
 un:∀ b,b < W.heap.size→Un g b→W'.heap[b]?=W.heap[b]?∧Un g' b
 size:W.heap.size≤W'.heap.size
 ext:Ext g W g' W'
structure AA (w0:World) (C S:Nat) (buf:Array Value) (st':St) (g:Gh) (W:World) (e:Ending) (W':World):Prop where
 ret:∃ k n x a1 n1 c1 a2 n2 c2 a3 n3 c3,e=.returned (.agg (aV k n x a1 n1 c1 a2 n2 c2 a3 n3 c3))
 st:∃ g',AI w0 g' W' st'∧QS w0 C S buf g' W'∧(∀ k,k < W.heap.size→Un g k→k≠C→W'.heap[k]?=W.heap[k]?∧Un g' k)∧W.heap.size≤W'.heap.size∧Ext g W g' W'
theorem ask_tail {w0 w W1 W2 W3 W4:World} {C S:Nat} {g g2 g3:Gh} {st st'':St} {buf:Array Value} (hA:AI w0 g w st) (hlt:C+2 < w.heap.size) (hst:Stp C w W1) (hE1:Ext g w g W1)
 (hu2:∀ k,k < W1.heap.size→Un g k→k≠C→W2.heap[k]?=W1.heap[k]?∧Un g2 k) (hs2:W1.heap.size≤W2.heap.size) (hE2:Ext g W1 g2 W2) (hA3:AI w0 g3 W3 st'') (hu3:∀ k,k < W2.heap.size→Un g2 k→W3.heap[k]?=W2.heap[k]?∧Un g3 k) (hs3:W2.heap.size≤W3.heap.size) (hE3:Ext g2 W2 g3 W3)
 (hQ3:QS w0 C S buf g3 W3) (hu13:Un g3 (w.heap.size+1)) (hoth:∀ b,b≠w.heap.size+1→W4.heap[b]?=W3.heap[b]?) (hszf:W4.heap.size=W3.heap.size) (hos:W4.os=W3.os) (hou:W4.output=W3.output) :
 ∃ g',AI w0 g' W4 st''∧QS w0 C S buf g' W4∧(∀ k,k < w.heap.size→Un g k→k≠C→W4.heap[k]?=w.heap[k]?∧Un g' k)∧w.heap.size≤W4.heap.size∧Ext g w g' W4:=by
 have hsz0:=hA.size
 have hs1:=hst.size
 obtain ⟨hA4,hE4⟩:=hA3.put (W':=W4) (Nat.le_of_eq hszf.symm) ⟨hos,hou⟩ (fun b hb=>by
  by_cases e1:b=w.heap.size+1
  · subst e1; exact .inr ⟨hu13,by omega⟩
  · exact .inl (hoth b e1))
 refine ⟨g3,hA4,hQ3.same fun b hb=>⟨hoth b (by rcases hb with rfl|rfl|rfl <;> omega),hQ3.u b hb⟩,fun b h1 h2 h3=>?_,by omega,hE1.trans (hE2.trans (hE3.trans hE4))⟩
 have e1:=hu2 b (by omega) h2 h3
 have e2:=hu3 b (by omega) e1.2
 exact ⟨(hoth b (by omega)).trans (e2.1.trans (e1.1.trans (hst.keep b h1 h3))),e2.2⟩
set_option maxHeartbeats 800000 in
theorem ask_ai {w0:World} {C S:Nat} {g:Gh} {w:World} {st st' st'':St} {o:Nat} {a:AV} (doc q:ByteArray) (ds qs:List Nat) (hdoc:doc.data.toList.map UInt8.toNat=ds) (hqs:q.data.toList.map UInt8.toNat=qs) (hA:AI w0 g w st) (hQ:QS w0 C S #[mM doc] g w) (h2:2 < g.n) (hS:S=g.m 2)
 (hev:Ev tbl1 42 [.ptr 2 0,.agg [.nils],.str ds,V40] st (.tuple [.agg [.sl o 0 1 4],a]) st')
 (hev2:Ev tbl1 39 [.ptr 2 0,.agg [.sl o 0 1 4,.bool false,.nils],.str qs,V40] st' R_ask st'') :
 Calls Tryz.prog 13 #[.pointer (some ⟨C+2,0,none⟩),.string q,vE] w (AA w0 C S #[mM doc] st'' g w):=by
 have hlt:=hQ.lt
 have hst:Stp C w ((w.alloc (.cells bE 37)).alloc (.cells #[.int .i64 0,.int .u8 0,.int .i64 0,.string ⟨#[]⟩,.slice none 0 0,.slice none 0 0,.slice none 0 0] 49)).drew:=(((Stp.refl C w).alloc _).alloc _).drew
 obtain ⟨hA1,hE1⟩:=hA.stp hst (hQ.u C (by simp)) hQ.base
 have hQ1:=hQ.stp (buf':=#[mM doc]) hst (by
  obtain ⟨s,r,hc⟩:=hQ.c
  exact ⟨s,r,((Below.heap_alloc _ _ _ (by simp; omega)).trans (Below.heap_alloc _ _ _ (by omega))).trans hc⟩)
 have hvw:=view_ai doc ds hdoc hA1 hQ1 h2 hS hev
 have k0:=hQ.cell 0 (.pointer (some ⟨S,0,none⟩)) rfl
 have hltC:C+2 < w.heap.size:=hlt
 have hb0:((w.alloc (.cells bE 37)).alloc (.cells #[.int .i64 0,.int .u8 0,.int .i64 0,.string ⟨#[]⟩,.slice none 0 0,.slice none 0 0,.slice none 0 0] 49)).drew.heap[w.heap.size]?=some (.cells bE 37 (0,0)):=(Below.heap_alloc _ _ _ (by simp)).trans (heap_alloc_new _ _)
 have hb1:((w.alloc (.cells bE 37)).alloc (.cells #[.int .i64 0,.int .u8 0,.int .i64 0,.string ⟨#[]⟩,.slice none 0 0,.slice none 0 0,.slice none 0 0] 49)).drew.heap[w.heap.size+1]?=some (.cells #[.int .i64 0,.int .u8 0,.int .i64 0,.string ⟨#[]⟩,.slice none 0 0,.slice none 0 0,.slice none 0 0] 49 (0,0)):=by
  have:=heap_alloc_new (w.alloc (.cells bE 37)) (.cells #[.int .i64 0,.int .u8 0,.int .i64 0,.string ⟨#[]⟩,.slice none 0 0,.slice none 0 0,.slice none 0 0] 49)
  rwa [World.size_alloc] at this
 have hz1:((w.alloc (.cells bE 37)).alloc (.cells #[.int .i64 0,.int .u8 0,.int .i64 0,.string ⟨#[]⟩,.slice none 0 0,.slice none 0 0,.slice none 0 0] 49)).drew.heap.size=w.heap.size+1+1:=by
  show ((w.alloc _).alloc _).heap.size=_
  rw [World.size_alloc,World.size_alloc]
 have hu0:Un g w.heap.size:=hA.new (Nat.le_refl _)
 have hu1:Un g (w.heap.size+1):=hA.new (by omega)
 have hask:∀ (W2:World) (g2:Gh) (b:Addr) (cp:Nat),AI w0 g2 W2 st'→Rel g2 W2 (.sl o 0 1 4) (.slice (some b) 1 cp)→g.n≤g2.n→g2.m 2=g.m 2 →
  Calls Tryz.prog 39 #[.pointer (some ⟨S,0,none⟩),.agg #[.slice (some b) 1 cp,.bool false,.slice none 0 0],.string q,vE] W2 fun e W'=>∃ k n x a1 n1 c1 a2 n2 c2 a3 n3 c3 g',AQ w0 st'' g2 W2 e W' k n x a1 n1 c1 a2 n2 c2 a3 n3 c3 g':=by
  intro W2 g2 b cp hA2 hv2 hn hm
  refine (hA2.call hev2 (fun x hx=>?_) (by decide) (vs:=[.pointer (some ⟨S,0,none⟩),.agg #[.slice (some b) 1 cp,.bool false,.slice none 0 0],.string q,vE]) ?_).mono ?_
  · simp only [List.mem_cons,List.not_mem_nil,or_false] at hx
    rcases hx with rfl|rfl|rfl|rfl <;> rfl
  · subst hS
    rw [← hm]
    simp only [RelL,V40]
    refine ⟨_,_,rfl,by simp only [Rel]; exact ⟨by omega,trivial⟩,_,_,rfl,?_,_,_,rfl,by simp only [Rel]; exact ⟨_,rfl,hqs⟩,_,_,rfl,?_,rfl⟩
    · simp only [Rel,RelL] at hv2 ⊢
      exact ⟨_,rfl,⟨_,_,rfl,hv2,_,_,rfl,rfl,_,_,rfl,rfl,rfl⟩,by simp [Value.oneCell']⟩
    · simp only [Rel,RelL]
      exact ⟨_,rfl,⟨_,_,rfl,rfl,_,_,rfl,rfl,_,_,rfl,⟨_,rfl,rfl⟩,_,_,rfl,⟨none,0,0,rfl,rfl,by simp,by simp,by simp⟩,_,_,rfl,⟨none,0,0,rfl,rfl,by simp,by simp,by simp⟩,rfl⟩,by simp [Value.oneCell']⟩
  · rintro e W' ⟨v,g',hs⟩
    have hv:=hs.val
    simp only [Rel,RelL,R_ask] at hv
    obtain ⟨ar,rfl,⟨y0,l0,h0,rfl,y1,l1,rfl,rfl,y2,l2,rfl,rfl,y3,l3,rfl,⟨x,rfl,_⟩,y4,l4,rfl,⟨a1,n1,c1,rfl,_⟩,y5,l5,rfl,⟨a2,n2,c2,rfl,_⟩,y6,l6,rfl,⟨a3,n3,c3,rfl,_⟩,rfl⟩,_⟩:=hv
    obtain ⟨l⟩:=ar
    simp only at h0
    subst h0
    exact ⟨_,_,x,a1,n1,c1,a2,n2,c2,a3,n3,c3,g',hs.ret,hs.ai,hs.un,hs.size,hs.ext⟩
 clear hS hev hev2
 go_enter Tryz.func13,Tryz.ntmps13
 have hne:C≠w.heap.size∧C≠w.heap.size+1:=by omega
 have hcv:∀ W:World,W.heap[w.heap.size]?=some (.cells bE 37 (0,0))→∀ (i:Nat) (v:Value),bE[i]?=some v→W.cell? ⟨w.heap.size,i,none⟩=some v:=fun W h i v hv=>by
  simp only [World.cell?,h]; simpa using hv
 have neA:C+2≠w.heap.size+1:=by omega
 have neB:w.heap.size≠w.heap.size+1:=by omega
 have p0:=hQ1.cell 0 (.pointer (some ⟨S,0,none⟩)) rfl
 have v0:=hcv _ hb0 0 (.int .u8 6) rfl
 have v1:=hcv _ hb0 1 (.int .i64 0) rfl
 have v2:=hcv _ hb0 2 (.string ByteArray.empty) rfl
 have v3:=hcv _ hb0 3 (.slice none 0 0) rfl
 have v4:=hcv _ hb0 4 (.slice none 0 0) rfl
 go_wp2
 go_region_held (fun w'=>w'.cell? ⟨C+2,0,none⟩=some (.pointer (some ⟨S,0,none⟩))∧w'.cell? ⟨w.heap.size,0,none⟩=some (.int .u8 6)∧w'.cell? ⟨w.heap.size,1,none⟩=some (.int .i64 0)∧w'.cell? ⟨w.heap.size,2,none⟩=some (.string ByteArray.empty)∧w'.cell? ⟨w.heap.size,3,none⟩=some (.slice none 0 0)∧w'.cell? ⟨w.heap.size,4,none⟩=some (.slice none 0 0))
  (first|(refine ⟨?_,?_,?_,?_,?_,?_⟩ <;> (with_reducible assumption))|(refine ⟨?_,?_,?_,?_,?_,?_⟩ <;> (refine (set7_cell _ _ _ _ _ _ _ _ _ _ (by first|exact neA|exact neB)).trans ?_; with_reducible assumption)))
  (first
   | (
    go_at_call 22; refine hvw.mono ?_; rintro e W2 ⟨g2,b,cp,rfl,hA2,hv2,hQ2,hu2,hs2,hE2⟩
    have hb02:=(hu2 _ (by omega) hu0 (by omega)).1.trans hb0
    have hb12:=(hu2 _ (by omega) hu1 (by omega)).1.trans hb1
    have hu02:=(hu2 _ (by omega) hu0 (by omega)).2
    have hu12:=(hu2 _ (by omega) hu1 (by omega)).2
    have q0:=hQ2.cell 0 (.pointer (some ⟨S,0,none⟩)) rfl
    have u0:=hcv _ hb02 0 (.int .u8 6) rfl
    have u1:=hcv _ hb02 1 (.int .i64 0) rfl
    have u2:=hcv _ hb02 2 (.string ByteArray.empty) rfl
    have u3:=hcv _ hb02 3 (.slice none 0 0) rfl
    have u4:=hcv _ hb02 4 (.slice none 0 0) rfl)
   | (
    go_at_call 39; refine (hask W2 g2 b cp hA2 hv2 (Nat.le_trans hE1.n hE2.n) (hE2.m 2 h2)).mono ?_; rintro e3 W3 ⟨k,n,x,a1,n1,c1,a2,n2,c2,a3,n3,c3,g3,rfl,hA3,hu3,hs3,hE3⟩
    have hb03:=(hu3 _ (by omega) hu02).1.trans hb02
    have hb13:=(hu3 _ (by omega) hu12).1.trans hb12
    have hu03:=(hu3 _ (by omega) hu02).2
    have hu13:=(hu3 _ (by omega) hu12).2
    have hQ3:=hQ2.same fun k hk=>hu3 k (by have:=hQ2.lt; omega) (hQ2.u k hk)
    have t0:=hQ3.cell 0 (.pointer (some ⟨S,0,none⟩)) rfl
    have w0':=hcv _ hb03 0 (.int .u8 6) rfl
    have w1':=hcv _ hb03 1 (.int .i64 0) rfl
    have w2':=hcv _ hb03 2 (.string ByteArray.empty) rfl
    have w3':=hcv _ hb03 3 (.slice none 0 0) rfl
    have w4':=hcv _ hb03 4 (.slice none 0 0) rfl
    have hf3:∀ i,W3.frozen? ⟨w.heap.size+1,i,none⟩=false:=fun i=>by simp [World.frozen?,hb13]
    have f0:=hf3 0
    have f1:=hf3 1
    have f2:=hf3 2
    have f3:=hf3 3
    have f4:=hf3 4
    have f5:=hf3 5
    have f6:=hf3 6
    have e0:W3.cell? ⟨w.heap.size+1,0,none⟩=some (.int .i64 0):=by simp [World.cell?,hb13]
    have e1:W3.cell? ⟨w.heap.size+1,1,none⟩=some (.int .u8 0):=by simp [World.cell?,hb13]
    have e2:W3.cell? ⟨w.heap.size+1,2,none⟩=some (.int .i64 0):=by simp [World.cell?,hb13]
    have e3:W3.cell? ⟨w.heap.size+1,3,none⟩=some (.string ⟨#[]⟩):=by simp [World.cell?,hb13]
    have e4:W3.cell? ⟨w.heap.size+1,4,none⟩=some (.slice none 0 0):=by simp [World.cell?,hb13]
    have e5:W3.cell? ⟨w.heap.size+1,5,none⟩=some (.slice none 0 0):=by simp [World.cell?,hb13]
    have e6:W3.cell? ⟨w.heap.size+1,6,none⟩=some (.slice none 0 0):=by simp [World.cell?,hb13]
    clear hf3))
 all_goals (
  clear hask hvw f0 f1 f2 f3 f4 f5 f6 e0 e1 e2 e3 e4 e5 e6 w0' w1' w2' w3' w4' t0 u0 u1 u2 u3 u4 q0 v0 v1 v2 v3 v4 p0 hcv k0 hb0 hb1
  go_wp2
  refine ask_end rfl hb13 ⟨⟨k,n,x,a1,n1,c1,a2,n2,c2,a3,n3,c3,rfl⟩,?_⟩
  have T:=fun W4 h1 h2 h3 h4=>ask_tail (W4:=W4) hA hlt hst hE1 hu2 hs2 hE2 hA3 hu3 hs3 hE3 hQ3 hu13 h1 h2 h3 h4
  refine T _ ?_ ?_ ?_ ?_
  · exact fun b hb=>set7_heap W3 _ b _ _ _ _ _ _ _ hb
  · exact set7_size W3 _ _ _ _ _ _ _ _
  · exact set7_os W3 _ _ _ _ _ _ _ _
  · exact set7_out W3 _ _ _ _ _ _ _ _)
end Go.Cb.CodeA
/-
 awake: the document's example.
-/
set_option maxRecDepth 100000
set_option linter.unusedVariables false
set_option linter.unusedSimpArgs false
namespace Go.Cb.CodeA
open Go Go.Cb Go.Proofs Go.RowKit Go.Shelf Go.Conc
open Go.Cb.G
set_option maxHeartbeats 4000000 in
theorem empty_c (w:World):Calls Tryz.prog 8 #[] w fun e w'=>e=.returned vE∧Below w.heap.size w w':=by
 go_enter Tryz.func8,Tryz.ntmps8
 go_wp2
 go_returns
 refine ⟨rfl,?_⟩
 go_grown
set_option maxHeartbeats 4000000 in
theorem new_c (S:Nat) (w:World):Calls Tryz.prog 6 #[.pointer (some ⟨S,0,none⟩),.int .i64 4,.int .u64 0] w fun e w'=>e=.returned (.tuple #[.pointer (some ⟨w.heap.size+2,0,none⟩),.int .i64 0]) ∧
 w'=((w.alloc (.chan 4 #[] false 0 0 false)).alloc (.cells #[.chan (some w.heap.size),.int .u64 0] 126)).alloc (.cells (bR S w.heap.size) 81):=by
 have hq:=qu_in 4 0 (by decide) (by decide) w
 go_enter Tryz.func6,Tryz.ntmps6
 go_wp2_with (go_at_call 28; refine hq.mono ?_; rintro e w' ⟨rfl,rfl⟩)
 go_ret2
 exact ⟨rfl,rfl⟩
theorem i56:(Tryz.prog.info? 56).map (fun i=>i.size)=some 1:=by kernel_rfl
theorem fld60 (b:Addr) (cp:Nat) (W:World):(Instr.field 60 (.agg #[.slice (some b) 1 cp,.bool false,.slice none 0 0]) 0).run Tryz.prog W=.ok (.agg #[.slice (some b) 1 cp]) W:=by
 obtain ⟨i,hi,hs⟩:=Option.map_eq_some_iff.1 i56
 simp [Instr.field,run_underlying Tryz.underlying60,asAgg,part,isAgg,run_underlying Tryz.underlying56,Go.sizeOf,typeInfo,hi,hs]
abbrev docB:ByteArray:=⟨#[109,117,116,97,116,105,111,110,32,123,99,114,101,97,116,101,68,111,103,40,105,100,58,32,49,44,32,105,110,112,117,116,58,32,123,125,41,32,123,98,97,114,107,115,125,125]⟩
abbrev qryB:ByteArray:=⟨#[123,112,101,116,115,32,123,95,95,116,121,112,101,110,97,109,101,125,125]⟩
theorem ev_b0:Ev tbl1 5 [] [] (.tuple [.ptr 2 0,.ptr 30 0]) T_b0:=ev_ofG m_b0
theorem ev_do:Ev tbl1 42 [.ptr 2 0,.agg [.nils],.str (docB.data.toList.map UInt8.toNat),V40] T_b0 (.tuple [.agg [.sl 75 0 1 4],V43]) T_do:=ev_ofG m_do
theorem ev_ask:Ev tbl1 39 [.ptr 2 0,.agg [.sl 75 0 1 4,.bool false,.nils],.str (qryB.data.toList.map UInt8.toNat),V40] T_do R_ask T_ask:=ev_ofG m_ask
theorem ev_do2:Ev tbl1 42 [.ptr 2 0,.agg [.nils],.str (docB.data.toList.map UInt8.toNat),V40] T_ask (.tuple [.agg [.sl 163 0 1 4],V43]) T_do2:=ev_ofG m_do2
theorem ev_len:Ev tbl1 21 [.agg [.sl 163 0 1 4]] T_do2 (.int .i64 1) T_do2:=ev_ofG m_len
set_option maxHeartbeats 4000000 in
theorem awake_c {g:Gh} {w:World} (hs:SRel g w []) (hg:Globs gts g w):Calls Tryz.prog 4 #[] w (CallPost g w [] (.bool true)):=by
 have hA0:=AI.start hs hg
 go_enter Tryz.func4,Tryz.ntmps4
 go_wp2_with fail
 refine (hA0.call ev_b0 (fun x hx=>by cases hx) (by decide) (vs:=[]) (by simp [RelL])).mono ?_
 rintro e W1 ⟨v,g1,h1⟩
 have hv:=h1.val
 simp only [Rel,RelL] at hv
 obtain ⟨ar,rfl,p1,l1,hl,⟨hn2,rfl⟩,p2,l2,rfl,⟨hn30,rfl⟩,rfl⟩:=hv
 obtain ⟨l⟩:=ar
 simp only at hl
 subst hl
 obtain rfl:=h1.ret
 have hA1:=h1.ai
 clear h1 hA0
 go_wp2_with fail
 refine (new_c (g1.m 2) W1).mono ?_
 rintro e W2 ⟨rfl,hW2⟩
 have hB2:Below W1.heap.size W1 W2:=by rw [hW2]; exact (((Below.refl _ W1).alloc (Nat.le_refl _) _).alloc (by simp) _).alloc (by simp; omega) _
 obtain ⟨hA2,hE2⟩:=hA1.put (W':=W2) hB2.size ⟨hB2.os,hB2.output⟩ (fun b hb=>.inl (hB2.block b hb))
 have hQ2:QS w W1.heap.size (g1.m 2) #[] g1 W2:=by
  refine ⟨hA1.size,?_,?_,⟨0,0,?_⟩,fun b hb=>hA1.new (by omega)⟩
  · rw [hW2,Below.heap_alloc _ _ _ (by simp)]
    have:=heap_alloc_new (W1.alloc (.chan 4 #[] false 0 0 false)) (.cells #[.chan (some W1.heap.size),.int .u64 0] 126)
    rwa [World.size_alloc] at this
  · rw [hW2]
    have:=heap_alloc_new ((W1.alloc (.chan 4 #[] false 0 0 false)).alloc (.cells #[.chan (some W1.heap.size),.int .u64 0] 126)) (.cells (bR (g1.m 2) W1.heap.size) 81)
    rwa [World.size_alloc,World.size_alloc] at this
  · rw [hW2,Below.heap_alloc _ _ _ (by simp; omega),Below.heap_alloc _ _ _ (by simp)]
    exact heap_alloc_new _ _
 clear hW2 hB2
 generalize W1.heap.size=C at hQ2 ⊢
 go_wp2_with fail
 refine (empty_c W2).mono ?_
 rintro e W3 ⟨rfl,hB3⟩
 have hst3:Stp C W2 W3:=(Stp.refl C W2).below hB3
 obtain ⟨hA3,hE3⟩:=hA2.stp hst3 (hQ2.u C (by simp)) hQ2.base
 obtain ⟨s3,r3,hc3⟩:∃ s r,W3.heap[C]?=some (.chan 4 #[] false s r false):=by
  obtain ⟨s,r,hc⟩:=hQ2.c
  exact ⟨s,r,(hB3.block C (by have:=hQ2.lt; omega)).trans hc⟩
 have hQ3:=hQ2.stp hst3 ⟨s3,r3,hc3⟩
 clear hB3
 go_wp2_with fail
 refine (add_c docB C s3 r3 W3 (by have:=hQ3.lt; omega) hQ3.q hc3 (hQ3.cell 5 _ rfl)).mono ?_
 rintro e W4 ⟨rfl,hst4,hc4⟩
 obtain ⟨hA4,hE4⟩:=hA3.stp hst4 (hQ3.u C (by simp)) hQ3.base
 have hQ4:=hQ3.stp hst4 ⟨_,_,hc4⟩
 clear hc3
 go_wp2_with fail
 refine (empty_c W4).mono ?_
 rintro e W5 ⟨rfl,hB5⟩
 have hst5:Stp C W4 W5:=(Stp.refl C W4).below hB5
 obtain ⟨hA5,hE5⟩:=hA4.stp hst5 (hQ4.u C (by simp)) hQ4.base
 have hQ5:=hQ4.stp hst5 ⟨_,_,(hB5.block C (by have:=hQ4.lt; omega)).trans hc4⟩
 clear hB5 hc4
 go_wp2_with fail
 refine (ask_ai docB qryB _ _ rfl rfl hA5 hQ5 hn2 rfl ev_do ev_ask).mono ?_
 rintro e W6 ⟨⟨k,n,x,a1,n1,c1,a2,n2,c2,a3,n3,c3,rfl⟩,g6,hA6,hQ6,hu6,hs6,hE6⟩
 have hst7:Stp C W6 (W6.alloc (.cells (aV k n x a1 n1 c1 a2 n2 c2 a3 n3 c3) 49)):=(Stp.refl C W6).alloc _
 obtain ⟨hA7,hE7⟩:=hA6.stp hst7 (hQ6.u C (by simp)) hQ6.base
 have hQ7:=hQ6.stp (buf':=#[mM docB]) hst7 (by
  obtain ⟨s,r,hc⟩:=hQ6.c
  exact ⟨s,r,(Below.heap_alloc _ _ _ (by have:=hQ6.lt; omega)).trans hc⟩)
 have hb7:=heap_alloc_new W6 (.cells (aV k n x a1 n1 c1 a2 n2 c2 a3 n3 c3) 49)
 have hz7:=World.size_alloc W6 (.cells (aV k n x a1 n1 c1 a2 n2 c2 a3 n3 c3) 49)
 have hu7:Un g6 W6.heap.size:=hA6.new (Nat.le_refl _)
 have hvw:=view_ai docB _ rfl hA7 hQ7 (Nat.lt_of_lt_of_le hn2 hE6.n) (hE6.m 2 hn2).symm ev_do2
 have hC6:C≠W6.heap.size:=by have:=hQ6.lt; omega
 clear hu6 hs6 hst7
 go_wp2_with fail
 refine hvw.mono ?_
 rintro e W8 ⟨g8,b,cp,rfl,hA8,hv8,hQ8,hu8,hs8,hE8⟩
 have hu8':=hu8 W6.heap.size (by omega) hu7 (by omega)
 have hb8:=hu8'.1.trans hb7
 have hcl:=hA8.call ev_len (fun x hx=>by simp only [List.mem_cons,List.not_mem_nil,or_false] at hx; subst hx; rfl) (by decide) (vs:=[.agg #[.slice (some b) 1 cp]]) (by
  simp only [Rel] at hv8
  simp only [RelL,Rel]
  exact ⟨_,_,rfl,⟨_,rfl,⟨_,_,rfl,hv8,rfl⟩,by simp [Value.oneCell']⟩,rfl⟩)
 clear hvw hb7 hu8
 have hfl:=fld60 b cp
 go_wp2_with fail
 refine hcl.mono ?_
 rintro e W9 ⟨v,g9,h9⟩
 have hv:=h9.val
 simp only [Rel] at hv
 subst hv
 obtain rfl:=h9.ret
 have hb9:=(h9.un W6.heap.size (by omega) hu8'.2).1.trans hb8
 have hl9:W9.cell? ⟨W6.heap.size,0,none⟩=some (.int .i64 11):=by simp [World.cell?,hb9]
 have hA9:=h9.ai
 clear h9 hcl hb9 hb8 hv8
 go_wp2_with fail
 go_ret
 exact AI.done hs hA9 true rfl
theorem awake_ok:ExtOK Tryz.prog gts 4 awakeX:=by
 intro args st res st' h hweak g w vs hst hg hrel
 unfold awakeX at h
 split at h
 case h_2=>cases h
 simp only [Option.some.injEq,Prod.mk.injEq] at h
 obtain ⟨rfl,rfl⟩:=h
 simp only [RelL] at hrel
 subst hrel
 exact awake_c hst hg
end Go.Cb.CodeA
