import Derived.Test.YthbikoodicigeaaGreatDoorOkA
import Derived.Test.YthbikoodicigeaaGreatDoorWos1
import Derived.Test.YthbikoodicigeaaGreatDoorNorm
import Derived.Test.YthbikoodicigeaaGreatDoorRs1
import Derived.Handy
import Derived.Test.YthbikoodicigeaaGreatDoorQuX
set_option maxRecDepth 100000
set_option linter.unusedVariables false
set_option linter.unusedSimpArgs false
namespace Go.Cb.CodeA
open Go Go.Cb Go.Proofs Go.RowKit Go.Shelf Go.Maps Go.Sort
attribute [local go_sem] Oper.semAt_some
/-- a run of the machine, as a call of the program's -/
theorem amT {f:Nat} {xs:List AV} {st:St} {r:AV} {st':St} (h:Ev tbl1 f xs st r st') (hw:∀ x∈xs,x.weak=x) (hv:vf f=f) {g:Gh} {w:World} {vs:List Value} (hs:SRel g w st) (hg:Globs gts g w) (hr:RelL g w xs vs) :
 Calls Tryz.prog f vs.toArray w (CallPost g w st' r):=by
 obtain ⟨k,hk⟩:=h
 have:=((callF_okD prog_ok k).1 f xs st r st' hk hw).2 g w vs hs hg hr
 rwa [hv] at this
/-- a block that the store does not claim -/
def Un (g:Gh) (r:Nat):Prop:=g.sr r=none∧∀ f,¬ g.cl r f
structure WI (g0:Gh) (w0:World) (B:Nat) (mine:Nat→Prop) (g:Gh) (W:World):Prop where
 rel:SRel g W T_nw
 tr:Tr No g0 w0 g W
 small:∀ r,B≤r→¬ cellsAt W r→Un g r
 mine:∀ r,mine r→r < W.heap.size∧Un g r
theorem WI.step {g0:Gh} {w0:World} {B:Nat} {mine:Nat→Prop} {g:Gh} {W W':World} {res:AV} {e:Ending} (hB:w0.heap.size≤B) (h0:SRel g0 w0 T_nw) (h:WI g0 w0 B mine g W) (hp:CallPost g W T_nw res e W') :
 ∃ v g',e=.returned v∧WI g0 w0 B mine g' W'∧Rel g' W' res v∧KeepsFrom B W W'∧(∀ r,mine r→W'.heap[r]?=W.heap[r]?)∧W.heap.size≤W'.heap.size:=by
 obtain ⟨v,g1,he,hS,ht,hv⟩:=hp
 have ht1:=h.tr.trans ht
 have hm:∀ o es,T_nw[o]?=some (.map es)→g1.m o < B:=fun o es ho=>by
  have hlt:o < g0.n:=by rw [h0.n]; exact (List.getElem?_eq_some_iff.1 ho).1
  rw [ht1.ext.m o hlt]
  exact Nat.lt_of_lt_of_le (h0.inn _ _ (h0.obj o _ ho).1) hB
 have hcl:∀ b f,g0.cl b f→b < B:=fun b f hc=>Nat.lt_of_lt_of_le (h0.cli b f hc) hB
 refine ⟨v,g1.norm B W',he,⟨hS.norm hm,ht1.norm hcl,fun r hr hc=>norm_other hr hc,fun r hr=>?_⟩,hv.rel.norm _ _,⟨ht.size,fun k o hk ho hc=>?_⟩,fun r hr=>?_,ht.size⟩
 · obtain ⟨hlt,hs,hc⟩:=h.mine r hr
   obtain ⟨⟨e1,c1⟩,s1⟩:=ht.keep r hlt hs (fun x=>x)
   exact ⟨Nat.lt_of_lt_of_le hlt ht.size,norm_sr_none s1,fun f hf=>hc f (c1 f hf.1)⟩
 · have hlt:k < W.heap.size:=(Array.getElem?_eq_some_iff.1 ho).1
   have hn:¬ cellsAt W k:=fun ⟨arr,T,z,h'⟩=>by
    rw [h'] at ho
    obtain rfl:=Option.some.inj ho
    cases hc
   have:=(ht.keep k hlt (h.small k hk hn).1 (fun x=>x)).1.1
   rw [this]; exact ho
 · obtain ⟨hlt,hs,hc⟩:=h.mine r hr
   exact (ht.keep r hlt hs (fun x=>x)).1.1
theorem WI.grown {g0:Gh} {w0:World} {B:Nat} {mine:Nat→Prop} {g:Gh} {W W':World} {row:Option Nat} (hB:w0.heap.size≤B) (h:WI g0 w0 B mine g W) (hg:W.grownBy W' row) (hr:∀ r,row=some r→B≤r∧∃ o:_root_.Go.Obj,W.heap[r]?=some o∧o.isCells=false):WI g0 w0 B mine g W':=by
 have hne:∀ r,row=some r→B≤r∧¬ cellsAt W r:=fun r e=>by
  obtain ⟨h1,o,h2,h3⟩:=hr r e
  refine ⟨h1,fun ⟨arr,T,z,h'⟩=>?_⟩
  rw [h'] at h2
  obtain rfl:=Option.some.inj h2
  cases h3
 have hk:∀ b,b < W.heap.size→(g.sr b≠none∨∃ f,g.cl b f)→W'.heap[b]?=W.heap[b]?:=fun b hb hc=>hg.block b hb fun e=>by
  obtain ⟨h1,h2⟩:=hne b e.symm
  obtain ⟨h3,h4⟩:=h.small b h1 h2
  rcases hc with hc|⟨f,hc⟩
  · exact hc h3
  · exact h4 f hc
 refine ⟨h.rel.other hg.size hk,h.tr.other h.rel ⟨hg.os,hg.output⟩ hg.size (fun b hb hc=>?_),fun r hr' hc=>?_,fun r hr'=>⟨Nat.lt_of_lt_of_le (h.mine r hr').1 hg.size,(h.mine r hr').2⟩⟩
 · rcases hc with hc|⟨f,hc⟩
   · exact hg.block b hb fun e=>by have:=(hne b e.symm).1; omega
   · exact hk b hb (.inr ⟨f,hc⟩)
 · by_cases hlt:r < W.heap.size
   · by_cases hw:cellsAt W r
     · have:W'.heap[r]?=W.heap[r]?:=hg.block r hlt fun e=>(hne r e.symm).2 hw
       obtain ⟨arr,T,z,h'⟩:=hw
       exact absurd ⟨arr,T,z,this.trans h'⟩ hc
     · exact h.small r hr' hw
   · refine ⟨?_,fun f hf=>hlt (h.rel.cli _ _ hf)⟩
     cases hs:g.sr r with
     | none=>rfl
     | some p=>exact absurd (h.rel.inn _ _ hs) hlt
/-- a step that turns one block that is not claimed, and lays new ones -/
theorem WI.put {g0:Gh} {w0:World} {B:Nat} {mine:Nat→Prop} {g:Gh} {W W':World} (h:WI g0 w0 B mine g W) (r0:Nat) (hu:r0 < W.heap.size→Un g r0∧w0.heap.size≤r0) (hs:W.heap.size≤W'.heap.size) (he:Env W W') (hW:∀ b,b < W.heap.size→b≠r0→W'.heap[b]?=W.heap[b]?):WI g0 w0 B mine g W':=by
 have hk:∀ b,b < W.heap.size→(g.sr b≠none∨∃ f,g.cl b f)→W'.heap[b]?=W.heap[b]?:=fun b hb hc=>hW b hb fun e=>by
  subst e
  obtain ⟨⟨h3,h4⟩,_⟩:=hu hb
  rcases hc with hc|⟨f,hc⟩
  · exact hc h3
  · exact h4 f hc
 refine ⟨h.rel.other hs hk,h.tr.other h.rel he hs (fun b hb hc=>?_),fun r hr' hc=>?_,fun r hr'=>⟨Nat.lt_of_lt_of_le (h.mine r hr').1 hs,(h.mine r hr').2⟩⟩
 · rcases hc with hc|⟨f,hc⟩
   · exact hW b hb fun e=>by have:=(hu (e ▸ hb)).2; omega
   · exact hk b hb (.inr ⟨f,hc⟩)
 · by_cases hlt:r < W.heap.size
   · by_cases e:r=r0
     · subst e; exact (hu hlt).1
     · by_cases hw:cellsAt W r
       · obtain ⟨arr,T,z,h'⟩:=hw
         exact absurd ⟨arr,T,z,(hW r hlt e).trans h'⟩ hc
       · exact h.small r hr' hw
   · refine ⟨?_,fun f hf=>hlt (h.rel.cli _ _ hf)⟩
     cases hs':g.sr r with
     | none=>rfl
     | some p=>exact absurd (h.rel.inn _ _ hs') hlt
end Go.Cb.CodeA
/- What functions of the abstract machine answer. No conditions but those that each theorem names. -/
set_option maxRecDepth 100000
set_option linter.unusedVariables false
set_option linter.unusedSimpArgs false
namespace Go.Cb.CodeA
open Go Go.Cb Go.Proofs Go.RowKit Go.Shelf
set_option maxHeartbeats 4000000 in
theorem wn_in (v:Value) (w:World):Calls Tryz.prog 10 #[.pointer none,v] w fun e w'=>e=.returned (.int .i64 6)∧Below w.heap.size w w':=by
 go_enter Tryz.func10,Tryz.ntmps10
 go_wp2
 go_returns
 refine ⟨rfl,?_⟩
 go_grown
set_option maxHeartbeats 4000000 in
theorem wl_in (p:Addr) (a:Option Addr) (n cap:Nat) (hn:20 < n) (w:World):Calls Tryz.prog 10 #[.pointer (some p),.slice a n cap] w fun e w'=>e=.returned (.int .i64 2)∧Below w.heap.size w w':=by
 go_enter Tryz.func10,Tryz.ntmps10
 go_wp2
 go_returns
 refine ⟨rfl,?_⟩
 go_grown
end Go.Cb.CodeA
/-
 Want: the end: one object's block is written, and the object is dead.
-/
set_option maxRecDepth 100000
set_option linter.unusedVariables false
set_option linter.unusedSimpArgs false
namespace Go.Cb.CodeA
open Go Go.Cb Go.Proofs Go.RowKit Go.Shelf Go.Maps Go.Sort
/-- from one world to another that has what is claimed, but for one object's block: the object is dead -/
theorem SRel.dead {g:Gh} {w w':World} {st:St} {o0:Nat} {cs0:List AV} (h:SRel g w st) (h0:st[o0]?=some (.cells cs0)) (hs:w.heap.size≤w'.heap.size) (hk:∀ b,b < w.heap.size→b≠g.m o0→(g.sr b≠none∨∃ f,g.cl b f)→w'.heap[b]?=w.heap[b]?):SRel g w' (st.set o0 .dead)∧Ext g w g w':=by
 have hb0:g.sr (g.m o0)=some (o0,none):=(h.obj o0 _ h0).1
 have hc0:∀ f,¬ g.cl (g.m o0) f:=(h.obj o0 _ h0).2.1
 have hcell:∀ b f,g.cl b f→w'.cell? (ad b f)=w.cell? (ad b f):=fun b f hc=>by
  have:=hk b (h.cli b f hc) (fun e=>hc0 f (e ▸ hc)) (.inr ⟨f,hc⟩)
  unfold World.cell?
  rw [this]
 have hE:Ext g w g w':=⟨Nat.le_refl _,fun _ _=>rfl,fun _ _=>rfl,fun _ _ c=>c,hcell⟩
 have hsr:∀ b p,g.sr b=some p→p≠(o0,none)→w'.heap[b]?=w.heap[b]?:=fun b p hb hp=>hk b (h.inn b p hb) (fun e=>hp (by rw [e,hb0] at hb; exact (Option.some.inj hb).symm)) (.inl (by rw [hb]; simp))
 refine ⟨⟨by rw [h.n]; simp,fun o ob ho=>?_,fun b p hb=>Nat.lt_of_lt_of_le (h.inn b p hb) hs,fun b f hc=>Nat.lt_of_lt_of_le (h.cli b f hc) hs⟩,hE⟩
 by_cases e:o=o0
 · subst e
   have hlt:o < st.length:=(List.getElem?_eq_some_iff.1 h0).1
   rw [List.getElem?_set_self hlt] at ho
   obtain rfl:=Option.some.inj ho
   trivial
 rw [List.getElem?_set_ne (by omega)] at ho
 have:=h.obj o ob ho
 cases ob with
 | cells cs =>
  obtain ⟨h1,h2,arr,T,h3,h4,h5,h6,h7⟩:=this
  refine ⟨h1,h2,arr,T,(hsr _ _ h1 (by simp [e])).trans h3,h4,RelL.ext hE _ _ h5,h6,fun k c v hk hv xs e'=>?_⟩
  rcases h7 k c v hk hv xs e' with ⟨a,n,h⟩|⟨b,n,cap,sz,arr,T,f0,h1,h2,h3,h4,h5,h6,h7,h8⟩
  · exact .inl ⟨a,n,h⟩
  · exact .inr ⟨b,n,cap,sz,arr,T,f0,h1,h2,h3,h4,(hsr _ _ h2 (by simp)).trans h5,h6,h7,h8⟩
 | map es =>
  obtain ⟨h1,h2,ents,clock,h3,h4⟩:=this
  refine ⟨h1,h2,ents,clock,(hsr _ _ h1 (by simp [e])).trans h3,?_⟩
  clear h3 ho
  generalize ents.toList=l at h4
  induction h4 with
  | nil=>exact .nil
  | cons hk hv hn _ ih=>exact .cons (Rel.ext hE _ _ hk) (Rel.ext hE _ _ hv) hn ih
 | dead=>trivial
theorem nw31:T_nw[31]?=some B28:=rfl
theorem WI.done {g0:Gh} {w:World} {B:Nat} {mine:Nat→Prop} {g:Gh} {W W':World} (h:WI g0 w B mine g W) (hs0:SRel g0 w T_nw) (hs:W.heap.size≤W'.heap.size) (he:Env W W')
 (hk:∀ b,b < W.heap.size→b≠g0.m 31→(b < w.heap.size∨g.sr b≠none∨∃ f,g.cl b f)→W'.heap[b]?=W.heap[b]?) (n:Int) {e:Ending} (hr:e=.returned (.int .i64 n)):CallPost g0 w (T_nw.set 31 .dead) (.int .i64 n) e W':=by
 have h31:31 < g0.n:=by rw [hs0.n]; decide
 have hm:g.m 31=g0.m 31:=h.tr.ext.m 31 h31
 obtain ⟨hS,hE⟩:=SRel.dead (o0:=31) h.rel nw31 hs (fun b hb hne hc=>hk b hb (by rw [← hm]; exact hne) (.inr hc))
 have hb0:g0.sr (g0.m 31)=some (31,none):=(hs0.obj 31 _ nw31).1
 refine ⟨.int .i64 n,g,hr,hS,⟨h.tr.ext.trans hE,Nat.le_trans h.tr.size hs,h.tr.env.trans he h.tr.size,fun b hb hsr ha=>?_⟩,ValOK.mk' (by simp only [Rel]) (by simp) (by simp)⟩
 obtain ⟨⟨e1,c1⟩,s1⟩:=h.tr.keep b hb hsr ha
 exact ⟨⟨(hk b (Nat.lt_of_lt_of_le hb h.tr.size) (fun e=>by rw [e,hb0] at hsr; cases hsr) (.inl hb)).trans e1,c1⟩,s1⟩
end Go.Cb.CodeA
set_option maxRecDepth 100000
set_option linter.unusedVariables false
set_option linter.unusedSimpArgs false
namespace Go.Cb.CodeA
open Go Go.Cb Go.Proofs Go.RowKit Go.Shelf Go.Maps Go.Sort
attribute [local go_sem] Oper.semAt_some
def gdT (x:Tx):Bool:=okT (x.map UInt8.toNat)
/-- between two rounds: the machine's state, the two boxes -/
structure WInv (g0:Gh) (w:World) (mine:Nat→Prop) (rb:Nat) (v:Int) (W:World) (g:Gh):Prop where
 wi:WI g0 w w.heap.size mine g W
 bx:W.heap[w.heap.size]?=some (.cells #[.pointer (some ⟨rb,0,none⟩)] 29 (0,0))
 rs:W.heap[w.heap.size+1]?=some (.cells #[.int .i64 v] 30 (0,0))
def WIv (g0:Gh) (w:World) (mine:Nat→Prop) (rb:Nat) (v:Int) (W:World):Prop:=∃ g,WInv g0 w mine rb v W g
theorem WIv.grown {g0:Gh} {w:World} {mine:Nat→Prop} {rb:Nat} {v:Int} {W W':World} {row:Option Nat} {B:Nat} (hB:w.heap.size≤B) (h:WIv g0 w mine rb v W) (hg:W.grownBy W' row) (hr:∀ r,row=some r→B≤r∧∃ o:_root_.Go.Obj,W.heap[r]?=some o∧o.isCells=false):WIv g0 w mine rb v W':=by
 obtain ⟨g,h⟩:=h
 have hne:∀ (k:Nat) (a:Array Value) (T:TypeId) (z:Nat×Nat),W.heap[k]?=some (.cells a T z)→W'.heap[k]?=W.heap[k]?:=fun k a T z hk=>hg.block k (Array.getElem?_eq_some_iff.1 hk).1 fun e=>by
  obtain ⟨_,o,h2,h3⟩:=hr k e.symm
  rw [hk] at h2
  obtain rfl:=Option.some.inj h2
  cases h3
 exact ⟨g,h.wi.grown (Nat.le_refl _) hg (fun r e=>⟨Nat.le_trans hB (hr r e).1,(hr r e).2⟩),(hne _ _ _ _ h.bx).trans h.bx,(hne _ _ _ _ h.rs).trans h.rs⟩
theorem WInv.s {g0:Gh} {w:World} {mine:Nat→Prop} {v:Int} {W:World} {g:Gh} (h:WInv g0 w mine (g0.m 31) v W g) (hs0:SRel g0 w T_nw):W.cell? ⟨g0.m 31,0,none⟩=some (.pointer (some ⟨g0.m 2,0,none⟩))∧(∃ u,W.cell? ⟨g0.m 31,1,none⟩=some u)∧W.frozen? ⟨g0.m 31,1,none⟩=false∧g0.m 31 < W.heap.size:=by
 have h31:31 < g0.n:=by rw [hs0.n]; decide
 have h2:2 < g0.n:=by rw [hs0.n]; decide
 have hm:g.m 31=g0.m 31:=h.wi.tr.ext.m 31 h31
 have hm2:g.m 2=g0.m 2:=h.wi.tr.ext.m 2 h2
 obtain ⟨_,_,arr,T,h3,h4,h5,_,_⟩:=h.wi.rel.obj 31 _ nw31
 rw [hm] at h3
 simp only [RelL] at h5
 obtain ⟨v0,l0,e0,r0,v1,l1,e1,r1,_⟩:=h5
 simp only [Rel] at r0
 obtain ⟨_,rfl⟩:=r0
 subst e1
 have a0:(arr.toList.take 6)[0]?=some (.pointer (some (ad (g.m 2) 0))):=by rw [show (arr.toList.take 6)=_ from e0]; rfl
 have a1:(arr.toList.take 6)[1]?=some v1:=by rw [show (arr.toList.take 6)=_ from e0]; rfl
 have b0:arr[0]?=some (.pointer (some (ad (g.m 2) 0))):=by simpa [List.getElem?_take] using a0
 have b1:arr[1]?=some v1:=by simpa [List.getElem?_take] using a1
 rw [hm2] at b0
 exact ⟨by simp [World.cell?,h3,b0],⟨v1,by simp [World.cell?,h3,b1]⟩,by simp [World.frozen?,h3],(Array.getElem?_eq_some_iff.1 h3).1⟩
end Go.Cb.CodeA
/- What functions of the abstract machine answer. No conditions but those that each theorem names. -/
set_option maxRecDepth 100000
set_option linter.unusedVariables false
set_option linter.unusedSimpArgs false
namespace Go.Cb.CodeA
open Go Go.Cb Go.Proofs Go.RowKit Go.Shelf Go.Maps Go.Sort
attribute [local go_sem] Oper.semAt_some
theorem inR {n:Nat} {P:Program} {f:FuncId} {args:Array Value} {w:World} {R:Ending→World→Prop} (l:Nat) (h:CallsIn Fence.wide n P f args w R):CallsIn (Fence.wide.inRound l) n P f args w R:=h
theorem WInv.more {g0:Gh} {w:World} {mine:Nat→Prop} {rb:Nat} {v:Int} {W:World} {g:Gh} (h:WInv g0 w mine rb v W g) (o:_root_.Go.Obj):WInv g0 w mine rb v (W.alloc o) g :=
 ⟨h.wi.grown (Nat.le_refl _) (World.grownBy_alloc W o none) (fun r e=>by cases e),(Below.heap_alloc _ _ _ (Array.getElem?_eq_some_iff.1 h.bx).1).trans h.bx,(Below.heap_alloc _ _ _ (Array.getElem?_eq_some_iff.1 h.rs).1).trans h.rs⟩
theorem WInv.bad {g0:Gh} {w:World} {mine:Nat→Prop} {rb:Nat} {v:Int} {W:World} {g:Gh} (h:WInv g0 w mine rb v W g) (hm1:mine (w.heap.size+1)) (n:Int):WIv g0 w mine rb n (W.setCell ⟨w.heap.size+1,0,none⟩ (.int .i64 n)):=by
 have hk:∀ b,b≠w.heap.size+1→(W.setCell ⟨w.heap.size+1,0,none⟩ (.int .i64 n)).heap[b]?=W.heap[b]?:=fun b hb=>Below.heap_setCell _ _ _ _ hb
 refine ⟨g,h.wi.put (w.heap.size+1) (fun _=>⟨(h.wi.mine _ hm1).2,by omega⟩) (by simp [World.setCell]) ⟨rfl,rfl⟩ (fun b hb hne=>hk b hne),(hk _ (by omega)).trans h.bx,?_⟩
 simp only [World.setCell,Array.getElem?_modify,h.rs]
 simp
theorem _root_.Go.KeepsFrom.up {B B':Nat} {W W':World} (h:KeepsFrom B W W') (hB:B≤B'):KeepsFrom B' W W':=⟨h.size,fun k o hk=>h.same k o (Nat.le_trans hB hk)⟩
set_option maxHeartbeats 4000000 in
theorem want_g {g0:Gh} {w:World} (hs0:SRel g0 w T_nw) (hg0:Globs gts g0 w) (zs:List Tx) (hz:zs.length≤20) (a:Option Addr) (cap:Nat) (hT:∀ W,(∀ b,b < w.heap.size→W.heap[b]?=w.heap[b]?)→TxS W (.slice a zs.length cap) zs)
 (hbl:∀ b off cap',Value.slice a zs.length cap=.slice (some ⟨b,off,none⟩) zs.length cap'→zs≠[]→b < w.heap.size) :
 Calls Tryz.prog 10 #[.pointer (some ⟨g0.m 31,0,none⟩),.slice a zs.length cap] w (CallPost g0 w (T_nw.set 31 .dead) (.int .i64 (bif zs.all gdT then 0 else 6))):=by
 refine (callsIn_wide (n:=12)).1 ?_
 have hn20:¬ (20:Int) < (zs.length:Int):=by omega
 have HT:Hid (∀ W,(∀ b,b < w.heap.size→W.heap[b]?=w.heap[b]?)→TxS W (.slice a zs.length cap) zs):=hT
 have HB:Hid (∀ b off cap',Value.slice a zs.length cap=.slice (some ⟨b,off,none⟩) zs.length cap'→zs≠[]→b < w.heap.size):=hbl
 clear hT hbl
 refine callsIn_of_wp_marks Tryz.func10 rfl trivial ?_ rfl
 simp only [Tryz.ntmps10,List.size_toArray,List.length_cons,List.length_nil,Nat.reduceAdd,Nat.reduceSub,Array.replicate_succ,Array.replicate_zero,List.push_toArray,List.append_toArray,List.nil_append,List.cons_append]
 gi_wp2_with fail
 refine ⟨trivial,(vals_in Fence.wide 11 trivial rfl _ _ _ _).mono ?_⟩
 rintro e W2 ⟨rfl,hW2⟩
 have hB1:Below w.heap.size w ((w.alloc (.cells #[.pointer (some ⟨g0.m 31,0,none⟩)] 29)).alloc (.cells #[.int .i64 0] 30)):=((Below.refl _ w).alloc (Nat.le_refl _) _).alloc (by simp) _
 have hsz1:((w.alloc (.cells #[.pointer (some ⟨g0.m 31,0,none⟩)] 29)).alloc (.cells #[.int .i64 0] 30)).heap.size=w.heap.size+2:=by rw [World.size_alloc,World.size_alloc]
 have hx1:((w.alloc (.cells #[.pointer (some ⟨g0.m 31,0,none⟩)] 29)).alloc (.cells #[.int .i64 0] 30)).heap[w.heap.size]?=some (.cells #[.pointer (some ⟨g0.m 31,0,none⟩)] 29 (0,0)):=(Below.heap_alloc _ _ _ (by simp)).trans (heap_alloc_new _ _)
 have hy1:((w.alloc (.cells #[.pointer (some ⟨g0.m 31,0,none⟩)] 29)).alloc (.cells #[.int .i64 0] 30)).heap[w.heap.size+1]?=some (.cells #[.int .i64 0] 30 (0,0)):=by
  have:=heap_alloc_new (w.alloc (.cells #[.pointer (some ⟨g0.m 31,0,none⟩)] 29)) (.cells #[.int .i64 0] 30)
  rwa [World.size_alloc] at this
 generalize (w.alloc (.cells #[.pointer (some ⟨g0.m 31,0,none⟩)] 29)).alloc (.cells #[.int .i64 0] 30)=W1 at hB1 hsz1 hx1 hy1 hW2 ⊢
 have hsz2:W2.heap.size=w.heap.size+3:=by rw [hW2,World.size_alloc]; omega
 have hB2:Below (w.heap.size+2) W1 W2:=by rw [hW2]; exact (Below.refl _ W1).alloc (by omega) _
 have hc2:W2.cell? ⟨w.heap.size+2,0,none⟩=some (.slice a zs.length cap):=by
  rw [hW2,← hsz1]; exact (Boxed.new W1 22 (.slice a zs.length cap)).cell
 have hb12:Below w.heap.size w W2:=hB1.trans (hB2.mono (by omega))
 have HS:=srt_in Fence.wide 11 trivial trivial trivial trivial trivial rfl (by omega) (sortsF _) zs (by omega) (w.heap.size+2) (.slice a zs.length cap) W2 (by omega) hc2
  (fun W hW=>HT.out W fun b hb=>(hW.block b (by omega)).trans (hb12.block b hb)) (fun b off cap' e hz'=>by have:=HB.out b off cap' e hz'; omega)
 rw [hsz1]
 clear hW2
 gi_wp2_with fail
 refine ⟨trivial,HS.mono ?_⟩
 rintro e W3 ⟨v,rfl,hrow,hnil,hB3⟩
 clear HS
 obtain ⟨zq,hzq⟩:∃ zq,zq=zs.mergeSort (fun x y=>decide (x≤y)):=⟨_,rfl⟩
 have hlq:zq.length=zs.length:=by rw [hzq]; simp
 have hrow:W3.ownsRow W2.heap.size 9 1 v zq.length (zq.map encStr):=by rw [hlq,hzq]; exact hrow
 have hsq:zq=zs.mergeSort (fun x y=>decide (x≤y))→True:=fun _=>trivial
 have hmq:∀ x,x∈zq ↔ x∈zs:=fun x=>by rw [hzq,List.mem_mergeSort]
 clear hzq hsq
 have HC:=cmp_in 11 W2.heap.size v zq W3 hrow (by omega) hB3.size
 gi_wp2_with fail
 refine ⟨trivial,HC.mono ?_⟩
 rintro e W4 ⟨a',cap',rfl,hcl,hB4⟩
 clear HC
 obtain ⟨zc,hzc⟩:∃ zc,zc=Lib.compact zq:=⟨_,rfl⟩
 rw [← hzc] at hcl ⊢
 have hlc:zc.length≤20:=by have:=Lib.compact_length_le zq; rw [hzc]; omega
 have hmem:∀ x,x∈zc ↔ x∈zs:=fun x=>by rw [hzc,mem_compact,hmq]
 clear hzc
 gi_wp2_with fail
 refine ⟨trivial,(vals_in Fence.wide 11 trivial rfl _ _ _ W4).mono ?_⟩
 rintro e W5 ⟨rfl,hW5⟩
 have hw4:w.heap.size+3≤W4.heap.size:=by have:=hB4.size; have:=hB3.size; omega
 have hsz5:W5.heap.size=W4.heap.size+1:=by rw [hW5,World.size_alloc]
 have hB5:Below W4.heap.size W4 W5:=by rw [hW5]; exact (Below.refl _ W4).alloc (Nat.le_refl _) _
 have hc5:W5.cell? ⟨W4.heap.size,0,none⟩=some (.slice a' zc.length cap'):=by rw [hW5]; exact (Boxed.new W4 22 (.slice a' zc.length cap')).cell
 clear hW5
 gi_wp2_with fail
 have hB25:Below W2.heap.size W2 W5:=(hB3.trans hB4).trans (hB5.mono (by omega))
 have hB15:Below (w.heap.size+2) W1 W5:=hB2.trans (hB25.mono (by omega))
 have hw5:Below w.heap.size w W5:=hB1.trans (hB15.mono (by omega))
 have hx5:=(hB15.block w.heap.size (by omega)).trans hx1
 have hy5:=(hB15.block (w.heap.size+1) (by omega)).trans hy1
 obtain ⟨mine,hmn⟩:∃ mine:Nat→Prop,mine=fun b=>b=w.heap.size∨b=w.heap.size+1∨(zc≠[]∧∃ off,a'=some ⟨b,off,none⟩):=⟨_,rfl⟩
 have hm0:mine w.heap.size:=by rw [hmn]; exact .inl rfl
 have hm1:mine (w.heap.size+1):=by rw [hmn]; exact .inr (.inl rfl)
 have hm2:∀ b off,zc≠[]→a'=some ⟨b,off,none⟩→mine b:=fun b off h1 h2=>by rw [hmn]; exact .inr (.inr ⟨h1,off,h2⟩)
 have hlist:∀ b off,zc≠[]→a'=some ⟨b,off,none⟩→off=0∧W2.heap.size≤b∧b < W4.heap.size∧TxAt b 0 zc W4:=fun b off h1 h2=>by
  obtain ⟨b',h3,h4,h5,_,h6⟩:=hcl h1
  rw [h3] at h2
  cases h2
  exact ⟨rfl,h4,h5,h6⟩
 have hex:zc≠[]→∃ b',a'=some ⟨b',0,none⟩∧b' < W4.heap.size∧TxAt b' 0 zc W4:=fun h1=>by
  obtain ⟨b',h3,h4,h5,_,h6⟩:=hcl h1
  exact ⟨b',h3,h5,h6⟩
 have hun0:∀ r,w.heap.size≤r→Un g0 r:=fun r hr=>by
  refine ⟨?_,fun f hf=>absurd (hs0.cli _ _ hf) (by omega)⟩
  cases hq:g0.sr r with
  | none=>rfl
  | some p=>exact absurd (hs0.inn _ _ hq) (by omega)
 have h0:WIv g0 w mine (g0.m 31) 0 W5:=⟨g0,⟨hs0.other hw5.size (fun b hb _=>hw5.block b hb),(Tr.refl No g0 w).other hs0 ⟨hw5.os,hw5.output⟩ hw5.size (fun b hb _=>hw5.block b hb),fun r hr _=>hun0 r hr,fun r hr=>by
  rw [hmn] at hr
  rcases hr with rfl|rfl|⟨h1,off,h2⟩
  · exact ⟨by omega,hun0 _ (Nat.le_refl _)⟩
  · exact ⟨by omega,hun0 _ (by omega)⟩
  · obtain ⟨_,h3,h4,_⟩:=hlist r off h1 h2
    exact ⟨by omega,hun0 _ (by omega)⟩⟩,hx5,hy5⟩
 clear hmn hx5 hy5 hx1 hy1 hcl hc2 HT HB hrow hnil
 refine wpIn_rangeFunc_ownG (w:=W5) rfl (by decide) (gf:=58) (lb:=#[.pointer (some ⟨W4.heap.size,0,none⟩)]) rfl trivial (enters_of Tryz.func58 (by kernel_rfl) rfl)
  (vals_stops Fence.wide 11 trivial rfl (by decide) W4.heap.size (.slice a' zc.length cap') zc (by omega) (fun W W'=>zc≠[]→∀ b off,a'=some ⟨b,off,none⟩→W'.heap[b]?=W.heap[b]?) ?hK W5 (by omega) hc5 ?hI) ?hKt ?hKb (Below.refl _ _) (fun _=>rfl)
  (fun pre W=>WIv g0 w mine (g0.m 31) 0 W∧∀ x∈pre,gdT x=true)
  (fun c pre W=>(c=.ret∧∃ x∈pre,gdT x=false)∧WIv g0 w mine (g0.m 31) 6 W)
  ?hI2 ?hIx ⟨h0,by simp⟩
  (fun x=>{ tmps:=#[.pointer (some ⟨g0.m 31,0,none⟩),.slice a zs.length cap,.pointer (some ⟨w.heap.size,0,none⟩),undef,.pointer (some ⟨w.heap.size+1,0,none⟩),.slice a' zc.length cap',.string ⟨x.toArray⟩,undef,undef,.bool false,.pointer (some ⟨g0.m 31,0,none⟩),.bool false,.bool false,.slice a zs.length cap,.int .i64 zs.length,.bool false,.slice a zs.length cap,.func (.func 58) #[] #[.pointer (some ⟨w.heap.size+2,0,none⟩)],v,.slice a' zc.length cap',.slice a' zc.length cap',.func (.func 58) #[] #[.pointer (some ⟨W4.heap.size,0,none⟩)],.string ⟨x.toArray⟩,undef,undef,undef,undef,undef,undef,undef,undef,undef,undef,undef,undef,undef,undef,undef,undef,undef,undef,undef,undef,undef,undef,undef,undef,undef,undef,undef,undef,undef],defers:=[] }) ?assign ?body ?done ?stop
 case hK =>
  rintro b off ⟨cp,hs⟩ W W' hk hat j hj
  have hne:zc≠[]:=by rintro rfl; simp at hj
  simp only [Value.slice.injEq] at hs
  unfold World.cell?
  rw [hk hne b off hs.1]
  exact hat j hj
 case hI =>
  intro W hW
  refine ⟨a',cap',rfl,fun hne=>?_⟩
  obtain ⟨b',h3,h5,h6⟩:=hex hne
  exact ⟨b',0,h3,fun j hj=>(hB5.trans (hW.mono (by omega))).cell (p:=⟨b',0+j,none⟩) h5 |>.trans (h6 j hj)⟩
 case hKt=>exact fun h1 h2 hne b off e=>(h2 hne b off e).trans (h1 hne b off e)
 case hKb =>
  intro W l o o' hl ho hoc how hne b off e
  obtain ⟨b',h3,h5,h6⟩:=hex hne
  rw [h3] at e
  cases e
  exact World.putObj_heap_other (by omega)
 case hI2=>exact fun pre W W' row hs hg hr=>⟨hs.1.grown hw5.size hg hr,hs.2⟩
 case hIx=>exact fun c pre W W' row hs hg hr=>⟨hs.1,hs.2.grown hw5.size hg hr⟩
 case assign =>
  intro l x W K hK
  gi_wp2
  exact hK
 case body =>
  rintro l pre x W ⟨⟨g,hW⟩,hgood⟩ hlt
  obtain ⟨k0,⟨u1,ku⟩,kf,klt⟩:=hW.s hs0
  have hx:W.cell? ⟨w.heap.size,0,none⟩=some (.pointer (some ⟨g0.m 31,0,none⟩)):=by simp [World.cell?,hW.bx]
  obtain ⟨kk,sx,b1,xs,b2,ys,ok,hev,hok⟩:=tz_q (x.map UInt8.toNat)
  have hE0:=hW.wi.tr.ext
  have h31:31 < g0.n:=by rw [hs0.n]; decide
  have h2:2 < g0.n:=by rw [hs0.n]; decide
  have c34:=amT hev (fun y hy=>by simp only [List.mem_cons,List.not_mem_nil,or_false] at hy; rcases hy with rfl|rfl <;> rfl) (by decide) hW.wi.rel (hg0.ext hE0) (vs:=[.pointer (some ⟨g0.m 2,0,none⟩),.string ⟨x.toArray⟩]) (by
   simp only [RelL,Rel]
   refine ⟨_,_,rfl,⟨Nat.lt_of_lt_of_le h2 hE0.n,by rw [hE0.m 2 h2]⟩,_,_,rfl,⟨_,rfl,by simp⟩,rfl⟩)
  gi_wp2_with fail
  refine ⟨trivial,(inR l (callsIn_wide.2 c34)).mono ?_⟩
  rintro e W' hp
  obtain ⟨v1,g',rfl,hwi',hv1,hkf1,hmi1,hsz1'⟩:=hW.wi.step (Nat.le_refl _) hs0 hp
  have hW':WInv g0 w mine (g0.m 31) 0 W' g':=⟨hwi',(hmi1 _ hm0).trans hW.bx,(hmi1 _ hm1).trans hW.rs⟩
  simp only [Rel,RelL] at hv1
  obtain ⟨ar,rfl,u2,l1,hl1,⟨ar2,rfl,⟨u3,l3,hl3,rfl,u4,l4,rfl,⟨sb,rfl,_⟩,u5,l5,rfl,⟨p5,n5,c5,rfl,_⟩,u6,l6,rfl,⟨p6,n6,c6,rfl,_⟩,rfl⟩,_⟩,u7,l7,rfl,rfl,rfl⟩:=hv1
  obtain ⟨la⟩:=ar
  obtain ⟨lb⟩:=ar2
  simp only at hl1 hl3
  subst hl1; subst hl3
  clear k0 ku kf hx hp c34 hev
  obtain ⟨k0,⟨u1,ku⟩,kf,klt'⟩:=hW'.s hs0
  have hx:W'.cell? ⟨w.heap.size,0,none⟩=some (.pointer (some ⟨g0.m 31,0,none⟩)):=by simp [World.cell?,hW'.bx]
  have hr0:W'.cell? ⟨w.heap.size+1,0,none⟩=some (.int .i64 0):=by simp [World.cell?,hW'.rs]
  have hrf:W'.frozen? ⟨w.heap.size+1,0,none⟩=false:=by simp [World.frozen?,hW'.rs]
  have hl0:w.heap.size < W'.heap.size:=(Array.getElem?_eq_some_iff.1 hW'.bx).1
  have hl1:w.heap.size+1 < W'.heap.size:=(Array.getElem?_eq_some_iff.1 hW'.rs).1
  have hne31:¬ w.heap.size+1=g0.m 31:=by
   have:=hs0.inn _ _ (hs0.obj 31 _ nw31).1
   omega
  have hgd:gdT x=(decide (x.map UInt8.toNat∈tyObj) && !tyRoot (x.map UInt8.toNat)):=rfl
  cases hty:decide (x.map UInt8.toNat∈tyObj) with
  | false =>
   rw [hty] at hok hgd
   rw [Bool.false_and] at hgd
   cases ok with
   | false =>
    gi_wp2_with fail
    refine ⟨trivial,?_⟩
    gi_wp2_with fail
    exact ⟨((hkf1.up hw5.size).trans ((KeepsOthers.setCell W' _ _).from _)).trans ((KeepsOthers.alloc _ _).from _),⟨rfl,x,by simp,hgd⟩,(hW'.bad hm1 6).grown (Nat.le_refl _) (World.grownBy_alloc _ _ none) (fun r e=>by cases e)⟩
   | true =>
    have hkk:¬ kk=1:=by
     rw [Bool.true_and,eqI_eq] at hok
     exact of_decide_eq_false hok
    have hkk':(kk == 1)=false:=by simpa using hkk
    gi_wp2_with fail
    refine ⟨trivial,?_⟩
    gi_wp2_with fail
    exact ⟨((hkf1.up hw5.size).trans ((KeepsOthers.setCell W' _ _).from _)).trans ((KeepsOthers.alloc _ _).from _),⟨rfl,x,by simp,hgd⟩,(hW'.bad hm1 6).grown (Nat.le_refl _) (World.grownBy_alloc _ _ none) (fun r e=>by cases e)⟩
  | true =>
   rw [hty] at hok hgd
   rw [Bool.true_and] at hgd
   cases ok with
   | false=>cases hok
   | true =>
    obtain rfl:kk=1:=by
     rw [Bool.true_and,eqI_eq] at hok
     exact of_decide_eq_true hok
    gi_wp2_with fail
    obtain ⟨Wa,hWa⟩:∃ Wa,Wa=W'.alloc (.cells #[.int .u8 1,.string sb,.slice p5 xs.length c5,.slice p6 ys.length c6] 64):=⟨_,rfl⟩
    have hWA:WInv g0 w mine (g0.m 31) 0 Wa g':=by rw [hWa]; exact hW'.more _
    have hEa:=hWA.wi.tr.ext
    have c35:=amT (cz_q (x.map UInt8.toNat) (of_decide_eq_true hty)) (fun y hy=>by simp only [List.mem_cons,List.not_mem_nil,or_false] at hy; rcases hy with rfl|rfl <;> rfl) (by decide) hWA.wi.rel (hg0.ext hEa) (vs:=[.pointer (some ⟨g0.m 2,0,none⟩),.string ⟨x.toArray⟩]) (by
     simp only [RelL,Rel]
     refine ⟨_,_,rfl,⟨Nat.lt_of_lt_of_le h2 hEa.n,by rw [hEa.m 2 h2]⟩,_,_,rfl,⟨_,rfl,by simp⟩,rfl⟩)
    have hkfa:KeepsFrom W5.heap.size W Wa:=by rw [hWa]; exact (hkf1.up hw5.size).trans ((KeepsOthers.alloc W' _).from _)
    have hmia:∀ r,mine r→Wa.heap[r]?=W.heap[r]?:=fun r hr=>by rw [hWa]; exact (Below.heap_alloc _ _ _ (hwi'.mine r hr).1).trans (hmi1 r hr)
    rw [← hWa]
    clear hWa
    refine ⟨trivial,(inR l (callsIn_wide.2 c35)).mono ?_⟩
    rintro e Wb hp
    obtain ⟨v3,g3,rfl,hwi3,hv3,hkf3,hmi3,hsz3'⟩:=hWA.wi.step (Nat.le_refl _) hs0 hp
    have hW3:WInv g0 w mine (g0.m 31) 0 Wb g3:=⟨hwi3,(hmi3 _ hm0).trans hWA.bx,(hmi3 _ hm1).trans hWA.rs⟩
    simp only [Rel] at hv3
    subst hv3
    have hr3:Wb.cell? ⟨w.heap.size+1,0,none⟩=some (.int .i64 0):=by simp [World.cell?,hW3.rs]
    have hrf3:Wb.frozen? ⟨w.heap.size+1,0,none⟩=false:=by simp [World.frozen?,hW3.rs]
    clear hp c35 hx hr0 hrf k0 ku kf
    cases htr:tyRoot (x.map UInt8.toNat) with
    | true =>
     rw [htr] at hgd
     gi_wp2_with fail
     exact ⟨(hkfa.trans (hkf3.up hw5.size)).trans ((KeepsOthers.setCell _ _ _).from _),⟨rfl,x,by simp,hgd⟩,hW3.bad hm1 6⟩
    | false =>
     rw [htr] at hgd
     gi_wp2_with fail
     refine ⟨hkfa.trans (hkf3.up hw5.size),fun hne b off e=>(hmi3 b (hm2 b off hne e)).trans (hmia b (hm2 b off hne e)),⟨g3,hW3⟩,fun y hy=>?_⟩
     rcases List.mem_append.1 hy with hy|hy
     · exact hgood y hy
     · rw [List.mem_singleton] at hy
       subst hy
       exact hgd
 case done =>
  rintro D ys W hD rfl ⟨⟨g,hW⟩,hgood⟩ hK
  obtain ⟨k0,⟨u1,ku⟩,kf,klt⟩:=hW.s hs0
  have hx:W.cell? ⟨w.heap.size,0,none⟩=some (.pointer (some ⟨g0.m 31,0,none⟩)):=by simp [World.cell?,hW.bx]
  have hr0:W.cell? ⟨w.heap.size+1,0,none⟩=some (.int .i64 0):=by simp [World.cell?,hW.rs]
  have hrf:W.frozen? ⟨w.heap.size+1,0,none⟩=false:=by simp [World.frozen?,hW.rs]
  have hlt31:g0.m 31 < w.heap.size:=hs0.inn _ _ (hs0.obj 31 _ nw31).1
  have hne1:¬ g0.m 31=w.heap.size+1:=by omega
  have hne2:¬ w.heap.size+1=g0.m 31:=by omega
  have hne3:¬ g0.m 31=w.heap.size:=by omega
  gi_wp2_with fail
  have hl31:g0.m 31 < W.heap.size:=Nat.lt_of_lt_of_le hlt31 hW.wi.tr.size
  have hK':=(KeepsOthers.setCell (W.setCell ⟨g0.m 31,1,none⟩ (.slice a' ys.length cap')) ⟨w.heap.size+1,0,none⟩ (.int .i64 0)).same D _ ((KeepsOthers.setCell W ⟨g0.m 31,1,none⟩ (.slice a' ys.length cap')).same D _ hK rfl) rfl
  have hDu:Un g D:=hW.wi.small D (by have:=hw5.size; omega) (fun ⟨arr,T,z,h'⟩=>by rw [hK] at h'; cases h')
  have hDn:D≠w.heap.size+1:=fun e=>by rw [e,hW.rs] at hK; cases hK
  have hf:∀ b,b≠g0.m 31→b≠w.heap.size+1→b≠D→(((W.setCell ⟨g0.m 31,1,none⟩ (.slice a' ys.length cap')).setCell ⟨w.heap.size+1,0,none⟩ (.int .i64 0)).putObj D (.deferred none)).heap[b]?=W.heap[b]?:=fun b h1 h2 h3 =>
   (World.putObj_heap_other h3).trans ((Below.heap_setCell _ _ _ _ h2).trans (Below.heap_setCell _ _ _ _ h1))
  have hr1:(((W.setCell ⟨g0.m 31,1,none⟩ (.slice a' ys.length cap')).setCell ⟨w.heap.size+1,0,none⟩ (.int .i64 0)).putObj D (.deferred none)).heap[w.heap.size+1]?=some (.cells #[.int .i64 0] 30 (0,0)):=by
   rw [World.putObj_heap_other (Ne.symm hDn)]
   have h1:(W.setCell ⟨g0.m 31,1,none⟩ (.slice a' ys.length cap')).heap[w.heap.size+1]?=some (.cells #[.int .i64 0] 30 (0,0)):=(Below.heap_setCell _ _ _ _ hne2).trans hW.rs
   generalize W.setCell ⟨g0.m 31,1,none⟩ (.slice a' ys.length cap')=Wx at h1
   simp only [World.setCell,Array.getElem?_modify,h1]
   simp
  have hc1:(((W.setCell ⟨g0.m 31,1,none⟩ (.slice a' ys.length cap')).setCell ⟨w.heap.size+1,0,none⟩ (.int .i64 0)).putObj D (.deferred none)).cell? ⟨w.heap.size+1,0,none⟩=some (.int .i64 0):=by simp [World.cell?,hr1]
  have hall:zs.all gdT=true:=by
   rw [List.all_eq_true]
   exact fun y hy=>hgood y ((hmem y).2 hy)
  have hsz:W.heap.size≤(((W.setCell ⟨g0.m 31,1,none⟩ (.slice a' ys.length cap')).setCell ⟨w.heap.size+1,0,none⟩ (.int .i64 0)).putObj D (.deferred none)).heap.size:=by simp [World.setCell,World.putObj]
  refine ⟨by simp,.inl ⟨_,_,rfl,run_takeDeferred hK',?_⟩⟩
  refine ⟨.int .i64 0,?_,?_⟩
  · simp [results,Tryz.f10,go_sem,hc1]
  · rw [hall]
    refine hW.wi.done hs0 hsz ⟨rfl,rfl⟩ (fun b hb hne hc=>hf b hne (fun e=>?_) (fun e=>?_)) 0 rfl
    · subst e
      obtain ⟨h3,h4⟩:=(hW.wi.mine _ hm1).2
      rcases hc with hc|hc|⟨f,hc⟩
      · omega
      · exact hc h3
      · exact h4 f hc
    · subst e
      rcases hc with hc|hc|⟨f,hc⟩
      · have:=hw5.size; omega
      · exact hc hDu.1
      · exact hDu.2 f hc
 case stop =>
  rintro D c pre W hD hpre ⟨⟨rfl,x,hx,hbad⟩,⟨g,hW⟩⟩ hK
  gi_wp2_with fail
  have hDu:Un g D:=hW.wi.small D (by have:=hw5.size; omega) (fun ⟨arr,T,z,h'⟩=>by rw [hK] at h'; cases h')
  have hDn:D≠w.heap.size+1:=fun e=>by rw [e,hW.rs] at hK; cases hK
  have hr1:(W.putObj D (.deferred none)).heap[w.heap.size+1]?=some (.cells #[.int .i64 6] 30 (0,0)):=(World.putObj_heap_other (Ne.symm hDn)).trans hW.rs
  have hc1:(W.putObj D (.deferred none)).cell? ⟨w.heap.size+1,0,none⟩=some (.int .i64 6):=by simp [World.cell?,hr1]
  have hall:zs.all gdT=false:=by
   rw [List.all_eq_false]
   exact ⟨x,(hmem x).1 (hpre.subset hx),by simp [hbad]⟩
  refine ⟨by simp,.inl ⟨_,_,rfl,run_takeDeferred hK,?_⟩⟩
  refine ⟨.int .i64 6,?_,?_⟩
  · simp [results,Tryz.f10,go_sem,hc1]
  · rw [hall]
    refine hW.wi.done (W':=W.putObj D (.deferred none)) hs0 (by simp [World.putObj]) ⟨rfl,rfl⟩ (fun b hb hne hc=>World.putObj_heap_other (fun e=>?_)) 6 rfl
    subst e
    rcases hc with hc|hc|⟨f,hc⟩
    · have:=hw5.size; omega
    · exact hc hDu.1
    · exact hDu.2 f hc
end Go.Cb.CodeA
/-
 Want told by itself.
-/
set_option maxRecDepth 100000
set_option linter.unusedVariables false
set_option linter.unusedSimpArgs false
namespace Go.Cb.CodeA
open Go Go.Cb Go.Proofs Go.RowKit Go.Shelf Go.Maps Go.Sort
theorem txs_of {g:Gh} {w:World} {b sz:Nat}:∀ (rows:List (List AV)) (f:Nat),RelRows g w b f sz rows→(∀ r∈rows,∃ s,r=[.str s]) →
 ∃ zs:List Tx,rows=zs.map (fun z=>sRow (z.map UInt8.toNat))∧∀ j,j < zs.length→w.cell? ⟨b,f+j,none⟩=some (.string ⟨(zs[j]?.getD []).toArray⟩)
 | [],_,_,_=>⟨[],rfl,fun j hj=>by simp at hj⟩
 | r::rows,f,h,hr=>by
  obtain ⟨s,rfl⟩:=hr _ (List.mem_cons_self ..)
  simp only [RelRows,RelCells,Rel] at h
  obtain ⟨e,⟨⟨v,hv,_,_,bs,rfl,hs⟩,_⟩,h2⟩:=h
  have hsz:sz=1:=by simpa using e.symm
  subst hsz
  obtain ⟨zs,rfl,hz⟩:=txs_of rows (f+1) h2 fun r hr'=>hr r (List.mem_cons_of_mem _ hr')
  refine ⟨bs.data.toList::zs,by simp [sRow,hs],fun j hj=>?_⟩
  cases j with
  | zero=>simpa using hv
  | succ j =>
   have:=hz j (by simpa using hj)
   rw [show f+1+j=f+(j+1) by omega] at this
   simpa using this
theorem want_ok:ExtOK Tryz.prog gts 10 wantX:=by
 intro args st res st' h hweak g w vs hst hg hrel
 unfold wantX at h
 split at h
 · rename_i x
   simp only [Option.some.injEq,Prod.mk.injEq] at h
   obtain ⟨rfl,rfl⟩:=h
   simp only [RelL] at hrel
   obtain ⟨v1,_,rfl,hv1,v2,_,rfl,hv2,rfl⟩:=hrel
   simp only [Rel] at hv1
   subst hv1
   refine (wn_in v2 w).mono ?_
   rintro e w' ⟨rfl,hb⟩
   exact post_below hst rfl hb (by simp only [Rel]) (by simp) (by simp)
 · rename_i o bb rows
   split at h
   case isFalse=>cases h
   rename_i hc
   obtain ⟨rfl,rfl,hrows⟩:=hc
   simp only [Option.some.injEq,Prod.mk.injEq] at h
   obtain ⟨rfl,rfl⟩:=h
   simp only [RelL,Rel] at hrel
   obtain ⟨v1,_,rfl,⟨h31,rfl⟩,v2,_,rfl,⟨a,n,cap,rfl,rfl,hcap,hnone,hrr⟩,rfl⟩:=hrel
   by_cases h20:20 < rows.length
   · rw [if_pos h20]
     refine (wl_in (ad (g.m 31) 0) a rows.length cap h20 w).mono ?_
     rintro e w' ⟨rfl,hb⟩
     obtain ⟨hS,hE⟩:=SRel.dead (o0:=31) hst nw31 hb.size (fun b hb' _ _=>hb.block b hb')
     exact ⟨_,g,rfl,hS,Tr.below No hb hst.cli,ValOK.mk' (by simp only [Rel]) (by simp) (by simp)⟩
   · rw [if_neg h20]
     obtain ⟨zs,hzs,hT,hbl⟩:∃ zs:List Tx,rows=zs.map (fun z=>sRow (z.map UInt8.toNat))∧(∀ W,(∀ b,b < w.heap.size→W.heap[b]?=w.heap[b]?)→TxS W (.slice a zs.length cap) zs)∧(∀ b off cap',Value.slice a zs.length cap=.slice (some ⟨b,off,none⟩) zs.length cap'→zs≠[]→b < w.heap.size):=by
      by_cases hne:rows=[]
      · subst hne
        exact ⟨[],rfl,fun W _=>⟨a,cap,rfl,fun h=>absurd rfl h⟩,fun b off cap' _ h=>absurd rfl h⟩
      · obtain ⟨b,f,sz,rfl,hr⟩:=hrr hne
        obtain ⟨zs,rfl,hz⟩:=txs_of rows f hr hrows
        have hb:zs≠[]→b < w.heap.size:=fun hne=>by
         have:=hz 0 (List.length_pos_iff.2 hne)
         exact block_lt_of_cell this
        refine ⟨zs,rfl,fun W hW=>⟨_,cap,rfl,fun hne=>⟨b,f,rfl,fun j hj=>?_⟩⟩,fun b' off cap' e hne=>?_⟩
        · have:=hz j hj
          unfold World.cell? at this ⊢
          rw [hW b (hb hne)]
          exact this
        · cases e
          exact hb hne
     subst hzs
     rw [List.length_map] at h20 ⊢
     have:=want_g hst hg zs (by omega) a cap hT hbl
     have h1:(∀ r∈zs.map (fun z=>sRow (z.map UInt8.toNat)),r∈wantGood) ↔ zs.all gdT=true:=by
      rw [List.all_eq_true]
      constructor
      · exact fun h z hz=>(good_iff _).1 (h _ (List.mem_map.2 ⟨z,hz,rfl⟩))
      · intro h r hr
        obtain ⟨z,hz,rfl⟩:=List.mem_map.1 hr
        exact (good_iff _).2 (h z hz)
     cases hq:zs.all gdT with
     | true =>
      rw [hq] at this
      rw [if_pos (h1.2 hq)]
      exact this
     | false =>
      rw [hq] at this
      rw [if_neg (fun h=>by rw [h1.1 h] at hq; cases hq)]
      exact this
 · cases h
end Go.Cb.CodeA
