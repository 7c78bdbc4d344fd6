import Derived.Test.YthbikoodicigeaaGreatDoorChecked
import Derived.Shelf.RegionOpenPlain
import Derived.Shelf.Spec.SlicesInsert
import Derived.WalkKit
import Derived.Lib.AppendZerosOnto
import Derived.Test.YthbikoodicigeaaGreatDoorXAms4
import Derived.Test.YthbikoodicigeaaGreatDoorXAms2
set_option maxRecDepth 100000
set_option linter.unusedVariables false
set_option linter.unusedSimpArgs false
namespace Go.Cb.CodeA
open Go Go.Cb Go.Proofs Go.RowKit Go.Shelf
/-- what Insert comes to -/
def InsPost (w:World) (e:Ending) (w':World) (n bb:Nat) (vs:List Value):Prop :=
 ∃ cap arr T,e=.returned (.slice (some (ad bb 0)) n cap)∧w'.heap[bb]?=some (.cells arr T (0,0))∧arr.size=cap*4∧n≤cap∧arr.toList.take (n*4)=vs∧(∀ b,b≠bb→b < w.heap.size→w'.heap[b]?=w.heap[b]?)∧w.heap.size≤w'.heap.size∧bb < w'.heap.size∧Env w w'

def InsE (w:World) (e:Ending) (w':World) (n b:Nat) (vs:List Value):Prop:=∃ bb,(bb=b∨bb=w.heap.size)∧InsPost w e w' n bb vs

theorem sz131:(Tryz.prog.info? 131).map (·.size)=some 4:=by kernel_rfl
theorem mixedE:Tryz.prog.follows .mixedOrders=true:=by kernel_rfl
set_option maxHeartbeats 4000000 in
theorem ins_room (b n c i vb voff vc:Nat) (arr:Array Value) (T:TypeId) (vs:List Value) (w:World) (hi:i < n) (hroom:n+1≤c) (hn:(n+1)*80≤140737488355328) (hvb:vb≠b)
 (hh:w.heap[b]?=some (.cells arr T (0,0))) (hs:arr.size=c*4) (hvl:vs.length=4) (hvs:∀ j v,vs[j]?=some v→w.cell? (ad vb (voff+j))=some v) (h1c:∀ v∈arr.toList.take (n*4),v.oneCell'=true) (h1v:∀ v∈vs,v.oneCell'=true) :
 Calls Tryz.prog 100 #[.slice (some ⟨b,0,none⟩) n c,.int .i64 i,.slice (some ⟨vb,voff,none⟩) 1 vc] w fun e w'=>InsPost w e w' (n+1) b (arr.toList.take (i*4)++vs++(arr.toList.take (n*4)).drop (i*4)):=by
 have t0:=Tryz.underlying0
 have hz2:¬ ((i:Int)=(n:Int)):=by omega
 have hc0:=hvs 0 _ (List.getElem?_eq_getElem (by omega))
 obtain ⟨arrA,TA,zA,hA,hAs⟩:∃ arrA TA zA,w.heap[vb]?=some (.cells arrA TA zA)∧arrA.size≠0:=by
  unfold World.cell? at hc0
  simp only [ad,Option.isSome_none,Bool.false_eq_true,if_false] at hc0
  cases hq:w.heap[vb]? with
  | none=>rw [hq] at hc0; cases hc0
  | some o =>
   rw [hq] at hc0
   cases o with
   | cells cs T z =>
    refine ⟨cs,T,z,rfl,fun h=>?_⟩
    have:=(Array.getElem?_eq_some_iff.1 hc0).1
    omega
   | _=>cases hc0
 have hov:∀ lb cb,(callFunc 145 #[.slice (some ⟨vb,voff,none⟩) 1 vc,.slice (some ⟨b,(i+1)*4,none⟩) lb cb]).run Tryz.prog w=.ok (.value (.bool false)) w:=fun lb cb=>by
  rw [run_callFunc_extern Tryz.func145 (by kernel_rfl) (by kernel_rfl) (by kernel_rfl) (e:=Extern.SlicesOverlaps.overlaps #[43,43] #[4]) (by kernel_rfl),
   run_overlaps_plain w 43 4 131 Tryz.underlying43 4 Tryz.sizeOf131 ⟨vb,voff,none⟩ ⟨b,(i+1)*4,none⟩ 1 vc lb cb hvb hA hh hAs (by omega)]
  rfl
 obtain ⟨cs,hcs⟩:∃ cs,cs=(arr.toList.take (n*4)).drop (i*4):=⟨_,rfl⟩
 have hal:arr.toList.length=c*4:=by simpa using hs
 have hcl:cs.length=(n - i)*4:=by rw [hcs,List.length_drop,List.length_take,hal]; omega
 obtain ⟨A1,hA1⟩:∃ A1,A1=arr.toList.take ((i+1)*4)++cs++arr.toList.drop ((i+1)*4+cs.length):=⟨_,rfl⟩
 have hA1l:A1.length=c*4:=by rw [hA1]; simp only [List.length_append,List.length_take,List.length_drop,hal,hcl]; omega
 have hhd:w.drew.heap[b]?=some (.cells arr T (0,0)):=hh
 have hcp1:∀ ty dc sc,(Builtin.copy_ #[43,43] ty #[.slice (some ⟨b,(i+1)*4,none⟩) (n - i) dc,.slice (some ⟨b,i*4,none⟩) (n+1 - i) sc]).run Tryz.prog w.drew=.ok (goInt (Nat.min (n+1 - i) (n - i))) (w.drew.setRow b A1.toArray):=fun ty dc sc=>by
  rw [run_copy_rowN w.drew 43 43 ty 131 4 b ((i+1)*4) (n - i) dc ⟨b,i*4,none⟩ (n+1 - i) sc arr T cs Tryz.underlying43 sz131 hhd (by rw [hcl]; simp only [Nat.min_def]; split <;> omega)
   (fun j v hj=>by
    rw [show (⟨b,i*4,none⟩:Addr)=ad b (i*4) from rfl,Addr.add_ad,cell_of_row _ _ _ arr T _ hhd]
    rw [hcs,List.getElem?_drop,List.getElem?_take] at hj
    split at hj
    · simpa using hj
    · cases hj) (by rw [hcl,hs]; omega) (fun v hv=>h1c v (by rw [hcs] at hv; exact List.mem_of_mem_drop hv)),hA1]
 obtain ⟨A2,hA2⟩:∃ A2,A2=A1.take (i*4)++vs++A1.drop (i*4+vs.length):=⟨_,rfl⟩
 have hA2l:A2.length=c*4:=by rw [hA2]; simp only [List.length_append,List.length_take,List.length_drop,hA1l,hvl]; omega
 have hh1:(w.drew.setRow b A1.toArray).heap[b]?=some (.cells A1.toArray T (0,0)):=setRow_heap w.drew b arr A1.toArray T _ hhd
 have hcp2:∀ (W:World),W.heap=(w.drew.setRow b A1.toArray).heap→∀ ty dc,(Builtin.copy_ #[43,43] ty #[.slice (some ⟨b,i*4,none⟩) (n+1 - i) dc,.slice (some ⟨vb,voff,none⟩) 1 vc]).run Tryz.prog W=.ok (goInt (Nat.min 1 (n+1 - i))) (W.setRow b A2.toArray):=fun W hW ty dc=>by
  rw [run_copy_rowN W 43 43 ty 131 4 b (i*4) (n+1 - i) dc ⟨vb,voff,none⟩ 1 vc A1.toArray T vs Tryz.underlying43 sz131 (by rw [hW]; exact hh1) (by rw [hvl]; simp only [Nat.min_def]; split <;> omega)
   (fun j v hj=>by
    rw [show (⟨vb,voff,none⟩:Addr)=ad vb voff from rfl,Addr.add_ad,World.cell?_of_block (w:=w) (by rw [hW]; exact setRow_other w.drew _ _ _ hvb)]
    exact hvs j v hj) (by simp only [List.size_toArray,hA1l,hvl]; omega) h1v,hA2]
 have take_ok:A2.take ((n+1)*4)=arr.toList.take (i*4)++vs++cs:=by
  have e1:A1.take (i*4)=arr.toList.take (i*4):=by
   rw [hA1,List.append_assoc,List.take_append_of_le_length (by rw [List.length_take,hal]; omega),List.take_take]
   congr 1; omega
  have e2:A1.drop (i*4+vs.length)=cs++arr.toList.drop ((i+1)*4+cs.length):=by
   rw [hA1,hvl,List.append_assoc]
   exact List.drop_left' (by rw [List.length_take,hal]; omega)
  rw [hA2,e1,e2,← List.append_assoc]
  exact List.take_left' (by simp only [List.length_append,List.length_take,hal,hvl,hcl]; omega)
 have fin:∀ (W:World),W.heap=(w.drew.setRow b A1.toArray).heap→W.os=w.os→W.output=w.output→InsPost w (.returned (.slice (some ⟨b,0,none⟩) (n+1) c)) (W.setRow b A2.toArray) (n+1) b (arr.toList.take (i*4)++vs++cs):=fun W hW ho hou=>by
  have hWb:W.heap[b]?=some (.cells A1.toArray T (0,0)):=by rw [hW]; exact hh1
  have hblt:b < w.heap.size:=(Array.getElem?_eq_some_iff.1 hh).1
  have e:W.heap.size=w.heap.size:=by rw [hW]; simp
  have hold:∀ b',b'≠b→W.heap[b']?=w.heap[b']?:=fun b' hb=>by rw [hW]; exact setRow_other w.drew _ _ _ hb
  have hWfz:∀ a:Addr,W.frozen? a=w.frozen? a:=fun a=>by
   unfold World.frozen?
   by_cases ha:a.block=b
   · rw [ha,hWb,hh]
   · rw [hold _ ha]
  refine ⟨c,A2.toArray,T,rfl,setRow_heap W b A1.toArray A2.toArray T _ hWb,by simpa using hA2l,hroom,by simpa using take_ok,fun b' hb _=>by rw [setRow_other _ _ _ _ hb]; exact hold b' hb,by simp [e],by simpa [e] using hblt,ho,hou⟩
 rw [← hcs]
 clear hA1 hA2 hcs take_ok hcl hA1l hA2l hh1 hhd
 have mixed:=mixedE
 have hw1:IntKind.i64.wrap ((i:Int)+1)=(i:Int)+1:=by rw [IntKind.wrap_i64]; omega
 have hb1:(0:Int)≤(i:Int)+1:=by omega
 have hin:i≤n:=by omega
 have htn:((i:Int)+1).toNat=i+1:=by omega
 have hb2:¬ (c=i+1):=by omega
 have hb3:(i:Int)≤(n:Int)+1:=by omega
 have hb4:¬ (c=i):=by omega
 have hb5:¬ (c=n+1∧i=n):=by omega
 go_enter Tryz.func100,Tryz.ntmps100
 go_wp2_with (simp only [hov])
 go_region_law_o (refine step_copy_runI rfl _ _ 43 43 rfl _ _ (by simp [Act.eval,Act.put]) (by simp [Act.eval,Act.put]) (hcp1 _ _ _) ?_)
 go_wp2_with (at_builtin; refine wpList_copy_runI _ rfl _ _ 43 43 rfl _ _ rfl rfl (hcp2 _ rfl _ _) ?_)
 go_ret
 exact fin _ rfl rfl rfl
noncomputable def CxE:Go.Cb.Cx:=⟨Tryz.prog,[],[],0,[],No⟩
theorem info131:(Tryz.prog.info? 131).map (fun i=>(i.zero,i.size,i.bytes))=some (some (.agg #[.string ByteArray.empty,.string ByteArray.empty,.slice none 0 0,.slice none 0 0]),4,80):=by kernel_rfl
/-- a new block -/
theorem ins_new {w:World} {C:Array Value} {n cap:Nat} {vs:List Value} (h1:C.toList.take (n*4)=vs) (h2:C.size=cap*4) (h3:n≤cap):InsPost w (.returned (.slice (some (ad w.heap.size 0)) n cap)) (w.drew.alloc (.cells C 131)) n w.heap.size vs :=
 ⟨cap,C,131,rfl,heap_alloc_new w.drew _,h2,h3,h1,fun b _ hb=>heap_alloc_old w.drew _ hb,by simp,by simp,(Env.drawn (w:=w) (w':=w.drew) rfl rfl rfl).trans (Env.alloc w.drew _ (by intro c t z e; cases e; rfl))⟩
set_option maxHeartbeats 4000000 in
theorem ins_nil (vb voff vc:Nat) (vs:List Value) (w:World) (hvl:vs.length=4) (hvs:∀ j v,vs[j]?=some v→w.cell? (ad vb (voff+j))=some v) :
 Calls Tryz.prog 100 #[.slice none 0 0,.int .i64 0,.slice (some ⟨vb,voff,none⟩) 1 vc] w fun e w'=>InsPost w e w' 1 w.heap.size vs:=by
 have t0:=Tryz.underlying0
 obtain ⟨i0,hi0,hz0,hzs,hzb⟩:=info_parts info131
 have happ:=fun ty=>append_new (c:=CxE) (w:=w) (t:=43) (ty:=ty) Tryz.underlying43 hi0 hz0 (by rw [hzs]; rfl) (by rw [hzb]; decide) (a0:=none) (n:=0) (cap:=0) (m:=1) (c1:=vc) (us:=[]) (vs:=vs) (a1:=ad vb voff) (fun _=>rfl) (Nat.le_refl _) (by simp) (by simp) (by rw [hzs,hvl]) (fun j u hj=>by rw [Addr.add_ad]; exact hvs j u hj) (by decide) (by decide) (by rw [hzb]; decide)
 obtain ⟨C,cap,hrun,hC,hCs,hle,_⟩:=happ 43
 rw [hzs] at hC hCs
 have hP:=ins_new (w:=w) (n:=1) hC hCs hle
 simp only [List.nil_append,Nat.zero_add] at hP hrun
 clear hC hCs hle happ hi0 hz0 hzs hzb
 go_enter Tryz.func100,Tryz.ntmps100
 go_wp2_with (at_builtin; refine Lib.wpList_append_run _ rfl _ _ 43 43 rfl _ _ rfl rfl _ _ hrun ?_)
 go_ret
 exact hP
set_option maxHeartbeats 4000000 in
theorem ins_end (b n c vb voff vc:Nat) (arr:Array Value) (T:TypeId) (vs:List Value) (w:World) (hnc:n≤c) (hn:(n+1)*80≤140737488355328)
 (hh:w.heap[b]?=some (.cells arr T (0,0))) (hs:arr.size=c*4) (hvl:vs.length=4) (hvs:∀ j v,vs[j]?=some v→w.cell? (ad vb (voff+j))=some v) (h1v:∀ v∈vs,v.oneCell'=true) :
 Calls Tryz.prog 100 #[.slice (some ⟨b,0,none⟩) n c,.int .i64 n,.slice (some ⟨vb,voff,none⟩) 1 vc] w fun e w'=>InsE w e w' (n+1) b (arr.toList.take (n*4)++vs):=by
 have t0:=Tryz.underlying0
 obtain ⟨i0,hi0,hz0,hzs,hzb⟩:=info_parts info131
 have hal:arr.toList.length=c*4:=by simpa using hs
 have hrun:∃ v' w',(Builtin.append_ #[43,43] 43 #[.slice (some ⟨b,0,none⟩) n c,.slice (some ⟨vb,voff,none⟩) 1 vc]).run Tryz.prog w=.ok v' w'∧∃ bb,(bb=b∨bb=w.heap.size)∧InsPost w (.returned v') w' (n+1) bb (arr.toList.take (n*4)++vs):=by
  by_cases hroom:n+1≤c
  · refine ⟨_,_,run_append_room2 (P:=Tryz.prog) (w:=w) 43 43 131 i0 T Tryz.underlying43 hi0 b n c arr hh (ad vb voff) 1 vc vs (by rw [hvl,hzs]) (fun j u hj=>by rw [Addr.add_ad]; exact hvs j u hj) h1v hroom (by rw [hzs,hvl,hs]; omega),b,.inl rfl,?_⟩
    rw [hzs]
    have hblt:b < w.heap.size:=(Array.getElem?_eq_some_iff.1 hh).1
    refine ⟨c,_,T,rfl,setRow_heap w b arr _ T _ hh,?_,hroom,?_,fun b' hb _=>setRow_other _ _ _ _ hb,by simp,by simpa using hblt,Env.setRow w b _⟩
    · simp only [List.size_toArray,List.length_append,List.length_take,List.length_drop,hal,hvl]; omega
    · rw [List.toList_toArray]
      exact List.take_left' (by simp only [List.length_append,List.length_take,hal,hvl]; omega)
  · obtain ⟨C,cap,hr,hC,hCs,hle,_⟩:=append_new (c:=CxE) (w:=w) (t:=43) (ty:=43) Tryz.underlying43 hi0 hz0 (by rw [hzs]; rfl) (by rw [hzb]; decide) (a0:=some (ad b 0)) (n:=n) (cap:=c) (m:=1) (c1:=vc) (us:=arr.toList.take (n*4)) (vs:=vs) (a1:=ad vb voff)
     (fun h=>by cases h) hnc (by rw [List.length_take,hal,hzs]; omega) (fun b0 hb0 j u hj=>by
      cases hb0
      rw [Addr.add_ad,Nat.zero_add,cell_of_row _ _ _ arr T _ hh]
      rw [List.getElem?_take] at hj
      split at hj
      · simpa using hj
      · cases hj) (by rw [hzs,hvl]) (fun j u hj=>by rw [Addr.add_ad]; exact hvs j u hj) (by decide) hroom (by rw [hzb]; exact hn)
    rw [hzs] at hC hCs
    exact ⟨_,_,hr,_,.inr rfl,ins_new hC hCs hle⟩
 obtain ⟨v',w',hrun,hP⟩:=hrun
 have hP:InsE w (.returned v') w' (n+1) b (arr.toList.take (n*4)++vs):=hP
 clear hi0 hz0 hzs hzb hal
 go_enter Tryz.func100,Tryz.ntmps100
 go_wp2_with (at_builtin; refine Lib.wpList_append_run _ rfl _ _ 43 43 rfl _ _ rfl rfl _ _ hrun ?_)
 all_goals go_ret
 all_goals exact hP

set_option maxHeartbeats 4000000 in
theorem ins_grow (b n c i vb voff vc:Nat) (arr:Array Value) (T:TypeId) (vs:List Value) (w:World) (hi:i < n) (hnc:n≤c) (hroom:c < n+1) (hn:(n+1)*80≤140737488355328) (hvw:vb < w.heap.size)
 (hh:w.heap[b]?=some (.cells arr T (0,0))) (hs:arr.size=c*4) (hvl:vs.length=4) (hvs:∀ j v,vs[j]?=some v→w.cell? (ad vb (voff+j))=some v) (h1c:∀ v∈arr.toList.take (n*4),v.oneCell'=true) (h1v:∀ v∈vs,v.oneCell'=true) :
 Calls Tryz.prog 100 #[.slice (some ⟨b,0,none⟩) n c,.int .i64 i,.slice (some ⟨vb,voff,none⟩) 1 vc] w fun e w'=>InsPost w e w' (n+1) w.heap.size (arr.toList.take (i*4)++vs++(arr.toList.take (n*4)).drop (i*4)):=by
 have t0:=Tryz.underlying0
 have t3:=Tryz.underlying3
 have hz2:¬ ((i:Int)=(n:Int)):=by omega
 obtain ⟨i0,hi0,hz0,hzs,hzb⟩:=info_parts info131
 have hal:arr.toList.length=c*4:=by simpa using hs
 have hbw:b < w.heap.size:=(Array.getElem?_eq_some_iff.1 hh).1
 obtain ⟨cs,hcs⟩:∃ cs,cs=(arr.toList.take (n*4)).drop (i*4):=⟨_,rfl⟩
 have hcl:cs.length=(n - i)*4:=by rw [hcs,List.length_drop,List.length_take,hal]; omega
 have hcell:∀ (j:Nat) (v:Value),(arr.toList.take (n*4))[j]?=some v→w.cell? (ad b j)=some v:=fun j v hj=>by
  rw [cell_of_row _ _ _ arr T _ hh]
  rw [List.getElem?_take] at hj
  split at hj
  · simpa using hj
  · cases hj
 obtain ⟨olds,holds⟩:∃ olds,olds=arr.toList.take (i*4):=⟨_,rfl⟩
 have hol:olds.length=i*4:=by rw [holds,List.length_take,hal]; omega
 have hoc:∀ (j:Nat) (v:Value),olds[j]?=some v→w.drew.cell? ((⟨b,0,none⟩:Addr).add j)=some v:=fun j v hj=>by
  rw [show (⟨b,0,none⟩:Addr)=ad b 0 from rfl,Addr.add_ad,Nat.zero_add]
  refine hcell j v ?_
  rw [holds,List.getElem?_take] at hj
  rw [List.getElem?_take]
  split at hj
  · rw [if_pos (by omega)]; exact hj
  · cases hj
 obtain ⟨G,hG⟩:∃ G,G=grownCap w (n+1) c 131:=⟨_,rfl⟩
 have hGn:n+1≤G:=by rw [hG]; exact grownCap_ge w _ _ _
 have hG63:G≤9223372036854775807:=by
  have:=grownCap_le_maxLen w (n+1) c 131 (by unfold maxLen; omega)
  rw [← hG] at this
  unfold maxLen at this
  omega
 obtain ⟨ROW,hROW,hRs,hR0,hrz⟩:∃ ROW:Array Value,ROW.toList.take (i*4)=olds∧ROW.size=G*4∧ROW.toList.length=G*4∧∀ ty,(Builtin.append_ #[43,3] ty #[.slice (some ⟨b,0,none⟩) i c,.int .i64 ((n:Int)+1 - (i:Int))]).run Tryz.prog w=.ok (.slice (some ⟨w.heap.size,0,none⟩) (n+1) G) (w.drew.alloc (.cells ROW 131)):=by
  have hz:∀ k,(Builtin.zeroCells (Value.agg #[.string ByteArray.empty,.string ByteArray.empty,.slice none 0 0,.slice none 0 0]).cells k).size=k*4:=fun k=>by rw [size_zeroCells]; rfl
  refine ⟨olds.toArray++Builtin.zeroCells (Value.agg #[.string ByteArray.empty,.string ByteArray.empty,.slice none 0 0,.slice none 0 0]).cells (n+1 - i)++Builtin.zeroCells (Value.agg #[.string ByteArray.empty,.string ByteArray.empty,.slice none 0 0,.slice none 0 0]).cells (G - (n+1)),?_,?_,?_,fun ty=>?_⟩
  · rw [Array.toList_append,Array.toList_append,List.append_assoc,← hol]
    exact List.take_left
  · simp only [Array.size_append,hz,List.size_toArray,hol]; omega
  · rw [Array.length_toList]; simp only [Array.size_append,hz,List.size_toArray,hol]; omega
  · have h:=Lib.run_append_grow_zeros w 43 3 ty 131 i0 _ .i64 .i64 Tryz.underlying43 Tryz.underlying3 hi0 hz0 (some ⟨b,0,none⟩) i c olds (by rw [hzs]; exact run_firstCells_some w.drew 4 i ⟨b,0,none⟩ i c olds hol hoc) (n+1 - i) (by omega) (by rw [hzs]; decide) (by omega) (by omega) (by rw [hzb]; omega) (by rw [hzb,show i+(n+1 - i)=n+1 by omega]; exact growslice_fits hroom hn)
    rw [show i+(n+1 - i)=n+1 by omega,← hG,show ((n+1 - i:Nat):Int)=(n:Int)+1 - (i:Int) by omega] at h
    exact h
 obtain ⟨W1,hW1⟩:∃ W1,W1=w.drew.alloc (.cells ROW 131):=⟨_,rfl⟩
 have hn1:W1.heap[w.heap.size]?=some (.cells ROW 131 (0,0)):=by rw [hW1]; exact heap_alloc_new w.drew _
 have ho1:∀ b',b' < w.heap.size→W1.heap[b']?=w.heap[b']?:=fun b' hb=>by rw [hW1]; exact heap_alloc_old w.drew _ hb
 obtain ⟨A1,hA1⟩:∃ A1,A1=ROW.toList.take (i*4)++vs++ROW.toList.drop (i*4+vs.length):=⟨_,rfl⟩
 have hA1l:A1.length=G*4:=by rw [hA1]; simp only [List.length_append,List.length_take,List.length_drop,hR0,hvl]; omega
 have hcpA:∀ (W:World),W.heap=W1.heap→∀ ty dc,(Builtin.copy_ #[43,43] ty #[.slice (some ⟨w.heap.size,i*4,none⟩) (n+1 - i) dc,.slice (some ⟨vb,voff,none⟩) 1 vc]).run Tryz.prog W=.ok (goInt (Nat.min 1 (n+1 - i))) (W.setRow w.heap.size A1.toArray):=fun W hW ty dc=>by
  rw [run_copy_rowN W 43 43 ty 131 4 w.heap.size (i*4) (n+1 - i) dc ⟨vb,voff,none⟩ 1 vc ROW 131 vs Tryz.underlying43 sz131 (by rw [hW]; exact hn1) (by rw [hvl]; simp only [Nat.min_def]; split <;> omega)
   (fun j v hj=>by
    rw [show (⟨vb,voff,none⟩:Addr)=ad vb voff from rfl,Addr.add_ad,World.cell?_of_block (w:=w) (by rw [hW]; exact ho1 _ hvw)]
    exact hvs j v hj) (by simp only [hRs,hvl]; omega) h1v,hA1]
 obtain ⟨A2,hA2⟩:∃ A2,A2=A1.take ((i+1)*4)++cs++A1.drop ((i+1)*4+cs.length):=⟨_,rfl⟩
 have hA2l:A2.length=G*4:=by rw [hA2]; simp only [List.length_append,List.length_take,List.length_drop,hA1l,hcl]; omega
 have take_ok:A2.take ((n+1)*4)=olds++vs++cs:=by
  have e1:A1.take ((i+1)*4)=olds++vs:=by
   rw [hA1,hROW]
   exact List.take_left' (by simp only [List.length_append,hol,hvl]; omega)
  rw [hA2,e1]
  exact List.take_left' (by simp only [List.length_append,hol,hvl,hcl]; omega)
 have hcpB:∀ (W W0:World),W0.heap=W1.heap→W.heap=(W0.setRow w.heap.size A1.toArray).heap→∀ ty dc sc,(Builtin.copy_ #[43,43] ty #[.slice (some ⟨w.heap.size,(i+1)*4,none⟩) (n - i) dc,.slice (some ⟨b,i*4,none⟩) (n - i) sc]).run Tryz.prog W=.ok (goInt (Nat.min (n - i) (n - i))) (W.setRow w.heap.size A2.toArray):=fun W W0 hW0 hW ty dc sc=>by
  have hn0:W0.heap[w.heap.size]?=some (.cells ROW 131 (0,0)):=by rw [hW0]; exact hn1
  rw [run_copy_rowN W 43 43 ty 131 4 w.heap.size ((i+1)*4) (n - i) dc ⟨b,i*4,none⟩ (n - i) sc A1.toArray 131 cs Tryz.underlying43 sz131 (by rw [hW]; exact setRow_heap W0 w.heap.size ROW A1.toArray 131 _ hn0) (by rw [hcl]; simp only [Nat.min_def]; split <;> omega)
   (fun j v hj=>by
    rw [show (⟨b,i*4,none⟩:Addr)=ad b (i*4) from rfl,Addr.add_ad,World.cell?_of_block (w:=w) (by rw [hW,setRow_other _ _ _ _ (by omega:b≠w.heap.size),hW0]; exact ho1 _ hbw)]
    rw [hcs,List.getElem?_drop] at hj
    exact hcell _ v hj) (by simp only [List.size_toArray,hA1l,hcl]; omega) (fun v hv=>h1c v (by rw [hcs] at hv; exact List.mem_of_mem_drop hv)),hA2]
 have fin:∀ (W W0:World),W0.heap=W1.heap→W.heap=(W0.setRow w.heap.size A1.toArray).heap→W.os=w.os→W.output=w.output→InsPost w (.returned (.slice (some ⟨w.heap.size,0,none⟩) (n+1) G)) (W.setRow w.heap.size A2.toArray) (n+1) w.heap.size (olds++vs++cs):=fun W W0 hW0 hW ho hou=>by
  have hn0:W0.heap[w.heap.size]?=some (.cells ROW 131 (0,0)):=by rw [hW0]; exact hn1
  have hWb:W.heap[w.heap.size]?=some (.cells A1.toArray 131 (0,0)):=by rw [hW]; exact setRow_heap W0 w.heap.size ROW A1.toArray 131 _ hn0
  have e:W.heap.size=w.heap.size+1:=by rw [hW]; simp [hW0,hW1]
  have hold:∀ b',b'≠w.heap.size→b' < w.heap.size→W.heap[b']?=w.heap[b']?:=fun b' hb hlt=>by rw [hW,setRow_other _ _ _ _ hb,hW0]; exact ho1 _ hlt
  refine ⟨G,A2.toArray,131,rfl,setRow_heap W w.heap.size A1.toArray A2.toArray 131 _ hWb,by simpa using hA2l,hGn,by simpa using take_ok,fun b' hb hlt=>by rw [setRow_other _ _ _ _ hb]; exact hold b' hb hlt,by simp [e],by simp [e],ho,hou⟩
 rw [← hcs,← holds]
 clear hA1 hA2 hcs holds take_ok hcl hA1l hA2l hROW hRs hR0 hol hoc hcell hG hi0 hz0 hzs hzb hn1 ho1
 subst hW1
 have hw1:IntKind.i64.wrap ((i:Int)+1)=(i:Int)+1:=by rw [IntKind.wrap_i64]; omega
 have hb1:(0:Int)≤(i:Int)+1:=by omega
 have hin:i≤n:=by omega
 have htn:((i:Int)+1).toNat=i+1:=by omega
 have hb3:(i:Int)≤(n:Int):=by omega
 have hGi:¬ (G=i):=by omega
 have hGim:¬ (G=i+1):=by omega
 have hci:¬ (c=i):=by omega
 have hE1:((w.alloc (.cells ROW 131)).drew).heap=(w.drew.alloc (.cells ROW 131)).heap:=rfl
 have hE2:(((w.alloc (.cells ROW 131)).drew.setRow w.heap.size A1.toArray).drew).heap=((w.alloc (.cells ROW 131)).drew.setRow w.heap.size A1.toArray).heap:=rfl
 have mixed:=mixedE
 go_enter Tryz.func100,Tryz.ntmps100
 go_wp2_with (first
  | (at_builtin; refine Lib.wpList_append_run _ rfl _ _ _ _ rfl _ _ rfl rfl _ _ (hrz _) ?_)
  | (at_builtin; refine wpList_copy_runI _ rfl _ _ 43 43 rfl _ _ rfl rfl (hcpA _ hE1 _ _) ?_))
 go_region_law_o (refine step_copy_runI rfl _ _ 43 43 rfl (.slice (some ⟨w.heap.size,(i+1)*4,none⟩) (n - i) (G - (i+1))) (.slice (some ⟨b,i*4,none⟩) (n - i) (c - i)) (by simp [Act.eval,Act.put]) (by simp [Act.eval,Act.put]) (hcpB _ _ hE1 hE2 3 (G - (i+1)) (c - i)) ?_)
 go_wp2
 go_ret
 exact fin _ _ hE1 hE2 rfl rfl

end Go.Cb.CodeA
