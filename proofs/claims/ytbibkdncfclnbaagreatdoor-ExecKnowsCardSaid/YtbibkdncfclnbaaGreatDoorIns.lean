import Derived.Test.YtbibkdncfclnbaaGreatDoorChecked
import Derived.Shelf.RegionOpenPlain
import Derived.Shelf.Spec.SlicesInsert
import Derived.WalkKit
import Derived.Lib.AppendZerosOnto
import Derived.Test.YtbibkdncfclnbaaGreatDoorXAms3
import Derived.Test.YtbibkdncfclnbaaGreatDoorXAms2
set_option maxRecDepth 100000
set_option linter.all false
namespace Go.Cb.CodeA
open Go Go.Cb Go.Proofs Go.RowKit Go.Shelf
def G3 (w:World) (e:Ending) (w':World) (n bb:Nat) (vs:List Value):Prop :=
 ∃ cap arr T,e=.returned (.slice (some (ad bb 0)) n cap)∧w'.heap[bb]?=some (.cells arr T (0,0))∧arr.size=cap*4∧n≤cap∧arr.toList.take (n*4)=vs∧(∀ b,b≠bb→b < w.heap.size→w'.heap[b]?=w.heap[b]?)∧w.heap.size≤w'.heap.size∧bb < w'.heap.size∧Env w w'
def c8y (w:World) (e:Ending) (w':World) (n b:Nat) (vs:List Value):Prop:=∃ bb,(bb=b∨bb=w.heap.size)∧G3 w e w' n bb vs
theorem b6A:(Tryz.prog.info? 41).map (·.size)=some 4:=by kernel_rfl
theorem b1s:Tryz.prog.follows .mixedOrders=true:=by kernel_rfl
set_option maxHeartbeats 4000000 in
theorem c2w (b n c i O l vc:Nat) (arr:Array Value) (T:TypeId) (vs:List Value) (w:World) (hi:i < n) (a2:n+1≤c) (hn:(n+1)*80≤140737488355328) (b0:O≠b)
 (hh:w.heap[b]?=some (.cells arr T (0,0))) (hs:arr.size=c*4) (N:vs.length=4) (b1:∀ j v,vs[j]?=some v→w.cell? (ad O (l+j))=some v) (b2:∀ v∈arr.toList.take (n*4),v.oneCell'=true) (b3:∀ v∈vs,v.oneCell'=true) :
 Calls Tryz.prog 88 #[.slice (some ⟨b,0,none⟩) n c,.int .i64 i,.slice (some ⟨O,l,none⟩) 1 vc] w fun e w'=>G3 w e w' (n+1) b (arr.toList.take (i*4)++vs++(arr.toList.take (n*4)).drop (i*4)):=by
 have t0:=Tryz.underlying0;have c7:¬ ((i:Int)=(n:Int)):=by omega
 have x:=b1 0 _ (List.getElem?_eq_getElem (by omega));obtain⟨y,TA,zA,hA,b4⟩:∃ y TA zA,w.heap[O]?=some (.cells y TA zA)∧y.size≠0:=by
  unfold World.cell? at x;simp only[ad,Option.isSome_none,Bool.false_eq_true,if_false]at x;cases hq:w.heap[O]? with
  | none=>rw[hq]at x; cases x
  | some o =>
   rw[hq]at x;cases o with
   | cells cs T z =>refine⟨cs,T,z,rfl,fun h=>?_⟩;have:=(Array.getElem?_eq_some_iff.1 x).1;omega
   | _=>cases x
 have b6:∀ lb cb,(callFunc 137 #[.slice (some ⟨O,l,none⟩) 1 vc,.slice (some ⟨b,(i+1)*4,none⟩) lb cb]).run Tryz.prog w=.ok (.value (.bool false)) w:=fun lb cb=>by
  rw[run_callFunc_extern Tryz.func137 (by kernel_rfl) (by kernel_rfl) (by kernel_rfl) (e:=Extern.SlicesOverlaps.overlaps #[35,35] #[4]) (by kernel_rfl),
   a5l w 35 4 41 Tryz.underlying35 4 Tryz.sizeOf41 ⟨O,l,none⟩ ⟨b,(i+1)*4,none⟩ 1 vc lb cb b0 hA hh b4 (by omega)]
  rfl
 obtain⟨cs,M⟩:∃ cs,cs=(arr.toList.take (n*4)).drop (i*4):=⟨_,rfl⟩
 have J:arr.toList.length=c*4:=by simpa using hs
 have L:cs.length=(n - i)*4:=by rw[M,List.length_drop,List.length_take,J]; omega
 obtain⟨u,C⟩:∃ u,u=arr.toList.take ((i+1)*4)++cs++arr.toList.drop ((i+1)*4+cs.length):=⟨_,rfl⟩
 have I:u.length=c*4:=by rw[C]; simp only[List.length_append,List.length_take,List.length_drop,J,L]; omega
 have Y:w.drew.heap[b]?=some (.cells arr T (0,0)):=hh;have a7:∀ ty dc sc,(Builtin.copy_ #[35,35] ty #[.slice (some ⟨b,(i+1)*4,none⟩) (n - i) dc,.slice (some ⟨b,i*4,none⟩) (n+1 - i) sc]).run Tryz.prog w.drew=.ok (goInt (Nat.min (n+1 - i) (n - i))) (w.drew.setRow b u.toArray):=fun ty dc sc=>by
  rw[Z7 w.drew 35 35 ty 41 4 b ((i+1)*4) (n - i) dc ⟨b,i*4,none⟩ (n+1 - i) sc arr T cs Tryz.underlying35 b6A Y (by rw[L]; simp only[Nat.min_def]; split<;>omega)
   (fun j v hj=>by
    rw[show(⟨b,i*4,none⟩:Addr)=ad b (i*4)from rfl,Addr.add_ad,cell_of_row _ _ _ arr T _ Y];rw[M,List.getElem?_drop,List.getElem?_take]at hj;split at hj
    · simpa using hj
    · cases hj) (by rw[L,hs]; omega) (fun v hv=>b2 v (by rw[M]at hv; exact List.mem_of_mem_drop hv)),C]
 obtain⟨A2,U⟩:∃ A2,A2=u.take (i*4)++vs++u.drop (i*4+vs.length):=⟨_,rfl⟩
 have Z:A2.length=c*4:=by rw[U]; simp only[List.length_append,List.length_take,List.length_drop,I,N]; omega
 have a1:(w.drew.setRow b u.toArray).heap[b]?=some (.cells u.toArray T (0,0)):=setRow_heap w.drew b arr u.toArray T _ Y;have a9:∀ (W:World),W.heap=(w.drew.setRow b u.toArray).heap→∀ ty dc,(Builtin.copy_ #[35,35] ty #[.slice (some ⟨b,i*4,none⟩) (n+1 - i) dc,.slice (some ⟨O,l,none⟩) 1 vc]).run Tryz.prog W=.ok (goInt (Nat.min 1 (n+1 - i))) (W.setRow b A2.toArray):=fun W hW ty dc=>by
  rw[Z7 W 35 35 ty 41 4 b (i*4) (n+1 - i) dc ⟨O,l,none⟩ 1 vc u.toArray T vs Tryz.underlying35 b6A (by rw[hW]; exact a1) (by rw[N]; simp only[Nat.min_def]; split<;>omega)
   (fun j v hj=>by rw[show(⟨O,l,none⟩:Addr)=ad O l from rfl,Addr.add_ad,World.cell?_of_block (w:=w) (by rw[hW]; exact setRow_other w.drew _ _ _ b0)];exact b1 j v hj) (by simp only[List.size_toArray,I,N]; omega) b3,U]
 have t:A2.take ((n+1)*4)=arr.toList.take (i*4)++vs++cs:=by
  have e1:u.take (i*4)=arr.toList.take (i*4):=by rw[C,List.append_assoc,List.take_append_of_le_length (by rw[List.length_take,J]; omega),List.take_take];congr 1; omega
  have e2:u.drop (i*4+vs.length)=cs++arr.toList.drop ((i+1)*4+cs.length):=by rw[C,N,List.append_assoc];exact List.drop_left' (by rw[List.length_take,J]; omega)
  rw[U,e1,e2,← List.append_assoc];exact List.take_left' (by simp only[List.length_append,List.length_take,J,N,L]; omega)
 have fin:∀ (W:World),W.heap=(w.drew.setRow b u.toArray).heap→W.os=w.os→W.output=w.output→G3 w (.returned (.slice (some ⟨b,0,none⟩) (n+1) c)) (W.setRow b A2.toArray) (n+1) b (arr.toList.take (i*4)++vs++cs):=fun W hW ho b5=>by
  have a4:W.heap[b]?=some (.cells u.toArray T (0,0)):=by rw[hW]; exact a1
  have a6:b < w.heap.size:=(Array.getElem?_eq_some_iff.1 hh).1;have e:W.heap.size=w.heap.size:=by rw[hW]; simp
  have a0:∀ b',b'≠b→W.heap[b']?=w.heap[b']?:=fun b' hb=>by rw[hW]; exact setRow_other w.drew _ _ _ hb
  have a5:∀ a:Addr,W.frozen? a=w.frozen? a:=fun a=>by
   unfold World.frozen?;by_cases ha:a.block=b
   · rw[ha,a4,hh]
   · rw[a0 _ ha]
  refine⟨c,A2.toArray,T,rfl,setRow_heap W b u.toArray A2.toArray T _ a4,by simpa using Z,a2,by simpa using t,fun b' hb _=>by rw[setRow_other _ _ _ _ hb]; exact a0 b' hb,by simp[e],by simpa[e]using a6,ho,b5,fun a ha=>?_⟩;rw[(Env.setRow W b A2.toArray).fz a (by rw[e]; exact ha),a5]
 rw[← M];clear C U M t L I Z a1 Y;have mixed:=b1s;have c6:IntKind.i64.wrap ((i:Int)+1)=(i:Int)+1:=by rw[IntKind.wrap_i64]; omega
 have b7:(0:Int)≤(i:Int)+1:=by omega
 have c3:i≤n:=by omega
 have c4:((i:Int)+1).toNat=i+1:=by omega
 have b8:¬ (c=i+1):=by omega
 have c0:(i:Int)≤(n:Int)+1:=by omega
 have c1:¬ (c=i):=by omega
 have c2:¬ (c=n+1∧i=n):=by omega
 go_enter Tryz.func88,Tryz.ntmps88
 go_wp2_with (simp only[b6])
 go_region_law_o (refine step_copy_runI rfl _ _ 35 35 rfl _ _ (by simp[Act.eval,Act.put]) (by simp[Act.eval,Act.put]) (a7 _ _ _) ?_)
 go_wp2_with (at_builtin; refine wpList_copy_runI _ rfl _ _ 35 35 rfl _ _ rfl rfl (a9 _ rfl _ _) ?_)
 go_ret
 exact fin _ rfl rfl rfl
noncomputable def CxE:Go.Cb.Cx:=⟨Tryz.prog,[],[],0,[],No⟩
theorem a4W:(Tryz.prog.info? 41).map (fun i=>(i.zero,i.size,i.bytes))=some (some (.agg #[.string ByteArray.empty,.string ByteArray.empty,.slice none 0 0,.slice none 0 0]),4,80):=by kernel_rfl
theorem a9u {w:World} {C:Array Value} {n cap:Nat} {vs:List Value} (l:C.toList.take (n*4)=vs) (u:C.size=cap*4) (v:n≤cap):G3 w (.returned (.slice (some (ad w.heap.size 0)) n cap)) (w.drew.alloc (.cells C 41)) n w.heap.size vs :=
 ⟨cap,C,41,rfl,heap_alloc_new w.drew _,u,v,l,fun b _ x=>heap_alloc_old w.drew _ x,by simp,by simp,(Env.drawn (w:=w) (w':=w.drew) rfl rfl rfl).trans (Env.alloc w.drew _ (by intro c t z e; cases e; rfl))⟩
set_option maxHeartbeats 4000000 in
theorem c4k (W l Z:Nat) (vs:List Value) (w:World) (T:vs.length=4) (U:∀ j v,vs[j]?=some v→w.cell? (ad W (l+j))=some v) :
 Calls Tryz.prog 88 #[.slice none 0 0,.int .i64 0,.slice (some ⟨W,l,none⟩) 1 Z] w fun e w'=>G3 w e w' 1 w.heap.size vs:=by
 have t0:=Tryz.underlying0;obtain⟨i0,L,N,x,J⟩:=info_parts a4W;have y:=fun ty=>X2 (c:=CxE) (w:=w) (t:=35) (ty:=ty) Tryz.underlying35 L N (by rw[x]; rfl) (by rw[J]; decide) (a0:=none) (n:=0) (cap:=0) (m:=1) (c1:=Z) (us:=[]) (vs:=vs) (a1:=ad W l) (fun _=>rfl) (Nat.le_refl _) (by simp) (by simp) (by rw[x,T]) (fun j u hj=>by rw[Addr.add_ad]; exact U j u hj) (by decide) (by decide) (by rw[J]; decide)
 obtain⟨C,cap,z,O,I,M,_⟩:=y 35;rw[x]at O I;have Y:=a9u (w:=w) (n:=1) O I M;simp only[List.nil_append,Nat.zero_add]at Y z;clear O I M y L N x J
 go_enter Tryz.func88,Tryz.ntmps88
 go_wp2_with (at_builtin; refine Lib.wpList_append_run _ rfl _ _ 35 35 rfl _ _ rfl rfl _ _ z ?_)
 go_ret
 exact Y
set_option maxHeartbeats 4000000 in
theorem c5H (b n c Z x vc:Nat) (arr:Array Value) (T:TypeId) (vs:List Value) (w:World) (a6:n≤c) (hn:(n+1)*80≤140737488355328)
 (hh:w.heap[b]?=some (.cells arr T (0,0))) (hs:arr.size=c*4) (I:vs.length=4) (W:∀ j v,vs[j]?=some v→w.cell? (ad Z (x+j))=some v) (a2:∀ v∈vs,v.oneCell'=true) :
 Calls Tryz.prog 88 #[.slice (some ⟨b,0,none⟩) n c,.int .i64 n,.slice (some ⟨Z,x,none⟩) 1 vc] w fun e w'=>c8y w e w' (n+1) b (arr.toList.take (n*4)++vs):=by
 have t0:=Tryz.underlying0;obtain⟨i0,M,Y,l,N⟩:=info_parts a4W;have J:arr.toList.length=c*4:=by simpa using hs
 have z:∃ v' w',(Builtin.append_ #[35,35] 35 #[.slice (some ⟨b,0,none⟩) n c,.slice (some ⟨Z,x,none⟩) 1 vc]).run Tryz.prog w=.ok v' w'∧∃ bb,(bb=b∨bb=w.heap.size)∧G3 w (.returned v') w' (n+1) bb (arr.toList.take (n*4)++vs):=by
  by_cases y:n+1≤c
  · refine⟨_,_,R1 (P:=Tryz.prog) (w:=w) 35 35 41 i0 T Tryz.underlying35 M b n c arr hh (ad Z x) 1 vc vs (by rw[I,l]) (fun j u L=>by rw[Addr.add_ad]; exact W j u L) a2 y (by rw[l,I,hs]; omega),b,.inl rfl,?_⟩;rw[l];have U:b < w.heap.size:=(Array.getElem?_eq_some_iff.1 hh).1;refine⟨c,_,T,rfl,setRow_heap w b arr _ T _ hh,?_,y,?_,fun b' hb _=>setRow_other _ _ _ _ hb,by simp,by simpa using U,Env.setRow w b _⟩
    · simp only[List.size_toArray,List.length_append,List.length_take,List.length_drop,J,I]; omega
    · rw[List.toList_toArray];exact List.take_left' (by simp only[List.length_append,List.length_take,J,I]; omega)
  · obtain⟨C,cap,hr,hC,O,a5,_⟩:=X2 (c:=CxE) (w:=w) (t:=35) (ty:=35) Tryz.underlying35 M Y (by rw[l]; rfl) (by rw[N]; decide) (a0:=some (ad b 0)) (n:=n) (cap:=c) (m:=1) (c1:=vc) (us:=arr.toList.take (n*4)) (vs:=vs) (a1:=ad Z x)
     (fun h=>by cases h) a6 (by rw[List.length_take,J,l]; omega) (fun b0 a4 j u L=>by
      cases a4;rw[Addr.add_ad,Nat.zero_add,cell_of_row _ _ _ arr T _ hh];rw[List.getElem?_take]at L;split at L
      · simpa using L
      · cases L) (by rw[l,I]) (fun j u L=>by rw[Addr.add_ad]; exact W j u L) (by decide) y (by rw[N]; exact hn)
    rw[l]at hC O;exact⟨_,_,hr,_,.inr rfl,a9u hC O a5⟩
 obtain⟨v',w',z,hP⟩:=z;have hP:c8y w (.returned v') w' (n+1) b (arr.toList.take (n*4)++vs):=hP;clear M Y l N J
 go_enter Tryz.func88,Tryz.ntmps88
 go_wp2_with (at_builtin; refine Lib.wpList_append_run _ rfl _ _ 35 35 rfl _ _ rfl rfl _ _ z ?_)
 all_goals go_ret
 all_goals exact hP
set_option maxHeartbeats 4000000 in
theorem c1V (b n c i vb u vc:Nat) (arr:Array Value) (T:TypeId) (vs:List Value) (w:World) (hi:i < n) (e5:n≤c) (b1:c < n+1) (hn:(n+1)*80≤140737488355328) (d4:vb < w.heap.size)
 (hh:w.heap[b]?=some (.cells arr T (0,0))) (hs:arr.size=c*4) (U:vs.length=4) (d3:∀ j v,vs[j]?=some v→w.cell? (ad vb (u+j))=some v) (c4:∀ v∈arr.toList.take (n*4),v.oneCell'=true) (c6:∀ v∈vs,v.oneCell'=true) :
 Calls Tryz.prog 88 #[.slice (some ⟨b,0,none⟩) n c,.int .i64 i,.slice (some ⟨vb,u,none⟩) 1 vc] w fun e w'=>G3 w e w' (n+1) w.heap.size (arr.toList.take (i*4)++vs++(arr.toList.take (n*4)).drop (i*4)):=by
 have t0:=Tryz.underlying0;have t3:=Tryz.underlying3;have e9:¬ ((i:Int)=(n:Int)):=by omega
 obtain⟨i0,c1,c3,b3,b2⟩:=info_parts a4W;have b7:arr.toList.length=c*4:=by simpa using hs
 have d0:b < w.heap.size:=(Array.getElem?_eq_some_iff.1 hh).1;obtain⟨cs,O⟩:∃ cs,cs=(arr.toList.take (n*4)).drop (i*4):=⟨_,rfl⟩
 have N:cs.length=(n - i)*4:=by rw[O,List.length_drop,List.length_take,b7]; omega
 have z:∀ (j:Nat) (v:Value),(arr.toList.take (n*4))[j]?=some v→w.cell? (ad b j)=some v:=fun j v I=>by
  rw[cell_of_row _ _ _ arr T _ hh];rw[List.getElem?_take]at I;split at I
  · simpa using I
  · cases I
 obtain⟨t,holds⟩:∃ t,t=arr.toList.take (i*4):=⟨_,rfl⟩
 have C:t.length=i*4:=by rw[holds,List.length_take,b7]; omega
 have c2:∀ (j:Nat) (v:Value),t[j]?=some v→w.drew.cell? ((⟨b,0,none⟩:Addr).add j)=some v:=fun j v I=>by
  rw[show(⟨b,0,none⟩:Addr)=ad b 0 from rfl,Addr.add_ad,Nat.zero_add];refine z j v ?_;rw[holds,List.getElem?_take]at I;rw[List.getElem?_take];split at I
  · rw[if_pos (by omega)]; exact I
  · cases I
 obtain⟨G,hG⟩:∃ G,G=grownCap w (n+1) c 41:=⟨_,rfl⟩
 have c7:n+1≤G:=by rw[hG]; exact grownCap_ge w _ _ _
 have d5:G≤9223372036854775807:=by have:=grownCap_le_maxLen w (n+1) c 41 (by unfold maxLen; omega);rw[← hG]at this;unfold maxLen at this;omega
 obtain⟨l,a5,b6,b5,d2⟩:∃ l:Array Value,l.toList.take (i*4)=t∧l.size=G*4∧l.toList.length=G*4∧∀ ty,(Builtin.append_ #[35,3] ty #[.slice (some ⟨b,0,none⟩) i c,.int .i64 ((n:Int)+1 - (i:Int))]).run Tryz.prog w=.ok (.slice (some ⟨w.heap.size,0,none⟩) (n+1) G) (w.drew.alloc (.cells l 41)):=by
  have hz:∀ k,(Builtin.zeroCells (Value.agg #[.string ByteArray.empty,.string ByteArray.empty,.slice none 0 0,.slice none 0 0]).cells k).size=k*4:=fun k=>by rw[size_zeroCells]; rfl
  refine⟨t.toArray++Builtin.zeroCells (Value.agg #[.string ByteArray.empty,.string ByteArray.empty,.slice none 0 0,.slice none 0 0]).cells (n+1 - i)++Builtin.zeroCells (Value.agg #[.string ByteArray.empty,.string ByteArray.empty,.slice none 0 0,.slice none 0 0]).cells (G - (n+1)),?_,?_,?_,fun ty=>?_⟩
  · rw[Array.toList_append,Array.toList_append,List.append_assoc,← C];exact List.take_left
  · simp only[Array.size_append,hz,List.size_toArray,C]; omega
  · rw[Array.length_toList]; simp only[Array.size_append,hz,List.size_toArray,C]; omega
  · have h:=Lib.run_append_grow_zeros w 35 3 ty 41 i0 _ .i64 .i64 Tryz.underlying35 Tryz.underlying3 c1 c3 (some ⟨b,0,none⟩) i c t (by rw[b3]; exact run_firstCells_some w.drew 4 i ⟨b,0,none⟩ i c t C c2) (n+1 - i) (by omega) (by rw[b3]; decide) (by omega) (by omega) (by rw[b2]; omega) (by rw[b2,show i+(n+1 - i)=n+1 by omega]; exact growslice_fits b1 hn);rw[show i+(n+1 - i)=n+1 by omega,← hG,show((n+1 - i:Nat):Int)=(n:Int)+1 - (i:Int)by omega]at h;exact h
 obtain⟨W1,a0⟩:∃ W1,W1=w.drew.alloc (.cells l 41):=⟨_,rfl⟩
 have a1:W1.heap[w.heap.size]?=some (.cells l 41 (0,0)):=by rw[a0]; exact heap_alloc_new w.drew _
 have a2:∀ b',b' < w.heap.size→W1.heap[b']?=w.heap[b']?:=fun b' hb=>by rw[a0]; exact heap_alloc_old w.drew _ hb
 obtain⟨y,Y⟩:∃ y,y=l.toList.take (i*4)++vs++l.toList.drop (i*4+vs.length):=⟨_,rfl⟩
 have M:y.length=G*4:=by rw[Y]; simp only[List.length_append,List.length_take,List.length_drop,b5,U]; omega
 have b8:∀ (W:World),W.heap=W1.heap→∀ ty dc,(Builtin.copy_ #[35,35] ty #[.slice (some ⟨w.heap.size,i*4,none⟩) (n+1 - i) dc,.slice (some ⟨vb,u,none⟩) 1 vc]).run Tryz.prog W=.ok (goInt (Nat.min 1 (n+1 - i))) (W.setRow w.heap.size y.toArray):=fun W hW ty dc=>by
  rw[Z7 W 35 35 ty 41 4 w.heap.size (i*4) (n+1 - i) dc ⟨vb,u,none⟩ 1 vc l 41 vs Tryz.underlying35 b6A (by rw[hW]; exact a1) (by rw[U]; simp only[Nat.min_def]; split<;>omega)
   (fun j v I=>by rw[show(⟨vb,u,none⟩:Addr)=ad vb u from rfl,Addr.add_ad,World.cell?_of_block (w:=w) (by rw[hW]; exact a2 _ d4)];exact d3 j v I) (by simp only[b6,U]; omega) c6,Y]
 obtain⟨A2,Z⟩:∃ A2,A2=y.take ((i+1)*4)++cs++y.drop ((i+1)*4+cs.length):=⟨_,rfl⟩
 have a4:A2.length=G*4:=by rw[Z]; simp only[List.length_append,List.length_take,List.length_drop,M,N]; omega
 have x:A2.take ((n+1)*4)=t++vs++cs:=by
  have e1:y.take ((i+1)*4)=t++vs:=by rw[Y,a5];exact List.take_left' (by simp only[List.length_append,C,U]; omega)
  rw[Z,e1];exact List.take_left' (by simp only[List.length_append,C,U,N]; omega)
 have c0:∀ (W L:World),L.heap=W1.heap→W.heap=(L.setRow w.heap.size y.toArray).heap→∀ ty dc sc,(Builtin.copy_ #[35,35] ty #[.slice (some ⟨w.heap.size,(i+1)*4,none⟩) (n - i) dc,.slice (some ⟨b,i*4,none⟩) (n - i) sc]).run Tryz.prog W=.ok (goInt (Nat.min (n - i) (n - i))) (W.setRow w.heap.size A2.toArray):=fun W L J hW ty dc sc=>by
  have b0:L.heap[w.heap.size]?=some (.cells l 41 (0,0)):=by rw[J]; exact a1
  rw[Z7 W 35 35 ty 41 4 w.heap.size ((i+1)*4) (n - i) dc ⟨b,i*4,none⟩ (n - i) sc y.toArray 41 cs Tryz.underlying35 b6A (by rw[hW]; exact setRow_heap L w.heap.size l y.toArray 41 _ b0) (by rw[N]; simp only[Nat.min_def]; split<;>omega)
   (fun j v I=>by rw[show(⟨b,i*4,none⟩:Addr)=ad b (i*4)from rfl,Addr.add_ad,World.cell?_of_block (w:=w) (by rw[hW,setRow_other _ _ _ _ (by omega:b≠w.heap.size),J]; exact a2 _ d0)];rw[O,List.getElem?_drop]at I;exact z _ v I) (by simp only[List.size_toArray,M,N]; omega) (fun v hv=>c4 v (by rw[O]at hv; exact List.mem_of_mem_drop hv)),Z]
 have fin:∀ (W L:World),L.heap=W1.heap→W.heap=(L.setRow w.heap.size y.toArray).heap→W.os=w.os→W.output=w.output→G3 w (.returned (.slice (some ⟨w.heap.size,0,none⟩) (n+1) G)) (W.setRow w.heap.size A2.toArray) (n+1) w.heap.size (t++vs++cs):=fun W L J hW ho d1=>by
  have b0:L.heap[w.heap.size]?=some (.cells l 41 (0,0)):=by rw[J]; exact a1
  have c8:W.heap[w.heap.size]?=some (.cells y.toArray 41 (0,0)):=by rw[hW]; exact setRow_heap L w.heap.size l y.toArray 41 _ b0
  have e:W.heap.size=w.heap.size+1:=by rw[hW]; simp[J,a0]
  have a6:∀ b',b'≠w.heap.size→b' < w.heap.size→W.heap[b']?=w.heap[b']?:=fun b' hb a9=>by rw[hW,setRow_other _ _ _ _ hb,J]; exact a2 _ a9
  refine⟨G,A2.toArray,41,rfl,setRow_heap W w.heap.size y.toArray A2.toArray 41 _ c8,by simpa using a4,c7,by simpa using x,fun b' hb a9=>by rw[setRow_other _ _ _ _ hb]; exact a6 b' hb a9,by simp[e],by simp[e],ho,d1,fun a ha=>?_⟩;rw[(Env.setRow W w.heap.size A2.toArray).fz a (by rw[e]; omega)];unfold World.frozen?;rw[a6 _ (by omega) ha]
 rw[← O,← holds];clear Y Z O holds x N M a4 a5 b6 b5 C c2 z hG c1 c3 b3 b2 a1 a2;subst a0;have e7:IntKind.i64.wrap ((i:Int)+1)=(i:Int)+1:=by rw[IntKind.wrap_i64]; omega
 have e0:(0:Int)≤(i:Int)+1:=by omega
 have e4:i≤n:=by omega
 have e6:((i:Int)+1).toNat=i+1:=by omega
 have e2:(i:Int)≤(n:Int):=by omega
 have d7:¬ (G=i):=by omega
 have d6:¬ (G=i+1):=by omega
 have e3:¬ (c=i):=by omega
 have a7:((w.alloc (.cells l 41)).drew).heap=(w.drew.alloc (.cells l 41)).heap:=rfl;have b4:(((w.alloc (.cells l 41)).drew.setRow w.heap.size y.toArray).drew).heap=((w.alloc (.cells l 41)).drew.setRow w.heap.size y.toArray).heap:=rfl;have mixed:=b1s
 go_enter Tryz.func88,Tryz.ntmps88
 go_wp2_with (first
  | (at_builtin; refine Lib.wpList_append_run _ rfl _ _ _ _ rfl _ _ rfl rfl _ _ (d2 _) ?_)
  | (at_builtin; refine wpList_copy_runI _ rfl _ _ 35 35 rfl _ _ rfl rfl (b8 _ a7 _ _) ?_))
 go_region_law_o (refine step_copy_runI rfl _ _ 35 35 rfl (.slice (some ⟨w.heap.size,(i+1)*4,none⟩) (n - i) (G - (i+1))) (.slice (some ⟨b,i*4,none⟩) (n - i) (c - i)) (by simp[Act.eval,Act.put]) (by simp[Act.eval,Act.put]) (c0 _ _ a7 b4 3 (G - (i+1)) (c - i)) ?_)
 go_wp2
 go_ret
 exact fin _ _ a7 b4 rfl rfl
end Go.Cb.CodeA
