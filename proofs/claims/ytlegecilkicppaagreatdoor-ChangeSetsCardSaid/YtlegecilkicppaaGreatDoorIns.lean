import Derived.Test.YtlegecilkicppaaGreatDoorChecked
import Derived.Shelf.RegionOpenPlain
import Derived.Shelf.Spec.SlicesInsert
import Derived.WalkKit
import Derived.Lib.AppendZerosOnto
import Derived.Test.YtlegecilkicppaaGreatDoorXAms4
import Derived.Test.YtlegecilkicppaaGreatDoorXAms2
set_option maxRecDepth 100000
set_option linter.all false
namespace Go.Cb.CodeA
open Go Go.Cb Go.Proofs Go.RowKit Go.Shelf
def D8 (w:World) (e:Ending) (w':World) (n bb:Nat) (vs:List Value):Prop :=
 ∃ cap arr T,e=.returned (.slice (some (ad bb 0)) n cap)∧w'.heap[bb]?=some (.cells arr T (0,0))∧arr.size=cap*4∧n≤cap∧arr.toList.take (n*4)=vs∧(∀ b,b≠bb→b < w.heap.size→w'.heap[b]?=w.heap[b]?)∧w.heap.size≤w'.heap.size∧bb < w'.heap.size∧Env w w'
def c6R (w:World) (e:Ending) (w':World) (n b:Nat) (vs:List Value):Prop:=∃ bb,(bb=b∨bb=w.heap.size)∧D8 w e w' n bb vs
theorem b4g:(Tryz.prog.info? 59).map (·.size)=some 4:=by kernel_rfl
theorem a9T:Tryz.prog.follows .mixedOrders=true:=by kernel_rfl
set_option maxHeartbeats 4000000 in
theorem b79 (b n c i I l vc:Nat) (arr:Array Value) (T:TypeId) (vs:List Value) (w:World) (hi:i < n) (S:n+1≤c) (hn:(n+1)*80≤140737488355328) (a2:I≠b)
 (hh:w.heap[b]?=some (.cells arr T (0,0))) (hs:arr.size=c*4) (G:vs.length=4) (b0:∀ j v,vs[j]?=some v→w.cell? (ad I (l+j))=some v) (b1:∀ v∈arr.toList.take (n*4),v.oneCell'=true) (b2:∀ v∈vs,v.oneCell'=true) :
 Calls Tryz.prog 40 #[.slice (some ⟨b,0,none⟩) n c,.int .i64 i,.slice (some ⟨I,l,none⟩) 1 vc] w fun e w'=>D8 w e w' (n+1) b (arr.toList.take (i*4)++vs++(arr.toList.take (n*4)).drop (i*4)):=by
 have t0:=Tryz.underlying0;have c7:¬ ((i:Int)=(n:Int)):=by omega
 have x:=b0 0 _ (List.getElem?_eq_getElem (by omega));obtain⟨y,TA,zA,hA,b3⟩:∃ y TA zA,w.heap[I]?=some (.cells y TA zA)∧y.size≠0:=by
  unfold World.cell? at x;simp only[ad,Option.isSome_none,Bool.false_eq_true,if_false]at x;cases hq:w.heap[I]? with
  | none=>rw[hq]at x; cases x
  | some o =>
   rw[hq]at x;cases o with
   | cells cs T z =>refine⟨cs,T,z,rfl,fun h=>?_⟩;have:=(Array.getElem?_eq_some_iff.1 x).1;omega
   | _=>cases x
 have b5:∀ lb cb,(callFunc 80 #[.slice (some ⟨I,l,none⟩) 1 vc,.slice (some ⟨b,(i+1)*4,none⟩) lb cb]).run Tryz.prog w=.ok (.value (.bool false)) w:=fun lb cb=>by
  rw[run_callFunc_extern Tryz.func80 (by kernel_rfl) (by kernel_rfl) (by kernel_rfl) (e:=Extern.SlicesOverlaps.overlaps #[28,28] #[4]) (by kernel_rfl),
   a3x w 28 4 59 Tryz.underlying28 4 Tryz.sizeOf59 ⟨I,l,none⟩ ⟨b,(i+1)*4,none⟩ 1 vc lb cb a2 hA hh b3 (by omega)]
  rfl
 obtain⟨cs,F⟩:∃ cs,cs=(arr.toList.take (n*4)).drop (i*4):=⟨_,rfl⟩
 have D:arr.toList.length=c*4:=by simpa using hs
 have E:cs.length=(n - i)*4:=by rw[F,List.length_drop,List.length_take,D]; omega
 obtain⟨u,B⟩:∃ u,u=arr.toList.take ((i+1)*4)++cs++arr.toList.drop ((i+1)*4+cs.length):=⟨_,rfl⟩
 have C:u.length=c*4:=by rw[B]; simp only[List.length_append,List.length_take,List.length_drop,D,E]; omega
 have M:w.drew.heap[b]?=some (.cells arr T (0,0)):=hh;have a0:∀ ty R sc,(Builtin.copy_ #[28,28] ty #[.slice (some ⟨b,(i+1)*4,none⟩) (n - i) R,.slice (some ⟨b,i*4,none⟩) (n+1 - i) sc]).run Tryz.prog w.drew=.ok (goInt (Nat.min (n+1 - i) (n - i))) (w.drew.setRow b u.toArray):=fun ty R sc=>by
  rw[W3 w.drew 28 28 ty 59 4 b ((i+1)*4) (n - i) R ⟨b,i*4,none⟩ (n+1 - i) sc arr T cs Tryz.underlying28 b4g M (by rw[E]; simp only[Nat.min_def]; split<;>omega)
   (fun j v V=>by
    rw[show(⟨b,i*4,none⟩:Addr)=ad b (i*4)from rfl,Addr.add_ad,cell_of_row _ _ _ arr T _ M];rw[F,List.getElem?_drop,List.getElem?_take]at V;split at V
    · simpa using V
    · cases V) (by rw[E,hs]; omega) (fun v hv=>b1 v (by rw[F]at hv; exact List.mem_of_mem_drop hv)),B]
 obtain⟨A2,J⟩:∃ A2,A2=u.take (i*4)++vs++u.drop (i*4+vs.length):=⟨_,rfl⟩
 have N:A2.length=c*4:=by rw[J]; simp only[List.length_append,List.length_take,List.length_drop,C,G]; omega
 have hh1:(w.drew.setRow b u.toArray).heap[b]?=some (.cells u.toArray T (0,0)):=setRow_heap w.drew b arr u.toArray T _ M;have a1:∀ (W:World),W.heap=(w.drew.setRow b u.toArray).heap→∀ ty R,(Builtin.copy_ #[28,28] ty #[.slice (some ⟨b,i*4,none⟩) (n+1 - i) R,.slice (some ⟨I,l,none⟩) 1 vc]).run Tryz.prog W=.ok (goInt (Nat.min 1 (n+1 - i))) (W.setRow b A2.toArray):=fun W U ty R=>by
  rw[W3 W 28 28 ty 59 4 b (i*4) (n+1 - i) R ⟨I,l,none⟩ 1 vc u.toArray T vs Tryz.underlying28 b4g (by rw[U]; exact hh1) (by rw[G]; simp only[Nat.min_def]; split<;>omega)
   (fun j v V=>by rw[show(⟨I,l,none⟩:Addr)=ad I l from rfl,Addr.add_ad,World.cell?_of_block (w:=w) (by rw[U]; exact setRow_other w.drew _ _ _ a2)];exact b0 j v V) (by simp only[List.size_toArray,C,G]; omega) b2,J]
 have t:A2.take ((n+1)*4)=arr.toList.take (i*4)++vs++cs:=by
  have e1:u.take (i*4)=arr.toList.take (i*4):=by rw[B,List.append_assoc,List.take_append_of_le_length (by rw[List.length_take,D]; omega),List.take_take];congr 1; omega
  have e2:u.drop (i*4+vs.length)=cs++arr.toList.drop ((i+1)*4+cs.length):=by rw[B,G,List.append_assoc];exact List.drop_left' (by rw[List.length_take,D]; omega)
  rw[J,e1,e2,← List.append_assoc];exact List.take_left' (by simp only[List.length_append,List.length_take,D,G,E]; omega)
 have fin:∀ (W:World),W.heap=(w.drew.setRow b u.toArray).heap→W.os=w.os→W.output=w.output→D8 w (.returned (.slice (some ⟨b,0,none⟩) (n+1) c)) (W.setRow b A2.toArray) (n+1) b (arr.toList.take (i*4)++vs++cs):=fun W U ho b4=>by
  have Y:W.heap[b]?=some (.cells u.toArray T (0,0)):=by rw[U]; exact hh1
  have Z:b < w.heap.size:=(Array.getElem?_eq_some_iff.1 hh).1;have e:W.heap.size=w.heap.size:=by rw[U]; simp
  have O:∀ b',b'≠b→W.heap[b']?=w.heap[b']?:=fun b' hb=>by rw[U]; exact setRow_other w.drew _ _ _ hb
  have b6:∀ a:Addr,W.frozen? a=w.frozen? a:=fun a=>by
   unfold World.frozen?;by_cases ha:a.block=b
   · rw[ha,Y,hh]
   · rw[O _ ha]
  refine⟨c,A2.toArray,T,rfl,setRow_heap W b u.toArray A2.toArray T _ Y,by simpa using N,S,by simpa using t,fun b' hb _=>by rw[setRow_other _ _ _ _ hb]; exact O b' hb,by simp[e],by simpa[e]using Z,ho,b4⟩
 rw[← F];clear B J F t E C N hh1 M;have mixed:=a9T;have c6:IntKind.i64.wrap ((i:Int)+1)=(i:Int)+1:=by rw[IntKind.wrap_i64]; omega
 have b7:(0:Int)≤(i:Int)+1:=by omega
 have c3:i≤n:=by omega
 have c4:((i:Int)+1).toNat=i+1:=by omega
 have b8:¬ (c=i+1):=by omega
 have c0:(i:Int)≤(n:Int)+1:=by omega
 have c1:¬ (c=i):=by omega
 have c2:¬ (c=n+1∧i=n):=by omega
 go_enter Tryz.func40,Tryz.ntmps40
 go_wp2_with (simp only[b5])
 go_region_law_o (refine step_copy_runI rfl _ _ 28 28 rfl _ _ (by simp[Act.eval,Act.put]) (by simp[Act.eval,Act.put]) (a0 _ _ _) ?_)
 go_wp2_with (at_builtin; refine wpList_copy_runI _ rfl _ _ 28 28 rfl _ _ rfl rfl (a1 _ rfl _ _) ?_)
 go_ret
 exact fin _ rfl rfl rfl
noncomputable def CxE:Go.Cb.Cx:=⟨Tryz.prog,[],[],0,[],No⟩
theorem a4l:(Tryz.prog.info? 59).map (fun i=>(i.zero,i.size,i.bytes))=some (some (.agg #[.string ByteArray.empty,.string ByteArray.empty,.slice none 0 0,.slice none 0 0]),4,80):=by kernel_rfl
theorem a6N {w:World} {C:Array Value} {n cap:Nat} {vs:List Value} (i:C.toList.take (n*4)=vs) (j:C.size=cap*4) (l:n≤cap):D8 w (.returned (.slice (some (ad w.heap.size 0)) n cap)) (w.drew.alloc (.cells C 59)) n w.heap.size vs :=
 ⟨cap,C,59,rfl,heap_alloc_new w.drew _,j,l,i,fun b _ u=>heap_alloc_old w.drew _ u,by simp,by simp,(Env.drawn (w:=w) (w':=w.drew) rfl rfl rfl).trans (Env.alloc w.drew _ (by intro c t z e; cases e; rfl))⟩
set_option maxHeartbeats 4000000 in
theorem c2L (M i O:Nat) (vs:List Value) (w:World) (I:vs.length=4) (J:∀ j v,vs[j]?=some v→w.cell? (ad M (i+j))=some v) :
 Calls Tryz.prog 40 #[.slice none 0 0,.int .i64 0,.slice (some ⟨M,i,none⟩) 1 O] w fun e w'=>D8 w e w' 1 w.heap.size vs:=by
 have t0:=Tryz.underlying0;obtain⟨i0,D,F,l,B⟩:=info_parts a4l;have x:=fun ty=>U2 (c:=CxE) (w:=w) (t:=28) (ty:=ty) Tryz.underlying28 D F (by rw[l]; rfl) (by rw[B]; decide) (a0:=none) (n:=0) (cap:=0) (m:=1) (c1:=O) (us:=[]) (vs:=vs) (a1:=ad M i) (fun _=>rfl) (Nat.le_refl _) (by simp) (by simp) (by rw[l,I]) (fun j u R=>by rw[Addr.add_ad]; exact J j u R) (by decide) (by decide) (by rw[B]; decide)
 obtain⟨C,cap,y,G,z,E,_⟩:=x 28;rw[l]at G z;have N:=a6N (w:=w) (n:=1) G z E;simp only[List.nil_append,Nat.zero_add]at N y;clear G z E x D F l B
 go_enter Tryz.func40,Tryz.ntmps40
 go_wp2_with (at_builtin; refine Lib.wpList_append_run _ rfl _ _ 28 28 rfl _ _ rfl rfl _ _ y ?_)
 go_ret
 exact N
set_option maxHeartbeats 4000000 in
theorem c4d (b n c N l S:Nat) (arr:Array Value) (T:TypeId) (vs:List Value) (w:World) (Z:n≤c) (hn:(n+1)*80≤140737488355328)
 (O:w.heap[b]?=some (.cells arr T (0,0))) (hs:arr.size=c*4) (z:vs.length=4) (J:∀ j v,vs[j]?=some v→w.cell? (ad N (l+j))=some v) (U:∀ v∈vs,v.oneCell'=true) :
 Calls Tryz.prog 40 #[.slice (some ⟨b,0,none⟩) n c,.int .i64 n,.slice (some ⟨N,l,none⟩) 1 S] w fun e w'=>c6R w e w' (n+1) b (arr.toList.take (n*4)++vs):=by
 have t0:=Tryz.underlying0;obtain⟨i0,E,M,i,F⟩:=info_parts a4l;have B:arr.toList.length=c*4:=by simpa using hs
 have y:∃ R w',(Builtin.append_ #[28,28] 28 #[.slice (some ⟨b,0,none⟩) n c,.slice (some ⟨N,l,none⟩) 1 S]).run Tryz.prog w=.ok R w'∧∃ bb,(bb=b∨bb=w.heap.size)∧D8 w (.returned R) w' (n+1) bb (arr.toList.take (n*4)++vs):=by
  by_cases x:n+1≤c
  · refine⟨_,_,O1 (P:=Tryz.prog) (w:=w) 28 28 59 i0 T Tryz.underlying28 E b n c arr O (ad N l) 1 S vs (by rw[z,i]) (fun j u D=>by rw[Addr.add_ad]; exact J j u D) U x (by rw[i,z,hs]; omega),b,.inl rfl,?_⟩;rw[i];have I:b < w.heap.size:=(Array.getElem?_eq_some_iff.1 O).1;refine⟨c,_,T,rfl,setRow_heap w b arr _ T _ O,?_,x,?_,fun b' hb _=>setRow_other _ _ _ _ hb,by simp,by simpa using I,Env.setRow w b _⟩
    · simp only[List.size_toArray,List.length_append,List.length_take,List.length_drop,B,z]; omega
    · rw[List.toList_toArray];exact List.take_left' (by simp only[List.length_append,List.length_take,B,z]; omega)
  · obtain⟨C,cap,hr,hC,G,Y,_⟩:=U2 (c:=CxE) (w:=w) (t:=28) (ty:=28) Tryz.underlying28 E M (by rw[i]; rfl) (by rw[F]; decide) (a0:=some (ad b 0)) (n:=n) (cap:=c) (m:=1) (c1:=S) (us:=arr.toList.take (n*4)) (vs:=vs) (a1:=ad N l)
     (fun h=>by cases h) Z (by rw[List.length_take,B,i]; omega) (fun b0 W j u D=>by
      cases W;rw[Addr.add_ad,Nat.zero_add,cell_of_row _ _ _ arr T _ O];rw[List.getElem?_take]at D;split at D
      · simpa using D
      · cases D) (by rw[i,z]) (fun j u D=>by rw[Addr.add_ad]; exact J j u D) (by decide) x (by rw[F]; exact hn)
    rw[i]at hC G;exact⟨_,_,hr,_,.inr rfl,a6N hC G Y⟩
 obtain⟨R,w',y,V⟩:=y;have V:c6R w (.returned R) w' (n+1) b (arr.toList.take (n*4)++vs):=V;clear E M i F B
 go_enter Tryz.func40,Tryz.ntmps40
 go_wp2_with (at_builtin; refine Lib.wpList_append_run _ rfl _ _ 28 28 rfl _ _ rfl rfl _ _ y ?_)
 all_goals go_ret
 all_goals exact V
set_option maxHeartbeats 4000000 in
theorem b7e (b n c i vb u vc:Nat) (arr:Array Value) (T:TypeId) (vs:List Value) (w:World) (hi:i < n) (f0:n≤c) (b0:c < n+1) (hn:(n+1)*80≤140737488355328) (d4:vb < w.heap.size)
 (hh:w.heap[b]?=some (.cells arr T (0,0))) (hs:arr.size=c*4) (M:vs.length=4) (d3:∀ j v,vs[j]?=some v→w.cell? (ad vb (u+j))=some v) (c4:∀ v∈arr.toList.take (n*4),v.oneCell'=true) (c6:∀ v∈vs,v.oneCell'=true) :
 Calls Tryz.prog 40 #[.slice (some ⟨b,0,none⟩) n c,.int .i64 i,.slice (some ⟨vb,u,none⟩) 1 vc] w fun e w'=>D8 w e w' (n+1) w.heap.size (arr.toList.take (i*4)++vs++(arr.toList.take (n*4)).drop (i*4)):=by
 have t0:=Tryz.underlying0;have t3:=Tryz.underlying3;have f3:¬ ((i:Int)=(n:Int)):=by omega
 obtain⟨i0,c0,c3,b2,b1⟩:=info_parts a4l;have b6:arr.toList.length=c*4:=by simpa using hs
 have d0:b < w.heap.size:=(Array.getElem?_eq_some_iff.1 hh).1;obtain⟨cs,J⟩:∃ cs,cs=(arr.toList.take (n*4)).drop (i*4):=⟨_,rfl⟩
 have I:cs.length=(n - i)*4:=by rw[J,List.length_drop,List.length_take,b6]; omega
 have z:∀ (j:Nat) (v:Value),(arr.toList.take (n*4))[j]?=some v→w.cell? (ad b j)=some v:=fun j v C=>by
  rw[cell_of_row _ _ _ arr T _ hh];rw[List.getElem?_take]at C;split at C
  · simpa using C
  · cases C
 obtain⟨t,holds⟩:∃ t,t=arr.toList.take (i*4):=⟨_,rfl⟩
 have B:t.length=i*4:=by rw[holds,List.length_take,b6]; omega
 have c1:∀ (j:Nat) (v:Value),t[j]?=some v→w.drew.cell? ((⟨b,0,none⟩:Addr).add j)=some v:=fun j v C=>by
  rw[show(⟨b,0,none⟩:Addr)=ad b 0 from rfl,Addr.add_ad,Nat.zero_add];refine z j v ?_;rw[holds,List.getElem?_take]at C;rw[List.getElem?_take];split at C
  · rw[if_pos (by omega)]; exact C
  · cases C
 obtain⟨G,hG⟩:∃ G,G=grownCap w (n+1) c 59:=⟨_,rfl⟩
 have c7:n+1≤G:=by rw[hG]; exact grownCap_ge w _ _ _
 have d5:G≤9223372036854775807:=by have:=grownCap_le_maxLen w (n+1) c 59 (by unfold maxLen; omega);rw[← hG]at this;unfold maxLen at this;omega
 obtain⟨l,Z,b5,b4,d2⟩:∃ l:Array Value,l.toList.take (i*4)=t∧l.size=G*4∧l.toList.length=G*4∧∀ ty,(Builtin.append_ #[28,3] ty #[.slice (some ⟨b,0,none⟩) i c,.int .i64 ((n:Int)+1 - (i:Int))]).run Tryz.prog w=.ok (.slice (some ⟨w.heap.size,0,none⟩) (n+1) G) (w.drew.alloc (.cells l 59)):=by
  have hz:∀ k,(Builtin.zeroCells (Value.agg #[.string ByteArray.empty,.string ByteArray.empty,.slice none 0 0,.slice none 0 0]).cells k).size=k*4:=fun k=>by rw[size_zeroCells]; rfl
  refine⟨t.toArray++Builtin.zeroCells (Value.agg #[.string ByteArray.empty,.string ByteArray.empty,.slice none 0 0,.slice none 0 0]).cells (n+1 - i)++Builtin.zeroCells (Value.agg #[.string ByteArray.empty,.string ByteArray.empty,.slice none 0 0,.slice none 0 0]).cells (G - (n+1)),?_,?_,?_,fun ty=>?_⟩
  · rw[Array.toList_append,Array.toList_append,List.append_assoc,← B];exact List.take_left
  · simp only[Array.size_append,hz,List.size_toArray,B]; omega
  · rw[Array.length_toList]; simp only[Array.size_append,hz,List.size_toArray,B]; omega
  · have h:=Lib.run_append_grow_zeros w 28 3 ty 59 i0 _ .i64 .i64 Tryz.underlying28 Tryz.underlying3 c0 c3 (some ⟨b,0,none⟩) i c t (by rw[b2]; exact run_firstCells_some w.drew 4 i ⟨b,0,none⟩ i c t B c1) (n+1 - i) (by omega) (by rw[b2]; decide) (by omega) (by omega) (by rw[b1]; omega) (by rw[b1,show i+(n+1 - i)=n+1 by omega]; exact growslice_fits b0 hn);rw[show i+(n+1 - i)=n+1 by omega,← hG,show((n+1 - i:Nat):Int)=(n:Int)+1 - (i:Int)by omega]at h;exact h
 obtain⟨W1,S⟩:∃ W1,W1=w.drew.alloc (.cells l 59):=⟨_,rfl⟩
 have U:W1.heap[w.heap.size]?=some (.cells l 59 (0,0)):=by rw[S]; exact heap_alloc_new w.drew _
 have V:∀ b',b' < w.heap.size→W1.heap[b']?=w.heap[b']?:=fun b' hb=>by rw[S]; exact heap_alloc_old w.drew _ hb
 obtain⟨y,N⟩:∃ y,y=l.toList.take (i*4)++vs++l.toList.drop (i*4+vs.length):=⟨_,rfl⟩
 have F:y.length=G*4:=by rw[N]; simp only[List.length_append,List.length_take,List.length_drop,b4,M]; omega
 have b7:∀ (W:World),W.heap=W1.heap→∀ ty dc,(Builtin.copy_ #[28,28] ty #[.slice (some ⟨w.heap.size,i*4,none⟩) (n+1 - i) dc,.slice (some ⟨vb,u,none⟩) 1 vc]).run Tryz.prog W=.ok (goInt (Nat.min 1 (n+1 - i))) (W.setRow w.heap.size y.toArray):=fun W R ty dc=>by
  rw[W3 W 28 28 ty 59 4 w.heap.size (i*4) (n+1 - i) dc ⟨vb,u,none⟩ 1 vc l 59 vs Tryz.underlying28 b4g (by rw[R]; exact U) (by rw[M]; simp only[Nat.min_def]; split<;>omega)
   (fun j v C=>by rw[show(⟨vb,u,none⟩:Addr)=ad vb u from rfl,Addr.add_ad,World.cell?_of_block (w:=w) (by rw[R]; exact V _ d4)];exact d3 j v C) (by simp only[b5,M]; omega) c6,N]
 obtain⟨A2,O⟩:∃ A2,A2=y.take ((i+1)*4)++cs++y.drop ((i+1)*4+cs.length):=⟨_,rfl⟩
 have Y:A2.length=G*4:=by rw[O]; simp only[List.length_append,List.length_take,List.length_drop,F,I]; omega
 have x:A2.take ((n+1)*4)=t++vs++cs:=by
  have e1:y.take ((i+1)*4)=t++vs:=by rw[N,Z];exact List.take_left' (by simp only[List.length_append,B,M]; omega)
  rw[O,e1];exact List.take_left' (by simp only[List.length_append,B,M,I]; omega)
 have b8:∀ (W E:World),E.heap=W1.heap→W.heap=(E.setRow w.heap.size y.toArray).heap→∀ ty dc sc,(Builtin.copy_ #[28,28] ty #[.slice (some ⟨w.heap.size,(i+1)*4,none⟩) (n - i) dc,.slice (some ⟨b,i*4,none⟩) (n - i) sc]).run Tryz.prog W=.ok (goInt (Nat.min (n - i) (n - i))) (W.setRow w.heap.size A2.toArray):=fun W E D R ty dc sc=>by
  have a2:E.heap[w.heap.size]?=some (.cells l 59 (0,0)):=by rw[D]; exact U
  rw[W3 W 28 28 ty 59 4 w.heap.size ((i+1)*4) (n - i) dc ⟨b,i*4,none⟩ (n - i) sc y.toArray 59 cs Tryz.underlying28 b4g (by rw[R]; exact setRow_heap E w.heap.size l y.toArray 59 _ a2) (by rw[I]; simp only[Nat.min_def]; split<;>omega)
   (fun j v C=>by rw[show(⟨b,i*4,none⟩:Addr)=ad b (i*4)from rfl,Addr.add_ad,World.cell?_of_block (w:=w) (by rw[R,setRow_other _ _ _ _ (by omega:b≠w.heap.size),D]; exact V _ d0)];rw[J,List.getElem?_drop]at C;exact z _ v C) (by simp only[List.size_toArray,F,I]; omega) (fun v hv=>c4 v (by rw[J]at hv; exact List.mem_of_mem_drop hv)),O]
 have fin:∀ (W E:World),E.heap=W1.heap→W.heap=(E.setRow w.heap.size y.toArray).heap→W.os=w.os→W.output=w.output→D8 w (.returned (.slice (some ⟨w.heap.size,0,none⟩) (n+1) G)) (W.setRow w.heap.size A2.toArray) (n+1) w.heap.size (t++vs++cs):=fun W E D R ho d1=>by
  have a2:E.heap[w.heap.size]?=some (.cells l 59 (0,0)):=by rw[D]; exact U
  have c8:W.heap[w.heap.size]?=some (.cells y.toArray 59 (0,0)):=by rw[R]; exact setRow_heap E w.heap.size l y.toArray 59 _ a2
  have e:W.heap.size=w.heap.size+1:=by rw[R]; simp[D,S]
  have c2:∀ b',b'≠w.heap.size→b' < w.heap.size→W.heap[b']?=w.heap[b']?:=fun b' hb a1=>by rw[R,setRow_other _ _ _ _ hb,D]; exact V _ a1
  refine⟨G,A2.toArray,59,rfl,setRow_heap W w.heap.size y.toArray A2.toArray 59 _ c8,by simpa using Y,c7,by simpa using x,fun b' hb a1=>by rw[setRow_other _ _ _ _ hb]; exact c2 b' hb a1,by simp[e],by simp[e],ho,d1⟩
 rw[← J,← holds];clear N O J holds x I F Y Z b5 b4 B c1 z hG c0 c3 b2 b1 U V;subst S;have f2:IntKind.i64.wrap ((i:Int)+1)=(i:Int)+1:=by rw[IntKind.wrap_i64]; omega
 have e0:(0:Int)≤(i:Int)+1:=by omega
 have e6:i≤n:=by omega
 have f1:((i:Int)+1).toNat=i+1:=by omega
 have e4:(i:Int)≤(n:Int):=by omega
 have d7:¬ (G=i):=by omega
 have d6:¬ (G=i+1):=by omega
 have e5:¬ (c=i):=by omega
 have a0:((w.alloc (.cells l 59)).drew).heap=(w.drew.alloc (.cells l 59)).heap:=rfl;have b3:(((w.alloc (.cells l 59)).drew.setRow w.heap.size y.toArray).drew).heap=((w.alloc (.cells l 59)).drew.setRow w.heap.size y.toArray).heap:=rfl;have mixed:=a9T
 go_enter Tryz.func40,Tryz.ntmps40
 go_wp2_with (first
  | (at_builtin; refine Lib.wpList_append_run _ rfl _ _ _ _ rfl _ _ rfl rfl _ _ (d2 _) ?_)
  | (at_builtin; refine wpList_copy_runI _ rfl _ _ 28 28 rfl _ _ rfl rfl (b7 _ a0 _ _) ?_))
 go_region_law_o (refine step_copy_runI rfl _ _ 28 28 rfl (.slice (some ⟨w.heap.size,(i+1)*4,none⟩) (n - i) (G - (i+1))) (.slice (some ⟨b,i*4,none⟩) (n - i) (c - i)) (by simp[Act.eval,Act.put]) (by simp[Act.eval,Act.put]) (b8 _ _ a0 b3 3 (G - (i+1)) (c - i)) ?_)
 go_wp2
 go_ret
 exact fin _ _ a0 b3 rfl rfl
end Go.Cb.CodeA
