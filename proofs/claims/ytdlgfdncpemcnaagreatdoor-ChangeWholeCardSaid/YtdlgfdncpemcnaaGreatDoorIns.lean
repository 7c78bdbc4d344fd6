import Derived.Test.YtdlgfdncpemcnaaGreatDoorChecked
import Derived.Shelf.RegionOpenPlain
import Derived.Shelf.Spec.SlicesInsert
import Derived.WalkKit
import Derived.Lib.AppendZerosOnto
import Derived.Test.YtdlgfdncpemcnaaGreatDoorXAms4
import Derived.Test.YtdlgfdncpemcnaaGreatDoorXAms2
set_option maxRecDepth 100000
set_option linter.all false
namespace Go.Cb.CodeA
open Go Go.Cb Go.Proofs Go.RowKit Go.Shelf
def D7 (w:World) (e:Ending) (w':World) (n bb:Nat) (vs:List Value):Prop :=
 ∃ cap arr T,e=.returned (.slice (some (ad bb 0)) n cap)∧w'.heap[bb]?=some (.cells arr T (0,0))∧arr.size=cap*4∧n≤cap∧arr.toList.take (n*4)=vs∧(∀ b,b≠bb→b < w.heap.size→w'.heap[b]?=w.heap[b]?)∧w.heap.size≤w'.heap.size∧bb < w'.heap.size∧Env w w'
def e7V (w:World) (e:Ending) (w':World) (n b:Nat) (vs:List Value):Prop:=∃ bb,(bb=b∨bb=w.heap.size)∧D7 w e w' n bb vs
theorem b4Y:(Tryz.prog.info? 34).map (·.size)=some 4:=by kernel_rfl
theorem a9a:Tryz.prog.follows .mixedOrders=true:=by kernel_rfl
set_option maxHeartbeats 4000000 in
theorem b8z (b n c i J l vc:Nat) (arr:Array Value) (T:TypeId) (vs:List Value) (w:World) (hi:i < n) (Y:n+1≤c) (hn:(n+1)*80≤140737488355328) (b0:J≠b)
 (hh:w.heap[b]?=some (.cells arr T (0,0))) (hs:arr.size=c*4) (I:vs.length=4) (b1:∀ j v,vs[j]?=some v→w.cell? (ad J (l+j))=some v) (b2:∀ v∈arr.toList.take (n*4),v.oneCell'=true) (b3:∀ v∈vs,v.oneCell'=true) :
 Calls Tryz.prog 39 #[.slice (some ⟨b,0,none⟩) n c,.int .i64 i,.slice (some ⟨J,l,none⟩) 1 vc] w fun e w'=>D7 w e w' (n+1) b (arr.toList.take (i*4)++vs++(arr.toList.take (n*4)).drop (i*4)):=by
 have t0:=Tryz.underlying0;have c8:¬ ((i:Int)=(n:Int)):=by omega
 have x:=b1 0 _ (List.getElem?_eq_getElem (by omega));obtain⟨y,TA,zA,hA,b4⟩:∃ y TA zA,w.heap[J]?=some (.cells y TA zA)∧y.size≠0:=by
  unfold World.cell? at x;simp only[ad,Option.isSome_none,Bool.false_eq_true,if_false]at x;cases hq:w.heap[J]? with
  | none=>rw[hq]at x; cases x
  | some o =>
   rw[hq]at x;cases o with
   | cells cs T z =>refine⟨cs,T,z,rfl,fun h=>?_⟩;have:=(Array.getElem?_eq_some_iff.1 x).1;omega
   | _=>cases x
 have b6:∀ lb cb,(callFunc 79 #[.slice (some ⟨J,l,none⟩) 1 vc,.slice (some ⟨b,(i+1)*4,none⟩) lb cb]).run Tryz.prog w=.ok (.value (.bool false)) w:=fun lb cb=>by
  rw[run_callFunc_extern Tryz.func79 (by kernel_rfl) (by kernel_rfl) (by kernel_rfl) (e:=Extern.SlicesOverlaps.overlaps #[27,27] #[4]) (by kernel_rfl),
   a3N w 27 4 34 Tryz.underlying27 4 Tryz.sizeOf34 ⟨J,l,none⟩ ⟨b,(i+1)*4,none⟩ 1 vc lb cb b0 hA hh b4 (by omega)]
  rfl
 obtain⟨cs,G⟩:∃ cs,cs=(arr.toList.take (n*4)).drop (i*4):=⟨_,rfl⟩
 have E:arr.toList.length=c*4:=by simpa using hs
 have F:cs.length=(n - i)*4:=by rw[G,List.length_drop,List.length_take,E]; omega
 obtain⟨u,B⟩:∃ u,u=arr.toList.take ((i+1)*4)++cs++arr.toList.drop ((i+1)*4+cs.length):=⟨_,rfl⟩
 have D:u.length=c*4:=by rw[B]; simp only[List.length_append,List.length_take,List.length_drop,E,F]; omega
 have N:w.drew.heap[b]?=some (.cells arr T (0,0)):=hh;have a2:∀ ty U sc,(Builtin.copy_ #[27,27] ty #[.slice (some ⟨b,(i+1)*4,none⟩) (n - i) U,.slice (some ⟨b,i*4,none⟩) (n+1 - i) sc]).run Tryz.prog w.drew=.ok (goInt (Nat.min (n+1 - i) (n - i))) (w.drew.setRow b u.toArray):=fun ty U sc=>by
  rw[W3 w.drew 27 27 ty 34 4 b ((i+1)*4) (n - i) U ⟨b,i*4,none⟩ (n+1 - i) sc arr T cs Tryz.underlying27 b4Y N (by rw[F]; simp only[Nat.min_def]; split<;>omega)
   (fun j v hj=>by
    rw[show(⟨b,i*4,none⟩:Addr)=ad b (i*4)from rfl,Addr.add_ad,cell_of_row _ _ _ arr T _ N];rw[G,List.getElem?_drop,List.getElem?_take]at hj;split at hj
    · simpa using hj
    · cases hj) (by rw[F,hs]; omega) (fun v hv=>b2 v (by rw[G]at hv; exact List.mem_of_mem_drop hv)),B]
 obtain⟨A2,M⟩:∃ A2,A2=u.take (i*4)++vs++u.drop (i*4+vs.length):=⟨_,rfl⟩
 have O:A2.length=c*4:=by rw[M]; simp only[List.length_append,List.length_take,List.length_drop,D,I]; omega
 have V:(w.drew.setRow b u.toArray).heap[b]?=some (.cells u.toArray T (0,0)):=setRow_heap w.drew b arr u.toArray T _ N;have a3:∀ (W:World),W.heap=(w.drew.setRow b u.toArray).heap→∀ ty U,(Builtin.copy_ #[27,27] ty #[.slice (some ⟨b,i*4,none⟩) (n+1 - i) U,.slice (some ⟨J,l,none⟩) 1 vc]).run Tryz.prog W=.ok (goInt (Nat.min 1 (n+1 - i))) (W.setRow b A2.toArray):=fun W Z ty U=>by
  rw[W3 W 27 27 ty 34 4 b (i*4) (n+1 - i) U ⟨J,l,none⟩ 1 vc u.toArray T vs Tryz.underlying27 b4Y (by rw[Z]; exact V) (by rw[I]; simp only[Nat.min_def]; split<;>omega)
   (fun j v hj=>by rw[show(⟨J,l,none⟩:Addr)=ad J l from rfl,Addr.add_ad,World.cell?_of_block (w:=w) (by rw[Z]; exact setRow_other w.drew _ _ _ b0)];exact b1 j v hj) (by simp only[List.size_toArray,D,I]; omega) b3,M]
 have t:A2.take ((n+1)*4)=arr.toList.take (i*4)++vs++cs:=by
  have e1:u.take (i*4)=arr.toList.take (i*4):=by rw[B,List.append_assoc,List.take_append_of_le_length (by rw[List.length_take,E]; omega),List.take_take];congr 1; omega
  have e2:u.drop (i*4+vs.length)=cs++arr.toList.drop ((i+1)*4+cs.length):=by rw[B,I,List.append_assoc];exact List.drop_left' (by rw[List.length_take,E]; omega)
  rw[M,e1,e2,← List.append_assoc];exact List.take_left' (by simp only[List.length_append,List.length_take,E,I,F]; omega)
 have fin:∀ (W:World),W.heap=(w.drew.setRow b u.toArray).heap→W.os=w.os→W.output=w.output→D7 w (.returned (.slice (some ⟨b,0,none⟩) (n+1) c)) (W.setRow b A2.toArray) (n+1) b (arr.toList.take (i*4)++vs++cs):=fun W Z ho b5=>by
  have a0:W.heap[b]?=some (.cells u.toArray T (0,0)):=by rw[Z]; exact V
  have a1:b < w.heap.size:=(Array.getElem?_eq_some_iff.1 hh).1;have e:W.heap.size=w.heap.size:=by rw[Z]; simp
  have S:∀ b',b'≠b→W.heap[b']?=w.heap[b']?:=fun b' hb=>by rw[Z]; exact setRow_other w.drew _ _ _ hb
  have b7:∀ a:Addr,W.frozen? a=w.frozen? a:=fun a=>by
   unfold World.frozen?;by_cases ha:a.block=b
   · rw[ha,a0,hh]
   · rw[S _ ha]
  refine⟨c,A2.toArray,T,rfl,setRow_heap W b u.toArray A2.toArray T _ a0,by simpa using O,Y,by simpa using t,fun b' hb _=>by rw[setRow_other _ _ _ _ hb]; exact S b' hb,by simp[e],by simpa[e]using a1,ho,b5⟩
 rw[← G];clear B M G t F D O V N;have mixed:=a9a;have c7:IntKind.i64.wrap ((i:Int)+1)=(i:Int)+1:=by rw[IntKind.wrap_i64]; omega
 have b8:(0:Int)≤(i:Int)+1:=by omega
 have c4:i≤n:=by omega
 have c6:((i:Int)+1).toNat=i+1:=by omega
 have c0:¬ (c=i+1):=by omega
 have c1:(i:Int)≤(n:Int)+1:=by omega
 have c2:¬ (c=i):=by omega
 have c3:¬ (c=n+1∧i=n):=by omega
 go_enter Tryz.func39,Tryz.ntmps39
 go_wp2_with (simp only[b6])
 go_region_law_o (refine step_copy_runI rfl _ _ 27 27 rfl _ _ (by simp[Act.eval,Act.put]) (by simp[Act.eval,Act.put]) (a2 _ _ _) ?_)
 go_wp2_with (at_builtin; refine wpList_copy_runI _ rfl _ _ 27 27 rfl _ _ rfl rfl (a3 _ rfl _ _) ?_)
 go_ret
 exact fin _ rfl rfl rfl
noncomputable def CxE:Go.Cb.Cx:=⟨Tryz.prog,[],[],0,[],No⟩
theorem a3s:(Tryz.prog.info? 34).map (fun i=>(i.zero,i.size,i.bytes))=some (some (.agg #[.string ByteArray.empty,.string ByteArray.empty,.slice none 0 0,.slice none 0 0]),4,80):=by kernel_rfl
theorem a7n {w:World} {C:Array Value} {n cap:Nat} {vs:List Value} (i:C.toList.take (n*4)=vs) (j:C.size=cap*4) (l:n≤cap):D7 w (.returned (.slice (some (ad w.heap.size 0)) n cap)) (w.drew.alloc (.cells C 34)) n w.heap.size vs :=
 ⟨cap,C,34,rfl,heap_alloc_new w.drew _,j,l,i,fun b _ u=>heap_alloc_old w.drew _ u,by simp,by simp,(Env.drawn (w:=w) (w':=w.drew) rfl rfl rfl).trans (Env.alloc w.drew _ (by intro c t z e; cases e; rfl))⟩
set_option maxHeartbeats 4000000 in
theorem c4c (M i O:Nat) (vs:List Value) (w:World) (I:vs.length=4) (J:∀ j v,vs[j]?=some v→w.cell? (ad M (i+j))=some v) :
 Calls Tryz.prog 39 #[.slice none 0 0,.int .i64 0,.slice (some ⟨M,i,none⟩) 1 O] w fun e w'=>D7 w e w' 1 w.heap.size vs:=by
 have t0:=Tryz.underlying0;obtain⟨i0,D,F,l,B⟩:=info_parts a3s;have x:=fun ty=>U1 (c:=CxE) (w:=w) (t:=27) (ty:=ty) Tryz.underlying27 D F (by rw[l]; rfl) (by rw[B]; decide) (a0:=none) (n:=0) (cap:=0) (m:=1) (c1:=O) (us:=[]) (vs:=vs) (a1:=ad M i) (fun _=>rfl) (Nat.le_refl _) (by simp) (by simp) (by rw[l,I]) (fun j u S=>by rw[Addr.add_ad]; exact J j u S) (by decide) (by decide) (by rw[B]; decide)
 obtain⟨C,cap,y,G,z,E,_⟩:=x 27;rw[l]at G z;have N:=a7n (w:=w) (n:=1) G z E;simp only[List.nil_append,Nat.zero_add]at N y;clear G z E x D F l B
 go_enter Tryz.func39,Tryz.ntmps39
 go_wp2_with (at_builtin; refine Lib.wpList_append_run _ rfl _ _ 27 27 rfl _ _ rfl rfl _ _ y ?_)
 go_ret
 exact N
set_option maxHeartbeats 4000000 in
theorem c4y (b n c N l U:Nat) (arr:Array Value) (T:TypeId) (vs:List Value) (w:World) (a2:n≤c) (hn:(n+1)*80≤140737488355328)
 (O:w.heap[b]?=some (.cells arr T (0,0))) (hs:arr.size=c*4) (z:vs.length=4) (J:∀ j v,vs[j]?=some v→w.cell? (ad N (l+j))=some v) (V:∀ v∈vs,v.oneCell'=true) :
 Calls Tryz.prog 39 #[.slice (some ⟨b,0,none⟩) n c,.int .i64 n,.slice (some ⟨N,l,none⟩) 1 U] w fun e w'=>e7V w e w' (n+1) b (arr.toList.take (n*4)++vs):=by
 have t0:=Tryz.underlying0;obtain⟨i0,E,M,i,F⟩:=info_parts a3s;have B:arr.toList.length=c*4:=by simpa using hs
 have y:∃ S w',(Builtin.append_ #[27,27] 27 #[.slice (some ⟨b,0,none⟩) n c,.slice (some ⟨N,l,none⟩) 1 U]).run Tryz.prog w=.ok S w'∧∃ bb,(bb=b∨bb=w.heap.size)∧D7 w (.returned S) w' (n+1) bb (arr.toList.take (n*4)++vs):=by
  by_cases x:n+1≤c
  · refine⟨_,_,P4 (P:=Tryz.prog) (w:=w) 27 27 34 i0 T Tryz.underlying27 E b n c arr O (ad N l) 1 U vs (by rw[z,i]) (fun j u D=>by rw[Addr.add_ad]; exact J j u D) V x (by rw[i,z,hs]; omega),b,.inl rfl,?_⟩;rw[i];have I:b < w.heap.size:=(Array.getElem?_eq_some_iff.1 O).1;refine⟨c,_,T,rfl,setRow_heap w b arr _ T _ O,?_,x,?_,fun b' hb _=>setRow_other _ _ _ _ hb,by simp,by simpa using I,Env.setRow w b _⟩
    · simp only[List.size_toArray,List.length_append,List.length_take,List.length_drop,B,z]; omega
    · rw[List.toList_toArray];exact List.take_left' (by simp only[List.length_append,List.length_take,B,z]; omega)
  · obtain⟨C,cap,hr,hC,G,Z,_⟩:=U1 (c:=CxE) (w:=w) (t:=27) (ty:=27) Tryz.underlying27 E M (by rw[i]; rfl) (by rw[F]; decide) (a0:=some (ad b 0)) (n:=n) (cap:=c) (m:=1) (c1:=U) (us:=arr.toList.take (n*4)) (vs:=vs) (a1:=ad N l)
     (fun h=>by cases h) a2 (by rw[List.length_take,B,i]; omega) (fun b0 Y j u D=>by
      cases Y;rw[Addr.add_ad,Nat.zero_add,cell_of_row _ _ _ arr T _ O];rw[List.getElem?_take]at D;split at D
      · simpa using D
      · cases D) (by rw[i,z]) (fun j u D=>by rw[Addr.add_ad]; exact J j u D) (by decide) x (by rw[F]; exact hn)
    rw[i]at hC G;exact⟨_,_,hr,_,.inr rfl,a7n hC G Z⟩
 obtain⟨S,w',y,W⟩:=y;have W:e7V w (.returned S) w' (n+1) b (arr.toList.take (n*4)++vs):=W;clear E M i F B
 go_enter Tryz.func39,Tryz.ntmps39
 go_wp2_with (at_builtin; refine Lib.wpList_append_run _ rfl _ _ 27 27 rfl _ _ rfl rfl _ _ y ?_)
 all_goals go_ret
 all_goals exact W
set_option maxHeartbeats 4000000 in
theorem b7P (b n c i vb u vc:Nat) (arr:Array Value) (T:TypeId) (vs:List Value) (w:World) (hi:i < n) (e6:n≤c) (b1:c < n+1) (hn:(n+1)*80≤140737488355328) (d5:vb < w.heap.size)
 (hh:w.heap[b]?=some (.cells arr T (0,0))) (hs:arr.size=c*4) (N:vs.length=4) (d4:∀ j v,vs[j]?=some v→w.cell? (ad vb (u+j))=some v) (c6:∀ v∈arr.toList.take (n*4),v.oneCell'=true) (c7:∀ v∈vs,v.oneCell'=true) :
 Calls Tryz.prog 39 #[.slice (some ⟨b,0,none⟩) n c,.int .i64 i,.slice (some ⟨vb,u,none⟩) 1 vc] w fun e w'=>D7 w e w' (n+1) w.heap.size (arr.toList.take (i*4)++vs++(arr.toList.take (n*4)).drop (i*4)):=by
 have t0:=Tryz.underlying0;have t3:=Tryz.underlying3;have f2:¬ ((i:Int)=(n:Int)):=by omega
 obtain⟨i0,c1,c4,b3,b2⟩:=info_parts a3s;have b7:arr.toList.length=c*4:=by simpa using hs
 have d1:b < w.heap.size:=(Array.getElem?_eq_some_iff.1 hh).1;obtain⟨cs,M⟩:∃ cs,cs=(arr.toList.take (n*4)).drop (i*4):=⟨_,rfl⟩
 have J:cs.length=(n - i)*4:=by rw[M,List.length_drop,List.length_take,b7]; omega
 have z:∀ (j:Nat) (v:Value),(arr.toList.take (n*4))[j]?=some v→w.cell? (ad b j)=some v:=fun j v D=>by
  rw[cell_of_row _ _ _ arr T _ hh];rw[List.getElem?_take]at D;split at D
  · simpa using D
  · cases D
 obtain⟨t,holds⟩:∃ t,t=arr.toList.take (i*4):=⟨_,rfl⟩
 have B:t.length=i*4:=by rw[holds,List.length_take,b7]; omega
 have c2:∀ (j:Nat) (v:Value),t[j]?=some v→w.drew.cell? ((⟨b,0,none⟩:Addr).add j)=some v:=fun j v D=>by
  rw[show(⟨b,0,none⟩:Addr)=ad b 0 from rfl,Addr.add_ad,Nat.zero_add];refine z j v ?_;rw[holds,List.getElem?_take]at D;rw[List.getElem?_take];split at D
  · rw[if_pos (by omega)]; exact D
  · cases D
 obtain⟨G,hG⟩:∃ G,G=grownCap w (n+1) c 34:=⟨_,rfl⟩
 have c8:n+1≤G:=by rw[hG]; exact grownCap_ge w _ _ _
 have d6:G≤9223372036854775807:=by have:=grownCap_le_maxLen w (n+1) c 34 (by unfold maxLen; omega);rw[← hG]at this;unfold maxLen at this;omega
 obtain⟨l,a1,b6,b5,d3⟩:∃ l:Array Value,l.toList.take (i*4)=t∧l.size=G*4∧l.toList.length=G*4∧∀ ty,(Builtin.append_ #[27,3] ty #[.slice (some ⟨b,0,none⟩) i c,.int .i64 ((n:Int)+1 - (i:Int))]).run Tryz.prog w=.ok (.slice (some ⟨w.heap.size,0,none⟩) (n+1) G) (w.drew.alloc (.cells l 34)):=by
  have hz:∀ k,(Builtin.zeroCells (Value.agg #[.string ByteArray.empty,.string ByteArray.empty,.slice none 0 0,.slice none 0 0]).cells k).size=k*4:=fun k=>by rw[size_zeroCells]; rfl
  refine⟨t.toArray++Builtin.zeroCells (Value.agg #[.string ByteArray.empty,.string ByteArray.empty,.slice none 0 0,.slice none 0 0]).cells (n+1 - i)++Builtin.zeroCells (Value.agg #[.string ByteArray.empty,.string ByteArray.empty,.slice none 0 0,.slice none 0 0]).cells (G - (n+1)),?_,?_,?_,fun ty=>?_⟩
  · rw[Array.toList_append,Array.toList_append,List.append_assoc,← B];exact List.take_left
  · simp only[Array.size_append,hz,List.size_toArray,B]; omega
  · rw[Array.length_toList]; simp only[Array.size_append,hz,List.size_toArray,B]; omega
  · have h:=Lib.run_append_grow_zeros w 27 3 ty 34 i0 _ .i64 .i64 Tryz.underlying27 Tryz.underlying3 c1 c4 (some ⟨b,0,none⟩) i c t (by rw[b3]; exact run_firstCells_some w.drew 4 i ⟨b,0,none⟩ i c t B c2) (n+1 - i) (by omega) (by rw[b3]; decide) (by omega) (by omega) (by rw[b2]; omega) (by rw[b2,show i+(n+1 - i)=n+1 by omega]; exact growslice_fits b1 hn);rw[show i+(n+1 - i)=n+1 by omega,← hG,show((n+1 - i:Nat):Int)=(n:Int)+1 - (i:Int)by omega]at h;exact h
 obtain⟨W1,V⟩:∃ W1,W1=w.drew.alloc (.cells l 34):=⟨_,rfl⟩
 have Y:W1.heap[w.heap.size]?=some (.cells l 34 (0,0)):=by rw[V]; exact heap_alloc_new w.drew _
 have Z:∀ b',b' < w.heap.size→W1.heap[b']?=w.heap[b']?:=fun b' hb=>by rw[V]; exact heap_alloc_old w.drew _ hb
 obtain⟨y,O⟩:∃ y,y=l.toList.take (i*4)++vs++l.toList.drop (i*4+vs.length):=⟨_,rfl⟩
 have I:y.length=G*4:=by rw[O]; simp only[List.length_append,List.length_take,List.length_drop,b5,N]; omega
 have b8:∀ (W:World),W.heap=W1.heap→∀ ty dc,(Builtin.copy_ #[27,27] ty #[.slice (some ⟨w.heap.size,i*4,none⟩) (n+1 - i) dc,.slice (some ⟨vb,u,none⟩) 1 vc]).run Tryz.prog W=.ok (goInt (Nat.min 1 (n+1 - i))) (W.setRow w.heap.size y.toArray):=fun W U ty dc=>by
  rw[W3 W 27 27 ty 34 4 w.heap.size (i*4) (n+1 - i) dc ⟨vb,u,none⟩ 1 vc l 34 vs Tryz.underlying27 b4Y (by rw[U]; exact Y) (by rw[N]; simp only[Nat.min_def]; split<;>omega)
   (fun j v D=>by rw[show(⟨vb,u,none⟩:Addr)=ad vb u from rfl,Addr.add_ad,World.cell?_of_block (w:=w) (by rw[U]; exact Z _ d5)];exact d4 j v D) (by simp only[b6,N]; omega) c7,O]
 obtain⟨A2,S⟩:∃ A2,A2=y.take ((i+1)*4)++cs++y.drop ((i+1)*4+cs.length):=⟨_,rfl⟩
 have a0:A2.length=G*4:=by rw[S]; simp only[List.length_append,List.length_take,List.length_drop,I,J]; omega
 have x:A2.take ((n+1)*4)=t++vs++cs:=by
  have e1:y.take ((i+1)*4)=t++vs:=by rw[O,a1];exact List.take_left' (by simp only[List.length_append,B,N]; omega)
  rw[S,e1];exact List.take_left' (by simp only[List.length_append,B,N,J]; omega)
 have c0:∀ (W F:World),F.heap=W1.heap→W.heap=(F.setRow w.heap.size y.toArray).heap→∀ ty dc sc,(Builtin.copy_ #[27,27] ty #[.slice (some ⟨w.heap.size,(i+1)*4,none⟩) (n - i) dc,.slice (some ⟨b,i*4,none⟩) (n - i) sc]).run Tryz.prog W=.ok (goInt (Nat.min (n - i) (n - i))) (W.setRow w.heap.size A2.toArray):=fun W F E U ty dc sc=>by
  have b0:F.heap[w.heap.size]?=some (.cells l 34 (0,0)):=by rw[E]; exact Y
  rw[W3 W 27 27 ty 34 4 w.heap.size ((i+1)*4) (n - i) dc ⟨b,i*4,none⟩ (n - i) sc y.toArray 34 cs Tryz.underlying27 b4Y (by rw[U]; exact setRow_heap F w.heap.size l y.toArray 34 _ b0) (by rw[J]; simp only[Nat.min_def]; split<;>omega)
   (fun j v D=>by rw[show(⟨b,i*4,none⟩:Addr)=ad b (i*4)from rfl,Addr.add_ad,World.cell?_of_block (w:=w) (by rw[U,setRow_other _ _ _ _ (by omega:b≠w.heap.size),E]; exact Z _ d1)];rw[M,List.getElem?_drop]at D;exact z _ v D) (by simp only[List.size_toArray,I,J]; omega) (fun v hv=>c6 v (by rw[M]at hv; exact List.mem_of_mem_drop hv)),S]
 have fin:∀ (W F:World),F.heap=W1.heap→W.heap=(F.setRow w.heap.size y.toArray).heap→W.os=w.os→W.output=w.output→D7 w (.returned (.slice (some ⟨w.heap.size,0,none⟩) (n+1) G)) (W.setRow w.heap.size A2.toArray) (n+1) w.heap.size (t++vs++cs):=fun W F E U ho d2=>by
  have b0:F.heap[w.heap.size]?=some (.cells l 34 (0,0)):=by rw[E]; exact Y
  have d0:W.heap[w.heap.size]?=some (.cells y.toArray 34 (0,0)):=by rw[U]; exact setRow_heap F w.heap.size l y.toArray 34 _ b0
  have e:W.heap.size=w.heap.size+1:=by rw[U]; simp[E,V]
  have c3:∀ b',b'≠w.heap.size→b' < w.heap.size→W.heap[b']?=w.heap[b']?:=fun b' hb a3=>by rw[U,setRow_other _ _ _ _ hb,E]; exact Z _ a3
  refine⟨G,A2.toArray,34,rfl,setRow_heap W w.heap.size y.toArray A2.toArray 34 _ d0,by simpa using a0,c8,by simpa using x,fun b' hb a3=>by rw[setRow_other _ _ _ _ hb]; exact c3 b' hb a3,by simp[e],by simp[e],ho,d2⟩
 rw[← M,← holds];clear O S M holds x J I a0 a1 b6 b5 B c2 z hG c1 c4 b3 b2 Y Z;subst V;have f1:IntKind.i64.wrap ((i:Int)+1)=(i:Int)+1:=by rw[IntKind.wrap_i64]; omega
 have e2:(0:Int)≤(i:Int)+1:=by omega
 have e5:i≤n:=by omega
 have f0:((i:Int)+1).toNat=i+1:=by omega
 have e3:(i:Int)≤(n:Int):=by omega
 have e0:¬ (G=i):=by omega
 have d7:¬ (G=i+1):=by omega
 have e4:¬ (c=i):=by omega
 have a2:((w.alloc (.cells l 34)).drew).heap=(w.drew.alloc (.cells l 34)).heap:=rfl;have b4:(((w.alloc (.cells l 34)).drew.setRow w.heap.size y.toArray).drew).heap=((w.alloc (.cells l 34)).drew.setRow w.heap.size y.toArray).heap:=rfl;have mixed:=a9a
 go_enter Tryz.func39,Tryz.ntmps39
 go_wp2_with (first
  | (at_builtin; refine Lib.wpList_append_run _ rfl _ _ _ _ rfl _ _ rfl rfl _ _ (d3 _) ?_)
  | (at_builtin; refine wpList_copy_runI _ rfl _ _ 27 27 rfl _ _ rfl rfl (b8 _ a2 _ _) ?_))
 go_region_law_o (refine step_copy_runI rfl _ _ 27 27 rfl (.slice (some ⟨w.heap.size,(i+1)*4,none⟩) (n - i) (G - (i+1))) (.slice (some ⟨b,i*4,none⟩) (n - i) (c - i)) (by simp[Act.eval,Act.put]) (by simp[Act.eval,Act.put]) (c0 _ _ a2 b4 3 (G - (i+1)) (c - i)) ?_)
 go_wp2
 go_ret
 exact fin _ _ a2 b4 rfl rfl
end Go.Cb.CodeA
