import Derived.Test.YtgaibigpannjfaaGreatDoorChecked
import Derived.Shelf.RegionOpenPlain
import Derived.Shelf.Spec.SlicesInsert
import Derived.WalkKit
import Derived.Lib.AppendZerosOnto
import Derived.Test.YtgaibigpannjfaaGreatDoorXAms4
import Derived.Test.YtgaibigpannjfaaGreatDoorXAms2
set_option maxRecDepth 100000
set_option linter.all false
namespace Go.Cb.CodeA
open Go Go.Cb Go.Proofs Go.RowKit Go.Shelf
def I3 (w:World) (e:Ending) (w':World) (n bb:Nat) (vs:List Value):Prop :=
 ∃ cap arr T,e=.returned (.slice (some (ad bb 0)) n cap)∧w'.heap[bb]?=some (.cells arr T (0,0))∧arr.size=cap*4∧n≤cap∧arr.toList.take (n*4)=vs∧(∀ b,b≠bb→b < w.heap.size→w'.heap[b]?=w.heap[b]?)∧w.heap.size≤w'.heap.size∧bb < w'.heap.size∧Env w w'
def d2t (w:World) (e:Ending) (w':World) (n b:Nat) (vs:List Value):Prop:=∃ bb,(bb=b∨bb=w.heap.size)∧I3 w e w' n bb vs
theorem b42:(Tryz.prog.info? 58).map (·.size)=some 4:=by kernel_rfl
theorem b1z:Tryz.prog.follows .mixedOrders=true:=by kernel_rfl
set_option maxHeartbeats 4000000 in
theorem b9Z (b n c i J l vc:Nat) (arr:Array Value) (T:TypeId) (vs:List Value) (w:World) (hi:i < n) (V:n+1≤c) (hn:(n+1)*80≤140737488355328) (b0:J≠b)
 (hh:w.heap[b]?=some (.cells arr T (0,0))) (hs:arr.size=c*4) (I:vs.length=4) (b1:∀ j v,vs[j]?=some v→w.cell? (ad J (l+j))=some v) (b2:∀ v∈arr.toList.take (n*4),v.oneCell'=true) (b3:∀ v∈vs,v.oneCell'=true) :
 Calls Tryz.prog 38 #[.slice (some ⟨b,0,none⟩) n c,.int .i64 i,.slice (some ⟨J,l,none⟩) 1 vc] w fun e w'=>I3 w e w' (n+1) b (arr.toList.take (i*4)++vs++(arr.toList.take (n*4)).drop (i*4)):=by
 have t0:=Tryz.underlying0;have c8:¬ ((i:Int)=(n:Int)):=by omega
 have x:=b1 0 _ (List.getElem?_eq_getElem (by omega));obtain⟨y,TA,zA,hA,b4⟩:∃ y TA zA,w.heap[J]?=some (.cells y TA zA)∧y.size≠0:=by
  unfold World.cell? at x;simp only[ad,Option.isSome_none,Bool.false_eq_true,if_false]at x;cases hq:w.heap[J]? with
  | none=>rw[hq]at x; cases x
  | some o =>
   rw[hq]at x;cases o with
   | cells cs T z =>refine⟨cs,T,z,rfl,fun h=>?_⟩;have:=(Array.getElem?_eq_some_iff.1 x).1;omega
   | _=>cases x
 have b6:∀ lb cb,(callFunc 78 #[.slice (some ⟨J,l,none⟩) 1 vc,.slice (some ⟨b,(i+1)*4,none⟩) lb cb]).run Tryz.prog w=.ok (.value (.bool false)) w:=fun lb cb=>by
  rw[run_callFunc_extern Tryz.func78 (by kernel_rfl) (by kernel_rfl) (by kernel_rfl) (e:=Extern.SlicesOverlaps.overlaps #[29,29] #[4]) (by kernel_rfl),
   a5j w 29 4 58 Tryz.underlying29 4 Tryz.sizeOf58 ⟨J,l,none⟩ ⟨b,(i+1)*4,none⟩ 1 vc lb cb b0 hA hh b4 (by omega)]
  rfl
 obtain⟨cs,G⟩:∃ cs,cs=(arr.toList.take (n*4)).drop (i*4):=⟨_,rfl⟩
 have E:arr.toList.length=c*4:=by simpa using hs
 have F:cs.length=(n - i)*4:=by rw[G,List.length_drop,List.length_take,E]; omega
 obtain⟨u,B⟩:∃ u,u=arr.toList.take ((i+1)*4)++cs++arr.toList.drop ((i+1)*4+cs.length):=⟨_,rfl⟩
 have C:u.length=c*4:=by rw[B]; simp only[List.length_append,List.length_take,List.length_drop,E,F]; omega
 have M:w.drew.heap[b]?=some (.cells arr T (0,0)):=hh;have a1:∀ ty S sc,(Builtin.copy_ #[29,29] ty #[.slice (some ⟨b,(i+1)*4,none⟩) (n - i) S,.slice (some ⟨b,i*4,none⟩) (n+1 - i) sc]).run Tryz.prog w.drew=.ok (goInt (Nat.min (n+1 - i) (n - i))) (w.drew.setRow b u.toArray):=fun ty S sc=>by
  rw[a0s w.drew 29 29 ty 58 4 b ((i+1)*4) (n - i) S ⟨b,i*4,none⟩ (n+1 - i) sc arr T cs Tryz.underlying29 b42 M (by rw[F]; simp only[Nat.min_def]; split<;>omega)
   (fun j v Y=>by
    rw[show(⟨b,i*4,none⟩:Addr)=ad b (i*4)from rfl,Addr.add_ad,cell_of_row _ _ _ arr T _ M];rw[G,List.getElem?_drop,List.getElem?_take]at Y;split at Y
    · simpa using Y
    · cases Y) (by rw[F,hs]; omega) (fun v hv=>b2 v (by rw[G]at hv; exact List.mem_of_mem_drop hv)),B]
 obtain⟨A2,L⟩:∃ A2,A2=u.take (i*4)++vs++u.drop (i*4+vs.length):=⟨_,rfl⟩
 have N:A2.length=c*4:=by rw[L]; simp only[List.length_append,List.length_take,List.length_drop,C,I]; omega
 have U:(w.drew.setRow b u.toArray).heap[b]?=some (.cells u.toArray T (0,0)):=setRow_heap w.drew b arr u.toArray T _ M;have a2:∀ (W:World),W.heap=(w.drew.setRow b u.toArray).heap→∀ ty S,(Builtin.copy_ #[29,29] ty #[.slice (some ⟨b,i*4,none⟩) (n+1 - i) S,.slice (some ⟨J,l,none⟩) 1 vc]).run Tryz.prog W=.ok (goInt (Nat.min 1 (n+1 - i))) (W.setRow b A2.toArray):=fun W X ty S=>by
  rw[a0s W 29 29 ty 58 4 b (i*4) (n+1 - i) S ⟨J,l,none⟩ 1 vc u.toArray T vs Tryz.underlying29 b42 (by rw[X]; exact U) (by rw[I]; simp only[Nat.min_def]; split<;>omega)
   (fun j v Y=>by rw[show(⟨J,l,none⟩:Addr)=ad J l from rfl,Addr.add_ad,World.cell?_of_block (w:=w) (by rw[X]; exact setRow_other w.drew _ _ _ b0)];exact b1 j v Y) (by simp only[List.size_toArray,C,I]; omega) b3,L]
 have t:A2.take ((n+1)*4)=arr.toList.take (i*4)++vs++cs:=by
  have e1:u.take (i*4)=arr.toList.take (i*4):=by rw[B,List.append_assoc,List.take_append_of_le_length (by rw[List.length_take,E]; omega),List.take_take];congr 1; omega
  have e2:u.drop (i*4+vs.length)=cs++arr.toList.drop ((i+1)*4+cs.length):=by rw[B,I,List.append_assoc];exact List.drop_left' (by rw[List.length_take,E]; omega)
  rw[L,e1,e2,← List.append_assoc];exact List.take_left' (by simp only[List.length_append,List.length_take,E,I,F]; omega)
 have fin:∀ (W:World),W.heap=(w.drew.setRow b u.toArray).heap→W.os=w.os→W.output=w.output→I3 w (.returned (.slice (some ⟨b,0,none⟩) (n+1) c)) (W.setRow b A2.toArray) (n+1) b (arr.toList.take (i*4)++vs++cs):=fun W X ho b5=>by
  have Z:W.heap[b]?=some (.cells u.toArray T (0,0)):=by rw[X]; exact U
  have a0:b < w.heap.size:=(Array.getElem?_eq_some_iff.1 hh).1;have e:W.heap.size=w.heap.size:=by rw[X]; simp
  have O:∀ b',b'≠b→W.heap[b']?=w.heap[b']?:=fun b' hb=>by rw[X]; exact setRow_other w.drew _ _ _ hb
  have b7:∀ a:Addr,W.frozen? a=w.frozen? a:=fun a=>by
   unfold World.frozen?;by_cases ha:a.block=b
   · rw[ha,Z,hh]
   · rw[O _ ha]
  refine⟨c,A2.toArray,T,rfl,setRow_heap W b u.toArray A2.toArray T _ Z,by simpa using N,V,by simpa using t,fun b' hb _=>by rw[setRow_other _ _ _ _ hb]; exact O b' hb,by simp[e],by simpa[e]using a0,ho,b5⟩
 rw[← G];clear B L G t F C N U M;have mixed:=b1z;have c7:IntKind.i64.wrap ((i:Int)+1)=(i:Int)+1:=by rw[IntKind.wrap_i64]; omega
 have b8:(0:Int)≤(i:Int)+1:=by omega
 have c4:i≤n:=by omega
 have c6:((i:Int)+1).toNat=i+1:=by omega
 have c0:¬ (c=i+1):=by omega
 have c1:(i:Int)≤(n:Int)+1:=by omega
 have c2:¬ (c=i):=by omega
 have c3:¬ (c=n+1∧i=n):=by omega
 go_enter Tryz.func38,Tryz.ntmps38
 go_wp2_with (simp only[b6])
 go_region_law_o (refine step_copy_runI rfl _ _ 29 29 rfl _ _ (by simp[Act.eval,Act.put]) (by simp[Act.eval,Act.put]) (a1 _ _ _) ?_)
 go_wp2_with (at_builtin; refine wpList_copy_runI _ rfl _ _ 29 29 rfl _ _ rfl rfl (a2 _ rfl _ _) ?_)
 go_ret
 exact fin _ rfl rfl rfl
noncomputable def CxE:Go.Cb.Cx:=⟨Tryz.prog,[],[],0,[],No⟩
theorem a4S:(Tryz.prog.info? 58).map (fun i=>(i.zero,i.size,i.bytes))=some (some (.agg #[.string ByteArray.empty,.string ByteArray.empty,.slice none 0 0,.slice none 0 0]),4,80):=by kernel_rfl
theorem a8g {w:World} {C:Array Value} {n cap:Nat} {vs:List Value} (i:C.toList.take (n*4)=vs) (j:C.size=cap*4) (l:n≤cap):I3 w (.returned (.slice (some (ad w.heap.size 0)) n cap)) (w.drew.alloc (.cells C 58)) n w.heap.size vs :=
 ⟨cap,C,58,rfl,heap_alloc_new w.drew _,j,l,i,fun b _ u=>heap_alloc_old w.drew _ u,by simp,by simp,(Env.drawn (w:=w) (w':=w.drew) rfl rfl rfl).trans (Env.alloc w.drew _ (by intro c t z e; cases e; rfl))⟩
set_option maxHeartbeats 4000000 in
theorem c2Y (M i O:Nat) (vs:List Value) (w:World) (J:vs.length=4) (L:∀ j v,vs[j]?=some v→w.cell? (ad M (i+j))=some v) :
 Calls Tryz.prog 38 #[.slice none 0 0,.int .i64 0,.slice (some ⟨M,i,none⟩) 1 O] w fun e w'=>I3 w e w' 1 w.heap.size vs:=by
 have t0:=Tryz.underlying0;obtain⟨i0,E,G,l,B⟩:=info_parts a4S;have x:=fun ty=>Z5 (c:=CxE) (w:=w) (t:=29) (ty:=ty) Tryz.underlying29 E G (by rw[l]; rfl) (by rw[B]; decide) (a0:=none) (n:=0) (cap:=0) (m:=1) (c1:=O) (us:=[]) (vs:=vs) (a1:=ad M i) (fun _=>rfl) (Nat.le_refl _) (by simp) (by simp) (by rw[l,J]) (fun j u S=>by rw[Addr.add_ad]; exact L j u S) (by decide) (by decide) (by rw[B]; decide)
 obtain⟨C,cap,y,I,z,F,_⟩:=x 29;rw[l]at I z;have N:=a8g (w:=w) (n:=1) I z F;simp only[List.nil_append,Nat.zero_add]at N y;clear I z F x E G l B
 go_enter Tryz.func38,Tryz.ntmps38
 go_wp2_with (at_builtin; refine Lib.wpList_append_run _ rfl _ _ 29 29 rfl _ _ rfl rfl _ _ y ?_)
 go_ret
 exact N
set_option maxHeartbeats 4000000 in
theorem c5E (b n c N l U:Nat) (arr:Array Value) (T:TypeId) (vs:List Value) (w:World) (Z:n≤c) (hn:(n+1)*80≤140737488355328)
 (O:w.heap[b]?=some (.cells arr T (0,0))) (hs:arr.size=c*4) (z:vs.length=4) (L:∀ j v,vs[j]?=some v→w.cell? (ad N (l+j))=some v) (V:∀ v∈vs,v.oneCell'=true) :
 Calls Tryz.prog 38 #[.slice (some ⟨b,0,none⟩) n c,.int .i64 n,.slice (some ⟨N,l,none⟩) 1 U] w fun e w'=>d2t w e w' (n+1) b (arr.toList.take (n*4)++vs):=by
 have t0:=Tryz.underlying0;obtain⟨i0,F,M,i,G⟩:=info_parts a4S;have B:arr.toList.length=c*4:=by simpa using hs
 have y:∃ S w',(Builtin.append_ #[29,29] 29 #[.slice (some ⟨b,0,none⟩) n c,.slice (some ⟨N,l,none⟩) 1 U]).run Tryz.prog w=.ok S w'∧∃ bb,(bb=b∨bb=w.heap.size)∧I3 w (.returned S) w' (n+1) bb (arr.toList.take (n*4)++vs):=by
  by_cases x:n+1≤c
  · refine⟨_,_,T8 (P:=Tryz.prog) (w:=w) 29 29 58 i0 T Tryz.underlying29 F b n c arr O (ad N l) 1 U vs (by rw[z,i]) (fun j u E=>by rw[Addr.add_ad]; exact L j u E) V x (by rw[i,z,hs]; omega),b,.inl rfl,?_⟩;rw[i];have J:b < w.heap.size:=(Array.getElem?_eq_some_iff.1 O).1;refine⟨c,_,T,rfl,setRow_heap w b arr _ T _ O,?_,x,?_,fun b' hb _=>setRow_other _ _ _ _ hb,by simp,by simpa using J,Env.setRow w b _⟩
    · simp only[List.size_toArray,List.length_append,List.length_take,List.length_drop,B,z]; omega
    · rw[List.toList_toArray];exact List.take_left' (by simp only[List.length_append,List.length_take,B,z]; omega)
  · obtain⟨C,cap,hr,hC,I,Y,_⟩:=Z5 (c:=CxE) (w:=w) (t:=29) (ty:=29) Tryz.underlying29 F M (by rw[i]; rfl) (by rw[G]; decide) (a0:=some (ad b 0)) (n:=n) (cap:=c) (m:=1) (c1:=U) (us:=arr.toList.take (n*4)) (vs:=vs) (a1:=ad N l)
     (fun h=>by cases h) Z (by rw[List.length_take,B,i]; omega) (fun b0 X j u E=>by
      cases X;rw[Addr.add_ad,Nat.zero_add,cell_of_row _ _ _ arr T _ O];rw[List.getElem?_take]at E;split at E
      · simpa using E
      · cases E) (by rw[i,z]) (fun j u E=>by rw[Addr.add_ad]; exact L j u E) (by decide) x (by rw[G]; exact hn)
    rw[i]at hC I;exact⟨_,_,hr,_,.inr rfl,a8g hC I Y⟩
 obtain⟨S,w',y,W⟩:=y;have W:d2t w (.returned S) w' (n+1) b (arr.toList.take (n*4)++vs):=W;clear F M i G B
 go_enter Tryz.func38,Tryz.ntmps38
 go_wp2_with (at_builtin; refine Lib.wpList_append_run _ rfl _ _ 29 29 rfl _ _ rfl rfl _ _ y ?_)
 all_goals go_ret
 all_goals exact W
set_option maxHeartbeats 4000000 in
theorem b9U (b n c i vb u vc:Nat) (arr:Array Value) (T:TypeId) (vs:List Value) (w:World) (hi:i < n) (e3:n≤c) (b0:c < n+1) (hn:(n+1)*80≤140737488355328) (d4:vb < w.heap.size)
 (hh:w.heap[b]?=some (.cells arr T (0,0))) (hs:arr.size=c*4) (M:vs.length=4) (d3:∀ j v,vs[j]?=some v→w.cell? (ad vb (u+j))=some v) (c4:∀ v∈arr.toList.take (n*4),v.oneCell'=true) (c6:∀ v∈vs,v.oneCell'=true) :
 Calls Tryz.prog 38 #[.slice (some ⟨b,0,none⟩) n c,.int .i64 i,.slice (some ⟨vb,u,none⟩) 1 vc] w fun e w'=>I3 w e w' (n+1) w.heap.size (arr.toList.take (i*4)++vs++(arr.toList.take (n*4)).drop (i*4)):=by
 have t0:=Tryz.underlying0;have t3:=Tryz.underlying3;have e6:¬ ((i:Int)=(n:Int)):=by omega
 obtain⟨i0,c0,c3,b2,b1⟩:=info_parts a4S;have b6:arr.toList.length=c*4:=by simpa using hs
 have d0:b < w.heap.size:=(Array.getElem?_eq_some_iff.1 hh).1;obtain⟨cs,L⟩:∃ cs,cs=(arr.toList.take (n*4)).drop (i*4):=⟨_,rfl⟩
 have J:cs.length=(n - i)*4:=by rw[L,List.length_drop,List.length_take,b6]; omega
 have z:∀ (j:Nat) (v:Value),(arr.toList.take (n*4))[j]?=some v→w.cell? (ad b j)=some v:=fun j v C=>by
  rw[cell_of_row _ _ _ arr T _ hh];rw[List.getElem?_take]at C;split at C
  · simpa using C
  · cases C
 obtain⟨t,holds⟩:∃ t,t=arr.toList.take (i*4):=⟨_,rfl⟩
 have B:t.length=i*4:=by rw[holds,List.length_take,b6]; omega
 have c1:∀ (j:Nat) (v:Value),t[j]?=some v→w.drew.cell? ((⟨b,0,none⟩:Addr).add j)=some v:=fun j v C=>by
  rw[show(⟨b,0,none⟩:Addr)=ad b 0 from rfl,Addr.add_ad,Nat.zero_add];refine z j v ?_;rw[holds,List.getElem?_take]at C;rw[List.getElem?_take];split at C
  · rw[if_pos (by omega)]; exact C
  · cases C
 obtain⟨G,hG⟩:∃ G,G=grownCap w (n+1) c 58:=⟨_,rfl⟩
 have c7:n+1≤G:=by rw[hG]; exact grownCap_ge w _ _ _
 have d5:G≤9223372036854775807:=by have:=grownCap_le_maxLen w (n+1) c 58 (by unfold maxLen; omega);rw[← hG]at this;unfold maxLen at this;omega
 obtain⟨l,Z,b5,b4,d2⟩:∃ l:Array Value,l.toList.take (i*4)=t∧l.size=G*4∧l.toList.length=G*4∧∀ ty,(Builtin.append_ #[29,3] ty #[.slice (some ⟨b,0,none⟩) i c,.int .i64 ((n:Int)+1 - (i:Int))]).run Tryz.prog w=.ok (.slice (some ⟨w.heap.size,0,none⟩) (n+1) G) (w.drew.alloc (.cells l 58)):=by
  have hz:∀ k,(Builtin.zeroCells (Value.agg #[.string ByteArray.empty,.string ByteArray.empty,.slice none 0 0,.slice none 0 0]).cells k).size=k*4:=fun k=>by rw[size_zeroCells]; rfl
  refine⟨t.toArray++Builtin.zeroCells (Value.agg #[.string ByteArray.empty,.string ByteArray.empty,.slice none 0 0,.slice none 0 0]).cells (n+1 - i)++Builtin.zeroCells (Value.agg #[.string ByteArray.empty,.string ByteArray.empty,.slice none 0 0,.slice none 0 0]).cells (G - (n+1)),?_,?_,?_,fun ty=>?_⟩
  · rw[Array.toList_append,Array.toList_append,List.append_assoc,← B];exact List.take_left
  · simp only[Array.size_append,hz,List.size_toArray,B]; omega
  · rw[Array.length_toList]; simp only[Array.size_append,hz,List.size_toArray,B]; omega
  · have h:=Lib.run_append_grow_zeros w 29 3 ty 58 i0 _ .i64 .i64 Tryz.underlying29 Tryz.underlying3 c0 c3 (some ⟨b,0,none⟩) i c t (by rw[b2]; exact run_firstCells_some w.drew 4 i ⟨b,0,none⟩ i c t B c1) (n+1 - i) (by omega) (by rw[b2]; decide) (by omega) (by omega) (by rw[b1]; omega) (by rw[b1,show i+(n+1 - i)=n+1 by omega]; exact growslice_fits b0 hn);rw[show i+(n+1 - i)=n+1 by omega,← hG,show((n+1 - i:Nat):Int)=(n:Int)+1 - (i:Int)by omega]at h;exact h
 obtain⟨W1,U⟩:∃ W1,W1=w.drew.alloc (.cells l 58):=⟨_,rfl⟩
 have V:W1.heap[w.heap.size]?=some (.cells l 58 (0,0)):=by rw[U]; exact heap_alloc_new w.drew _
 have X:∀ b',b' < w.heap.size→W1.heap[b']?=w.heap[b']?:=fun b' hb=>by rw[U]; exact heap_alloc_old w.drew _ hb
 obtain⟨y,N⟩:∃ y,y=l.toList.take (i*4)++vs++l.toList.drop (i*4+vs.length):=⟨_,rfl⟩
 have I:y.length=G*4:=by rw[N]; simp only[List.length_append,List.length_take,List.length_drop,b4,M]; omega
 have b7:∀ (W:World),W.heap=W1.heap→∀ ty dc,(Builtin.copy_ #[29,29] ty #[.slice (some ⟨w.heap.size,i*4,none⟩) (n+1 - i) dc,.slice (some ⟨vb,u,none⟩) 1 vc]).run Tryz.prog W=.ok (goInt (Nat.min 1 (n+1 - i))) (W.setRow w.heap.size y.toArray):=fun W S ty dc=>by
  rw[a0s W 29 29 ty 58 4 w.heap.size (i*4) (n+1 - i) dc ⟨vb,u,none⟩ 1 vc l 58 vs Tryz.underlying29 b42 (by rw[S]; exact V) (by rw[M]; simp only[Nat.min_def]; split<;>omega)
   (fun j v C=>by rw[show(⟨vb,u,none⟩:Addr)=ad vb u from rfl,Addr.add_ad,World.cell?_of_block (w:=w) (by rw[S]; exact X _ d4)];exact d3 j v C) (by simp only[b5,M]; omega) c6,N]
 obtain⟨A2,O⟩:∃ A2,A2=y.take ((i+1)*4)++cs++y.drop ((i+1)*4+cs.length):=⟨_,rfl⟩
 have Y:A2.length=G*4:=by rw[O]; simp only[List.length_append,List.length_take,List.length_drop,I,J]; omega
 have x:A2.take ((n+1)*4)=t++vs++cs:=by
  have e1:y.take ((i+1)*4)=t++vs:=by rw[N,Z];exact List.take_left' (by simp only[List.length_append,B,M]; omega)
  rw[O,e1];exact List.take_left' (by simp only[List.length_append,B,M,J]; omega)
 have b8:∀ (W F:World),F.heap=W1.heap→W.heap=(F.setRow w.heap.size y.toArray).heap→∀ ty dc sc,(Builtin.copy_ #[29,29] ty #[.slice (some ⟨w.heap.size,(i+1)*4,none⟩) (n - i) dc,.slice (some ⟨b,i*4,none⟩) (n - i) sc]).run Tryz.prog W=.ok (goInt (Nat.min (n - i) (n - i))) (W.setRow w.heap.size A2.toArray):=fun W F E S ty dc sc=>by
  have a2:F.heap[w.heap.size]?=some (.cells l 58 (0,0)):=by rw[E]; exact V
  rw[a0s W 29 29 ty 58 4 w.heap.size ((i+1)*4) (n - i) dc ⟨b,i*4,none⟩ (n - i) sc y.toArray 58 cs Tryz.underlying29 b42 (by rw[S]; exact setRow_heap F w.heap.size l y.toArray 58 _ a2) (by rw[J]; simp only[Nat.min_def]; split<;>omega)
   (fun j v C=>by rw[show(⟨b,i*4,none⟩:Addr)=ad b (i*4)from rfl,Addr.add_ad,World.cell?_of_block (w:=w) (by rw[S,setRow_other _ _ _ _ (by omega:b≠w.heap.size),E]; exact X _ d0)];rw[L,List.getElem?_drop]at C;exact z _ v C) (by simp only[List.size_toArray,I,J]; omega) (fun v hv=>c4 v (by rw[L]at hv; exact List.mem_of_mem_drop hv)),O]
 have fin:∀ (W F:World),F.heap=W1.heap→W.heap=(F.setRow w.heap.size y.toArray).heap→W.os=w.os→W.output=w.output→I3 w (.returned (.slice (some ⟨w.heap.size,0,none⟩) (n+1) G)) (W.setRow w.heap.size A2.toArray) (n+1) w.heap.size (t++vs++cs):=fun W F E S ho d1=>by
  have a2:F.heap[w.heap.size]?=some (.cells l 58 (0,0)):=by rw[E]; exact V
  have c8:W.heap[w.heap.size]?=some (.cells y.toArray 58 (0,0)):=by rw[S]; exact setRow_heap F w.heap.size l y.toArray 58 _ a2
  have e:W.heap.size=w.heap.size+1:=by rw[S]; simp[E,U]
  have c2:∀ b',b'≠w.heap.size→b' < w.heap.size→W.heap[b']?=w.heap[b']?:=fun b' hb a1=>by rw[S,setRow_other _ _ _ _ hb,E]; exact X _ a1
  refine⟨G,A2.toArray,58,rfl,setRow_heap W w.heap.size y.toArray A2.toArray 58 _ c8,by simpa using Y,c7,by simpa using x,fun b' hb a1=>by rw[setRow_other _ _ _ _ hb]; exact c2 b' hb a1,by simp[e],by simp[e],ho,d1⟩
 rw[← L,← holds];clear N O L holds x J I Y Z b5 b4 B c1 z hG c0 c3 b2 b1 V X;subst U;have e5:IntKind.i64.wrap ((i:Int)+1)=(i:Int)+1:=by rw[IntKind.wrap_i64]; omega
 have d8:(0:Int)≤(i:Int)+1:=by omega
 have e2:i≤n:=by omega
 have e4:((i:Int)+1).toNat=i+1:=by omega
 have d9:(i:Int)≤(n:Int):=by omega
 have d7:¬ (G=i):=by omega
 have d6:¬ (G=i+1):=by omega
 have e0:¬ (c=i):=by omega
 have a0:((w.alloc (.cells l 58)).drew).heap=(w.drew.alloc (.cells l 58)).heap:=rfl;have b3:(((w.alloc (.cells l 58)).drew.setRow w.heap.size y.toArray).drew).heap=((w.alloc (.cells l 58)).drew.setRow w.heap.size y.toArray).heap:=rfl;have mixed:=b1z
 go_enter Tryz.func38,Tryz.ntmps38
 go_wp2_with (first
  | (at_builtin; refine Lib.wpList_append_run _ rfl _ _ _ _ rfl _ _ rfl rfl _ _ (d2 _) ?_)
  | (at_builtin; refine wpList_copy_runI _ rfl _ _ 29 29 rfl _ _ rfl rfl (b7 _ a0 _ _) ?_))
 go_region_law_o (refine step_copy_runI rfl _ _ 29 29 rfl (.slice (some ⟨w.heap.size,(i+1)*4,none⟩) (n - i) (G - (i+1))) (.slice (some ⟨b,i*4,none⟩) (n - i) (c - i)) (by simp[Act.eval,Act.put]) (by simp[Act.eval,Act.put]) (b8 _ _ a0 b3 3 (G - (i+1)) (c - i)) ?_)
 go_wp2
 go_ret
 exact fin _ _ a0 b3 rfl rfl
end Go.Cb.CodeA
