import Derived.Test.YtbibkdncfclnbaaGreatDoorInsX
set_option maxRecDepth 100000
set_option linter.all false
namespace Go.Cb.CodeA
open Go Go.Cb Go.Proofs Go.RowKit Go.Shelf
variable {P:Program}
theorem a7l {ops:Array Oper} {o:Oper} {a:Act} {w:World} {K:Act→World→Prop} {Q:Exit→Act→World→Prop} {E:Prop}
 (I:o.guard=none) (d x:Operand) (l t:TypeId) (e:o.op=Op.call { callee:=Callee.builtin Builtin.append,args:=#[d,x],argTypes:=#[l,t] })
 (v u:Value) (C:a.eval d=v) (M:a.eval x=u) {y:Value} {w':World} (J:(Builtin.append_ #[l,t] o.type #[v,u]).run P w=.ok y w') (z:K (a.put o.dst y) w') :
 if Region.wanted o (yielded ops a.tmps)=true then Oper.wp P o a w K Q else E:=by
 have L:Region.wanted o (yielded ops a.tmps)=true:=by simp[Region.wanted,I]
 rw[if_pos L];unfold Oper.wp;simp[execOp,e,resolve,invoke,builtin,C,M,J,Result.andThen];exact z
theorem a6v (w:World) {ops:Array Oper} {rest:List Oper} {o:Oper} {a:Act} {Q:Exit→Act→World→Prop} (e:o.guard=none) (s:Operand) (t:TypeId)
 (y:o.op=.call { callee:=.builtin .clear,args:=#[s],argTypes:=#[t] }) (u:Value) (C:a.eval s=u) {l:Value} {w':World}
 (z:(Builtin.clear_ #[t] o.type #[u]).run P w=.ok l w') (h:wpList P ops Q rest (a.put o.dst l) w'):wpList P ops Q (o::rest) a w :=
 wpList_plain e fun _ v=>by have x:=v _ _ h;unfold Oper.wp execOp;simp only[y,resolve,invoke,builtin,Sem.run_bind,Sem.run_pure,Result.andThen_ok,List.map_toArray,List.map_cons,List.map_nil,C,z];exact x
def z41:List Value:=[.string ⟨#[]⟩,.string ⟨#[]⟩,.slice none 0 0,.slice none 0 0]
theorem b7o (w:World) (ty b o cap:Nat) (arr:Array Value) (T:TypeId) (x:w.heap[b]?=some (.cells arr T (0,0))) (l:o+4≤arr.size) :
 (Builtin.clear_ #[35] ty #[.slice (some ⟨b,o,none⟩) 1 cap]).run Tryz.prog w=.ok (.tuple #[]) (w.setRow b (arr.toList.take o++z41++arr.toList.drop (o+4)).toArray):=by
 have z:Builtin.zeroCells (Value.agg #[.string ⟨#[]⟩,.string ⟨#[]⟩,.slice none 0 0,.slice none 0 0]).cells 1=z41.toArray:=by kernel_rfl
 have e:=run_storeCells_at Tryz.prog b o T z41 0 arr w x (by simpa[z41]using l) (by unfold z41; intro v u; simp at u; rcases u with rfl|rfl<;>rfl);simp only[Nat.add_zero]at e;have t:=Tryz.zeroValue41 w;have y:z41.length=4:=rfl;rw[y]at e;simp only[Builtin.clear_,Sem.run_bind,run_underlying Tryz.underlying35,Result.andThen_ok];simp only[List.getElem?_toArray,List.getElem?_cons_zero,Sem.run_bind,run_underlying Tryz.underlying35,Result.andThen_ok,t,z,List.toList_toArray,e,Sem.run_pure]
set_option maxHeartbeats 4000000 in
theorem b7g (b n c i:Nat) (arr:Array Value) (T:TypeId) (w:World) (hi:i < n) (b7:n≤c) (hn:(n+1)*80≤140737488355328) (hh:w.heap[b]?=some (.cells arr T (0,0))) (hs:arr.size=c*4) (b0:∀ v∈arr.toList.take (n*4),v.oneCell'=true) :
 Calls Tryz.prog 49 #[.slice (some ⟨b,0,none⟩) n c,.int .i64 i,.int .i64 ((i+1:Nat):Int)] w fun e w'=>G3 w e w' (n - 1) b (arr.toList.take (i*4)++(arr.toList.take (n*4)).drop ((i+1)*4)):=by
 have t0:=Tryz.underlying0;have a0:arr.toList.length=c*4:=by simpa using hs
 obtain⟨i0,a4,b1,N,b2⟩:=info_parts a4W;obtain⟨cs,J⟩:∃ cs,cs=(arr.toList.take (n*4)).drop ((i+1)*4):=⟨_,rfl⟩
 have z:cs.length=(n - (i+1))*4:=by rw[J,List.length_drop,List.length_take,a0]; omega
 obtain⟨C,I⟩:∃ C,C=arr.toList.take (i*4)++cs++arr.toList.drop (i*4+cs.length):=⟨_,rfl⟩
 have x:C.length=c*4:=by rw[I]; simp only[List.length_append,List.length_take,List.length_drop,a0,z]; omega
 have a2:w.drew.heap[b]?=some (.cells arr T (0,0)):=hh;obtain⟨t,y,U,W,Y⟩:∃ t:World,t.heap=(w.setRow b C.toArray).heap∧t.os=w.os∧t.output=w.output∧∀ ty A c1,A=(if c=i+1 then⟨b,0,none⟩else⟨b,(i+1)*4,none⟩:Addr)→(Builtin.append_ #[35,35] ty #[.slice (some ⟨b,0,none⟩) i c,.slice (some A) (n - (i+1)) c1]).run Tryz.prog w.drew=.ok (.slice (some ⟨b,0,none⟩) (n - 1) c) t:=by
  by_cases hm:n=i+1
  · have a9:cs=[]:=List.eq_nil_of_length_eq_zero (by rw[z]; omega);refine⟨w.drew,?_,rfl,rfl,fun ty A c1 _=>?_⟩
    · have:C.toArray=arr:=by rw[I,a9];apply Array.ext';simp
      rw[this,setRow_self w b arr T _ hh];rfl
    · rw[show n - (i+1)=0 by omega,show n - 1=i by omega];exact a0M (P:=Tryz.prog) (w:=w.drew) 35 ty 41 i0 Tryz.underlying35 a4 _ _ i c c1 (by omega)
  · refine⟨w.drew.setRow b C.toArray,rfl,rfl,rfl,fun ty A c1 hA=>?_⟩;rw[if_neg (by omega)]at hA;have:=R1 (P:=Tryz.prog) (w:=w.drew) 35 ty 41 i0 T Tryz.underlying35 a4 b i c arr a2 A (n - (i+1)) c1 cs (by rw[z,N]) (fun j u hj=>by
     rw[hA,show(⟨b,(i+1)*4,none⟩:Addr)=ad b ((i+1)*4)from rfl,Addr.add_ad,cell_of_row _ _ _ arr T _ a2];rw[J,List.getElem?_drop,List.getElem?_take]at hj;split at hj
     · simpa using hj
     · cases hj) (fun u hu=>b0 u (by rw[J]at hu; exact List.mem_of_mem_drop hu)) (by omega) (by rw[N,z,hs]; omega)
    rw[N,← I,show i+(n - (i+1))=n - 1 by omega]at this;exact this
 have M:t.heap[b]?=some (.cells C.toArray T (0,0)):=by rw[y]; exact setRow_heap w b arr C.toArray T _ hh
 obtain⟨A2,L⟩:∃ A2,A2=C.take ((n - 1)*4)++z41++C.drop ((n - 1)*4+4):=⟨_,rfl⟩
 have O:A2.length=c*4:=by rw[L]; simp only[List.length_append,List.length_take,List.length_drop,x,z41,List.length_cons,List.length_nil]; omega
 have a7:∀ ty cap,(Builtin.clear_ #[35] ty #[.slice (some ⟨b,(n - 1)*4,none⟩) (n - (n - 1)) cap]).run Tryz.prog t=.ok (.tuple #[]) (t.setRow b A2.toArray):=fun ty cap=>by rw[show n - (n - 1)=1 by omega,b7o t ty b ((n - 1)*4) cap C.toArray T M (by simp only[List.size_toArray,x]; omega),L]
 have l:A2.take ((n - 1)*4)=arr.toList.take (i*4)++cs:=by rw[L,List.append_assoc,List.take_append_of_le_length (by rw[List.length_take,x]; omega),List.take_take,Nat.min_self,I];exact List.take_left' (by simp only[List.length_append,List.length_take,a0,z]; omega)
 have fin:G3 w (.returned (.slice (some ⟨b,0,none⟩) (n - 1) c)) (t.setRow b A2.toArray) (n - 1) b (arr.toList.take (i*4)++cs):=by
  have a6:b < w.heap.size:=(Array.getElem?_eq_some_iff.1 hh).1;have e:t.heap.size=w.heap.size:=by rw[y]; simp
  have Z:∀ b',b'≠b→t.heap[b']?=w.heap[b']?:=fun b' hb=>by rw[y]; exact setRow_other w _ _ _ hb
  have a5:∀ a:Addr,t.frozen? a=w.frozen? a:=fun a=>by
   unfold World.frozen?;by_cases ha:a.block=b
   · rw[ha,M,hh]
   · rw[Z _ ha]
  refine⟨c,A2.toArray,T,rfl,setRow_heap t b C.toArray A2.toArray T _ M,by simpa using O,by omega,by simpa using l,fun b' hb _=>by rw[setRow_other _ _ _ _ hb]; exact Z b' hb,by simp[e],by simpa[e]using a6,U,W,fun a ha=>?_⟩;rw[(Env.setRow t b A2.toArray).fz a (by rw[e]; exact ha),a5]
 rw[← J];clear I L J l z x O M a2 y U W a4 b1 N b2;have mixed:=b1s;have b4:¬ ((i:Int)=(i:Int)+1):=by omega
 have b5:i≤n:=by omega
 have b3:i≤c:=by omega
 have h1:(i:Int)+1≤(n:Int):=by omega
 have h2:((i:Int)+1).toNat=i+1:=by omega
 have h3:(0:Int)≤(i:Int)+1:=by omega
 have b6:¬ (c=n - 1):=by omega
 have a1:(Builtin.append_ #[35,35] 35 #[.slice (some ⟨b,0,none⟩) i c,.slice (if c=i+1 then some ⟨b,0,none⟩else some ⟨b,(i+1)*4,none⟩) (n - (i+1)) (c - (i+1))]).run Tryz.prog w.drew=.ok (.slice (some ⟨b,0,none⟩) (n - 1) c) t:=by
  have:=Y 35 _ (c - (i+1)) rfl;by_cases h:c=i+1
  · rw[if_pos h]at this ⊢; exact this
  · rw[if_neg h]at this ⊢; exact this
 clear Y
 go_enter Tryz.func49,Tryz.ntmps49
 go_wp2
 go_region_law_o (refine a7l rfl _ _ 35 35 rfl (.slice (some ⟨b,0,none⟩) i c) (.slice (if c=i+1 then some ⟨b,0,none⟩else some ⟨b,(i+1)*4,none⟩) (n - (i+1)) (c - (i+1))) (by simp[Act.eval,Act.put]) (by simp[Act.eval,Act.put]) a1 ?_)
 go_wp2_with (at_builtin; refine a6v _ rfl _ 35 rfl _ rfl (a7 _ _) ?_)
 all_goals go_ret
 all_goals first|exact fin|(have e:=‹c=i+1›; rw[e]at fin; exact fin)
theorem d3n (gt:List (Nat×List AV)):Z6 Tryz.prog gt 49 (b3W 4 80):=by
 intro args st res st' h Z g w vs I _ t;unfold b3W at h;split at h
 case h_2=>cases h
 rename_i o n s i j;split at h
 case h_2=>cases h
 rename_i cs hx;split at h
 case isFalse=>cases h
 rename_i hc;obtain⟨rfl,h0,a2,rfl,z,a0⟩:=hc;simp only[Option.some.injEq,Prod.mk.injEq]at h;obtain⟨rfl,rfl⟩:=h;simp only[RelL]at t;obtain⟨v1,_,rfl,J,v2,_,rfl,L,v3,_,rfl,M,rfl⟩:=t;simp only[Rel]at J L M;subst L; subst M;obtain⟨a4,cap,rfl,N,a1⟩:=J;obtain⟨W,U,arr,T,hh,C,y,l⟩:=a7v (I.obj o _ hx);obtain⟨k,rfl⟩:∃ k:Nat,i=k:=⟨i.toNat,by omega⟩
 have hk:k < n:=by omega
 have Y:arr.size=cap*4:=by rw[C]; omega
 rw[z]at y l;have x:RelL g w (a3O 4 k cs) (arr.toList.take (k*4)++(arr.toList.take (n*4)).drop ((k+1)*4)):=by unfold a3O;have:=(y.take (k*4)).append (y.drop ((k+1)*4));rw[List.take_take,Nat.min_eq_left (by omega)]at this;exact this.weak1
 have u:∀ v∈arr.toList.take (k*4)++(arr.toList.take (n*4)).drop ((k+1)*4),v.oneCell'=true:=by
  intro v hv;simp only[List.mem_append]at hv;rcases hv with hv|hv
  · exact l v (by
     have:arr.toList.take (k*4)=(arr.toList.take (n*4)).take (k*4):=by rw[List.take_take,Nat.min_eq_left (by omega)]
     rw[this]at hv;exact List.mem_of_mem_take hv)
  · exact l v (List.mem_of_mem_drop hv)
 have O:(a3O 4 k cs).length=(n - 1)*4:=by simp[a3O,z]; omega
 rw[Int.toNat_natCast];exact(b7g (g.m o) n cap k arr T w hk N (by omega) hh Y l).mono fun e w' hp=>a2p I (od:=some o) hp x u (by unfold a3O; exact a0h) O U (.inr ⟨o,rfl,W⟩)
end Go.Cb.CodeA
