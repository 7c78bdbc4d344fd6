import Derived.Test.YtlegecilkicppaaGreatDoorInsX
set_option maxRecDepth 100000
set_option linter.all false
namespace Go.Cb.CodeA
open Go Go.Cb Go.Proofs Go.RowKit Go.Shelf
variable {P:Program}
theorem a5t {ops:Array Oper} {o:Oper} {a:Act} {w:World} {K:Act→World→Prop} {Q:Exit→Act→World→Prop} {E:Prop}
 (B:o.guard=none) (d x:Operand) (j l:TypeId) (i:o.op=Op.call { callee:=Callee.builtin Builtin.append,args:=#[d,x],argTypes:=#[j,l] })
 (v u:Value) (z:a.eval d=v) (F:a.eval x=u) {t:Value} {w':World} (C:(Builtin.append_ #[j,l] o.type #[v,u]).run P w=.ok t w') (y:K (a.put o.dst t) w') :
 if Region.wanted o (yielded ops a.tmps)=true then Oper.wp P o a w K Q else E:=by
 have D:Region.wanted o (yielded ops a.tmps)=true:=by simp[Region.wanted,B]
 rw[if_pos D];unfold Oper.wp;simp[execOp,i,resolve,invoke,builtin,z,F,C,Result.andThen];exact y
theorem a4X (w:World) {ops:Array Oper} {rest:List Oper} {o:Oper} {a:Act} {Q:Exit→Act→World→Prop} (i:o.guard=none) (s:Operand) (t:TypeId)
 (y:o.op=.call { callee:=.builtin .clear,args:=#[s],argTypes:=#[t] }) (u:Value) (hs:a.eval s=u) {j:Value} {w':World}
 (z:(Builtin.clear_ #[t] o.type #[u]).run P w=.ok j w') (h:wpList P ops Q rest (a.put o.dst j) w'):wpList P ops Q (o::rest) a w :=
 wpList_plain i fun _ l=>by have x:=l _ _ h;unfold Oper.wp execOp;simp only[y,resolve,invoke,builtin,Sem.run_bind,Sem.run_pure,Result.andThen_ok,List.map_toArray,List.map_cons,List.map_nil,hs,z];exact x
def z41:List Value:=[.string ⟨#[]⟩,.string ⟨#[]⟩,.slice none 0 0,.slice none 0 0]
theorem b5X (w:World) (ty b o cap:Nat) (arr:Array Value) (T:TypeId) (u:w.heap[b]?=some (.cells arr T (0,0))) (j:o+4≤arr.size) :
 (Builtin.clear_ #[28] ty #[.slice (some ⟨b,o,none⟩) 1 cap]).run Tryz.prog w=.ok (.tuple #[]) (w.setRow b (arr.toList.take o++z41++arr.toList.drop (o+4)).toArray):=by
 have x:Builtin.zeroCells (Value.agg #[.string ⟨#[]⟩,.string ⟨#[]⟩,.slice none 0 0,.slice none 0 0]).cells 1=z41.toArray:=by kernel_rfl
 have i:=run_storeCells_at Tryz.prog b o T z41 0 arr w u (by simpa[z41]using j) (by unfold z41; intro v t; simp at t; rcases t with rfl|rfl<;>rfl);simp only[Nat.add_zero]at i;have l:=Tryz.zeroValue59 w;have hl:z41.length=4:=rfl;rw[hl]at i;simp only[Builtin.clear_,Sem.run_bind,run_underlying Tryz.underlying28,Result.andThen_ok];simp only[List.getElem?_toArray,List.getElem?_cons_zero,Sem.run_bind,run_underlying Tryz.underlying28,Result.andThen_ok,l,x,List.toList_toArray,i,Sem.run_pure]
set_option maxHeartbeats 4000000 in
theorem b6z (b n c i:Nat) (arr:Array Value) (T:TypeId) (w:World) (hi:i < n) (b5:n≤c) (hn:(n+1)*80≤140737488355328) (Z:w.heap[b]?=some (.cells arr T (0,0))) (hs:arr.size=c*4) (a0:∀ v∈arr.toList.take (n*4),v.oneCell'=true) :
 Calls Tryz.prog 24 #[.slice (some ⟨b,0,none⟩) n c,.int .i64 i,.int .i64 ((i+1:Nat):Int)] w fun e w'=>D8 w e w' (n - 1) b (arr.toList.take (i*4)++(arr.toList.take (n*4)).drop ((i+1)*4)):=by
 have t0:=Tryz.underlying0;have O:arr.toList.length=c*4:=by simpa using hs
 obtain⟨i0,U,a1,F,a2⟩:=info_parts a4l;obtain⟨cs,D⟩:∃ cs,cs=(arr.toList.take (n*4)).drop ((i+1)*4):=⟨_,rfl⟩
 have z:cs.length=(n - (i+1))*4:=by rw[D,List.length_drop,List.length_take,O]; omega
 obtain⟨B,C⟩:∃ B,B=arr.toList.take (i*4)++cs++arr.toList.drop (i*4+cs.length):=⟨_,rfl⟩
 have x:B.length=c*4:=by rw[C]; simp only[List.length_append,List.length_take,List.length_drop,O,z]; omega
 have S:w.drew.heap[b]?=some (.cells arr T (0,0)):=Z;obtain⟨t,y,I,J,M⟩:∃ t:World,t.heap=(w.setRow b B.toArray).heap∧t.os=w.os∧t.output=w.output∧∀ ty A c1,A=(if c=i+1 then⟨b,0,none⟩else⟨b,(i+1)*4,none⟩:Addr)→(Builtin.append_ #[28,28] ty #[.slice (some ⟨b,0,none⟩) i c,.slice (some A) (n - (i+1)) c1]).run Tryz.prog w.drew=.ok (.slice (some ⟨b,0,none⟩) (n - 1) c) t:=by
  by_cases hm:n=i+1
  · have Y:cs=[]:=List.eq_nil_of_length_eq_zero (by rw[z]; omega);refine⟨w.drew,?_,rfl,rfl,fun ty A c1 _=>?_⟩
    · have:B.toArray=arr:=by rw[C,Y];apply Array.ext';simp
      rw[this,setRow_self w b arr T _ Z];rfl
    · rw[show n - (i+1)=0 by omega,show n - 1=i by omega];exact R2 (P:=Tryz.prog) (w:=w.drew) 28 ty 59 i0 Tryz.underlying28 U _ _ i c c1 (by omega)
  · refine⟨w.drew.setRow b B.toArray,rfl,rfl,rfl,fun ty A c1 hA=>?_⟩;rw[if_neg (by omega)]at hA;have:=O1 (P:=Tryz.prog) (w:=w.drew) 28 ty 59 i0 T Tryz.underlying28 U b i c arr S A (n - (i+1)) c1 cs (by rw[z,F]) (fun j u hj=>by
     rw[hA,show(⟨b,(i+1)*4,none⟩:Addr)=ad b ((i+1)*4)from rfl,Addr.add_ad,cell_of_row _ _ _ arr T _ S];rw[D,List.getElem?_drop,List.getElem?_take]at hj;split at hj
     · simpa using hj
     · cases hj) (fun u hu=>a0 u (by rw[D]at hu; exact List.mem_of_mem_drop hu)) (by omega) (by rw[F,z,hs]; omega)
    rw[F,← C,show i+(n - (i+1))=n - 1 by omega]at this;exact this
 have hh1:t.heap[b]?=some (.cells B.toArray T (0,0)):=by rw[y]; exact setRow_heap w b arr B.toArray T _ Z
 obtain⟨A2,E⟩:∃ A2,A2=B.take ((n - 1)*4)++z41++B.drop ((n - 1)*4+4):=⟨_,rfl⟩
 have G:A2.length=c*4:=by rw[E]; simp only[List.length_append,List.length_take,List.length_drop,x,z41,List.length_cons,List.length_nil]; omega
 have W:∀ ty cap,(Builtin.clear_ #[28] ty #[.slice (some ⟨b,(n - 1)*4,none⟩) (n - (n - 1)) cap]).run Tryz.prog t=.ok (.tuple #[]) (t.setRow b A2.toArray):=fun ty cap=>by rw[show n - (n - 1)=1 by omega,b5X t ty b ((n - 1)*4) cap B.toArray T hh1 (by simp only[List.size_toArray,x]; omega),E]
 have l:A2.take ((n - 1)*4)=arr.toList.take (i*4)++cs:=by rw[E,List.append_assoc,List.take_append_of_le_length (by rw[List.length_take,x]; omega),List.take_take,Nat.min_self,C];exact List.take_left' (by simp only[List.length_append,List.length_take,O,z]; omega)
 have fin:D8 w (.returned (.slice (some ⟨b,0,none⟩) (n - 1) c)) (t.setRow b A2.toArray) (n - 1) b (arr.toList.take (i*4)++cs):=by
  have V:b < w.heap.size:=(Array.getElem?_eq_some_iff.1 Z).1;have e:t.heap.size=w.heap.size:=by rw[y]; simp
  have N:∀ b',b'≠b→t.heap[b']?=w.heap[b']?:=fun b' hb=>by rw[y]; exact setRow_other w _ _ _ hb
  have b0:∀ a:Addr,t.frozen? a=w.frozen? a:=fun a=>by
   unfold World.frozen?;by_cases ha:a.block=b
   · rw[ha,hh1,Z]
   · rw[N _ ha]
  refine⟨c,A2.toArray,T,rfl,setRow_heap t b B.toArray A2.toArray T _ hh1,by simpa using G,by omega,by simpa using l,fun b' hb _=>by rw[setRow_other _ _ _ _ hb]; exact N b' hb,by simp[e],by simpa[e]using V,I,J⟩
 rw[← D];clear C E D l z x G hh1 S y I J U a1 F a2;have mixed:=a9T;have b2:¬ ((i:Int)=(i:Int)+1):=by omega
 have b3:i≤n:=by omega
 have b1:i≤c:=by omega
 have h1:(i:Int)+1≤(n:Int):=by omega
 have h2:((i:Int)+1).toNat=i+1:=by omega
 have h3:(0:Int)≤(i:Int)+1:=by omega
 have b4:¬ (c=n - 1):=by omega
 have R:(Builtin.append_ #[28,28] 28 #[.slice (some ⟨b,0,none⟩) i c,.slice (if c=i+1 then some ⟨b,0,none⟩else some ⟨b,(i+1)*4,none⟩) (n - (i+1)) (c - (i+1))]).run Tryz.prog w.drew=.ok (.slice (some ⟨b,0,none⟩) (n - 1) c) t:=by
  have:=M 28 _ (c - (i+1)) rfl;by_cases h:c=i+1
  · rw[if_pos h]at this ⊢; exact this
  · rw[if_neg h]at this ⊢; exact this
 clear M
 go_enter Tryz.func24,Tryz.ntmps24
 go_wp2
 go_region_law_o (refine a5t rfl _ _ 28 28 rfl (.slice (some ⟨b,0,none⟩) i c) (.slice (if c=i+1 then some ⟨b,0,none⟩else some ⟨b,(i+1)*4,none⟩) (n - (i+1)) (c - (i+1))) (by simp[Act.eval,Act.put]) (by simp[Act.eval,Act.put]) R ?_)
 go_wp2_with (at_builtin; refine a4X _ rfl _ 28 rfl _ rfl (W _ _) ?_)
 all_goals go_ret
 all_goals first|exact fin|(have e:=‹c=i+1›; rw[e]at fin; exact fin)
theorem b5c (gt:List (Nat×List AV)):G3 Tryz.prog gt 24 (U1 4 80):=by
 intro args st res st' h O g w vs C _ t;unfold U1 at h;split at h
 case h_2=>cases h
 rename_i o n s i j;split at h
 case h_2=>cases h
 rename_i cs hx;split at h
 case isFalse=>cases h
 rename_i S;obtain⟨rfl,h0,W,rfl,z,R⟩:=S;simp only[Option.some.injEq,Prod.mk.injEq]at h;obtain⟨rfl,rfl⟩:=h;simp only[RelL]at t;obtain⟨v1,_,rfl,D,v2,_,rfl,E,v3,_,rfl,F,rfl⟩:=t;simp only[Rel]at D E F;subst E; subst F;obtain⟨Z,cap,rfl,G,U⟩:=D;obtain⟨M,J,arr,T,V,B,y,l⟩:=a5M (C.obj o _ hx);obtain⟨k,rfl⟩:∃ k:Nat,i=k:=⟨i.toNat,by omega⟩
 have Y:k < n:=by omega
 have N:arr.size=cap*4:=by rw[B]; omega
 rw[z]at y l;have x:RelL g w (U7 4 k cs) (arr.toList.take (k*4)++(arr.toList.take (n*4)).drop ((k+1)*4)):=by unfold U7;have:=(y.take (k*4)).append (y.drop ((k+1)*4));rw[List.take_take,Nat.min_eq_left (by omega)]at this;exact this.weak1
 have u:∀ v∈arr.toList.take (k*4)++(arr.toList.take (n*4)).drop ((k+1)*4),v.oneCell'=true:=by
  intro v hv;simp only[List.mem_append]at hv;rcases hv with hv|hv
  · exact l v (by
     have:arr.toList.take (k*4)=(arr.toList.take (n*4)).take (k*4):=by rw[List.take_take,Nat.min_eq_left (by omega)]
     rw[this]at hv;exact List.mem_of_mem_take hv)
  · exact l v (List.mem_of_mem_drop hv)
 have I:(U7 4 k cs).length=(n - 1)*4:=by simp[U7,z]; omega
 rw[Int.toNat_natCast];exact(b6z (g.m o) n cap k arr T w Y G (by omega) V N l).mono fun e w' hp=>a1B C (od:=some o) hp x u (by unfold U7; exact X7) I J (.inr ⟨o,rfl,M⟩)
end Go.Cb.CodeA
