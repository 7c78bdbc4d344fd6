import Derived.Test.YtgaibigpannjfaaGreatDoorInsX
set_option maxRecDepth 100000
set_option linter.all false
namespace Go.Cb.CodeA
open Go Go.Cb Go.Proofs Go.RowKit Go.Shelf
variable {P:Program}
theorem a7r {ops:Array Oper} {o:Oper} {a:Act} {w:World} {K:Act→World→Prop} {Q:Exit→Act→World→Prop} {E:Prop}
 (hg:o.guard=none) (d x:Operand) (j l:TypeId) (i:o.op=Op.call { callee:=Callee.builtin Builtin.append,args:=#[d,x],argTypes:=#[j,l] })
 (v u:Value) (z:a.eval d=v) (F:a.eval x=u) {t:Value} {w':World} (B:(Builtin.append_ #[j,l] o.type #[v,u]).run P w=.ok t w') (y:K (a.put o.dst t) w') :
 if Region.wanted o (yielded ops a.tmps)=true then Oper.wp P o a w K Q else E:=by
 have C:Region.wanted o (yielded ops a.tmps)=true:=by simp[Region.wanted,hg]
 rw[if_pos C];unfold Oper.wp;simp[execOp,i,resolve,invoke,builtin,z,F,B,Result.andThen];exact y
theorem a6s (w:World) {ops:Array Oper} {rest:List Oper} {o:Oper} {a:Act} {Q:Exit→Act→World→Prop} (i:o.guard=none) (s:Operand) (t:TypeId)
 (x:o.op=.call { callee:=.builtin .clear,args:=#[s],argTypes:=#[t] }) (u:Value) (hs:a.eval s=u) {j:Value} {w':World}
 (y:(Builtin.clear_ #[t] o.type #[u]).run P w=.ok j w') (h:wpList P ops Q rest (a.put o.dst j) w'):wpList P ops Q (o::rest) a w :=
 wpList_plain i fun _ l=>by have hk:=l _ _ h;unfold Oper.wp execOp;simp only[x,resolve,invoke,builtin,Sem.run_bind,Sem.run_pure,Result.andThen_ok,List.map_toArray,List.map_cons,List.map_nil,hs,y];exact hk
def z41:List Value:=[.string ⟨#[]⟩,.string ⟨#[]⟩,.slice none 0 0,.slice none 0 0]
theorem b8v (w:World) (ty b o cap:Nat) (arr:Array Value) (T:TypeId) (u:w.heap[b]?=some (.cells arr T (0,0))) (j:o+4≤arr.size) :
 (Builtin.clear_ #[29] ty #[.slice (some ⟨b,o,none⟩) 1 cap]).run Tryz.prog w=.ok (.tuple #[]) (w.setRow b (arr.toList.take o++z41++arr.toList.drop (o+4)).toArray):=by
 have x:Builtin.zeroCells (Value.agg #[.string ⟨#[]⟩,.string ⟨#[]⟩,.slice none 0 0,.slice none 0 0]).cells 1=z41.toArray:=by kernel_rfl
 have i:=run_storeCells_at Tryz.prog b o T z41 0 arr w u (by simpa[z41]using j) (by unfold z41; intro v t; simp at t; rcases t with rfl|rfl<;>rfl);simp only[Nat.add_zero]at i;have l:=Tryz.zeroValue58 w;have hl:z41.length=4:=rfl;rw[hl]at i;simp only[Builtin.clear_,Sem.run_bind,run_underlying Tryz.underlying29,Result.andThen_ok];simp only[List.getElem?_toArray,List.getElem?_cons_zero,Sem.run_bind,run_underlying Tryz.underlying29,Result.andThen_ok,l,x,List.toList_toArray,i,Sem.run_pure]
set_option maxHeartbeats 4000000 in
theorem b8s (b n c i:Nat) (arr:Array Value) (T:TypeId) (w:World) (hi:i < n) (b5:n≤c) (hn:(n+1)*80≤140737488355328) (hh:w.heap[b]?=some (.cells arr T (0,0))) (hs:arr.size=c*4) (a0:∀ v∈arr.toList.take (n*4),v.oneCell'=true) :
 Calls Tryz.prog 183 #[.slice (some ⟨b,0,none⟩) n c,.int .i64 i,.int .i64 ((i+1:Nat):Int)] w fun e w'=>I3 w e w' (n - 1) b (arr.toList.take (i*4)++(arr.toList.take (n*4)).drop ((i+1)*4)):=by
 have t0:=Tryz.underlying0;have S:arr.toList.length=c*4:=by simpa using hs
 obtain⟨i0,W,a1,I,a2⟩:=info_parts a4S;obtain⟨cs,E⟩:∃ cs,cs=(arr.toList.take (n*4)).drop ((i+1)*4):=⟨_,rfl⟩
 have z:cs.length=(n - (i+1))*4:=by rw[E,List.length_drop,List.length_take,S]; omega
 obtain⟨B,C⟩:∃ B,B=arr.toList.take (i*4)++cs++arr.toList.drop (i*4+cs.length):=⟨_,rfl⟩
 have x:B.length=c*4:=by rw[C]; simp only[List.length_append,List.length_take,List.length_drop,S,z]; omega
 have V:w.drew.heap[b]?=some (.cells arr T (0,0)):=hh;obtain⟨t,y,L,M,N⟩:∃ t:World,t.heap=(w.setRow b B.toArray).heap∧t.os=w.os∧t.output=w.output∧∀ ty A c1,A=(if c=i+1 then⟨b,0,none⟩else⟨b,(i+1)*4,none⟩:Addr)→(Builtin.append_ #[29,29] ty #[.slice (some ⟨b,0,none⟩) i c,.slice (some A) (n - (i+1)) c1]).run Tryz.prog w.drew=.ok (.slice (some ⟨b,0,none⟩) (n - 1) c) t:=by
  by_cases hm:n=i+1
  · have Z:cs=[]:=List.eq_nil_of_length_eq_zero (by rw[z]; omega);refine⟨w.drew,?_,rfl,rfl,fun ty A c1 _=>?_⟩
    · have:B.toArray=arr:=by rw[C,Z];apply Array.ext';simp
      rw[this,setRow_self w b arr T _ hh];rfl
    · rw[show n - (i+1)=0 by omega,show n - 1=i by omega];exact P8 (P:=Tryz.prog) (w:=w.drew) 29 ty 58 i0 Tryz.underlying29 W _ _ i c c1 (by omega)
  · refine⟨w.drew.setRow b B.toArray,rfl,rfl,rfl,fun ty A c1 hA=>?_⟩;rw[if_neg (by omega)]at hA;have:=T8 (P:=Tryz.prog) (w:=w.drew) 29 ty 58 i0 T Tryz.underlying29 W b i c arr V A (n - (i+1)) c1 cs (by rw[z,I]) (fun j u hj=>by
     rw[hA,show(⟨b,(i+1)*4,none⟩:Addr)=ad b ((i+1)*4)from rfl,Addr.add_ad,cell_of_row _ _ _ arr T _ V];rw[E,List.getElem?_drop,List.getElem?_take]at hj;split at hj
     · simpa using hj
     · cases hj) (fun u hu=>a0 u (by rw[E]at hu; exact List.mem_of_mem_drop hu)) (by omega) (by rw[I,z,hs]; omega)
    rw[I,← C,show i+(n - (i+1))=n - 1 by omega]at this;exact this
 have G:t.heap[b]?=some (.cells B.toArray T (0,0)):=by rw[y]; exact setRow_heap w b arr B.toArray T _ hh
 obtain⟨A2,F⟩:∃ A2,A2=B.take ((n - 1)*4)++z41++B.drop ((n - 1)*4+4):=⟨_,rfl⟩
 have J:A2.length=c*4:=by rw[F]; simp only[List.length_append,List.length_take,List.length_drop,x,z41,List.length_cons,List.length_nil]; omega
 have Y:∀ ty cap,(Builtin.clear_ #[29] ty #[.slice (some ⟨b,(n - 1)*4,none⟩) (n - (n - 1)) cap]).run Tryz.prog t=.ok (.tuple #[]) (t.setRow b A2.toArray):=fun ty cap=>by rw[show n - (n - 1)=1 by omega,b8v t ty b ((n - 1)*4) cap B.toArray T G (by simp only[List.size_toArray,x]; omega),F]
 have l:A2.take ((n - 1)*4)=arr.toList.take (i*4)++cs:=by rw[F,List.append_assoc,List.take_append_of_le_length (by rw[List.length_take,x]; omega),List.take_take,Nat.min_self,C];exact List.take_left' (by simp only[List.length_append,List.length_take,S,z]; omega)
 have fin:I3 w (.returned (.slice (some ⟨b,0,none⟩) (n - 1) c)) (t.setRow b A2.toArray) (n - 1) b (arr.toList.take (i*4)++cs):=by
  have X:b < w.heap.size:=(Array.getElem?_eq_some_iff.1 hh).1;have e:t.heap.size=w.heap.size:=by rw[y]; simp
  have O:∀ b',b'≠b→t.heap[b']?=w.heap[b']?:=fun b' hb=>by rw[y]; exact setRow_other w _ _ _ hb
  have b0:∀ a:Addr,t.frozen? a=w.frozen? a:=fun a=>by
   unfold World.frozen?;by_cases ha:a.block=b
   · rw[ha,G,hh]
   · rw[O _ ha]
  refine⟨c,A2.toArray,T,rfl,setRow_heap t b B.toArray A2.toArray T _ G,by simpa using J,by omega,by simpa using l,fun b' hb _=>by rw[setRow_other _ _ _ _ hb]; exact O b' hb,by simp[e],by simpa[e]using X,L,M⟩
 rw[← E];clear C F E l z x J G V y L M W a1 I a2;have mixed:=b1z;have b2:¬ ((i:Int)=(i:Int)+1):=by omega
 have b3:i≤n:=by omega
 have b1:i≤c:=by omega
 have h1:(i:Int)+1≤(n:Int):=by omega
 have h2:((i:Int)+1).toNat=i+1:=by omega
 have h3:(0:Int)≤(i:Int)+1:=by omega
 have b4:¬ (c=n - 1):=by omega
 have U:(Builtin.append_ #[29,29] 29 #[.slice (some ⟨b,0,none⟩) i c,.slice (if c=i+1 then some ⟨b,0,none⟩else some ⟨b,(i+1)*4,none⟩) (n - (i+1)) (c - (i+1))]).run Tryz.prog w.drew=.ok (.slice (some ⟨b,0,none⟩) (n - 1) c) t:=by
  have:=N 29 _ (c - (i+1)) rfl;by_cases h:c=i+1
  · rw[if_pos h]at this ⊢; exact this
  · rw[if_neg h]at this ⊢; exact this
 clear N
 go_enter Tryz.func183,Tryz.ntmps183
 go_wp2
 go_region_law_o (refine a7r rfl _ _ 29 29 rfl (.slice (some ⟨b,0,none⟩) i c) (.slice (if c=i+1 then some ⟨b,0,none⟩else some ⟨b,(i+1)*4,none⟩) (n - (i+1)) (c - (i+1))) (by simp[Act.eval,Act.put]) (by simp[Act.eval,Act.put]) U ?_)
 go_wp2_with (at_builtin; refine a6s _ rfl _ 29 rfl _ rfl (Y _ _) ?_)
 all_goals go_ret
 all_goals first|exact fin|(have e:=‹c=i+1›; rw[e]at fin; exact fin)
theorem b61 (gt:List (Nat×List AV)):L9 Tryz.prog gt 183 (a0f 4 80):=by
 intro args st res st' h O g w vs C _ t;unfold a0f at h;split at h
 case h_2=>cases h
 rename_i o n s i j;split at h
 case h_2=>cases h
 rename_i cs hx;split at h
 case isFalse=>cases h
 rename_i U;obtain⟨rfl,h0,X,rfl,z,S⟩:=U;simp only[Option.some.injEq,Prod.mk.injEq]at h;obtain⟨rfl,rfl⟩:=h;simp only[RelL]at t;obtain⟨v1,_,rfl,E,v2,_,rfl,F,v3,_,rfl,G,rfl⟩:=t;simp only[Rel]at E F G;subst F; subst G;obtain⟨Y,cap,rfl,I,V⟩:=E;obtain⟨M,L,arr,T,W,B,y,l⟩:=a7n (C.obj o _ hx);obtain⟨k,rfl⟩:∃ k:Nat,i=k:=⟨i.toNat,by omega⟩
 have hk:k < n:=by omega
 have N:arr.size=cap*4:=by rw[B]; omega
 rw[z]at y l;have x:RelL g w (a0p 4 k cs) (arr.toList.take (k*4)++(arr.toList.take (n*4)).drop ((k+1)*4)):=by unfold a0p;have:=(y.take (k*4)).append (y.drop ((k+1)*4));rw[List.take_take,Nat.min_eq_left (by omega)]at this;exact this.weak1
 have u:∀ v∈arr.toList.take (k*4)++(arr.toList.take (n*4)).drop ((k+1)*4),v.oneCell'=true:=by
  intro v hv;simp only[List.mem_append]at hv;rcases hv with hv|hv
  · exact l v (by
     have:arr.toList.take (k*4)=(arr.toList.take (n*4)).take (k*4):=by rw[List.take_take,Nat.min_eq_left (by omega)]
     rw[this]at hv;exact List.mem_of_mem_take hv)
  · exact l v (List.mem_of_mem_drop hv)
 have J:(a0p 4 k cs).length=(n - 1)*4:=by simp[a0p,z]; omega
 rw[Int.toNat_natCast];exact(b8s (g.m o) n cap k arr T w hk I (by omega) W N l).mono fun e w' Z=>a2h C (od:=some o) Z x u (by unfold a0p; exact a0C) J L (.inr ⟨o,rfl,M⟩)
end Go.Cb.CodeA
