/- What functions of the abstract machine answer. No conditions but those that each theorem names. -/
import Derived.Test.YthbikoodicigeaaGreatDoorInsX
set_option maxRecDepth 100000
set_option linter.unusedVariables false
set_option linter.unusedSimpArgs false
namespace Go.Cb.CodeA
open Go Go.Cb Go.Proofs Go.RowKit Go.Shelf
variable {P:Program}
theorem step_append_runI {ops:Array Oper} {o:Oper} {a:Act} {w:World} {K:Act→World→Prop} {Q:Exit→Act→World→Prop} {E:Prop}
 (hg:o.guard=none) (d x:Operand) (dT sT:TypeId) (hop:o.op=Op.call { callee:=Callee.builtin Builtin.append,args:=#[d,x],argTypes:=#[dT,sT] })
 (v u:Value) (hd:a.eval d=v) (hx:a.eval x=u) {v':Value} {w':World} (hr:(Builtin.append_ #[dT,sT] o.type #[v,u]).run P w=.ok v' w') (hK:K (a.put o.dst v') w') :
 if Region.wanted o (yielded ops a.tmps)=true then Oper.wp P o a w K Q else E:=by
 have hw:Region.wanted o (yielded ops a.tmps)=true:=by simp [Region.wanted,hg]
 rw [if_pos hw]
 unfold Oper.wp
 simp [execOp,hop,resolve,invoke,builtin,hd,hx,hr,Result.andThen]
 exact hK
theorem wpList_clear_runI (w:World) {ops:Array Oper} {rest:List Oper} {o:Oper} {a:Act} {Q:Exit→Act→World→Prop} (hgd:o.guard=none) (s:Operand) (t:TypeId)
 (ho:o.op=.call { callee:=.builtin .clear,args:=#[s],argTypes:=#[t] }) (u:Value) (hs:a.eval s=u) {v':Value} {w':World}
 (hr:(Builtin.clear_ #[t] o.type #[u]).run P w=.ok v' w') (h:wpList P ops Q rest (a.put o.dst v') w'):wpList P ops Q (o::rest) a w :=
 wpList_plain hgd fun _ hK=>by
  have hk:=hK _ _ h
  unfold Oper.wp execOp
  simp only [ho,resolve,invoke,builtin,Sem.run_bind,Sem.run_pure,Result.andThen_ok,List.map_toArray,List.map_cons,List.map_nil,hs,hr]
  exact hk
def z41:List Value:=[.string ⟨#[]⟩,.string ⟨#[]⟩,.slice none 0 0,.slice none 0 0]
theorem clear_run (w:World) (ty b o cap:Nat) (arr:Array Value) (T:TypeId) (hh:w.heap[b]?=some (.cells arr T (0,0))) (hfit:o+4≤arr.size) :
 (Builtin.clear_ #[43] ty #[.slice (some ⟨b,o,none⟩) 1 cap]).run Tryz.prog w=.ok (.tuple #[]) (w.setRow b (arr.toList.take o++z41++arr.toList.drop (o+4)).toArray):=by
 have hz:Builtin.zeroCells (Value.agg #[.string ⟨#[]⟩,.string ⟨#[]⟩,.slice none 0 0,.slice none 0 0]).cells 1=z41.toArray:=by kernel_rfl
 have hst:=run_storeCells_at Tryz.prog b o T z41 0 arr w hh (by simpa [z41] using hfit) (by unfold z41; intro v hv; simp at hv; rcases hv with rfl|rfl <;> rfl)
 simp only [Nat.add_zero] at hst
 have hzv:=Tryz.zeroValue131 w
 have hl:z41.length=4:=rfl
 rw [hl] at hst
 simp only [Builtin.clear_,Sem.run_bind,run_underlying Tryz.underlying43,Result.andThen_ok]
 simp only [List.getElem?_toArray,List.getElem?_cons_zero,Sem.run_bind,run_underlying Tryz.underlying43,Result.andThen_ok,hzv,hz,List.toList_toArray,hst,Sem.run_pure]
set_option maxHeartbeats 4000000 in
theorem del_calls (b n c i:Nat) (arr:Array Value) (T:TypeId) (w:World) (hi:i < n) (hnc:n≤c) (hn:(n+1)*80≤140737488355328) (hh:w.heap[b]?=some (.cells arr T (0,0))) (hs:arr.size=c*4) (h1c:∀ v∈arr.toList.take (n*4),v.oneCell'=true) :
 Calls Tryz.prog 98 #[.slice (some ⟨b,0,none⟩) n c,.int .i64 i,.int .i64 ((i+1:Nat):Int)] w fun e w'=>InsPost w e w' (n - 1) b (arr.toList.take (i*4)++(arr.toList.take (n*4)).drop ((i+1)*4)):=by
 have t0:=Tryz.underlying0
 have hal:arr.toList.length=c*4:=by simpa using hs
 obtain ⟨i0,hi0,hz0,hzs,hzb⟩:=info_parts info131
 obtain ⟨cs,hcs⟩:∃ cs,cs=(arr.toList.take (n*4)).drop ((i+1)*4):=⟨_,rfl⟩
 have hcl:cs.length=(n - (i+1))*4:=by rw [hcs,List.length_drop,List.length_take,hal]; omega
 obtain ⟨A1,hA1⟩:∃ A1,A1=arr.toList.take (i*4)++cs++arr.toList.drop (i*4+cs.length):=⟨_,rfl⟩
 have hA1l:A1.length=c*4:=by rw [hA1]; simp only [List.length_append,List.length_take,List.length_drop,hal,hcl]; omega
 have hhd:w.drew.heap[b]?=some (.cells arr T (0,0)):=hh
 obtain ⟨W1,hW1h,hW1o,hW1u,happ⟩:∃ W1:World,W1.heap=(w.setRow b A1.toArray).heap∧W1.os=w.os∧W1.output=w.output∧∀ ty A c1,A=(if c=i+1 then ⟨b,0,none⟩ else ⟨b,(i+1)*4,none⟩:Addr)→(Builtin.append_ #[43,43] ty #[.slice (some ⟨b,0,none⟩) i c,.slice (some A) (n - (i+1)) c1]).run Tryz.prog w.drew=.ok (.slice (some ⟨b,0,none⟩) (n - 1) c) W1:=by
  by_cases hm:n=i+1
  · have hcs0:cs=[]:=List.eq_nil_of_length_eq_zero (by rw [hcl]; omega)
    refine ⟨w.drew,?_,rfl,rfl,fun ty A c1 _=>?_⟩
    · have:A1.toArray=arr:=by
       rw [hA1,hcs0]
       apply Array.ext'
       simp
      rw [this,setRow_self w b arr T _ hh]
      rfl
    · rw [show n - (i+1)=0 by omega,show n - 1=i by omega]
      exact run_append_none (P:=Tryz.prog) (w:=w.drew) 43 ty 131 i0 Tryz.underlying43 hi0 _ _ i c c1 (by omega)
  · refine ⟨w.drew.setRow b A1.toArray,rfl,rfl,rfl,fun ty A c1 hA=>?_⟩
    rw [if_neg (by omega)] at hA
    have:=run_append_room2 (P:=Tryz.prog) (w:=w.drew) 43 ty 131 i0 T Tryz.underlying43 hi0 b i c arr hhd A (n - (i+1)) c1 cs (by rw [hcl,hzs]) (fun j u hj=>by
     rw [hA,show (⟨b,(i+1)*4,none⟩:Addr)=ad b ((i+1)*4) from rfl,Addr.add_ad,cell_of_row _ _ _ arr T _ hhd]
     rw [hcs,List.getElem?_drop,List.getElem?_take] at hj
     split at hj
     · simpa using hj
     · cases hj) (fun u hu=>h1c u (by rw [hcs] at hu; exact List.mem_of_mem_drop hu)) (by omega) (by rw [hzs,hcl,hs]; omega)
    rw [hzs,← hA1,show i+(n - (i+1))=n - 1 by omega] at this
    exact this
 have hh1:W1.heap[b]?=some (.cells A1.toArray T (0,0)):=by rw [hW1h]; exact setRow_heap w b arr A1.toArray T _ hh
 obtain ⟨A2,hA2⟩:∃ A2,A2=A1.take ((n - 1)*4)++z41++A1.drop ((n - 1)*4+4):=⟨_,rfl⟩
 have hA2l:A2.length=c*4:=by rw [hA2]; simp only [List.length_append,List.length_take,List.length_drop,hA1l,z41,List.length_cons,List.length_nil]; omega
 have hclr:∀ ty cap,(Builtin.clear_ #[43] ty #[.slice (some ⟨b,(n - 1)*4,none⟩) (n - (n - 1)) cap]).run Tryz.prog W1=.ok (.tuple #[]) (W1.setRow b A2.toArray):=fun ty cap=>by
  rw [show n - (n - 1)=1 by omega,clear_run W1 ty b ((n - 1)*4) cap A1.toArray T hh1 (by simp only [List.size_toArray,hA1l]; omega),hA2]
 have take_ok:A2.take ((n - 1)*4)=arr.toList.take (i*4)++cs:=by
  rw [hA2,List.append_assoc,List.take_append_of_le_length (by rw [List.length_take,hA1l]; omega),List.take_take,Nat.min_self,hA1]
  exact List.take_left' (by simp only [List.length_append,List.length_take,hal,hcl]; omega)
 have fin:InsPost w (.returned (.slice (some ⟨b,0,none⟩) (n - 1) c)) (W1.setRow b A2.toArray) (n - 1) b (arr.toList.take (i*4)++cs):=by
  have hblt:b < w.heap.size:=(Array.getElem?_eq_some_iff.1 hh).1
  have e:W1.heap.size=w.heap.size:=by rw [hW1h]; simp
  have hold:∀ b',b'≠b→W1.heap[b']?=w.heap[b']?:=fun b' hb=>by rw [hW1h]; exact setRow_other w _ _ _ hb
  have hWfz:∀ a:Addr,W1.frozen? a=w.frozen? a:=fun a=>by
   unfold World.frozen?
   by_cases ha:a.block=b
   · rw [ha,hh1,hh]
   · rw [hold _ ha]
  refine ⟨c,A2.toArray,T,rfl,setRow_heap W1 b A1.toArray A2.toArray T _ hh1,by simpa using hA2l,by omega,by simpa using take_ok,fun b' hb _=>by rw [setRow_other _ _ _ _ hb]; exact hold b' hb,by simp [e],by simpa [e] using hblt,hW1o,hW1u⟩
 rw [← hcs]
 clear hA1 hA2 hcs take_ok hcl hA1l hA2l hh1 hhd hW1h hW1o hW1u hi0 hz0 hzs hzb
 have mixed:=mixedE
 have hij:¬ ((i:Int)=(i:Int)+1):=by omega
 have hin:i≤n:=by omega
 have hic:i≤c:=by omega
 have h1:(i:Int)+1≤(n:Int):=by omega
 have h2:((i:Int)+1).toNat=i+1:=by omega
 have h3:(0:Int)≤(i:Int)+1:=by omega
 have hn1:¬ (c=n - 1):=by omega
 have happ':(Builtin.append_ #[43,43] 43 #[.slice (some ⟨b,0,none⟩) i c,.slice (if c=i+1 then some ⟨b,0,none⟩ else some ⟨b,(i+1)*4,none⟩) (n - (i+1)) (c - (i+1))]).run Tryz.prog w.drew=.ok (.slice (some ⟨b,0,none⟩) (n - 1) c) W1:=by
  have:=happ 43 _ (c - (i+1)) rfl
  by_cases h:c=i+1
  · rw [if_pos h] at this ⊢; exact this
  · rw [if_neg h] at this ⊢; exact this
 clear happ
 go_enter Tryz.func98,Tryz.ntmps98
 go_wp2
 go_region_law_o (refine step_append_runI rfl _ _ 43 43 rfl (.slice (some ⟨b,0,none⟩) i c) (.slice (if c=i+1 then some ⟨b,0,none⟩ else some ⟨b,(i+1)*4,none⟩) (n - (i+1)) (c - (i+1))) (by simp [Act.eval,Act.put]) (by simp [Act.eval,Act.put]) happ' ?_)
 go_wp2_with (at_builtin; refine wpList_clear_runI _ rfl _ 43 rfl _ rfl (hclr _ _) ?_)
 all_goals go_ret
 all_goals first|exact fin|(have e:=‹c=i+1›; rw [e] at fin; exact fin)
theorem delete_ok (gt:List (Nat×List AV)):ExtOK Tryz.prog gt 98 (deleteX 4 80):=by
 intro args st res st' h hweak g w vs hst _ hrel
 unfold deleteX at h
 split at h
 case h_2=>cases h
 rename_i o n s i j
 split at h
 case h_2=>cases h
 rename_i cs hx
 split at h
 case isFalse=>cases h
 rename_i hc
 obtain ⟨rfl,h0,hin,rfl,hcl,hby⟩:=hc
 simp only [Option.some.injEq,Prod.mk.injEq] at h
 obtain ⟨rfl,rfl⟩:=h
 simp only [RelL] at hrel
 obtain ⟨v1,_,rfl,hv1,v2,_,rfl,hv2,v3,_,rfl,hv3,rfl⟩:=hrel
 simp only [Rel] at hv1 hv2 hv3
 subst hv2; subst hv3
 obtain ⟨hog,cap,rfl,hle,hcp⟩:=hv1
 obtain ⟨hsr,hnc,arr,T,hh,hcps,hrl,ho1⟩:=obj_vals (hst.obj o _ hx)
 obtain ⟨k,rfl⟩:∃ k:Nat,i=k:=⟨i.toNat,by omega⟩
 have hk:k < n:=by omega
 have hsz:arr.size=cap*4:=by rw [hcps]; omega
 rw [hcl] at hrl ho1
 have hrel':RelL g w (delRow 4 k cs) (arr.toList.take (k*4)++(arr.toList.take (n*4)).drop ((k+1)*4)):=by
  unfold delRow
  have:=(hrl.take (k*4)).append (hrl.drop ((k+1)*4))
  rw [List.take_take,Nat.min_eq_left (by omega)] at this
  exact this.weak1
 have hone':∀ v∈arr.toList.take (k*4)++(arr.toList.take (n*4)).drop ((k+1)*4),v.oneCell'=true:=by
  intro v hv
  simp only [List.mem_append] at hv
  rcases hv with hv|hv
  · exact ho1 v (by
     have:arr.toList.take (k*4)=(arr.toList.take (n*4)).take (k*4):=by rw [List.take_take,Nat.min_eq_left (by omega)]
     rw [this] at hv
     exact List.mem_of_mem_take hv)
  · exact ho1 v (List.mem_of_mem_drop hv)
 have hln:(delRow 4 k cs).length=(n - 1)*4:=by simp [delRow,hcl]; omega
 rw [Int.toNat_natCast]
 exact (del_calls (g.m o) n cap k arr T w hk hle (by omega) hh hsz ho1).mono fun e w' hp=>ins_post hst (od:=some o) hp hrel' hone' (by unfold delRow; exact weak1_map) hln hnc (.inr ⟨o,rfl,hsr⟩)
end Go.Cb.CodeA
