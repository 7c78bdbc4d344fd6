import Derived.Test.YtgaibigpannjfaaGreatDoorXAms3
import Derived.KernelRfl
import Derived.WalkKit
import Derived.Recover
import Derived.Test.YtgaibigpannjfaaGreatDoorChecked
set_option maxRecDepth 100000
set_option maxHeartbeats 1000000
set_option linter.all false
namespace Go.Cb.CodeA
open Go Go.Cb Go.Proofs Go.RowKit
theorem b2m (x:Value) (w:World):CallsD Tryz.prog 82 #[x] .returning w fun e j w'=>j=.returning∧w'=w∧∃ v,e=.returned v:=by
 refine callsD_of_wpS Tryz.func82 rfl fun i cs hu=>?_
 apply wpS_seq;apply wpS_region;simp[wpOpsS,go_sem,recoverD,hu,Tryz.ntmps82,Exit.thenS];apply wpS_seq;apply wpS_region;simp[wpOpsS,go_sem,Exit.thenS]
 trace_state
 refine wpS_cond (t:=false) (by simp[Act.eval,Array.replicate]) ?_;simp only[Bool.false_eq_true,if_false];refine wpS_of_wp (wp_skip ?_);cases i;simp_all [bodyPostS,results,Tryz.results82,Exit.thenS]
theorem e6A:b6K Tryz.prog [82]:=fun f i=>by
 rw[List.mem_singleton]at i;subst i;refine⟨by kernel_rfl,fun args w hs=>?_⟩;obtain⟨x,rfl⟩:∃ x,args=#[x]:=by
  obtain⟨l⟩:=args;match l,hs with
  | [x],_=>exact⟨x,rfl⟩
 exact b2m x w
end Go.Cb.CodeA
