/-
 parse.caught, called deferred where the frame is left by return: nothing is there to be caught.
-/
import Derived.Test.YthbikoodicigeaaGreatDoorXAms4
import Derived.KernelRfl
import Derived.WalkKit
import Derived.Recover
import Derived.Test.YthbikoodicigeaaGreatDoorChecked
set_option linter.unusedVariables false
namespace Go.Cb.CodeA
open Go Go.Cb Go.Proofs Go.RowKit
set_option maxRecDepth 100000
set_option linter.unusedSimpArgs false
set_option maxHeartbeats 1000000
theorem caught_idle (x:Value) (w:World):CallsD Tryz.prog 149 #[x] .returning w fun e u' w'=>u'=.returning∧w'=w∧∃ v,e=.returned v:=by
 refine callsD_of_wpS Tryz.func149 rfl fun c₀ cs hu=>?_
 apply wpS_seq
 apply wpS_region
 simp [wpOpsS,go_sem,recoverD,hu,Tryz.ntmps149,Exit.thenS]
 apply wpS_seq
 apply wpS_region
 simp [wpOpsS,go_sem,Exit.thenS]
 trace_state
 refine wpS_cond (t:=false) (by simp [Act.eval,Array.replicate]) ?_
 simp only [Bool.false_eq_true,if_false]
 refine wpS_of_wp (wp_skip ?_)
 cases c₀
 simp_all [bodyPostS,results,Tryz.results149,Exit.thenS]
theorem dok0:DOK0 Tryz.prog [149]:=fun f hf=>by
 rw [List.mem_singleton] at hf
 subst hf
 refine ⟨by kernel_rfl,fun args w hs=>?_⟩
 obtain ⟨x,rfl⟩:∃ x,args=#[x]:=by
  obtain ⟨l⟩:=args
  match l,hs with
  | [x],_=>exact ⟨x,rfl⟩
 exact caught_idle x w
end Go.Cb.CodeA
