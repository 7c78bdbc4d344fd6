/-
 parse.caught, called deferred where the frame is left by return: nothing is there to be caught.
-/
import Derived.Test.YtcmfklfjebaeoaaGreatDoorXAms4
import Derived.KernelRfl
import Derived.WalkKit
import Derived.Recover
import Derived.Test.YtcmfklfjebaeoaaGreatDoorChecked
set_option linter.unusedVariables false
namespace Go.Cb.CodeA
open Go Go.Cb Go.Proofs Go.RowKit
set_option maxRecDepth 100000
set_option linter.unusedSimpArgs false
set_option maxHeartbeats 1000000
theorem a9D (x:Value) (w:World):CallsD Tryz.prog 152 #[x] .returning w fun e u' w'=>u'=.returning∧w'=w∧∃ v,e=.returned v:=by
 refine callsD_of_wpS Tryz.func152 rfl fun c₀ cs hu=>?_
 apply wpS_seq
 apply wpS_region
 simp [wpOpsS,go_sem,recoverD,hu,Tryz.ntmps152,Exit.thenS]
 apply wpS_seq
 apply wpS_region
 simp [wpOpsS,go_sem,Exit.thenS]
 trace_state
 refine wpS_cond (t:=false) (by simp [Act.eval,Array.replicate]) ?_
 simp only [Bool.false_eq_true,if_false]
 refine wpS_of_wp (wp_skip ?_)
 cases c₀
 simp_all [bodyPostS,results,Tryz.results152,Exit.thenS]
theorem d04:b2L Tryz.prog [152]:=fun f hf=>by
 rw [List.mem_singleton] at hf
 subst hf
 refine ⟨by kernel_rfl,fun args w hs=>?_⟩
 obtain ⟨x,rfl⟩:∃ x,args=#[x]:=by
  obtain ⟨l⟩:=args
  match l,hs with
  | [x],_=>exact ⟨x,rfl⟩
 exact a9D x w
end Go.Cb.CodeA
