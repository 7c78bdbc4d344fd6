/- What functions of the abstract machine answer. No conditions but those that each theorem names. -/
import Derived.Test.YthbikoodicigeaaGreatDoorChecked
import Derived.Shelf.RegionOpenPlain
import Derived.WalkKit
import Derived.Conc.LoneSelectN
import Derived.Conc.LoneSelect
import Derived.Test.YthbikoodicigeaaGreatDoorTxX
import Derived.Test.YthbikoodicigeaaGreatDoorRX
set_option maxRecDepth 100000
set_option linter.unusedVariables false
set_option linter.unusedSimpArgs false
namespace Go.Cb.CodeA
open Go Go.Cb Go.Proofs Go.RowKit Go.Shelf Go.Conc
theorem qu_info:∃ i,Tryz.prog.info? 79=some i∧i.bytes≤200:=by
 have h:(Tryz.prog.info? 79).map (fun i=>decide (i.bytes≤200))=some true:=by kernel_rfl
 obtain ⟨i,hi,hb⟩:=Option.map_eq_some_iff.1 h
 exact ⟨i,hi,by simpa using hb⟩
theorem qu_make (a:Nat) (h:a≤64) (w:World):(Instr.makeChan 124 (.int .i64 (a:Int))).run Tryz.prog w=.ok (.chan (some w.heap.size)) (w.alloc (.chan a #[] false 0 0 false)):=by
 obtain ⟨i,hi,hb⟩:=qu_info
 refine run_makeChan (P:=Tryz.prog) (w:=w) Tryz.underlying124 hi .i64 a (by omega) ?_
 have:(i.bytes:Int)*a≤200*64:=by
  have:=Nat.mul_le_mul hb h
  exact_mod_cast this
 omega
set_option maxHeartbeats 4000000 in
theorem qu_in (a:Nat) (n:Int) (h0:1≤a) (h1:a≤64) (w:World):Calls Tryz.prog 28 #[.int .i64 (a:Int),.int .u64 n] w fun e w'=>e=.returned (.tuple #[.pointer (some ⟨w.heap.size+1,0,none⟩),.int .i64 0]) ∧
 w'=(w.alloc (.chan a #[] false 0 0 false)).alloc (.cells #[.chan (some w.heap.size),.int .u64 n] 126):=by
 have hmk:=qu_make a h1
 go_enter Tryz.func28,Tryz.ntmps28
 go_wp2
 go_ret2
 exact ⟨rfl,rfl⟩
set_option maxHeartbeats 4000000 in
theorem qu_out (a n:Int) (h:¬ (1≤a∧a≤64)) (w:World):Calls Tryz.prog 28 #[.int .i64 a,.int .u64 n] w fun e w'=>e=.returned (.tuple #[.pointer none,.int .i64 1])∧w'=w:=by
 by_cases h1:1≤a
 · have h2:64 < a:=by omega
   go_enter Tryz.func28,Tryz.ntmps28
   go_wp2
   go_ret2
   exact ⟨rfl,rfl⟩
 · have h2:a < 1:=by omega
   go_enter Tryz.func28,Tryz.ntmps28
   go_wp2
   go_ret2
   exact ⟨rfl,rfl⟩
theorem queue_ok (gt:List (Nat×List AV)):ExtOK Tryz.prog gt 28 queueX:=by
 intro args st res st' h hweak g w vs hst _ hrel
 unfold queueX at h
 split at h
 case h_2=>cases h
 rename_i a n
 simp only [RelL] at hrel
 obtain ⟨v1,_,rfl,hv1,v2,_,rfl,hv2,rfl⟩:=hrel
 simp only [Rel] at hv1 hv2
 subst hv1; subst hv2
 split at h
 · rename_i hc
   simp only [Option.some.injEq,Prod.mk.injEq] at h
   obtain ⟨rfl,rfl⟩:=h
   obtain ⟨a,rfl⟩:∃ k:Nat,a=k:=⟨a.toNat,by omega⟩
   refine (qu_in a n (by omega) (by omega) w).mono ?_
   rintro e w' ⟨rfl,rfl⟩
   refine post_below hst rfl (((Below.refl _ w).alloc (Nat.le_refl _) _).alloc (by simp) _) ?_ (by simp) (by simp)
   simp only [Rel,RelL,RelCells]
   exact ⟨_,rfl,_,_,rfl,⟨_,_,rfl,trivial⟩,_,_,rfl,rfl,rfl⟩
 · rename_i hc
   simp only [Option.some.injEq,Prod.mk.injEq] at h
   obtain ⟨rfl,rfl⟩:=h
   refine (qu_out a n hc w).mono ?_
   rintro e w' ⟨rfl,rfl⟩
   refine post_below hst rfl (Below.refl _ _) ?_ (by simp) (by simp)
   simp only [Rel,RelL]
   exact ⟨_,rfl,_,_,rfl,rfl,_,_,rfl,rfl,rfl⟩
end Go.Cb.CodeA
