/- What functions of the abstract machine answer. No conditions but those that each theorem names. -/
import Derived.Test.YthbikoodicigeaaGreatDoorRowJReplicaErrs
import Derived.Test.YthbikoodicigeaaGreatDoorOpenT
import Derived.Test.YthbikoodicigeaaGreatDoorOkC
set_option linter.unusedVariables false
namespace Go.Proofs.YthbikoodicigeaaGreatDoor
open Go.ChangeShapes Go.WideShapes Go.ChangeAt Go.WideMaps Go.WideElems Go.RowKit Go.ChangeMaps Go.Cb Go.Cb.CodeA
set_option maxRecDepth 100000
theorem replicaErrs_lifted (os:Os) (started:os.Started) (H:Type) (enc:TypeId×Value→H) :
 ReturnsInHanded {} Tryz.checked os 3 .any (fun w args=>(Rows.replicaErrsSpec.pre enc Tryz.prog Tryz.f3 [] false w args∧laidMetH Tryz.prog laidS w)∧sizedMet enc Tryz.prog Tryz.f3 (OpenSpec.ofChange Rows.replicaErrsSpec) false w args)
  (Rows.replicaErrsSpec.post enc Tryz.prog Tryz.f3 false true false false):=by
 refine returnsInHanded_of_change_and (C:=Tryz.checked) (X:=fun w _=>laidMetH Tryz.prog laidS w) (fun _ _ _ hh h=>h.of_heap hh) own started (by kernel_rfl) Tryz.func3
  (ChangeSpec.witness_shaped (enc:=enc) (C:=Tryz.checked) (os:=os) (X:=fun w _=>laidMetH Tryz.prog laidS w) false (World.doorLaid Tryz.prog 400 os) #[.int .i64 0,.slice none 0 0,.int .u64 0] 8 rfl (World.shaped_of_RefB (by kernel_rfl) (by kernel_rfl)) (by kernel_rfl) (by kernel_rfl) (by kernel_rfl) (door_met os _)) ?_
 intro W base args ds gs before hval0 hW _ _ hL _
 have hval:∀ (j:Nat) t v,Tryz.f3.params[j]?=some t→args[j]?=some v→Value.okWide Tryz.prog W .any base t v:=hval0
 have hW':=hW
 obtain ⟨p,q,hA0,hV,rfl,hfz,hnd⟩:=hW
 have hA:DataW.TrodAll enc Tryz.prog W 0 (fun _=>true) true Tryz.f3.params.toList args.toList ds p:=hA0
 rw [Tryz.params3] at hA hval
 obtain ⟨v0,v1,v2,d0,d1,d2,a0,a1,a2,rfl,rfl,rfl,h0,h1,h2⟩:=trodAll_three hA
 obtain ⟨rfl,rfl⟩:=trodVars_none hV
 obtain ⟨k0,rfl,rfl,rfl,hk0⟩:=open_int Tryz.underlying3 (hval 0 3 v0 rfl rfl) h0
 obtain ⟨b1,len1,cap1,rfl⟩:=okWide_slice Tryz.underlying22 (hval 1 22 v1 rfl rfl)
 obtain ⟨fuel1,h1'⟩:=id h1
 obtain ⟨x1,rows1,e1,_,_,R1,rel1⟩:=open_rows (R:=fun r=>∃ s:List Nat,r=sRow s) Tryz.underlying22 (by rw [c9]; decide) (fun m cs y _ hy=>open_text hy) h1'
 have e1:=(List.cons.inj (show [_]=[_] from e1)).1
 subst e1
 obtain ⟨ts,rfl⟩:=strs_of R1
 obtain ⟨k2,rfl,rfl,rfl,hk2⟩:=open_int Tryz.underlying23 (hval 2 23 v2 rfl rfl) h2
 obtain ⟨n,st',hrun⟩:=errs_am k0 k2 ts
 refine (answerD prog_okA hrun (fun x hx=>?_) (globs_of_laid hL) (vs:=[.int .i64 k0,.slice b1 len1 cap1,.int .u64 k2]) ?_).mono fun e W' ⟨he,hw⟩=>?_
 · simp only [List.mem_cons,List.not_mem_nil,or_false] at hx
   rcases hx with rfl|rfl|rfl <;> rfl
 · simp only [RelL]
   exact ⟨_,_,rfl,by simp only [Rel],_,_,rfl,rel1,_,_,rfl,by simp only [Rel],rfl⟩
 · subst he
   refine ⟨_,rfl,?_⟩
   have hlt:∀ y∈[]++(a1++[]),y.block < W.heap.size:=fun y hp=>hW'.lt y (by simpa using hp)
   have hsame:∀ y∈[]++(a1++[]),W.sameAt W' y:=fun y hp=>by
    have ho:=hw.old y.block (hlt y hp)
    cases y with
    | cell b off=>show W'.cell? ⟨b,off,none⟩=W.cell? ⟨b,off,none⟩; unfold World.cell?; rw [show W'.heap[b]?=W.heap[b]? from ho]
    | map b=>exact ho
   refine post_of_same2 (pa:=[]++(a1++[])) (pv:=[]) hW' (fun _ _ _=>trodAll_mk1 (shut_bool Tryz.underlying4 _)) (fun sp hsp=>?_) (fun _ _=>rfl) (by simp) (World.keptBut_mono (fun p hp=>hp.elim) hw.kept) hw.fz (ok_one (by kernel_rfl) rfl (okWide_bool_mk Tryz.underlying4 _))
   have hsp:∀ y∈[]++(a1++[]),sp y.block=true:=fun y hp=>hsp y (by simpa using hp)
   rw [Tryz.params3]
   exact trodAll_mk3 (shut_int Tryz.underlying3 hk0) (WideElems.Trod_stays (P:=Tryz.prog) (by kernel_rfl) (by kernel_rfl) (of_decide_eq_true (by kernel_rfl)) h1 (fun p hp=>hsame p (by simp [hp])) (fun p hp=>hsp p (by simp [hp]))) (shut_int Tryz.underlying23 hk2)
theorem replicaErrs_holds:Rows.ReplicaErrsSaid :=
 OpenClaim.holds_of_wide 3 Tryz.f3 rfl rfl rfl rfl rfl rfl rfl ⟨rfl,rfl,rfl,rfl,rfl⟩ rfl rfl rfl rfl rfl (by kernel_rfl) Tryz.func3 joined
  (of_decide_eq_true (by kernel_rfl)) (by unfold Func.isWrapper; first|(rw [if_pos (by decide +kernel)]; kernel_rfl)|(rw [if_neg (by decide +kernel)]; exact ⟨rfl,rfl⟩))
  (fun os started H enc _=>replicaErrs_lifted os started H enc)

end Go.Proofs.YthbikoodicigeaaGreatDoor
