/- What functions of the abstract machine answer. No conditions but those that each theorem names. -/
import Derived.Test.YtcmfklfjebaeoaaGreatDoorRowJVaultLoads
import Derived.Test.YtcmfklfjebaeoaaGreatDoorOpenT
import Derived.Test.YtcmfklfjebaeoaaGreatDoorWs1
set_option linter.unusedVariables false
namespace Go.Proofs.YtcmfklfjebaeoaaGreatDoor
open Go.Clock Go.ChangeShapes Go.WideShapes Go.ChangeAt Go.WideMaps Go.WideElems Go.RowKit Go.ChangeMaps Go.Cb Go.Cb.CodeA
set_option maxRecDepth 100000
theorem a3I (os:Os) (started:os.Started) (H:Type) (enc:TypeId×Value→H) (F:Stop.Interp) :
 ReturnsInHanded { calm:=true } Tryz.checked os 3 .any (fun w args=>(Rows.vaultLoadsSpec.pre enc Tryz.prog Tryz.f3 [] false w args∧laidMetH Tryz.prog a4P w)∧sizedMet enc Tryz.prog Tryz.f3 (OpenSpec.ofChange Rows.vaultLoadsSpec) false w args)
  ((OpenSpec.ofChange Rows.vaultLoadsSpec).postWith enc Tryz.prog Tryz.f3 F (outsideKept [.timePasses]) false true false):=by
 refine returns_of_change (C:=Tryz.checked) (X:=fun w _=>laidMetH Tryz.prog a4P w) (fun _ _ _ hh h=>h.of_heap hh) own started (by kernel_rfl) Tryz.func3
  (witness_at (enc:=enc) (C:=Tryz.checked) (os:=os) (X:=fun w _=>laidMetH Tryz.prog a4P w) (World.doorLaid Tryz.prog 400 os) #[.slice none 0 0] 8 rfl (World.shaped_of_RefB (by kernel_rfl) (by kernel_rfl)) (by kernel_rfl) (by kernel_rfl) (by kernel_rfl) (b65 os _)) ?_
 intro W base args ds gs before hval0 hW _ _ hL _
 have hval:∀ (j:Nat) t v,Tryz.f3.params[j]?=some t→args[j]?=some v→Value.okWide Tryz.prog W .any base t v:=hval0
 have hW':=hW
 obtain ⟨p,q,hA0,hV,rfl,hfz,hnd⟩:=hW
 have hA:DataW.TrodAll enc Tryz.prog W 0 (fun _=>true) true Tryz.f3.params.toList args.toList ds p:=hA0
 rw [Tryz.params3] at hA hval
 obtain ⟨v0,d0,rfl,rfl,h0⟩:=trodAll_one hA
 obtain ⟨rfl,rfl⟩:=trodVars_none hV
 obtain ⟨b0,len0,cap0,rfl⟩:=okWide_slice Tryz.underlying22 (hval 0 22 v0 rfl rfl)
 obtain ⟨fuel0,h0'⟩:=id h0
 obtain ⟨x0,rows0,e0,_,_,R0,rel0⟩:=b3U (R:=fun r=>∃ s:Nat,s < 256∧r=a4k s) Tryz.underlying22 (by rw [c5]; decide) (fun m cs y _ hy=>b38 hy) h0'
 have e0:=(List.cons.inj (show [_]=[_] from e0)).1
 subst e0
 obtain ⟨l0,rfl,hl0⟩:=a8d R0
 obtain ⟨n,st',hrun⟩:=b7s l0 hl0
 refine (b8v c0I hrun (fun x hx=>?_) (a6v hL) (vs:=[.slice b0 len0 cap0]) ?_).mono fun e W' ⟨he,hw⟩=>?_
 · simp only [List.mem_cons,List.not_mem_nil,or_false] at hx
   subst hx
   rfl
 · simp only [RelL]
   exact ⟨_,_,rfl,rel0,rfl⟩
 · subst he
   have hos:W'.os=W.os:=hw.kept.1
   have e:({ W' with os:=W.os }:World)=W':=by rw [← hos]
   refine ⟨_,rfl,?_,hos ▸ Later.refl _⟩
   rw [e]
   have hlt:∀ y∈p,y.block < W.heap.size:=fun y hp=>hW'.lt y (by simpa using hp)
   have hsame:∀ y∈p,W.sameAt W' y:=fun y hp=>by
    have ho:=hw.old y.block (hlt y hp)
    cases y with
    | cell b off=>show W'.cell? ⟨b,off,none⟩=W.cell? ⟨b,off,none⟩; unfold World.cell?; rw [show W'.heap[b]?=W.heap[b]? from ho]
    | map b=>exact ho
   refine a6t (pa:=p) (pv:=[]) hW' (fun _ _ _=>trodAll_mk1 (shut_bool Tryz.underlying4 _)) (fun sp hsp=>?_) (fun _ _=>rfl) (by simp) (World.keptBut_mono (fun p hp=>hp.elim) hw.kept) hw.fz (ok_one (by kernel_rfl) rfl (okWide_bool_mk Tryz.underlying4 _))
   have hsp:∀ y∈p,sp y.block=true:=fun y hp=>hsp y (by simpa using hp)
   rw [Tryz.params3]
   exact trodAll_mk1 (WideElems.Trod_stays (P:=Tryz.prog) (by kernel_rfl) (by kernel_rfl) (of_decide_eq_true (by kernel_rfl)) h0 (fun p hp=>hsame p hp) (fun p hp=>hsp p hp))
theorem a4d:Rows.VaultLoadsSaid :=
 holds_of_wide_time 3 Tryz.f3 rfl rfl rfl rfl rfl rfl rfl ⟨rfl,rfl,rfl,rfl,rfl⟩ rfl rfl rfl rfl rfl (by kernel_rfl) Tryz.func3 c4s
  (of_decide_eq_true (by kernel_rfl)) (by unfold Func.isWrapper; first|(rw [if_pos (by decide +kernel)]; kernel_rfl)|(rw [if_neg (by decide +kernel)]; exact ⟨rfl,rfl⟩))
  (fun os started H enc _ F=>a3I os started H enc F)

end Go.Proofs.YtcmfklfjebaeoaaGreatDoor
