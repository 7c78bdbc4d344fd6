/- The law ChangeFull answers true for all inputs: the tied card of that row; no conditions. -/
import Derived.Test.YtdlgfdncpemcnaaGreatDoorRow0
import Derived.Test.YtdlgfdncpemcnaaGreatDoorPostV
import Derived.Test.YtdlgfdncpemcnaaGreatDoorCL
set_option linter.unusedVariables false
namespace Go.Proofs.YtdlgfdncpemcnaaGreatDoor
open Go.Clock Go.ChangeShapes Go.WideShapes Go.ChangeAt Go.WideMaps Go.WideElems Go.RowKit Go.ChangeMaps Go.Cb Go.Cb.CodeA
set_option maxRecDepth 100000
theorem a2X (os:Os) (started:os.Started) (H:Type) (enc:TypeId×Value→H) (F:Stop.Interp) :
 ReturnsInHanded { calm:=true } Tryz.checked os 3 .any (fun w args=>(Rows.changeFullSpec.pre enc Tryz.prog Tryz.f3 [] false w args∧laidMetH Tryz.prog a4D w)∧sizedMet enc Tryz.prog Tryz.f3 (OpenSpec.ofChange Rows.changeFullSpec) false w args)
  ((OpenSpec.ofChange Rows.changeFullSpec).postWith enc Tryz.prog Tryz.f3 F (outsideKept [.timePasses]) false true false):=by
 refine returns_of_change (C:=Tryz.checked) (X:=fun w _=>laidMetH Tryz.prog a4D w) (fun _ _ _ hh h=>h.of_heap hh) own started (by kernel_rfl) Tryz.func3
  (witness_at (enc:=enc) (C:=Tryz.checked) (os:=os) (X:=fun w _=>laidMetH Tryz.prog a4D w) (World.doorLaid Tryz.prog 400 os) #[.int .u8 0] 8 rfl (World.shaped_of_RefB (by kernel_rfl) (by kernel_rfl)) (by kernel_rfl) (by kernel_rfl) (by kernel_rfl) (b4x os _)) ?_
 intro W base args ds gs before hval0 hW _ _ hL _
 have hval:∀ (j:Nat) t v,Tryz.f3.params[j]?=some t→args[j]?=some v→Value.okWide Tryz.prog W .any base t v:=hval0
 have hW':=hW
 obtain ⟨p,q,hA0,hV,rfl,hfz,hnd⟩:=hW
 have hA:DataW.TrodAll enc Tryz.prog W 0 (fun _=>true) true Tryz.f3.params.toList args.toList ds p:=hA0
 rw [Tryz.params3] at hA hval
 obtain ⟨v0,d0,rfl,rfl,h0⟩:=trodAll_one hA
 obtain ⟨rfl,rfl⟩:=trodVars_none hV
 obtain ⟨i0,rfl,rfl,rfl,hk0⟩:=open_int Tryz.underlying5 (hval 0 5 v0 rfl rfl) h0
 have hu0:(Lit.int .u8 i0).wf=true:=hk0
 have hb0:0≤i0∧i0 < 256:=by
  have:=hu0
  simp [Lit.wf,IntKind.min,IntKind.max,IntKind.signed,IntKind.bits] at this
  omega
 obtain ⟨m0,rfl⟩:=Int.eq_ofNat_of_zero_le hb0.1
 obtain ⟨n,st',hrun⟩:=b9x m0 (by omega)
 refine (c97 c4r hrun (fun x hx=>?_) (a5J hL) (vs:=[.int .u8 m0]) ?_).mono fun e W' ⟨he,hw⟩=>?_
 · simp only [List.mem_cons,List.not_mem_nil,or_false] at hx
   subst hx
   rfl
 · simp only [RelL,Rel]
   exact ⟨_,_,rfl,rfl,rfl⟩
 · subst he
   have hos:W'.os=W.os:=hw.kept.1
   have e:({ W' with os:=W.os }:World)=W':=by rw [← hos]
   refine ⟨_,rfl,?_,hos ▸ Later.refl _⟩
   rw [e]
   refine a5I (pa:=[]) (pv:=[]) hW' (fun _ _ _=>trodAll_mk1 (shut_bool Tryz.underlying4 _)) (fun sp _=>?_) (fun _ _=>rfl) rfl (World.keptBut_mono (fun p hp=>hp.elim) hw.kept) hw.fz (ok_one (by kernel_rfl) rfl (okWide_bool_mk Tryz.underlying4 _))
   rw [Tryz.params3]
   exact trodAll_mk1 (shut_int Tryz.underlying5 hk0)
theorem j1:Rows.changeFullRow.wf (OpenSpec.ofChange Rows.changeFullSpec)=true:=by kernel_rfl
theorem j2:laidOutB Tryz.prog=true:=by kernel_rfl
theorem j3:mapsRowed Tryz.prog=true:=by kernel_rfl
theorem j4:(Rows.changeFullRow.inPlace == Tryz.prog.inPlace 3)=true:=by kernel_rfl
theorem j5:(Rows.changeFullRow.unfollowed == Tryz.prog.unfollowed 3)=true:=by kernel_rfl
theorem j6:(Rows.changeFullRow.recurses == Tryz.prog.recurses 3)=true:=by kernel_rfl
theorem j7:(Rows.changeFullRow.named == Tryz.prog.varsNamed 3)=true:=by kernel_rfl
theorem j8:(Rows.changeFullRow.plainKeys == Tryz.prog.plainKeys)=true:=by kernel_rfl
theorem h3g:joinedFacts Tryz.prog 3 Tryz.f3 Rows.changeFullSpec Rows.changeFullRow=true:=by
 simp only [joinedFacts,j1,j2,j3,j4,j5,j6,j7,j8,Bool.true_and,Bool.and_true]
 kernel_rfl
theorem a3v:Rows.ChangeFullSaid :=
 holds_of_wide_time 3 Tryz.f3 rfl rfl rfl rfl rfl rfl rfl ⟨rfl,rfl,rfl,rfl,rfl⟩ rfl rfl rfl rfl rfl (by kernel_rfl) Tryz.func3 h3g
  (of_decide_eq_true (by kernel_rfl)) (by unfold Func.isWrapper; first|(rw [if_pos (by decide +kernel)]; kernel_rfl)|(rw [if_neg (by decide +kernel)]; exact ⟨rfl,rfl⟩))
  (fun os started H enc _ F=>a2X os started H enc F)

theorem changeFull_card:Rows.ChangeFullCardSaid :=
 Claim7.holds_tied_plain_at .later [] [.data,.data,.data,.sentinel,.sentinel,.widerDeep] true (true, "23ea5bf2bd92bf40dfa5f980a1a415244fce0ed6176a25db9029036bad3b3276") true
  a3v (fun _ h=>by cases h) (by kernel_rfl) (fun _ h=>by cases h) changeFull_row_tie rfl ⟨rfl,rfl⟩ (by kernel_rfl) rfl
  (fun f fn hf hfn=>by
   obtain rfl:f=3:=Option.some.inj ((show Tryz.prog.funcNamed "columbary/columbarylaw14.ChangeFull"=some 3 by kernel_rfl).symm.trans hf) |>.symm
   obtain rfl:fn=Tryz.f3:=(Option.some.inj (Tryz.func3.symm.trans hfn)).symm
   exact ⟨by kernel_rfl,fun j t ht=>by
    rw [Tryz.params3] at ht
    have hm:t∈[5]:=by simpa using Array.mem_of_getElem? ht
    have hall:([5].all fun u=>!Tryz.prog.wantsStandIn u)=true:=by kernel_rfl
    exact (show Tryz.prog.wantsStandIn t=false by simpa using List.all_eq_true.1 hall t hm)⟩)
  (by kernel_rfl)
#print axioms changeFull_card
end Go.Proofs.YtdlgfdncpemcnaaGreatDoor
