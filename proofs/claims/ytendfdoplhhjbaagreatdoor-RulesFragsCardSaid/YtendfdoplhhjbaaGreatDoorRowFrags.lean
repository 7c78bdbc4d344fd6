/- The law RulesFrags answers true for all inputs: the tied card of that row; no conditions. -/
import Derived.Test.YtendfdoplhhjbaaGreatDoorRow0
import Derived.Test.YtendfdoplhhjbaaGreatDoorPostV
import Derived.Test.YtendfdoplhhjbaaGreatDoorFL
set_option linter.unusedVariables false
namespace Go.Proofs.YtendfdoplhhjbaaGreatDoor
open Go.Clock Go.ChangeShapes Go.WideShapes Go.ChangeAt Go.WideMaps Go.WideElems Go.RowKit Go.ChangeMaps Go.Cb Go.Cb.CodeA
set_option maxRecDepth 100000
theorem a01 (os:Os) (started:os.Started) (H:Type) (enc:TypeId×Value→H) (F:Stop.Interp) :
 ReturnsInHanded { calm:=true } Tryz.checked os 4 .any (fun w args=>(Rows.rulesFragsSpec.pre enc Tryz.prog Tryz.f4 [] false w args∧laidMetH Tryz.prog a2U w)∧sizedMet enc Tryz.prog Tryz.f4 (OpenSpec.ofChange Rows.rulesFragsSpec) false w args)
  ((OpenSpec.ofChange Rows.rulesFragsSpec).postWith enc Tryz.prog Tryz.f4 F (outsideKept [.timePasses]) false true false):=by
 refine returns_of_change (C:=Tryz.checked) (X:=fun w _=>laidMetH Tryz.prog a2U w) (fun _ _ _ hh h=>h.of_heap hh) own started (by kernel_rfl) Tryz.func4
  (witness_at (enc:=enc) (C:=Tryz.checked) (os:=os) (X:=fun w _=>laidMetH Tryz.prog a2U w) (World.doorLaid Tryz.prog 400 os) #[.int .u8 0,.bool false,.bool false] 8 rfl (World.shaped_of_RefB (by kernel_rfl) (by kernel_rfl)) (by kernel_rfl) (by kernel_rfl) (by kernel_rfl) (b4L os _)) ?_
 intro W base args ds gs before hval0 hW _ _ hL _
 have hval:∀ (j:Nat) t v,Tryz.f4.params[j]?=some t→args[j]?=some v→Value.okWide Tryz.prog W .any base t v:=hval0
 have hW':=hW
 obtain ⟨p,q,hA0,hV,rfl,hfz,hnd⟩:=hW
 have hA:DataW.TrodAll enc Tryz.prog W 0 (fun _=>true) true Tryz.f4.params.toList args.toList ds p:=hA0
 rw [Tryz.params4] at hA hval
 obtain ⟨v0,v1,v2,d0,d1,d2,a0,b0,c0',rfl,rfl,rfl,h0,h1,h2⟩:=trodAll_three hA
 obtain ⟨rfl,rfl⟩:=trodVars_none hV
 obtain ⟨i0,rfl,rfl,rfl,hk0⟩:=open_int Tryz.underlying5 (hval 0 5 v0 rfl rfl) h0
 have hu0:(Lit.int .u8 i0).wf=true:=hk0
 have hb0:0≤i0∧i0 < 256:=by
  have:=hu0
  simp [Lit.wf,IntKind.min,IntKind.max,IntKind.signed,IntKind.bits] at this
  omega
 obtain ⟨m0,rfl⟩:=Int.eq_ofNat_of_zero_le hb0.1
 obtain ⟨c1,rfl,rfl,rfl⟩:=open_bool Tryz.underlying4 (hval 1 4 v1 rfl rfl) h1
 obtain ⟨c2,rfl,rfl,rfl⟩:=open_bool Tryz.underlying4 (hval 2 4 v2 rfl rfl) h2
 obtain ⟨n,st',hrun⟩:=b1Q m0 c1 c2 (by omega)
 refine (F1 c2e hrun (fun x hx=>?_) (a5S hL) (vs:=[.int .u8 m0,.bool c1,.bool c2]) ?_).mono fun e W' ⟨he,hw⟩=>?_
 · simp only [List.mem_cons,List.not_mem_nil,or_false] at hx
   rcases hx with rfl|rfl|rfl <;> rfl
 · simp only [RelL,Rel]
   exact ⟨_,_,rfl,rfl,_,_,rfl,rfl,_,_,rfl,rfl,rfl⟩
 · subst he
   have hos:W'.os=W.os:=hw.kept.1
   have e:({ W' with os:=W.os }:World)=W':=by rw [← hos]
   refine ⟨_,rfl,?_,hos ▸ Later.refl _⟩
   rw [e]
   refine a5T (pa:=[]) (pv:=[]) hW' (fun _ _ _=>trodAll_mk1 (shut_bool Tryz.underlying4 _)) (fun sp _=>?_) (fun _ _=>rfl) rfl (World.keptBut_mono (fun p hp=>hp.elim) hw.kept) hw.fz (ok_one (by kernel_rfl) rfl (okWide_bool_mk Tryz.underlying4 _))
   rw [Tryz.params4]
   exact trodAll_mk3 (shut_int Tryz.underlying5 hk0) (shut_bool Tryz.underlying4 c1) (shut_bool Tryz.underlying4 c2)
theorem a1R:Rows.RulesFragsSaid :=
 holds_of_wide_time 4 Tryz.f4 rfl rfl rfl rfl rfl rfl rfl ⟨rfl,rfl,rfl,rfl,rfl⟩ rfl rfl rfl rfl rfl (by kernel_rfl) Tryz.func4 (by kernel_rfl)
  (of_decide_eq_true (by kernel_rfl)) (by unfold Func.isWrapper; first|(rw [if_pos (by decide +kernel)]; kernel_rfl)|(rw [if_neg (by decide +kernel)]; exact ⟨rfl,rfl⟩))
  (fun os started H enc _ F=>a01 os started H enc F)

theorem rulesFrags_card:Rows.RulesFragsCardSaid :=
 Claim7.holds_tied_plain_at .later [] [.widerDeep] true (true, "1e731f28abfc77cd0a583b2cda5a8d78fa21364cc2077d73bb566d112eee6c5c") false
  a1R (fun _ h=>by cases h) (by kernel_rfl) (fun _ h=>by cases h) rulesFrags_row_tie rfl ⟨rfl,rfl⟩ (by kernel_rfl) rfl
  (fun f fn hf hfn=>by
   obtain rfl:f=4:=Option.some.inj ((show Tryz.prog.funcNamed "columbary/columbarylaw11.RulesFrags"=some 4 by kernel_rfl).symm.trans hf) |>.symm
   obtain rfl:fn=Tryz.f4:=(Option.some.inj (Tryz.func4.symm.trans hfn)).symm
   exact ⟨by kernel_rfl,fun j t ht=>by
    rw [Tryz.params4] at ht
    have hm:t∈[5,4,4]:=by simpa using Array.mem_of_getElem? ht
    have hall:([5,4,4].all fun u=>!Tryz.prog.wantsStandIn u)=true:=by kernel_rfl
    exact (show Tryz.prog.wantsStandIn t=false by simpa using List.all_eq_true.1 hall t hm)⟩)
  (by kernel_rfl)
#print axioms rulesFrags_card
end Go.Proofs.YtendfdoplhhjbaaGreatDoor
