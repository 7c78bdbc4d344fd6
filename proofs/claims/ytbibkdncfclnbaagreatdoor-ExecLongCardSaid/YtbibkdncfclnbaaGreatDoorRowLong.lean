/- ExecLong, as its tied card says it: lists within lists come to an end. No conditions beyond the card's own. -/
import Derived.Test.YtbibkdncfclnbaaGreatDoorOpenT
import Derived.Test.YtbibkdncfclnbaaGreatDoorLL2
namespace Go.Proofs.YtbibkdncfclnbaaGreatDoor
open Go.ChangeShapes Go.WideShapes Go.ChangeAt Go.WideMaps Go.WideElems Go.RowKit Go.ChangeMaps Go.Cb Go.Cb.CodeA
set_option maxRecDepth 100000
set_option linter.unusedVariables false
theorem a4S (os:Os) (started:os.Started) (H:Type) (enc:TypeId×Value→H) :
 ReturnsInHanded {} Tryz.checked os 6 .any (fun w args=>(Rows.execLongSpec.pre enc Tryz.prog Tryz.f6 [] false w args∧laidMetH Tryz.prog a5C w)∧sizedMet enc Tryz.prog Tryz.f6 (OpenSpec.ofChange Rows.execLongSpec) false w args)
  (Rows.execLongSpec.post enc Tryz.prog Tryz.f6 false true false false):=by
 refine returnsInHanded_of_change_and (C:=Tryz.checked) (X:=fun w _=>laidMetH Tryz.prog a5C w) (fun _ _ _ hh h=>h.of_heap hh) own started (by kernel_rfl) Tryz.func6
  (ChangeSpec.witness_shaped (enc:=enc) (C:=Tryz.checked) (os:=os) (X:=fun w _=>laidMetH Tryz.prog a5C w) false (World.doorLaid Tryz.prog 400 os) #[.int .u8 0] 8 rfl (World.shaped_of_RefB (by kernel_rfl) (by kernel_rfl)) (by kernel_rfl) (by kernel_rfl) (by kernel_rfl) (b68 os _)) ?_
 intro W base args ds gs before hval0 hW _ _ hL _
 have hval:∀ (j:Nat) t v,Tryz.f6.params[j]?=some t→args[j]?=some v→Value.okWide Tryz.prog W .any base t v:=hval0
 have hW':=hW
 obtain ⟨p,q,hA0,hV,rfl,hfz,hnd⟩:=hW
 have hA:DataW.TrodAll enc Tryz.prog W 0 (fun _=>true) true Tryz.f6.params.toList args.toList ds p:=hA0
 rw [Tryz.params6] at hA hval
 obtain ⟨v0,d0,rfl,rfl,h0⟩:=trodAll_one hA

 obtain ⟨rfl,rfl⟩:=trodVars_none hV
 obtain ⟨k0,rfl,rfl,rfl,hk0⟩:=open_int Tryz.underlying5 (hval 0 5 v0 rfl rfl) h0
 have hw0:(Lit.int .u8 k0).wf=true:=hk0
 have hb0:0≤k0∧k0 < 256:=by
  have:=hw0
  simp [Lit.wf,IntKind.min,IntKind.max,IntKind.signed,IntKind.bits] at this
  omega
 obtain ⟨a,st',⟨n,hrun⟩,ha⟩:=Go.Cb.CodeA.long_law k0 hb0
 subst ha
 refine (q9 c1K hrun (fun x hx=>?_) (a8R hL) (vs:=[.int .u8 k0]) ?_).mono fun e W' ⟨he,hw⟩=>?_
 · simp only [List.mem_cons,List.not_mem_nil,or_false] at hx
   subst hx
   rfl
 · simp only [RelL]
   exact ⟨_,_,rfl,by simp only [Rel],rfl⟩
 · subst he
   refine ⟨_,rfl,?_⟩
   refine a8Q (pa:=[]) (pv:=[]) hW' (fun _ _ _=>trodAll_mk1 (shut_bool Tryz.underlying4 _)) (fun sp _=>?_) (fun _ _=>rfl) rfl (World.keptBut_mono (fun p hp=>hp.elim) hw.kept) hw.fz (ok_one (by kernel_rfl) rfl (okWide_bool_mk Tryz.underlying4 _))
   rw [Tryz.params6]
   exact trodAll_mk1 (shut_int Tryz.underlying5 hk0)
theorem a6Z:Rows.ExecLongSaid :=
 OpenClaim.holds_of_wide 6 Tryz.f6 rfl rfl rfl rfl rfl rfl rfl ⟨rfl,rfl,rfl,rfl,rfl⟩ rfl rfl rfl rfl rfl (by kernel_rfl) Tryz.func6 (by kernel_rfl)
  (of_decide_eq_true (by kernel_rfl)) (by unfold Func.isWrapper; first|(rw [if_pos (by decide +kernel)]; kernel_rfl)|(rw [if_neg (by decide +kernel)]; exact ⟨rfl,rfl⟩))
  (fun os started H enc _=>a4S os started H enc)

theorem execLong_card:Rows.ExecLongCardSaid :=
 Claim7.holds_tied_plain_at .later [] [.data,.data,.data,.widerDeep] true (true, "577862d6530adc5d20eaf74db58d6220fb32a5fde0f0ade6b44091254e9baa51") false
  a6Z (fun _ h=>by cases h) (by kernel_rfl) (fun _ h=>by cases h) execLong_row_tie rfl ⟨rfl,rfl⟩ (by kernel_rfl) rfl
  (fun f fn hf hfn=>by
   obtain rfl:f=6:=Option.some.inj ((show Tryz.prog.funcNamed "columbary/columbarylaw13.ExecLong"=some 6 by kernel_rfl).symm.trans hf) |>.symm
   obtain rfl:fn=Tryz.f6:=(Option.some.inj (Tryz.func6.symm.trans hfn)).symm
   exact ⟨by kernel_rfl,fun j t ht=>by
    rw [Tryz.params6] at ht
    have hm:t∈[5]:=by simpa using Array.mem_of_getElem? ht
    have hall:([5].all fun u=>!Tryz.prog.wantsStandIn u)=true:=by kernel_rfl
    exact (show Tryz.prog.wantsStandIn t=false by simpa using List.all_eq_true.1 hall t hm)⟩)
  (by kernel_rfl)
#print axioms execLong_card
end Go.Proofs.YtbibkdncfclnbaaGreatDoor
