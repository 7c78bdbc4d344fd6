import Derived.Test.YtbibkdncfclnbaaGreatDoorOpenT
import Derived.Test.YtbibkdncfclnbaaGreatDoorLP3
namespace Go.Proofs.YtbibkdncfclnbaaGreatDoor
open Go.ChangeShapes Go.WideShapes Go.ChangeAt Go.WideMaps Go.WideElems Go.RowKit Go.ChangeMaps Go.Cb Go.Cb.CodeA
set_option maxRecDepth 100000
set_option linter.unusedVariables false
theorem a5B (os:Os) (started:os.Started) (H:Type) (enc:TypeId×Value→H) :
 ReturnsInHanded {} Tryz.checked os 8 .any (fun w args=>(Rows.execPartsSpec.pre enc Tryz.prog Tryz.f8 [] false w args∧laidMetH Tryz.prog a6P w)∧sizedMet enc Tryz.prog Tryz.f8 (OpenSpec.ofChange Rows.execPartsSpec) false w args)
  (Rows.execPartsSpec.post enc Tryz.prog Tryz.f8 false true false false):=by
 refine returnsInHanded_of_change_and (C:=Tryz.checked) (X:=fun w _=>laidMetH Tryz.prog a6P w) (fun _ _ _ hh h=>h.of_heap hh) own started (by kernel_rfl) Tryz.func8
  (ChangeSpec.witness_shaped (enc:=enc) (C:=Tryz.checked) (os:=os) (X:=fun w _=>laidMetH Tryz.prog a6P w) false (World.doorLaid Tryz.prog 400 os) #[.slice none 0 0,.int .u8 0,.int .u8 0] 8 rfl (World.shaped_of_RefB (by kernel_rfl) (by kernel_rfl)) (by kernel_rfl) (by kernel_rfl) (by kernel_rfl) (b9i os _)) ?_
 intro W base args ds gs before hval0 hW _ hwt hL _
 have hval:∀ (j:Nat) t v,Tryz.f8.params[j]?=some t→args[j]?=some v→Value.okWide Tryz.prog W .any base t v:=hval0
 have hW':=hW
 obtain ⟨p,q,hA0,hV,rfl,hfz,hnd⟩:=hW
 have hA:DataW.TrodAll enc Tryz.prog W 0 (fun _=>true) true Tryz.f8.params.toList args.toList ds p:=hA0
 rw [Tryz.params8] at hA hval
 obtain ⟨v0,v1,v2,d0,d1,d2,a0,a1,a2,rfl,rfl,rfl,h0,h1,h2⟩:=trodAll_three hA
 obtain ⟨rfl,rfl⟩:=trodVars_none hV
 obtain ⟨b0,len0,cap0,rfl⟩:=okWide_slice Tryz.underlying22 (hval 0 22 v0 rfl rfl)
 obtain ⟨fuel0,h0'⟩:=id h0
 obtain ⟨x0,rows0,e0,_,_,R0,rel0⟩:=a9C (R:=fun r=>∃ s:Thg,s.OK∧r=s.row) Tryz.underlying22 (by rw [c70]; decide) (fun m cs y _ hY hy=>b6m hY hy) h0' (fun es sp he d hd=>b3v hwt (j:=0) (by kernel_rfl) (by rw [show d0=DataW.slice es sp from he]; rfl) d hd)
 have e0:=(List.cons.inj (show [_]=[_] from e0)).1
 subst e0
 obtain ⟨l0,rfl,hl0⟩:=a8O R0
 obtain ⟨k1,rfl,rfl,rfl,hk1⟩:=open_int Tryz.underlying5 (hval 1 5 v1 rfl rfl) h1
 have hw1:(Lit.int .u8 k1).wf=true:=hk1
 have hb1:0≤k1∧k1 < 256:=by
  have:=hw1
  simp [Lit.wf,IntKind.min,IntKind.max,IntKind.signed,IntKind.bits] at this
  omega
 obtain ⟨k2,rfl,rfl,rfl,hk2⟩:=open_int Tryz.underlying5 (hval 2 5 v2 rfl rfl) h2
 have hw2:(Lit.int .u8 k2).wf=true:=hk2
 have hb2:0≤k2∧k2 < 256:=by
  have:=hw2
  simp [Lit.wf,IntKind.min,IntKind.max,IntKind.signed,IntKind.bits] at this
  omega
 obtain ⟨a,st',⟨n,hrun⟩,ha⟩:=Go.Cb.CodeA.parts_law l0 hl0 k1 hb1 k2 hb2
 subst ha
 refine (c7V c3Y hrun (fun x hx=>?_) (b0E hL) (vs:=[.slice b0 len0 cap0,.int .u8 k1,.int .u8 k2]) ?_).mono fun e W' ⟨he,hw⟩=>?_
 · simp only [List.mem_cons,List.not_mem_nil,or_false] at hx
   rcases hx with rfl|rfl|rfl <;> rfl
 · simp only [RelL]
   exact ⟨_,_,rfl,rel0,_,_,rfl,by simp only [Rel],_,_,rfl,by simp only [Rel],rfl⟩
 · subst he
   refine ⟨_,rfl,?_⟩
   have hlt:∀ y∈a0++([]++[]),y.block < W.heap.size:=fun y hp=>hW'.lt y (by simpa using hp)
   have hsame:∀ y∈a0++([]++[]),W.sameAt W' y:=fun y hp=>by
    have ho:=hw.old y.block (hlt y hp)
    cases y with
    | cell b off=>show W'.cell? ⟨b,off,none⟩=W.cell? ⟨b,off,none⟩; unfold World.cell?; rw [show W'.heap[b]?=W.heap[b]? from ho]
    | map b=>exact ho
   refine b0F (pa:=a0++([]++[])) (pv:=[]) hW' (fun _ _ _=>trodAll_mk1 (shut_bool Tryz.underlying4 _)) (fun sp hsp=>?_) (fun _ _=>rfl) (by simp) (World.keptBut_mono (fun p hp=>hp.elim) hw.kept) hw.fz (ok_one (by kernel_rfl) rfl (okWide_bool_mk Tryz.underlying4 _))
   have hsp:∀ y∈a0++([]++[]),sp y.block=true:=fun y hp=>hsp y (by simpa using hp)
   rw [Tryz.params8]
   exact trodAll_mk3 (WideElems.Trod_stays (P:=Tryz.prog) (by kernel_rfl) (by kernel_rfl) (of_decide_eq_true (by kernel_rfl)) h0 (fun p hp=>hsame p (by first|exact hp|simp [hp])) (fun p hp=>hsp p (by first|exact hp|simp [hp]))) (shut_int Tryz.underlying5 hk1) (shut_int Tryz.underlying5 hk2)
theorem a6s:Rows.ExecPartsSaid :=
 OpenClaim.holds_of_wide 8 Tryz.f8 rfl rfl rfl rfl rfl rfl rfl ⟨rfl,rfl,rfl,rfl,rfl⟩ rfl rfl rfl rfl rfl (by kernel_rfl) Tryz.func8 (by kernel_rfl)
  (of_decide_eq_true (by kernel_rfl)) (by unfold Func.isWrapper; first|(rw [if_pos (by decide +kernel)]; kernel_rfl)|(rw [if_neg (by decide +kernel)]; exact ⟨rfl,rfl⟩))
  (fun os started H enc _=>a5B os started H enc)
theorem execParts_card:Rows.ExecPartsCardSaid :=
 Claim7.holds_tied_plain_at .later [] [.data,.data,.data,.widerDeep] true (true, "577862d6530adc5d20eaf74db58d6220fb32a5fde0f0ade6b44091254e9baa51") false
  a6s (fun _ h=>by cases h) (by kernel_rfl) (fun _ h=>by cases h) execParts_row_tie rfl ⟨rfl,rfl⟩ (by kernel_rfl) rfl
  (fun f fn hf hfn=>by
   obtain rfl:f=8:=Option.some.inj ((show Tryz.prog.funcNamed "columbary/columbarylaw13.ExecParts"=some 8 by kernel_rfl).symm.trans hf) |>.symm
   obtain rfl:fn=Tryz.f8:=(Option.some.inj (Tryz.func8.symm.trans hfn)).symm
   exact ⟨by kernel_rfl,fun j t ht=>by
    rw [Tryz.params8] at ht
    have hm:t∈[22,5,5]:=by simpa using Array.mem_of_getElem? ht
    have hall:([22,5,5].all fun u=>!Tryz.prog.wantsStandIn u)=true:=by kernel_rfl
    exact (show Tryz.prog.wantsStandIn t=false by simpa using List.all_eq_true.1 hall t hm)⟩)
  (by kernel_rfl)
#print axioms execParts_card
end Go.Proofs.YtbibkdncfclnbaaGreatDoor
