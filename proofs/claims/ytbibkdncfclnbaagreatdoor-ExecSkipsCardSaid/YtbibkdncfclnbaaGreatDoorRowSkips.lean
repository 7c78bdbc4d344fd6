/- ExecSkips, as its tied card says it: what is skipped is as if it weren't asked. No conditions beyond the card's own. -/
import Derived.Test.YtbibkdncfclnbaaGreatDoorOpenT
import Derived.Test.YtbibkdncfclnbaaGreatDoorLK2
namespace Go.Proofs.YtbibkdncfclnbaaGreatDoor
open Go.ChangeShapes Go.WideShapes Go.ChangeAt Go.WideMaps Go.WideElems Go.RowKit Go.ChangeMaps Go.Cb Go.Cb.CodeA
set_option maxRecDepth 100000
set_option linter.unusedVariables false
theorem a4G (os:Os) (started:os.Started) (H:Type) (enc:TypeId×Value→H) :
 ReturnsInHanded {} Tryz.checked os 7 .any (fun w args=>(Rows.execSkipsSpec.pre enc Tryz.prog Tryz.f7 [] false w args∧laidMetH Tryz.prog a4X w)∧sizedMet enc Tryz.prog Tryz.f7 (OpenSpec.ofChange Rows.execSkipsSpec) false w args)
  (Rows.execSkipsSpec.post enc Tryz.prog Tryz.f7 false true false false):=by
 refine returnsInHanded_of_change_and (C:=Tryz.checked) (X:=fun w _=>laidMetH Tryz.prog a4X w) (fun _ _ _ hh h=>h.of_heap hh) own started (by kernel_rfl) Tryz.func7
  (ChangeSpec.witness_shaped (enc:=enc) (C:=Tryz.checked) (os:=os) (X:=fun w _=>laidMetH Tryz.prog a4X w) false (World.doorLaid Tryz.prog 400 os) #[.slice none 0 0,.int .u8 0] 8 rfl (World.shaped_of_RefB (by kernel_rfl) (by kernel_rfl)) (by kernel_rfl) (by kernel_rfl) (by kernel_rfl) (b9r os _)) ?_
 intro W base args ds gs before hval0 hW _ _ hL _
 have hval:∀ (j:Nat) t v,Tryz.f7.params[j]?=some t→args[j]?=some v→Value.okWide Tryz.prog W .any base t v:=hval0
 have hW':=hW
 obtain ⟨p,q,hA0,hV,rfl,hfz,hnd⟩:=hW
 have hA:DataW.TrodAll enc Tryz.prog W 0 (fun _=>true) true Tryz.f7.params.toList args.toList ds p:=hA0
 rw [Tryz.params7] at hA hval
 obtain ⟨v0,v1,d0,d1,a0,a1,rfl,rfl,rfl,h0,h1⟩:=trodAll_two hA

 obtain ⟨rfl,rfl⟩:=trodVars_none hV
 obtain ⟨b0,len0,cap0,rfl⟩:=okWide_slice Tryz.underlying22 (hval 0 22 v0 rfl rfl)
 obtain ⟨fuel0,h0'⟩:=id h0
 obtain ⟨x0,rows0,e0,_,_,R0,rel0⟩:=a8v (R:=fun r=>∃ s:Thg,s.OK∧r=s.row) Tryz.underlying22 (by rw [c70]; decide) (fun m cs y _ hy=>b4S hy) h0'
 have e0:=(List.cons.inj (show [_]=[_] from e0)).1
 subst e0
 obtain ⟨l0,rfl,hl0⟩:=a7s R0
 obtain ⟨k1,rfl,rfl,rfl,hk1⟩:=open_int Tryz.underlying5 (hval 1 5 v1 rfl rfl) h1
 have hw1:(Lit.int .u8 k1).wf=true:=hk1
 have hb1:0≤k1∧k1 < 256:=by
  have:=hw1
  simp [Lit.wf,IntKind.min,IntKind.max,IntKind.signed,IntKind.bits] at this
  omega
 obtain ⟨a,st',⟨n,hrun⟩,ha⟩:=Go.Cb.CodeA.skips_law l0 hl0 k1 hb1
 subst ha
 refine (x9 c1H hrun (fun x hx=>?_) (a9o hL) (vs:=[.slice b0 len0 cap0,.int .u8 k1]) ?_).mono fun e W' ⟨he,hw⟩=>?_
 · simp only [List.mem_cons,List.not_mem_nil,or_false] at hx
   rcases hx with rfl|rfl <;> rfl
 · simp only [RelL]
   exact ⟨_,_,rfl,rel0,_,_,rfl,by simp only [Rel],rfl⟩
 · subst he
   refine ⟨_,rfl,?_⟩
   have hlt:∀ y∈a0++[],y.block < W.heap.size:=fun y hp=>hW'.lt y (by simpa using hp)
   have hsame:∀ y∈a0++[],W.sameAt W' y:=fun y hp=>by
    have ho:=hw.old y.block (hlt y hp)
    cases y with
    | cell b off=>show W'.cell? ⟨b,off,none⟩=W.cell? ⟨b,off,none⟩; unfold World.cell?; rw [show W'.heap[b]?=W.heap[b]? from ho]
    | map b=>exact ho
   refine a9p (pa:=a0++[]) (pv:=[]) hW' (fun _ _ _=>trodAll_mk1 (shut_bool Tryz.underlying4 _)) (fun sp hsp=>?_) (fun _ _=>rfl) (by simp) (World.keptBut_mono (fun p hp=>hp.elim) hw.kept) hw.fz (ok_one (by kernel_rfl) rfl (okWide_bool_mk Tryz.underlying4 _))
   have hsp:∀ y∈a0++[],sp y.block=true:=fun y hp=>hsp y (by simpa using hp)
   rw [Tryz.params7]
   exact trodAll_mk2 (WideElems.Trod_stays (P:=Tryz.prog) (by kernel_rfl) (by kernel_rfl) (of_decide_eq_true (by kernel_rfl)) h0 (fun p hp=>hsame p (by first|exact hp|simp [hp])) (fun p hp=>hsp p (by first|exact hp|simp [hp]))) (shut_int Tryz.underlying5 hk1)
theorem a5Y:Rows.ExecSkipsSaid :=
 OpenClaim.holds_of_wide 7 Tryz.f7 rfl rfl rfl rfl rfl rfl rfl ⟨rfl,rfl,rfl,rfl,rfl⟩ rfl rfl rfl rfl rfl (by kernel_rfl) Tryz.func7 (by kernel_rfl)
  (of_decide_eq_true (by kernel_rfl)) (by unfold Func.isWrapper; first|(rw [if_pos (by decide +kernel)]; kernel_rfl)|(rw [if_neg (by decide +kernel)]; exact ⟨rfl,rfl⟩))
  (fun os started H enc _=>a4G os started H enc)

theorem execSkips_card:Rows.ExecSkipsCardSaid :=
 Claim7.holds_tied_plain_at .later [] [.data,.data,.data,.widerDeep] true (true, "577862d6530adc5d20eaf74db58d6220fb32a5fde0f0ade6b44091254e9baa51") false
  a5Y (fun _ h=>by cases h) (by kernel_rfl) (fun _ h=>by cases h) execSkips_row_tie rfl ⟨rfl,rfl⟩ (by kernel_rfl) rfl
  (fun f fn hf hfn=>by
   obtain rfl:f=7:=Option.some.inj ((show Tryz.prog.funcNamed "columbary/columbarylaw13.ExecSkips"=some 7 by kernel_rfl).symm.trans hf) |>.symm
   obtain rfl:fn=Tryz.f7:=(Option.some.inj (Tryz.func7.symm.trans hfn)).symm
   exact ⟨by kernel_rfl,fun j t ht=>by
    rw [Tryz.params7] at ht
    have hm:t∈[22,5]:=by simpa using Array.mem_of_getElem? ht
    have hall:([22,5].all fun u=>!Tryz.prog.wantsStandIn u)=true:=by kernel_rfl
    exact (show Tryz.prog.wantsStandIn t=false by simpa using List.all_eq_true.1 hall t hm)⟩)
  (by kernel_rfl)
#print axioms execSkips_card
end Go.Proofs.YtbibkdncfclnbaaGreatDoor
