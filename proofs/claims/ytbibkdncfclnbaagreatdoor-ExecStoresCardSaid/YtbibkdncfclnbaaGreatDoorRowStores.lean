/- The statement ExecStores of columbarylaw13 holds: for all things and all names taken out, the law's call answers true. No conditions but those of the tied card. -/
import Derived.Test.YtbibkdncfclnbaaGreatDoorOpenT
import Derived.Test.YtbibkdncfclnbaaGreatDoorXS
namespace Go.Proofs.YtbibkdncfclnbaaGreatDoor
open Go.ChangeShapes Go.WideShapes Go.ChangeAt Go.WideMaps Go.WideElems Go.RowKit Go.ChangeMaps Go.Cb Go.Cb.CodeA
set_option maxRecDepth 100000
set_option linter.unusedVariables false
theorem a1s (os:Os) (started:os.Started) (H:Type) (enc:TypeId×Value→H) :
 ReturnsInHanded {} Tryz.checked os 10 .any (fun w args=>(Rows.execStoresSpec.pre enc Tryz.prog Tryz.f10 [] false w args∧laidMetH Tryz.prog a3T w)∧sizedMet enc Tryz.prog Tryz.f10 (OpenSpec.ofChange Rows.execStoresSpec) false w args)
  (Rows.execStoresSpec.post enc Tryz.prog Tryz.f10 false true false false):=by
 refine returnsInHanded_of_change_and (C:=Tryz.checked) (X:=fun w _=>laidMetH Tryz.prog a3T w) (fun _ _ _ hh h=>h.of_heap hh) own started (by kernel_rfl) Tryz.func10
  (ChangeSpec.witness_shaped (enc:=enc) (C:=Tryz.checked) (os:=os) (X:=fun w _=>laidMetH Tryz.prog a3T w) false (World.doorLaid Tryz.prog 400 os) #[.slice none 0 0,.slice none 0 0] 8 rfl (World.shaped_of_RefB (by kernel_rfl) (by kernel_rfl)) (by kernel_rfl) (by kernel_rfl) (by kernel_rfl) (b5I os _)) ?_
 intro W base args ds gs before hval0 hW _ _ hL _
 have hval:∀ (j:Nat) t v,Tryz.f10.params[j]?=some t→args[j]?=some v→Value.okWide Tryz.prog W .any base t v:=hval0
 have hW':=hW
 obtain ⟨p,q,hA0,hV,rfl,hfz,hnd⟩:=hW
 have hA:DataW.TrodAll enc Tryz.prog W 0 (fun _=>true) true Tryz.f10.params.toList args.toList ds p:=hA0
 rw [Tryz.params10] at hA hval
 obtain ⟨v0,v1,d0,d1,a0,a1,rfl,rfl,rfl,h0,h1⟩:=trodAll_two hA

 obtain ⟨rfl,rfl⟩:=trodVars_none hV
 obtain ⟨b0,len0,cap0,rfl⟩:=okWide_slice Tryz.underlying22 (hval 0 22 v0 rfl rfl)
 obtain ⟨fuel0,h0'⟩:=id h0
 obtain ⟨x0,rows0,e0,_,_,R0,rel0⟩:=a05 (R:=fun r=>∃ s:Thg,s.OK∧r=s.row) Tryz.underlying22 (by rw [c70]; decide) (fun m cs y _ hy=>b1g hy) h0'
 have e0:=(List.cons.inj (show [_]=[_] from e0)).1
 subst e0
 obtain ⟨l0,rfl,hl0⟩:=a1m R0
 obtain ⟨b1,len1,cap1,rfl⟩:=okWide_slice Tryz.underlying62 (hval 1 62 v1 rfl rfl)
 obtain ⟨fuel1,h1'⟩:=id h1
 obtain ⟨x1,rows1,e1,_,_,R1,rel1⟩:=a05 (R:=fun r=>∃ s:Int,0≤s∧r=C9 s) Tryz.underlying62 (by rw [c5]; decide) (fun m cs y _ hy=>a1C hy) h1'
 have e1:=(List.cons.inj (show [_]=[_] from e1)).1
 subst e1
 obtain ⟨l1,rfl,hl1⟩:=a1m R1
 obtain ⟨a,st',⟨n,hrun⟩,ha⟩:=Go.Cb.CodeA.stores_am l0 hl0 l1 hl1
 subst ha
 refine (D3 b7A hrun (fun x hx=>?_) (a6I hL) (vs:=[.slice b0 len0 cap0,.slice b1 len1 cap1]) ?_).mono fun e W' ⟨he,hw⟩=>?_
 · simp only [List.mem_cons,List.not_mem_nil,or_false] at hx
   rcases hx with rfl|rfl <;> rfl
 · simp only [RelL]
   exact ⟨_,_,rfl,rel0,_,_,rfl,rel1,rfl⟩
 · subst he
   refine ⟨_,rfl,?_⟩
   have hlt:∀ p∈a0++a1,p.block < W.heap.size:=fun p hp=>hW'.lt p (by simpa using hp)
   have hsame:∀ p∈a0++a1,W.sameAt W' p:=fun p hp=>by
    have ho:=hw.old p.block (hlt p hp)
    cases p with
    | cell b off=>show W'.cell? ⟨b,off,none⟩=W.cell? ⟨b,off,none⟩; unfold World.cell?; rw [show W'.heap[b]?=W.heap[b]? from ho]
    | map b=>exact ho
   refine a6H (pa:=a0++a1) (pv:=[]) hW' (fun _ _ _=>trodAll_mk1 (shut_bool Tryz.underlying4 _)) (fun sp hsp=>?_) (fun _ _=>rfl) (by simp) (World.keptBut_mono (fun p hp=>hp.elim) hw.kept) hw.fz (ok_one (by kernel_rfl) rfl (okWide_bool_mk Tryz.underlying4 _))
   have hsp:∀ p∈a0++a1,sp p.block=true:=fun p hp=>hsp p (by simpa using hp)
   rw [Tryz.params10]
   exact trodAll_mk2 (WideElems.Trod_stays (P:=Tryz.prog) (by kernel_rfl) (by kernel_rfl) (of_decide_eq_true (by kernel_rfl)) h0 (fun p hp=>hsame p (by first|exact hp|simp [hp])) (fun p hp=>hsp p (by first|exact hp|simp [hp]))) (WideElems.Trod_stays (P:=Tryz.prog) (by kernel_rfl) (by kernel_rfl) (of_decide_eq_true (by kernel_rfl)) h1 (fun p hp=>hsame p (by first|exact hp|simp [hp])) (fun p hp=>hsp p (by first|exact hp|simp [hp])))
theorem a2S:Rows.ExecStoresSaid :=
 OpenClaim.holds_of_wide 10 Tryz.f10 rfl rfl rfl rfl rfl rfl rfl ⟨rfl,rfl,rfl,rfl,rfl⟩ rfl rfl rfl rfl rfl (by kernel_rfl) Tryz.func10 (by kernel_rfl)
  (of_decide_eq_true (by kernel_rfl)) (by unfold Func.isWrapper; first|(rw [if_pos (by decide +kernel)]; kernel_rfl)|(rw [if_neg (by decide +kernel)]; exact ⟨rfl,rfl⟩))
  (fun os started H enc _=>a1s os started H enc)

theorem execStores_card:Rows.ExecStoresCardSaid :=
 Claim7.holds_tied_plain_at .later [] [.data,.data,.data,.widerDeep] true (true, "577862d6530adc5d20eaf74db58d6220fb32a5fde0f0ade6b44091254e9baa51") false
  a2S (fun _ h=>by cases h) (by kernel_rfl) (fun _ h=>by cases h) execStores_row_tie rfl ⟨rfl,rfl⟩ (by kernel_rfl) rfl
  (fun f fn hf hfn=>by
   obtain rfl:f=10:=Option.some.inj ((show Tryz.prog.funcNamed "columbary/columbarylaw13.ExecStores"=some 10 by kernel_rfl).symm.trans hf) |>.symm
   obtain rfl:fn=Tryz.f10:=(Option.some.inj (Tryz.func10.symm.trans hfn)).symm
   exact ⟨by kernel_rfl,fun j t ht=>by
    rw [Tryz.params10] at ht
    have hm:t∈[22,62]:=by simpa using Array.mem_of_getElem? ht
    have hall:([22,62].all fun u=>!Tryz.prog.wantsStandIn u)=true:=by kernel_rfl
    exact (show Tryz.prog.wantsStandIn t=false by simpa using List.all_eq_true.1 hall t hm)⟩)
  (by kernel_rfl)
#print axioms execStores_card
end Go.Proofs.YtbibkdncfclnbaaGreatDoor
