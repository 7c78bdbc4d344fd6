/- CollectFields holds as the card says it, for every document text, every type text and every value of Input. -/
import Derived.Test.YthnliekianmljaaGreatDoorRow0
import Derived.Test.YthnliekianmljaaGreatDoorPostV
import Derived.Test.YthnliekianmljaaGreatDoorL2
import Derived.Test.YthnliekianmljaaGreatDoorOpenV
namespace Go.Proofs.YthnliekianmljaaGreatDoor
open Go.ChangeShapes Go.WideShapes Go.ChangeAt Go.WideMaps Go.WideElems Go.RowKit Go.ChangeMaps Go.Cb Go.Cb.CodeA
set_option maxRecDepth 100000
set_option linter.unusedVariables false
theorem a1s (os:Os) (started:os.Started) (H:Type) (enc:TypeId×Value→H) :
 ReturnsInHanded {} Tryz.checked os 8 .any (fun w args=>(Rows.collectFieldsSpec.pre enc Tryz.prog Tryz.f8 [] false w args∧laidMetH Tryz.prog a6i w)∧sizedMet enc Tryz.prog Tryz.f8 (OpenSpec.ofChange Rows.collectFieldsSpec) false w args)
  (Rows.collectFieldsSpec.post enc Tryz.prog Tryz.f8 false true false false):=by
 refine returnsInHanded_of_change_and (C:=Tryz.checked) (X:=fun w _=>laidMetH Tryz.prog a6i w) (fun _ _ _ hh h=>h.of_heap hh) own started (by kernel_rfl) Tryz.func8
  (ChangeSpec.witness_shaped (enc:=enc) (C:=Tryz.checked) (os:=os) (X:=fun w _=>laidMetH Tryz.prog a6i w) false (World.doorLaid Tryz.prog 400 os) #[.string ⟨#[]⟩,.string ⟨#[]⟩,.agg #[.int .u8 0,.int .i64 0,.string ⟨#[]⟩,.slice none 0 0,.slice none 0 0]] 8 rfl (World.shaped_of_RefB (by kernel_rfl) (by kernel_rfl)) (by kernel_rfl) (by kernel_rfl) (by kernel_rfl) (b7I os _)) ?_
 intro W base args ds gs before hval0 hW _ _ hL _
 have hval:∀ (j:Nat) t v,Tryz.f8.params[j]?=some t→args[j]?=some v→Value.okWide Tryz.prog W .any base t v:=hval0
 have hW':=hW
 obtain ⟨p,q,hA0,hV,rfl,hfz,hnd⟩:=hW
 have hA:DataW.TrodAll enc Tryz.prog W 0 (fun _=>true) true Tryz.f8.params.toList args.toList ds p:=hA0
 rw [Tryz.params8] at hA hval
 obtain ⟨v0,v1,v2,d0,d1,d2,a0,a1,a2,rfl,rfl,rfl,h0,h1,h2⟩:=trodAll_three hA
 obtain ⟨s0,rfl,rfl,rfl,hs0⟩:=open_string Tryz.underlying9 (hval 0 9 v0 rfl rfl) h0
 obtain ⟨s1,rfl,rfl,rfl,hs1⟩:=open_string Tryz.underlying9 (hval 1 9 v1 rfl rfl) h1
 obtain ⟨rfl,rfl⟩:=trodVars_none hV
 obtain ⟨fuel,h2'⟩:=id h2
 obtain ⟨_,⟨v,hv,rfl⟩,hrel,hone⟩:=b3E fuel 42 _ _ rfl h2'
 obtain ⟨cs,rfl⟩:∃ cs,v2=.agg cs:=by
  obtain ⟨_,_,_,_,_,e⟩:=v.row_cells
  rw [e] at hrel
  have hl:=hrel.length
  cases v2 <;> first|exact ⟨_,rfl⟩|(simp [Value.cells] at hl)
 have hag:Rel (gh0 W) W (.agg v.row) (.agg cs):=by simp only [Rel]; exact ⟨cs,rfl,hrel,hone⟩
 obtain ⟨n,st',hrun⟩:=Go.Cb.CodeA.fields_am (s0.data.toList.map UInt8.toNat) (s1.data.toList.map UInt8.toNat) hv
 refine (y9 c2Y hrun (fun x hx=>?_) (a8K hL) (vs:=[.string s0,.string s1,.agg cs]) ?_).mono fun e W' ⟨he,hw⟩=>?_
 · simp only [List.mem_cons,List.not_mem_nil,or_false] at hx
   rcases hx with rfl|rfl|rfl
   · rfl
   · rfl
   · obtain ⟨_,_,_,_,_,e⟩:=v.row_cells
     rw [e]
     rfl
 · simp only [RelL]
   exact ⟨_,_,rfl,by simp only [Rel]; exact ⟨s0,rfl,rfl⟩,_,_,rfl,by simp only [Rel]; exact ⟨s1,rfl,rfl⟩,_,_,rfl,hag,rfl⟩
 · subst he
   refine ⟨_,rfl,?_⟩
   have hlt:∀ p∈a2,p.block < W.heap.size:=fun p hp=>hW'.lt p (by simpa using hp)
   have hsame:∀ p∈a2,W.sameAt W' p:=fun p hp=>by
    have ho:=hw.old p.block (hlt p hp)
    cases p with
    | cell b off=>show W'.cell? ⟨b,off,none⟩=W.cell? ⟨b,off,none⟩; unfold World.cell?; rw [show W'.heap[b]?=W.heap[b]? from ho]
    | map b=>exact ho
   refine a8L (pa:=[]++([]++a2)) (pv:=[]) hW' (fun _ _ _=>trodAll_mk1 (shut_bool Tryz.underlying4 _)) (fun sp hsp=>?_) (fun _ _=>rfl) rfl (World.keptBut_mono (fun p hp=>hp.elim) hw.kept) hw.fz (ok_one (by kernel_rfl) rfl (okWide_bool_mk Tryz.underlying4 _))
   rw [Tryz.params8]
   exact trodAll_mk3 (shut_string Tryz.underlying9 hs0) (shut_string Tryz.underlying9 hs1) (WideElems.Trod_stays (P:=Tryz.prog) (by kernel_rfl) (by kernel_rfl) (of_decide_eq_true (by kernel_rfl)) h2 hsame (fun p hp=>hsp p (by simpa using hp)))
theorem a2c:Rows.CollectFieldsSaid :=
 OpenClaim.holds_of_wide 8 Tryz.f8 rfl rfl rfl rfl rfl rfl rfl ⟨rfl,rfl,rfl,rfl,rfl⟩ rfl rfl rfl rfl rfl (by kernel_rfl) Tryz.func8 (by kernel_rfl)
  (of_decide_eq_true (by kernel_rfl)) (by unfold Func.isWrapper; first|(rw [if_pos (by decide +kernel)]; kernel_rfl)|(rw [if_neg (by decide +kernel)]; exact ⟨rfl,rfl⟩))
  (fun os started H enc _=>a1s os started H enc)

theorem collectFields_card:Rows.CollectFieldsCardSaid :=
 Claim7.holds_tied_plain_at .later [] [.widerDeep] true (true, "96276361df8694d8eb437e5bf23e0da8ec6d42f65fa24d02ab8c9d940cff04b7") false
  a2c (fun _ h=>by cases h) (by kernel_rfl) (fun _ h=>by cases h) collectFields_row_tie rfl ⟨rfl,rfl⟩ (by kernel_rfl) rfl
  (fun f fn hf hfn=>by
   obtain rfl:f=8:=Option.some.inj ((show Tryz.prog.funcNamed "columbary/columbarylaw12.CollectFields"=some 8 by kernel_rfl).symm.trans hf) |>.symm
   obtain rfl:fn=Tryz.f8:=(Option.some.inj (Tryz.func8.symm.trans hfn)).symm
   exact ⟨by kernel_rfl,fun j t ht=>by
    rw [Tryz.params8] at ht
    have hm:t∈[9,9,42]:=by simpa using Array.mem_of_getElem? ht
    have hall:([9,9,42].all fun u=>!Tryz.prog.wantsStandIn u)=true:=by kernel_rfl
    exact (show Tryz.prog.wantsStandIn t=false by simpa using List.all_eq_true.1 hall t hm)⟩)
  (by kernel_rfl)
#print axioms collectFields_card
end Go.Proofs.YthnliekianmljaaGreatDoor
