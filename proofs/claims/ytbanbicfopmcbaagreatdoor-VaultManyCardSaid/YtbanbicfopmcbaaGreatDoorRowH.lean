/- The law VaultMany answers true for all inputs: the row. No conditions. -/
import Derived.Test.YtbanbicfopmcbaaGreatDoorRowJ
import Derived.Test.YtbanbicfopmcbaaGreatDoorPostV
import Derived.Test.YtbanbicfopmcbaaGreatDoorV7
set_option linter.unusedVariables false
namespace Go.Proofs.YtbanbicfopmcbaaGreatDoor
open Go.Clock Go.ChangeShapes Go.WideShapes Go.ChangeAt Go.WideMaps Go.WideElems Go.RowKit Go.ChangeMaps Go.Cb Go.Cb.CodeA
set_option maxRecDepth 100000
theorem a24 (os:Os) (started:os.Started) (H:Type) (enc:TypeId×Value→H) (F:Stop.Interp) :
 ReturnsInHanded { calm:=true } Tryz.checked os 3 .any (fun w args=>(Rows.vaultManySpec.pre enc Tryz.prog Tryz.f3 [] false w args∧laidMetH Tryz.prog a3z w)∧sizedMet enc Tryz.prog Tryz.f3 (OpenSpec.ofChange Rows.vaultManySpec) false w args)
  ((OpenSpec.ofChange Rows.vaultManySpec).postWith enc Tryz.prog Tryz.f3 F (outsideKept [.timePasses]) false true false):=by
 refine returns_of_change (C:=Tryz.checked) (X:=fun w _=>laidMetH Tryz.prog a3z w) (fun _ _ _ hh h=>h.of_heap hh) own started (by kernel_rfl) Tryz.func3
  (witness_at (enc:=enc) (C:=Tryz.checked) (os:=os) (X:=fun w _=>laidMetH Tryz.prog a3z w) (World.doorLaid Tryz.prog 400 os) #[.int .u8 0,.int .u8 0] 8 rfl (World.shaped_of_RefB (by kernel_rfl) (by kernel_rfl)) (by kernel_rfl) (by kernel_rfl) (by kernel_rfl) (b37 os _)) ?_
 intro W base args ds gs before hval0 hW _ _ hL _
 have hval:∀ (j:Nat) t v,Tryz.f3.params[j]?=some t→args[j]?=some v→Value.okWide Tryz.prog W .any base t v:=hval0
 have hW':=hW
 obtain ⟨p,q,hA0,hV,rfl,hfz,hnd⟩:=hW
 have hA:DataW.TrodAll enc Tryz.prog W 0 (fun _=>true) true Tryz.f3.params.toList args.toList ds p:=hA0
 rw [Tryz.params3] at hA hval
 obtain ⟨v0,v1,d0,d1,a0,b0,rfl,rfl,rfl,h0,h1⟩:=trodAll_two hA
 obtain ⟨rfl,rfl⟩:=trodVars_none hV
 obtain ⟨i0,rfl,rfl,rfl,hk0⟩:=open_int Tryz.underlying5 (hval 0 5 v0 rfl rfl) h0
 have hu0:(Lit.int .u8 i0).wf=true:=hk0
 have hb0:0≤i0∧i0 < 256:=by
  have:=hu0
  simp [Lit.wf,IntKind.min,IntKind.max,IntKind.signed,IntKind.bits] at this
  omega
 obtain ⟨m0,rfl⟩:=Int.eq_ofNat_of_zero_le hb0.1
 obtain ⟨i1,rfl,rfl,rfl,hk1⟩:=open_int Tryz.underlying5 (hval 1 5 v1 rfl rfl) h1
 have hu1:(Lit.int .u8 i1).wf=true:=hk1
 have hb1:0≤i1∧i1 < 256:=by
  have:=hu1
  simp [Lit.wf,IntKind.min,IntKind.max,IntKind.signed,IntKind.bits] at this
  omega
 obtain ⟨m1,rfl⟩:=Int.eq_ofNat_of_zero_le hb1.1
 obtain ⟨n,st',hrun⟩:=b7S m0 m1 (by omega) (by omega)
 refine (b7N b50 hrun (fun x hx=>?_) (a4F hL) (vs:=[.int .u8 m0,.int .u8 m1]) ?_).mono fun e W' ⟨he,hw⟩=>?_
 · simp only [List.mem_cons,List.not_mem_nil,or_false] at hx
   rcases hx with rfl|rfl <;> rfl
 · simp only [RelL,Rel]
   exact ⟨_,_,rfl,rfl,_,_,rfl,rfl,rfl⟩
 · subst he
   have hos:W'.os=W.os:=hw.kept.1
   have e:({ W' with os:=W.os }:World)=W':=by rw [← hos]
   refine ⟨_,rfl,?_,hos ▸ Later.refl _⟩
   rw [e]
   refine a4E (pa:=[]) (pv:=[]) hW' (fun _ _ _=>trodAll_mk1 (shut_bool Tryz.underlying4 _)) (fun sp _=>?_) (fun _ _=>rfl) rfl (World.keptBut_mono (fun p hp=>hp.elim) hw.kept) hw.fz (ok_one (by kernel_rfl) rfl (okWide_bool_mk Tryz.underlying4 _))
   rw [Tryz.params3]
   exact trodAll_mk2 (shut_int Tryz.underlying5 hk0) (shut_int Tryz.underlying5 hk1)
theorem a3u:Rows.VaultManySaid :=
 holds_of_wide_time 3 Tryz.f3 rfl rfl rfl rfl rfl rfl rfl ⟨rfl,rfl,rfl,rfl,rfl⟩ rfl rfl rfl rfl rfl (by kernel_rfl) Tryz.func3 c0A
  (of_decide_eq_true (by kernel_rfl)) (by unfold Func.isWrapper; first|(rw [if_pos (by decide +kernel)]; kernel_rfl)|(rw [if_neg (by decide +kernel)]; exact ⟨rfl,rfl⟩))
  (fun os started H enc _ F=>a24 os started H enc F)

end Go.Proofs.YtbanbicfopmcbaaGreatDoor
