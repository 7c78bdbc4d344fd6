/- A field that no condition guards is always collected. -/
import Derived.Test.YthnliekianmljaaGreatDoorRow0
import Derived.Test.YthnliekianmljaaGreatDoorPostV
import Derived.Test.YthnliekianmljaaGreatDoorC8
set_option linter.unusedVariables false
namespace Go.Proofs.YthnliekianmljaaGreatDoor
open Go.ChangeShapes Go.WideShapes Go.ChangeAt Go.WideMaps Go.WideElems Go.RowKit Go.ChangeMaps Go.Cb Go.Cb.CodeA
set_option maxRecDepth 100000
theorem collectAlways_lifted (os : Os) (started : os.Started) (H : Type) (enc : TypeId × Value → H) :
 ReturnsInHanded {} Tryz.checked os 4 .any (fun w args => (Rows.collectAlwaysSpec.pre enc Tryz.prog Tryz.f4 [] false w args ∧ laidMetH Tryz.prog laidS w) ∧ sizedMet enc Tryz.prog Tryz.f4 (OpenSpec.ofChange Rows.collectAlwaysSpec) false w args)
  (Rows.collectAlwaysSpec.post enc Tryz.prog Tryz.f4 false true false false) := by
 refine returnsInHanded_of_change_and (C := Tryz.checked) (X := fun w _ => laidMetH Tryz.prog laidS w) (fun _ _ _ hh h => h.of_heap hh) own started (by kernel_rfl) Tryz.func4
  (ChangeSpec.witness_shaped (enc := enc) (C := Tryz.checked) (os := os) (X := fun w _ => laidMetH Tryz.prog laidS w) false (World.doorLaid Tryz.prog 400 os) #[.string ⟨#[]⟩] 8 rfl (World.shaped_of_RefB (by kernel_rfl) (by kernel_rfl)) (by kernel_rfl) (by kernel_rfl) (by kernel_rfl) (door_met os _)) ?_
 intro W base args ds gs before hval0 hW _ _ hL _
 have hval : ∀ (j : Nat) t v, Tryz.f4.params[j]? = some t → args[j]? = some v → Value.okWide Tryz.prog W .any base t v := hval0
 have hW' := hW
 obtain ⟨p, q, hA0, hV, rfl, hfz, hnd⟩ := hW
 have hA : DataW.TrodAll enc Tryz.prog W 0 (fun _ => true) true Tryz.f4.params.toList args.toList ds p := hA0
 rw [Tryz.params4] at hA hval
 obtain ⟨v0, d0, rfl, rfl, h0⟩ := trodAll_one hA
 obtain ⟨rfl, rfl⟩ := trodVars_none hV
 obtain ⟨s0, rfl, rfl, rfl, hs0⟩ := open_string Tryz.underlying9 (hval 0 9 v0 rfl rfl) h0
 obtain ⟨n, st', hrun⟩ := always_am (s0.data.toList.map UInt8.toNat) 
 refine (answer prog_ok hrun (fun x hx => ?_) (globs_of_laid hL) (vs := [.string s0]) ?_).mono fun e W' ⟨he, hw⟩ => ?_
 · simp only [List.mem_cons, List.not_mem_nil, or_false] at hx
   subst hx
   rfl
 · simp only [RelL, Rel]
   exact ⟨_, _, rfl, ⟨s0, rfl, rfl⟩, rfl⟩
 · subst he
   refine ⟨_, rfl, ?_⟩
   refine post_of_same2 (pa := []) (pv := []) hW' (fun _ _ _ => trodAll_mk1 (shut_bool Tryz.underlying4 _)) (fun sp _ => ?_) (fun _ _ => rfl) rfl (World.keptBut_mono (fun p hp => hp.elim) hw.kept) hw.fz (ok_one (by kernel_rfl) rfl (okWide_bool_mk Tryz.underlying4 _))
   rw [Tryz.params4]
   exact trodAll_mk1 (shut_string Tryz.underlying9 hs0)
theorem collectAlways_holds : Rows.CollectAlwaysSaid :=
 OpenClaim.holds_of_wide 4 Tryz.f4 rfl rfl rfl rfl rfl rfl rfl ⟨rfl, rfl, rfl, rfl, rfl⟩ rfl rfl rfl rfl rfl (by kernel_rfl) Tryz.func4 (by kernel_rfl)
  (of_decide_eq_true (by kernel_rfl)) (by unfold Func.isWrapper; first | (rw [if_pos (by decide +kernel)]; kernel_rfl) | (rw [if_neg (by decide +kernel)]; exact ⟨rfl, rfl⟩))
  (fun os started H enc _ => collectAlways_lifted os started H enc)

theorem collectAlways_card : Rows.CollectAlwaysCardSaid :=
 Claim7.holds_tied_plain_at .later [] [.widerDeep] true (true, "96276361df8694d8eb437e5bf23e0da8ec6d42f65fa24d02ab8c9d940cff04b7") false
  collectAlways_holds (fun _ h => by cases h) (by kernel_rfl) (fun _ h => by cases h) collectAlways_row_tie rfl ⟨rfl, rfl⟩ (by kernel_rfl) rfl
  (fun f fn hf hfn => by
   obtain rfl : f = 4 := Option.some.inj ((show Tryz.prog.funcNamed "columbary/columbarylaw12.CollectAlways" = some 4 by kernel_rfl).symm.trans hf) |>.symm
   obtain rfl : fn = Tryz.f4 := (Option.some.inj (Tryz.func4.symm.trans hfn)).symm
   exact ⟨by kernel_rfl, fun j t ht => by
    rw [Tryz.params4] at ht
    have hm : t ∈ [9] := by simpa using Array.mem_of_getElem? ht
    have hall : ([9].all fun u => !Tryz.prog.wantsStandIn u) = true := by kernel_rfl
    exact (show Tryz.prog.wantsStandIn t = false by simpa using List.all_eq_true.1 hall t hm)⟩)
  (by kernel_rfl)
#print axioms collectAlways_card
end Go.Proofs.YthnliekianmljaaGreatDoor
