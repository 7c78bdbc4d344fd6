/- What functions of the abstract machine answer. No conditions but those that each theorem names. -/
import Derived.Test.YthbikoodicigeaaGreatDoorOkA
set_option maxRecDepth 100000
set_option linter.unusedVariables false
namespace Go.Cb.CodeA
open Go Go.Cb Go.Proofs
theorem oK3:∀ A,fnOK Tryz.prog gts a3v a3b Tryz.f3 a3 A=true:=fun A=>by kernel_rfl
theorem tbl1_of {f:Nat} (h3:f≠3) (h4:f≠4) (h10:f≠10):tbl1 f=tbl f:=by
 unfold tbl1
 have e:(Nat.beq f 3 || Nat.beq f 4 || Nat.beq f 10)=false:=by
  cases hq:(Nat.beq f 3 || Nat.beq f 4 || Nat.beq f 10) with
  | false=>rfl
  | true =>
   simp only [Bool.or_eq_true,Nat.beq_eq] at hq
   rcases hq with (h|h)|h <;> contradiction
 rw [e]
 rfl
theorem prog_okT (ha:ExtOK Tryz.prog gts 4 awakeX) (hw:ExtOK Tryz.prog gts 10 wantX):ProgD Tryz.prog gts [202,148] [149] tbl :=
 ⟨oM,fun f af h=>by
  by_cases h3:f=3
  · subst h3; cases h; exact ⟨by kernel_rfl,.inl ⟨_,_,_,Tryz.func3,oK3⟩⟩
  by_cases h4:f=4
  · subst h4; cases h; exact ⟨by kernel_rfl,.inr (.inr ⟨_,rfl,ha⟩)⟩
  by_cases h10:f=10
  · subst h10; cases h; exact ⟨by kernel_rfl,.inr (.inr ⟨_,rfl,hw⟩)⟩
  exact oF f af ((tbl1_of h3 h4 h10).trans h),fun f hf af h=>prog_ok.dfr f hf af (by
   rw [tbl1_of]
   · exact h
   all_goals (rintro rfl; revert hf; decide)),prog_ok.dfr0⟩
end Go.Cb.CodeA
