/- That code tells the functions of the seat: the test of each function, and all of them together. No conditions. -/
import Derived.Test.YtkfbiiedabbgfaaDoorChecked
import Derived.KernelRfl
import Derived.Test.YtkfbiiedabbgfaaDoorCodeA
import Derived.Test.YtkfbiiedabbgfaaDoorXAms2
set_option maxRecDepth 100000
namespace Go.Cb.CodeA
open Go Go.Cb
theorem ok5 : ∀ A, fnOK Go.Proofs.Tryd.prog gts a5v a5b Go.Proofs.Tryd.f5 a5 A = true := fun A => by kernel_rfl
theorem ok8 : ∀ A, fnOK Go.Proofs.Tryd.prog gts a8v a8b Go.Proofs.Tryd.f8 a8 A = true := fun A => by kernel_rfl
theorem ok9 : ∀ A, fnOK Go.Proofs.Tryd.prog gts a9v a9b Go.Proofs.Tryd.f9 a9 A = true := fun A => by kernel_rfl
theorem ok10 : ∀ A, fnOK Go.Proofs.Tryd.prog gts a10v a10b Go.Proofs.Tryd.f10 a10 A = true := fun A => by kernel_rfl
theorem ok11 : ∀ A, fnOK Go.Proofs.Tryd.prog gts a11v a11b Go.Proofs.Tryd.f11 a11 A = true := fun A => by kernel_rfl
theorem ok12 : ∀ A, fnOK Go.Proofs.Tryd.prog gts a12v a12b Go.Proofs.Tryd.f12 a12 A = true := fun A => by kernel_rfl
theorem ok14 : ∀ A, fnOK Go.Proofs.Tryd.prog gts a14v a14b Go.Proofs.Tryd.f14 a14 A = true := fun A => by kernel_rfl
theorem ok15 : ∀ A, fnOK Go.Proofs.Tryd.prog gts a15v a15b Go.Proofs.Tryd.f15 a15 A = true := fun A => by kernel_rfl
theorem ok16 : ∀ A, fnOK Go.Proofs.Tryd.prog gts a16v a16b Go.Proofs.Tryd.f16 a16 A = true := fun A => by kernel_rfl
theorem ok18 : ∀ A, fnOK Go.Proofs.Tryd.prog gts a18v a18b Go.Proofs.Tryd.f18 a18 A = true := fun A => by kernel_rfl
theorem ok21 : ∀ A, fnOK Go.Proofs.Tryd.prog gts a21v a21b Go.Proofs.Tryd.f21 a21 A = true := fun A => by kernel_rfl
theorem ok22 : ∀ A, fnOK Go.Proofs.Tryd.prog gts a22v a22b Go.Proofs.Tryd.f22 a22 A = true := fun A => by kernel_rfl
theorem ok23 : ∀ A, fnOK Go.Proofs.Tryd.prog gts a23v a23b Go.Proofs.Tryd.f23 a23 A = true := fun A => by kernel_rfl
theorem ok25 : ∀ A, fnOK Go.Proofs.Tryd.prog gts a25v a25b Go.Proofs.Tryd.f25 a25 A = true := fun A => by kernel_rfl
theorem ok26 : ∀ A, fnOK Go.Proofs.Tryd.prog gts a26v a26b Go.Proofs.Tryd.f26 a26 A = true := fun A => by kernel_rfl
theorem ok27 : ∀ A, fnOK Go.Proofs.Tryd.prog gts a27v a27b Go.Proofs.Tryd.f27 a27 A = true := fun A => by kernel_rfl
theorem ok29 : ∀ A, fnOK Go.Proofs.Tryd.prog gts a29v a29b Go.Proofs.Tryd.f29 a29 A = true := fun A => by kernel_rfl
theorem ok30 : ∀ A, fnOK Go.Proofs.Tryd.prog gts a30v a30b Go.Proofs.Tryd.f30 a30 A = true := fun A => by kernel_rfl
theorem ok31 : ∀ A, fnOK Go.Proofs.Tryd.prog gts a31v a31b Go.Proofs.Tryd.f31 a31 A = true := fun A => by kernel_rfl
theorem ok32 : ∀ A, fnOK Go.Proofs.Tryd.prog gts a32v a32b Go.Proofs.Tryd.f32 a32 A = true := fun A => by kernel_rfl
theorem ok34 : ∀ A, fnOK Go.Proofs.Tryd.prog gts a34v a34b Go.Proofs.Tryd.f34 a34 A = true := fun A => by kernel_rfl
theorem ok35 : ∀ A, fnOK Go.Proofs.Tryd.prog gts a35v a35b Go.Proofs.Tryd.f35 a35 A = true := fun A => by kernel_rfl
theorem ok36 : ∀ A, fnOK Go.Proofs.Tryd.prog gts a36v a36b Go.Proofs.Tryd.f36 a36 A = true := fun A => by kernel_rfl
theorem ok37 : ∀ A, fnOK Go.Proofs.Tryd.prog gts a37v a37b Go.Proofs.Tryd.f37 a37 A = true := fun A => by kernel_rfl
theorem ok38 : ∀ A, fnOK Go.Proofs.Tryd.prog gts a38v a38b Go.Proofs.Tryd.f38 a38 A = true := fun A => by kernel_rfl
theorem ok40 : ∀ A, fnOK Go.Proofs.Tryd.prog gts a40v a40b Go.Proofs.Tryd.f40 a40 A = true := fun A => by kernel_rfl
theorem ok41 : ∀ A, fnOK Go.Proofs.Tryd.prog gts a41v a41b Go.Proofs.Tryd.f41 a41 A = true := fun A => by kernel_rfl
theorem ok42 : ∀ A, fnOK Go.Proofs.Tryd.prog gts a42v a42b Go.Proofs.Tryd.f42 a42 A = true := fun A => by kernel_rfl
theorem ok43 : ∀ A, fnOK Go.Proofs.Tryd.prog gts a43v a43b Go.Proofs.Tryd.f43 a43 A = true := fun A => by kernel_rfl
theorem ok44 : ∀ A, fnOK Go.Proofs.Tryd.prog gts a44v a44b Go.Proofs.Tryd.f44 a44 A = true := fun A => by kernel_rfl
theorem ok45 : ∀ A, fnOK Go.Proofs.Tryd.prog gts a45v a45b Go.Proofs.Tryd.f45 a45 A = true := fun A => by kernel_rfl
theorem ok46 : ∀ A, fnOK Go.Proofs.Tryd.prog gts a46v a46b Go.Proofs.Tryd.f46 a46 A = true := fun A => by kernel_rfl
theorem ok47 : ∀ A, fnOK Go.Proofs.Tryd.prog gts a47v a47b Go.Proofs.Tryd.f47 a47 A = true := fun A => by kernel_rfl
theorem ok48 : ∀ A, fnOK Go.Proofs.Tryd.prog gts a48v a48b Go.Proofs.Tryd.f48 a48 A = true := fun A => by kernel_rfl
theorem ok49 : ∀ A, fnOK Go.Proofs.Tryd.prog gts a49v a49b Go.Proofs.Tryd.f49 a49 A = true := fun A => by kernel_rfl
theorem ok50 : ∀ A, fnOK Go.Proofs.Tryd.prog gts a50v a50b Go.Proofs.Tryd.f50 a50 A = true := fun A => by kernel_rfl
theorem ok51 : ∀ A, fnOK Go.Proofs.Tryd.prog gts a51v a51b Go.Proofs.Tryd.f51 a51 A = true := fun A => by kernel_rfl
theorem ok52 : ∀ A, fnOK Go.Proofs.Tryd.prog gts a52v a52b Go.Proofs.Tryd.f52 a52 A = true := fun A => by kernel_rfl
theorem ok53 : ∀ A, fnOK Go.Proofs.Tryd.prog gts a53v a53b Go.Proofs.Tryd.f53 a53 A = true := fun A => by kernel_rfl
theorem ok54 : ∀ A, fnOK Go.Proofs.Tryd.prog gts a54v a54b Go.Proofs.Tryd.f54 a54 A = true := fun A => by kernel_rfl
theorem ok55 : ∀ A, fnOK Go.Proofs.Tryd.prog gts a55v a55b Go.Proofs.Tryd.f55 a55 A = true := fun A => by kernel_rfl
theorem ok56 : ∀ A, fnOK Go.Proofs.Tryd.prog gts a56v a56b Go.Proofs.Tryd.f56 a56 A = true := fun A => by kernel_rfl
theorem ok57 : ∀ A, fnOK Go.Proofs.Tryd.prog gts a57v a57b Go.Proofs.Tryd.f57 a57 A = true := fun A => by kernel_rfl
theorem ok58 : ∀ A, fnOK Go.Proofs.Tryd.prog gts a58v a58b Go.Proofs.Tryd.f58 a58 A = true := fun A => by kernel_rfl
theorem ok59 : ∀ A, fnOK Go.Proofs.Tryd.prog gts a59v a59b Go.Proofs.Tryd.f59 a59 A = true := fun A => by kernel_rfl
theorem ok60 : ∀ A, fnOK Go.Proofs.Tryd.prog gts a60v a60b Go.Proofs.Tryd.f60 a60 A = true := fun A => by kernel_rfl
theorem ok61 : ∀ A, fnOK Go.Proofs.Tryd.prog gts a61v a61b Go.Proofs.Tryd.f61 a61 A = true := fun A => by kernel_rfl
theorem ok62 : ∀ A, fnOK Go.Proofs.Tryd.prog gts a62v a62b Go.Proofs.Tryd.f62 a62 A = true := fun A => by kernel_rfl
theorem ok63 : ∀ A, fnOK Go.Proofs.Tryd.prog gts a63v a63b Go.Proofs.Tryd.f63 a63 A = true := fun A => by kernel_rfl
theorem ok64 : ∀ A, fnOK Go.Proofs.Tryd.prog gts a64v a64b Go.Proofs.Tryd.f64 a64 A = true := fun A => by kernel_rfl
theorem ok65 : ∀ A, fnOK Go.Proofs.Tryd.prog gts a65v a65b Go.Proofs.Tryd.f65 a65 A = true := fun A => by kernel_rfl
theorem ok66 : ∀ A, fnOK Go.Proofs.Tryd.prog gts a66v a66b Go.Proofs.Tryd.f66 a66 A = true := fun A => by kernel_rfl
theorem ok67 : ∀ A, fnOK Go.Proofs.Tryd.prog gts a67v a67b Go.Proofs.Tryd.f67 a67 A = true := fun A => by kernel_rfl
theorem ok68 : ∀ A, fnOK Go.Proofs.Tryd.prog gts a68v a68b Go.Proofs.Tryd.f68 a68 A = true := fun A => by kernel_rfl
theorem ok69 : ∀ A, fnOK Go.Proofs.Tryd.prog gts a69v a69b Go.Proofs.Tryd.f69 a69 A = true := fun A => by kernel_rfl
theorem ok70 : ∀ A, fnOK Go.Proofs.Tryd.prog gts a70v a70b Go.Proofs.Tryd.f70 a70 A = true := fun A => by kernel_rfl
theorem ok71 : ∀ A, fnOK Go.Proofs.Tryd.prog gts a71v a71b Go.Proofs.Tryd.f71 a71 A = true := fun A => by kernel_rfl
theorem ok72 : ∀ A, fnOK Go.Proofs.Tryd.prog gts a72v a72b Go.Proofs.Tryd.f72 a72 A = true := fun A => by kernel_rfl
theorem ok73 : ∀ A, fnOK Go.Proofs.Tryd.prog gts a73v a73b Go.Proofs.Tryd.f73 a73 A = true := fun A => by kernel_rfl
theorem ok74 : ∀ A, fnOK Go.Proofs.Tryd.prog gts a74v a74b Go.Proofs.Tryd.f74 a74 A = true := fun A => by kernel_rfl
theorem ok75 : ∀ A, fnOK Go.Proofs.Tryd.prog gts a75v a75b Go.Proofs.Tryd.f75 a75 A = true := fun A => by kernel_rfl
theorem ok76 : ∀ A, fnOK Go.Proofs.Tryd.prog gts a76v a76b Go.Proofs.Tryd.f76 a76 A = true := fun A => by kernel_rfl
theorem ok77 : ∀ A, fnOK Go.Proofs.Tryd.prog gts a77v a77b Go.Proofs.Tryd.f77 a77 A = true := fun A => by kernel_rfl
theorem ok78 : ∀ A, fnOK Go.Proofs.Tryd.prog gts a78v a78b Go.Proofs.Tryd.f78 a78 A = true := fun A => by kernel_rfl
theorem ok79 : ∀ A, fnOK Go.Proofs.Tryd.prog gts a79v a79b Go.Proofs.Tryd.f79 a79 A = true := fun A => by kernel_rfl
theorem clone28 : ExtOK Go.Proofs.Tryd.prog 28 (cloneX 4 72) := clone_ok Go.Proofs.Tryd.func28 (t := Go.Proofs.Tryd.f28.params.getD 0 0) ⟨_, _, _, _, _, _, _, _, _, _, _, _, _, rfl, rfl, rfl, ⟨rfl, rfl, rfl⟩, ⟨rfl, rfl, rfl⟩, ⟨rfl, rfl, rfl⟩, ⟨rfl, rfl, rfl⟩, ⟨rfl, rfl, rfl⟩, ⟨rfl, rfl, rfl⟩, ⟨rfl, rfl, rfl⟩, ⟨rfl, rfl, rfl⟩, by kernel_rfl⟩
theorem clone33 : ExtOK Go.Proofs.Tryd.prog 33 (cloneX 1 16) := clone_ok Go.Proofs.Tryd.func33 (t := Go.Proofs.Tryd.f33.params.getD 0 0) ⟨_, _, _, _, _, _, _, _, _, _, _, _, _, rfl, rfl, rfl, ⟨rfl, rfl, rfl⟩, ⟨rfl, rfl, rfl⟩, ⟨rfl, rfl, rfl⟩, ⟨rfl, rfl, rfl⟩, ⟨rfl, rfl, rfl⟩, ⟨rfl, rfl, rfl⟩, ⟨rfl, rfl, rfl⟩, ⟨rfl, rfl, rfl⟩, by kernel_rfl⟩
theorem mixed : Go.Proofs.Tryd.prog.follows .mixedOrders = true := by kernel_rfl
theorem tbl_lt {f : Nat} {af : AFn} (h : tbl f = some af) : f < 110 := by
  rcases Nat.lt_or_ge f 110 with h1 | h1
  · exact h1
  · exfalso
    have e : tblL.getD (f / 10) [] = [] := by
      rw [List.getD_eq_getElem?_getD, List.getElem?_eq_none]
      · rfl
      · show 11 ≤ f / 10
        omega
    have h : (tblL.getD (f / 10) []).getD (f % 10) none = some af := h
    rw [e] at h
    cases h
theorem t5 (af : AFn) (h : some a5 = some af) : enterB Go.Proofs.Tryd.prog 5 = true ∧ ((∃ slots bxs fn, Go.Proofs.Tryd.prog.funcs[5]? = some fn ∧ ∀ A, fnOK Go.Proofs.Tryd.prog gts slots bxs fn af A = true) ∨ (∃ e, af.ext = some e ∧ ExtOK Go.Proofs.Tryd.prog 5 e)) := by
  cases h
  exact ⟨by kernel_rfl, .inl ⟨a5v, a5b, Go.Proofs.Tryd.f5, Go.Proofs.Tryd.func5, ok5⟩⟩
theorem t8 (af : AFn) (h : some a8 = some af) : enterB Go.Proofs.Tryd.prog 8 = true ∧ ((∃ slots bxs fn, Go.Proofs.Tryd.prog.funcs[8]? = some fn ∧ ∀ A, fnOK Go.Proofs.Tryd.prog gts slots bxs fn af A = true) ∨ (∃ e, af.ext = some e ∧ ExtOK Go.Proofs.Tryd.prog 8 e)) := by
  cases h
  exact ⟨by kernel_rfl, .inl ⟨a8v, a8b, Go.Proofs.Tryd.f8, Go.Proofs.Tryd.func8, ok8⟩⟩
theorem t9 (af : AFn) (h : some a9 = some af) : enterB Go.Proofs.Tryd.prog 9 = true ∧ ((∃ slots bxs fn, Go.Proofs.Tryd.prog.funcs[9]? = some fn ∧ ∀ A, fnOK Go.Proofs.Tryd.prog gts slots bxs fn af A = true) ∨ (∃ e, af.ext = some e ∧ ExtOK Go.Proofs.Tryd.prog 9 e)) := by
  cases h
  exact ⟨by kernel_rfl, .inl ⟨a9v, a9b, Go.Proofs.Tryd.f9, Go.Proofs.Tryd.func9, ok9⟩⟩
theorem t10 (af : AFn) (h : some a10 = some af) : enterB Go.Proofs.Tryd.prog 10 = true ∧ ((∃ slots bxs fn, Go.Proofs.Tryd.prog.funcs[10]? = some fn ∧ ∀ A, fnOK Go.Proofs.Tryd.prog gts slots bxs fn af A = true) ∨ (∃ e, af.ext = some e ∧ ExtOK Go.Proofs.Tryd.prog 10 e)) := by
  cases h
  exact ⟨by kernel_rfl, .inl ⟨a10v, a10b, Go.Proofs.Tryd.f10, Go.Proofs.Tryd.func10, ok10⟩⟩
theorem t11 (af : AFn) (h : some a11 = some af) : enterB Go.Proofs.Tryd.prog 11 = true ∧ ((∃ slots bxs fn, Go.Proofs.Tryd.prog.funcs[11]? = some fn ∧ ∀ A, fnOK Go.Proofs.Tryd.prog gts slots bxs fn af A = true) ∨ (∃ e, af.ext = some e ∧ ExtOK Go.Proofs.Tryd.prog 11 e)) := by
  cases h
  exact ⟨by kernel_rfl, .inl ⟨a11v, a11b, Go.Proofs.Tryd.f11, Go.Proofs.Tryd.func11, ok11⟩⟩
theorem t12 (af : AFn) (h : some a12 = some af) : enterB Go.Proofs.Tryd.prog 12 = true ∧ ((∃ slots bxs fn, Go.Proofs.Tryd.prog.funcs[12]? = some fn ∧ ∀ A, fnOK Go.Proofs.Tryd.prog gts slots bxs fn af A = true) ∨ (∃ e, af.ext = some e ∧ ExtOK Go.Proofs.Tryd.prog 12 e)) := by
  cases h
  exact ⟨by kernel_rfl, .inl ⟨a12v, a12b, Go.Proofs.Tryd.f12, Go.Proofs.Tryd.func12, ok12⟩⟩
theorem t14 (af : AFn) (h : some a14 = some af) : enterB Go.Proofs.Tryd.prog 14 = true ∧ ((∃ slots bxs fn, Go.Proofs.Tryd.prog.funcs[14]? = some fn ∧ ∀ A, fnOK Go.Proofs.Tryd.prog gts slots bxs fn af A = true) ∨ (∃ e, af.ext = some e ∧ ExtOK Go.Proofs.Tryd.prog 14 e)) := by
  cases h
  exact ⟨by kernel_rfl, .inl ⟨a14v, a14b, Go.Proofs.Tryd.f14, Go.Proofs.Tryd.func14, ok14⟩⟩
theorem t15 (af : AFn) (h : some a15 = some af) : enterB Go.Proofs.Tryd.prog 15 = true ∧ ((∃ slots bxs fn, Go.Proofs.Tryd.prog.funcs[15]? = some fn ∧ ∀ A, fnOK Go.Proofs.Tryd.prog gts slots bxs fn af A = true) ∨ (∃ e, af.ext = some e ∧ ExtOK Go.Proofs.Tryd.prog 15 e)) := by
  cases h
  exact ⟨by kernel_rfl, .inl ⟨a15v, a15b, Go.Proofs.Tryd.f15, Go.Proofs.Tryd.func15, ok15⟩⟩
theorem t16 (af : AFn) (h : some a16 = some af) : enterB Go.Proofs.Tryd.prog 16 = true ∧ ((∃ slots bxs fn, Go.Proofs.Tryd.prog.funcs[16]? = some fn ∧ ∀ A, fnOK Go.Proofs.Tryd.prog gts slots bxs fn af A = true) ∨ (∃ e, af.ext = some e ∧ ExtOK Go.Proofs.Tryd.prog 16 e)) := by
  cases h
  exact ⟨by kernel_rfl, .inl ⟨a16v, a16b, Go.Proofs.Tryd.f16, Go.Proofs.Tryd.func16, ok16⟩⟩
theorem t18 (af : AFn) (h : some a18 = some af) : enterB Go.Proofs.Tryd.prog 18 = true ∧ ((∃ slots bxs fn, Go.Proofs.Tryd.prog.funcs[18]? = some fn ∧ ∀ A, fnOK Go.Proofs.Tryd.prog gts slots bxs fn af A = true) ∨ (∃ e, af.ext = some e ∧ ExtOK Go.Proofs.Tryd.prog 18 e)) := by
  cases h
  exact ⟨by kernel_rfl, .inl ⟨a18v, a18b, Go.Proofs.Tryd.f18, Go.Proofs.Tryd.func18, ok18⟩⟩
theorem t21 (af : AFn) (h : some a21 = some af) : enterB Go.Proofs.Tryd.prog 21 = true ∧ ((∃ slots bxs fn, Go.Proofs.Tryd.prog.funcs[21]? = some fn ∧ ∀ A, fnOK Go.Proofs.Tryd.prog gts slots bxs fn af A = true) ∨ (∃ e, af.ext = some e ∧ ExtOK Go.Proofs.Tryd.prog 21 e)) := by
  cases h
  exact ⟨by kernel_rfl, .inl ⟨a21v, a21b, Go.Proofs.Tryd.f21, Go.Proofs.Tryd.func21, ok21⟩⟩
theorem t22 (af : AFn) (h : some a22 = some af) : enterB Go.Proofs.Tryd.prog 22 = true ∧ ((∃ slots bxs fn, Go.Proofs.Tryd.prog.funcs[22]? = some fn ∧ ∀ A, fnOK Go.Proofs.Tryd.prog gts slots bxs fn af A = true) ∨ (∃ e, af.ext = some e ∧ ExtOK Go.Proofs.Tryd.prog 22 e)) := by
  cases h
  exact ⟨by kernel_rfl, .inl ⟨a22v, a22b, Go.Proofs.Tryd.f22, Go.Proofs.Tryd.func22, ok22⟩⟩
theorem t23 (af : AFn) (h : some a23 = some af) : enterB Go.Proofs.Tryd.prog 23 = true ∧ ((∃ slots bxs fn, Go.Proofs.Tryd.prog.funcs[23]? = some fn ∧ ∀ A, fnOK Go.Proofs.Tryd.prog gts slots bxs fn af A = true) ∨ (∃ e, af.ext = some e ∧ ExtOK Go.Proofs.Tryd.prog 23 e)) := by
  cases h
  exact ⟨by kernel_rfl, .inl ⟨a23v, a23b, Go.Proofs.Tryd.f23, Go.Proofs.Tryd.func23, ok23⟩⟩
theorem t25 (af : AFn) (h : some a25 = some af) : enterB Go.Proofs.Tryd.prog 25 = true ∧ ((∃ slots bxs fn, Go.Proofs.Tryd.prog.funcs[25]? = some fn ∧ ∀ A, fnOK Go.Proofs.Tryd.prog gts slots bxs fn af A = true) ∨ (∃ e, af.ext = some e ∧ ExtOK Go.Proofs.Tryd.prog 25 e)) := by
  cases h
  exact ⟨by kernel_rfl, .inl ⟨a25v, a25b, Go.Proofs.Tryd.f25, Go.Proofs.Tryd.func25, ok25⟩⟩
theorem t26 (af : AFn) (h : some a26 = some af) : enterB Go.Proofs.Tryd.prog 26 = true ∧ ((∃ slots bxs fn, Go.Proofs.Tryd.prog.funcs[26]? = some fn ∧ ∀ A, fnOK Go.Proofs.Tryd.prog gts slots bxs fn af A = true) ∨ (∃ e, af.ext = some e ∧ ExtOK Go.Proofs.Tryd.prog 26 e)) := by
  cases h
  exact ⟨by kernel_rfl, .inl ⟨a26v, a26b, Go.Proofs.Tryd.f26, Go.Proofs.Tryd.func26, ok26⟩⟩
theorem t27 (af : AFn) (h : some a27 = some af) : enterB Go.Proofs.Tryd.prog 27 = true ∧ ((∃ slots bxs fn, Go.Proofs.Tryd.prog.funcs[27]? = some fn ∧ ∀ A, fnOK Go.Proofs.Tryd.prog gts slots bxs fn af A = true) ∨ (∃ e, af.ext = some e ∧ ExtOK Go.Proofs.Tryd.prog 27 e)) := by
  cases h
  exact ⟨by kernel_rfl, .inl ⟨a27v, a27b, Go.Proofs.Tryd.f27, Go.Proofs.Tryd.func27, ok27⟩⟩
theorem t28 (af : AFn) (h : some a28 = some af) : enterB Go.Proofs.Tryd.prog 28 = true ∧ ((∃ slots bxs fn, Go.Proofs.Tryd.prog.funcs[28]? = some fn ∧ ∀ A, fnOK Go.Proofs.Tryd.prog gts slots bxs fn af A = true) ∨ (∃ e, af.ext = some e ∧ ExtOK Go.Proofs.Tryd.prog 28 e)) := by
  cases h
  exact ⟨by kernel_rfl, .inr ⟨_, rfl, clone28⟩⟩
theorem t29 (af : AFn) (h : some a29 = some af) : enterB Go.Proofs.Tryd.prog 29 = true ∧ ((∃ slots bxs fn, Go.Proofs.Tryd.prog.funcs[29]? = some fn ∧ ∀ A, fnOK Go.Proofs.Tryd.prog gts slots bxs fn af A = true) ∨ (∃ e, af.ext = some e ∧ ExtOK Go.Proofs.Tryd.prog 29 e)) := by
  cases h
  exact ⟨by kernel_rfl, .inl ⟨a29v, a29b, Go.Proofs.Tryd.f29, Go.Proofs.Tryd.func29, ok29⟩⟩
theorem t30 (af : AFn) (h : some a30 = some af) : enterB Go.Proofs.Tryd.prog 30 = true ∧ ((∃ slots bxs fn, Go.Proofs.Tryd.prog.funcs[30]? = some fn ∧ ∀ A, fnOK Go.Proofs.Tryd.prog gts slots bxs fn af A = true) ∨ (∃ e, af.ext = some e ∧ ExtOK Go.Proofs.Tryd.prog 30 e)) := by
  cases h
  exact ⟨by kernel_rfl, .inl ⟨a30v, a30b, Go.Proofs.Tryd.f30, Go.Proofs.Tryd.func30, ok30⟩⟩
theorem t31 (af : AFn) (h : some a31 = some af) : enterB Go.Proofs.Tryd.prog 31 = true ∧ ((∃ slots bxs fn, Go.Proofs.Tryd.prog.funcs[31]? = some fn ∧ ∀ A, fnOK Go.Proofs.Tryd.prog gts slots bxs fn af A = true) ∨ (∃ e, af.ext = some e ∧ ExtOK Go.Proofs.Tryd.prog 31 e)) := by
  cases h
  exact ⟨by kernel_rfl, .inl ⟨a31v, a31b, Go.Proofs.Tryd.f31, Go.Proofs.Tryd.func31, ok31⟩⟩
theorem t32 (af : AFn) (h : some a32 = some af) : enterB Go.Proofs.Tryd.prog 32 = true ∧ ((∃ slots bxs fn, Go.Proofs.Tryd.prog.funcs[32]? = some fn ∧ ∀ A, fnOK Go.Proofs.Tryd.prog gts slots bxs fn af A = true) ∨ (∃ e, af.ext = some e ∧ ExtOK Go.Proofs.Tryd.prog 32 e)) := by
  cases h
  exact ⟨by kernel_rfl, .inl ⟨a32v, a32b, Go.Proofs.Tryd.f32, Go.Proofs.Tryd.func32, ok32⟩⟩
theorem t33 (af : AFn) (h : some a33 = some af) : enterB Go.Proofs.Tryd.prog 33 = true ∧ ((∃ slots bxs fn, Go.Proofs.Tryd.prog.funcs[33]? = some fn ∧ ∀ A, fnOK Go.Proofs.Tryd.prog gts slots bxs fn af A = true) ∨ (∃ e, af.ext = some e ∧ ExtOK Go.Proofs.Tryd.prog 33 e)) := by
  cases h
  exact ⟨by kernel_rfl, .inr ⟨_, rfl, clone33⟩⟩
theorem t34 (af : AFn) (h : some a34 = some af) : enterB Go.Proofs.Tryd.prog 34 = true ∧ ((∃ slots bxs fn, Go.Proofs.Tryd.prog.funcs[34]? = some fn ∧ ∀ A, fnOK Go.Proofs.Tryd.prog gts slots bxs fn af A = true) ∨ (∃ e, af.ext = some e ∧ ExtOK Go.Proofs.Tryd.prog 34 e)) := by
  cases h
  exact ⟨by kernel_rfl, .inl ⟨a34v, a34b, Go.Proofs.Tryd.f34, Go.Proofs.Tryd.func34, ok34⟩⟩
theorem t35 (af : AFn) (h : some a35 = some af) : enterB Go.Proofs.Tryd.prog 35 = true ∧ ((∃ slots bxs fn, Go.Proofs.Tryd.prog.funcs[35]? = some fn ∧ ∀ A, fnOK Go.Proofs.Tryd.prog gts slots bxs fn af A = true) ∨ (∃ e, af.ext = some e ∧ ExtOK Go.Proofs.Tryd.prog 35 e)) := by
  cases h
  exact ⟨by kernel_rfl, .inl ⟨a35v, a35b, Go.Proofs.Tryd.f35, Go.Proofs.Tryd.func35, ok35⟩⟩
theorem t36 (af : AFn) (h : some a36 = some af) : enterB Go.Proofs.Tryd.prog 36 = true ∧ ((∃ slots bxs fn, Go.Proofs.Tryd.prog.funcs[36]? = some fn ∧ ∀ A, fnOK Go.Proofs.Tryd.prog gts slots bxs fn af A = true) ∨ (∃ e, af.ext = some e ∧ ExtOK Go.Proofs.Tryd.prog 36 e)) := by
  cases h
  exact ⟨by kernel_rfl, .inl ⟨a36v, a36b, Go.Proofs.Tryd.f36, Go.Proofs.Tryd.func36, ok36⟩⟩
theorem t37 (af : AFn) (h : some a37 = some af) : enterB Go.Proofs.Tryd.prog 37 = true ∧ ((∃ slots bxs fn, Go.Proofs.Tryd.prog.funcs[37]? = some fn ∧ ∀ A, fnOK Go.Proofs.Tryd.prog gts slots bxs fn af A = true) ∨ (∃ e, af.ext = some e ∧ ExtOK Go.Proofs.Tryd.prog 37 e)) := by
  cases h
  exact ⟨by kernel_rfl, .inl ⟨a37v, a37b, Go.Proofs.Tryd.f37, Go.Proofs.Tryd.func37, ok37⟩⟩
theorem t38 (af : AFn) (h : some a38 = some af) : enterB Go.Proofs.Tryd.prog 38 = true ∧ ((∃ slots bxs fn, Go.Proofs.Tryd.prog.funcs[38]? = some fn ∧ ∀ A, fnOK Go.Proofs.Tryd.prog gts slots bxs fn af A = true) ∨ (∃ e, af.ext = some e ∧ ExtOK Go.Proofs.Tryd.prog 38 e)) := by
  cases h
  exact ⟨by kernel_rfl, .inl ⟨a38v, a38b, Go.Proofs.Tryd.f38, Go.Proofs.Tryd.func38, ok38⟩⟩
theorem t40 (af : AFn) (h : some a40 = some af) : enterB Go.Proofs.Tryd.prog 40 = true ∧ ((∃ slots bxs fn, Go.Proofs.Tryd.prog.funcs[40]? = some fn ∧ ∀ A, fnOK Go.Proofs.Tryd.prog gts slots bxs fn af A = true) ∨ (∃ e, af.ext = some e ∧ ExtOK Go.Proofs.Tryd.prog 40 e)) := by
  cases h
  exact ⟨by kernel_rfl, .inl ⟨a40v, a40b, Go.Proofs.Tryd.f40, Go.Proofs.Tryd.func40, ok40⟩⟩
theorem t41 (af : AFn) (h : some a41 = some af) : enterB Go.Proofs.Tryd.prog 41 = true ∧ ((∃ slots bxs fn, Go.Proofs.Tryd.prog.funcs[41]? = some fn ∧ ∀ A, fnOK Go.Proofs.Tryd.prog gts slots bxs fn af A = true) ∨ (∃ e, af.ext = some e ∧ ExtOK Go.Proofs.Tryd.prog 41 e)) := by
  cases h
  exact ⟨by kernel_rfl, .inl ⟨a41v, a41b, Go.Proofs.Tryd.f41, Go.Proofs.Tryd.func41, ok41⟩⟩
theorem t42 (af : AFn) (h : some a42 = some af) : enterB Go.Proofs.Tryd.prog 42 = true ∧ ((∃ slots bxs fn, Go.Proofs.Tryd.prog.funcs[42]? = some fn ∧ ∀ A, fnOK Go.Proofs.Tryd.prog gts slots bxs fn af A = true) ∨ (∃ e, af.ext = some e ∧ ExtOK Go.Proofs.Tryd.prog 42 e)) := by
  cases h
  exact ⟨by kernel_rfl, .inl ⟨a42v, a42b, Go.Proofs.Tryd.f42, Go.Proofs.Tryd.func42, ok42⟩⟩
theorem t43 (af : AFn) (h : some a43 = some af) : enterB Go.Proofs.Tryd.prog 43 = true ∧ ((∃ slots bxs fn, Go.Proofs.Tryd.prog.funcs[43]? = some fn ∧ ∀ A, fnOK Go.Proofs.Tryd.prog gts slots bxs fn af A = true) ∨ (∃ e, af.ext = some e ∧ ExtOK Go.Proofs.Tryd.prog 43 e)) := by
  cases h
  exact ⟨by kernel_rfl, .inl ⟨a43v, a43b, Go.Proofs.Tryd.f43, Go.Proofs.Tryd.func43, ok43⟩⟩
theorem t44 (af : AFn) (h : some a44 = some af) : enterB Go.Proofs.Tryd.prog 44 = true ∧ ((∃ slots bxs fn, Go.Proofs.Tryd.prog.funcs[44]? = some fn ∧ ∀ A, fnOK Go.Proofs.Tryd.prog gts slots bxs fn af A = true) ∨ (∃ e, af.ext = some e ∧ ExtOK Go.Proofs.Tryd.prog 44 e)) := by
  cases h
  exact ⟨by kernel_rfl, .inl ⟨a44v, a44b, Go.Proofs.Tryd.f44, Go.Proofs.Tryd.func44, ok44⟩⟩
theorem t45 (af : AFn) (h : some a45 = some af) : enterB Go.Proofs.Tryd.prog 45 = true ∧ ((∃ slots bxs fn, Go.Proofs.Tryd.prog.funcs[45]? = some fn ∧ ∀ A, fnOK Go.Proofs.Tryd.prog gts slots bxs fn af A = true) ∨ (∃ e, af.ext = some e ∧ ExtOK Go.Proofs.Tryd.prog 45 e)) := by
  cases h
  exact ⟨by kernel_rfl, .inl ⟨a45v, a45b, Go.Proofs.Tryd.f45, Go.Proofs.Tryd.func45, ok45⟩⟩
theorem t46 (af : AFn) (h : some a46 = some af) : enterB Go.Proofs.Tryd.prog 46 = true ∧ ((∃ slots bxs fn, Go.Proofs.Tryd.prog.funcs[46]? = some fn ∧ ∀ A, fnOK Go.Proofs.Tryd.prog gts slots bxs fn af A = true) ∨ (∃ e, af.ext = some e ∧ ExtOK Go.Proofs.Tryd.prog 46 e)) := by
  cases h
  exact ⟨by kernel_rfl, .inl ⟨a46v, a46b, Go.Proofs.Tryd.f46, Go.Proofs.Tryd.func46, ok46⟩⟩
theorem t47 (af : AFn) (h : some a47 = some af) : enterB Go.Proofs.Tryd.prog 47 = true ∧ ((∃ slots bxs fn, Go.Proofs.Tryd.prog.funcs[47]? = some fn ∧ ∀ A, fnOK Go.Proofs.Tryd.prog gts slots bxs fn af A = true) ∨ (∃ e, af.ext = some e ∧ ExtOK Go.Proofs.Tryd.prog 47 e)) := by
  cases h
  exact ⟨by kernel_rfl, .inl ⟨a47v, a47b, Go.Proofs.Tryd.f47, Go.Proofs.Tryd.func47, ok47⟩⟩
theorem t48 (af : AFn) (h : some a48 = some af) : enterB Go.Proofs.Tryd.prog 48 = true ∧ ((∃ slots bxs fn, Go.Proofs.Tryd.prog.funcs[48]? = some fn ∧ ∀ A, fnOK Go.Proofs.Tryd.prog gts slots bxs fn af A = true) ∨ (∃ e, af.ext = some e ∧ ExtOK Go.Proofs.Tryd.prog 48 e)) := by
  cases h
  exact ⟨by kernel_rfl, .inl ⟨a48v, a48b, Go.Proofs.Tryd.f48, Go.Proofs.Tryd.func48, ok48⟩⟩
theorem t49 (af : AFn) (h : some a49 = some af) : enterB Go.Proofs.Tryd.prog 49 = true ∧ ((∃ slots bxs fn, Go.Proofs.Tryd.prog.funcs[49]? = some fn ∧ ∀ A, fnOK Go.Proofs.Tryd.prog gts slots bxs fn af A = true) ∨ (∃ e, af.ext = some e ∧ ExtOK Go.Proofs.Tryd.prog 49 e)) := by
  cases h
  exact ⟨by kernel_rfl, .inl ⟨a49v, a49b, Go.Proofs.Tryd.f49, Go.Proofs.Tryd.func49, ok49⟩⟩
theorem t50 (af : AFn) (h : some a50 = some af) : enterB Go.Proofs.Tryd.prog 50 = true ∧ ((∃ slots bxs fn, Go.Proofs.Tryd.prog.funcs[50]? = some fn ∧ ∀ A, fnOK Go.Proofs.Tryd.prog gts slots bxs fn af A = true) ∨ (∃ e, af.ext = some e ∧ ExtOK Go.Proofs.Tryd.prog 50 e)) := by
  cases h
  exact ⟨by kernel_rfl, .inl ⟨a50v, a50b, Go.Proofs.Tryd.f50, Go.Proofs.Tryd.func50, ok50⟩⟩
theorem t51 (af : AFn) (h : some a51 = some af) : enterB Go.Proofs.Tryd.prog 51 = true ∧ ((∃ slots bxs fn, Go.Proofs.Tryd.prog.funcs[51]? = some fn ∧ ∀ A, fnOK Go.Proofs.Tryd.prog gts slots bxs fn af A = true) ∨ (∃ e, af.ext = some e ∧ ExtOK Go.Proofs.Tryd.prog 51 e)) := by
  cases h
  exact ⟨by kernel_rfl, .inl ⟨a51v, a51b, Go.Proofs.Tryd.f51, Go.Proofs.Tryd.func51, ok51⟩⟩
theorem t52 (af : AFn) (h : some a52 = some af) : enterB Go.Proofs.Tryd.prog 52 = true ∧ ((∃ slots bxs fn, Go.Proofs.Tryd.prog.funcs[52]? = some fn ∧ ∀ A, fnOK Go.Proofs.Tryd.prog gts slots bxs fn af A = true) ∨ (∃ e, af.ext = some e ∧ ExtOK Go.Proofs.Tryd.prog 52 e)) := by
  cases h
  exact ⟨by kernel_rfl, .inl ⟨a52v, a52b, Go.Proofs.Tryd.f52, Go.Proofs.Tryd.func52, ok52⟩⟩
theorem t53 (af : AFn) (h : some a53 = some af) : enterB Go.Proofs.Tryd.prog 53 = true ∧ ((∃ slots bxs fn, Go.Proofs.Tryd.prog.funcs[53]? = some fn ∧ ∀ A, fnOK Go.Proofs.Tryd.prog gts slots bxs fn af A = true) ∨ (∃ e, af.ext = some e ∧ ExtOK Go.Proofs.Tryd.prog 53 e)) := by
  cases h
  exact ⟨by kernel_rfl, .inl ⟨a53v, a53b, Go.Proofs.Tryd.f53, Go.Proofs.Tryd.func53, ok53⟩⟩
theorem t54 (af : AFn) (h : some a54 = some af) : enterB Go.Proofs.Tryd.prog 54 = true ∧ ((∃ slots bxs fn, Go.Proofs.Tryd.prog.funcs[54]? = some fn ∧ ∀ A, fnOK Go.Proofs.Tryd.prog gts slots bxs fn af A = true) ∨ (∃ e, af.ext = some e ∧ ExtOK Go.Proofs.Tryd.prog 54 e)) := by
  cases h
  exact ⟨by kernel_rfl, .inl ⟨a54v, a54b, Go.Proofs.Tryd.f54, Go.Proofs.Tryd.func54, ok54⟩⟩
theorem t55 (af : AFn) (h : some a55 = some af) : enterB Go.Proofs.Tryd.prog 55 = true ∧ ((∃ slots bxs fn, Go.Proofs.Tryd.prog.funcs[55]? = some fn ∧ ∀ A, fnOK Go.Proofs.Tryd.prog gts slots bxs fn af A = true) ∨ (∃ e, af.ext = some e ∧ ExtOK Go.Proofs.Tryd.prog 55 e)) := by
  cases h
  exact ⟨by kernel_rfl, .inl ⟨a55v, a55b, Go.Proofs.Tryd.f55, Go.Proofs.Tryd.func55, ok55⟩⟩
theorem t56 (af : AFn) (h : some a56 = some af) : enterB Go.Proofs.Tryd.prog 56 = true ∧ ((∃ slots bxs fn, Go.Proofs.Tryd.prog.funcs[56]? = some fn ∧ ∀ A, fnOK Go.Proofs.Tryd.prog gts slots bxs fn af A = true) ∨ (∃ e, af.ext = some e ∧ ExtOK Go.Proofs.Tryd.prog 56 e)) := by
  cases h
  exact ⟨by kernel_rfl, .inl ⟨a56v, a56b, Go.Proofs.Tryd.f56, Go.Proofs.Tryd.func56, ok56⟩⟩
theorem t57 (af : AFn) (h : some a57 = some af) : enterB Go.Proofs.Tryd.prog 57 = true ∧ ((∃ slots bxs fn, Go.Proofs.Tryd.prog.funcs[57]? = some fn ∧ ∀ A, fnOK Go.Proofs.Tryd.prog gts slots bxs fn af A = true) ∨ (∃ e, af.ext = some e ∧ ExtOK Go.Proofs.Tryd.prog 57 e)) := by
  cases h
  exact ⟨by kernel_rfl, .inl ⟨a57v, a57b, Go.Proofs.Tryd.f57, Go.Proofs.Tryd.func57, ok57⟩⟩
theorem t58 (af : AFn) (h : some a58 = some af) : enterB Go.Proofs.Tryd.prog 58 = true ∧ ((∃ slots bxs fn, Go.Proofs.Tryd.prog.funcs[58]? = some fn ∧ ∀ A, fnOK Go.Proofs.Tryd.prog gts slots bxs fn af A = true) ∨ (∃ e, af.ext = some e ∧ ExtOK Go.Proofs.Tryd.prog 58 e)) := by
  cases h
  exact ⟨by kernel_rfl, .inl ⟨a58v, a58b, Go.Proofs.Tryd.f58, Go.Proofs.Tryd.func58, ok58⟩⟩
theorem t59 (af : AFn) (h : some a59 = some af) : enterB Go.Proofs.Tryd.prog 59 = true ∧ ((∃ slots bxs fn, Go.Proofs.Tryd.prog.funcs[59]? = some fn ∧ ∀ A, fnOK Go.Proofs.Tryd.prog gts slots bxs fn af A = true) ∨ (∃ e, af.ext = some e ∧ ExtOK Go.Proofs.Tryd.prog 59 e)) := by
  cases h
  exact ⟨by kernel_rfl, .inl ⟨a59v, a59b, Go.Proofs.Tryd.f59, Go.Proofs.Tryd.func59, ok59⟩⟩
theorem t60 (af : AFn) (h : some a60 = some af) : enterB Go.Proofs.Tryd.prog 60 = true ∧ ((∃ slots bxs fn, Go.Proofs.Tryd.prog.funcs[60]? = some fn ∧ ∀ A, fnOK Go.Proofs.Tryd.prog gts slots bxs fn af A = true) ∨ (∃ e, af.ext = some e ∧ ExtOK Go.Proofs.Tryd.prog 60 e)) := by
  cases h
  exact ⟨by kernel_rfl, .inl ⟨a60v, a60b, Go.Proofs.Tryd.f60, Go.Proofs.Tryd.func60, ok60⟩⟩
theorem t61 (af : AFn) (h : some a61 = some af) : enterB Go.Proofs.Tryd.prog 61 = true ∧ ((∃ slots bxs fn, Go.Proofs.Tryd.prog.funcs[61]? = some fn ∧ ∀ A, fnOK Go.Proofs.Tryd.prog gts slots bxs fn af A = true) ∨ (∃ e, af.ext = some e ∧ ExtOK Go.Proofs.Tryd.prog 61 e)) := by
  cases h
  exact ⟨by kernel_rfl, .inl ⟨a61v, a61b, Go.Proofs.Tryd.f61, Go.Proofs.Tryd.func61, ok61⟩⟩
theorem t62 (af : AFn) (h : some a62 = some af) : enterB Go.Proofs.Tryd.prog 62 = true ∧ ((∃ slots bxs fn, Go.Proofs.Tryd.prog.funcs[62]? = some fn ∧ ∀ A, fnOK Go.Proofs.Tryd.prog gts slots bxs fn af A = true) ∨ (∃ e, af.ext = some e ∧ ExtOK Go.Proofs.Tryd.prog 62 e)) := by
  cases h
  exact ⟨by kernel_rfl, .inl ⟨a62v, a62b, Go.Proofs.Tryd.f62, Go.Proofs.Tryd.func62, ok62⟩⟩
theorem t63 (af : AFn) (h : some a63 = some af) : enterB Go.Proofs.Tryd.prog 63 = true ∧ ((∃ slots bxs fn, Go.Proofs.Tryd.prog.funcs[63]? = some fn ∧ ∀ A, fnOK Go.Proofs.Tryd.prog gts slots bxs fn af A = true) ∨ (∃ e, af.ext = some e ∧ ExtOK Go.Proofs.Tryd.prog 63 e)) := by
  cases h
  exact ⟨by kernel_rfl, .inl ⟨a63v, a63b, Go.Proofs.Tryd.f63, Go.Proofs.Tryd.func63, ok63⟩⟩
theorem t64 (af : AFn) (h : some a64 = some af) : enterB Go.Proofs.Tryd.prog 64 = true ∧ ((∃ slots bxs fn, Go.Proofs.Tryd.prog.funcs[64]? = some fn ∧ ∀ A, fnOK Go.Proofs.Tryd.prog gts slots bxs fn af A = true) ∨ (∃ e, af.ext = some e ∧ ExtOK Go.Proofs.Tryd.prog 64 e)) := by
  cases h
  exact ⟨by kernel_rfl, .inl ⟨a64v, a64b, Go.Proofs.Tryd.f64, Go.Proofs.Tryd.func64, ok64⟩⟩
theorem t65 (af : AFn) (h : some a65 = some af) : enterB Go.Proofs.Tryd.prog 65 = true ∧ ((∃ slots bxs fn, Go.Proofs.Tryd.prog.funcs[65]? = some fn ∧ ∀ A, fnOK Go.Proofs.Tryd.prog gts slots bxs fn af A = true) ∨ (∃ e, af.ext = some e ∧ ExtOK Go.Proofs.Tryd.prog 65 e)) := by
  cases h
  exact ⟨by kernel_rfl, .inl ⟨a65v, a65b, Go.Proofs.Tryd.f65, Go.Proofs.Tryd.func65, ok65⟩⟩
theorem t66 (af : AFn) (h : some a66 = some af) : enterB Go.Proofs.Tryd.prog 66 = true ∧ ((∃ slots bxs fn, Go.Proofs.Tryd.prog.funcs[66]? = some fn ∧ ∀ A, fnOK Go.Proofs.Tryd.prog gts slots bxs fn af A = true) ∨ (∃ e, af.ext = some e ∧ ExtOK Go.Proofs.Tryd.prog 66 e)) := by
  cases h
  exact ⟨by kernel_rfl, .inl ⟨a66v, a66b, Go.Proofs.Tryd.f66, Go.Proofs.Tryd.func66, ok66⟩⟩
theorem t67 (af : AFn) (h : some a67 = some af) : enterB Go.Proofs.Tryd.prog 67 = true ∧ ((∃ slots bxs fn, Go.Proofs.Tryd.prog.funcs[67]? = some fn ∧ ∀ A, fnOK Go.Proofs.Tryd.prog gts slots bxs fn af A = true) ∨ (∃ e, af.ext = some e ∧ ExtOK Go.Proofs.Tryd.prog 67 e)) := by
  cases h
  exact ⟨by kernel_rfl, .inl ⟨a67v, a67b, Go.Proofs.Tryd.f67, Go.Proofs.Tryd.func67, ok67⟩⟩
theorem t68 (af : AFn) (h : some a68 = some af) : enterB Go.Proofs.Tryd.prog 68 = true ∧ ((∃ slots bxs fn, Go.Proofs.Tryd.prog.funcs[68]? = some fn ∧ ∀ A, fnOK Go.Proofs.Tryd.prog gts slots bxs fn af A = true) ∨ (∃ e, af.ext = some e ∧ ExtOK Go.Proofs.Tryd.prog 68 e)) := by
  cases h
  exact ⟨by kernel_rfl, .inl ⟨a68v, a68b, Go.Proofs.Tryd.f68, Go.Proofs.Tryd.func68, ok68⟩⟩
theorem t69 (af : AFn) (h : some a69 = some af) : enterB Go.Proofs.Tryd.prog 69 = true ∧ ((∃ slots bxs fn, Go.Proofs.Tryd.prog.funcs[69]? = some fn ∧ ∀ A, fnOK Go.Proofs.Tryd.prog gts slots bxs fn af A = true) ∨ (∃ e, af.ext = some e ∧ ExtOK Go.Proofs.Tryd.prog 69 e)) := by
  cases h
  exact ⟨by kernel_rfl, .inl ⟨a69v, a69b, Go.Proofs.Tryd.f69, Go.Proofs.Tryd.func69, ok69⟩⟩
theorem t70 (af : AFn) (h : some a70 = some af) : enterB Go.Proofs.Tryd.prog 70 = true ∧ ((∃ slots bxs fn, Go.Proofs.Tryd.prog.funcs[70]? = some fn ∧ ∀ A, fnOK Go.Proofs.Tryd.prog gts slots bxs fn af A = true) ∨ (∃ e, af.ext = some e ∧ ExtOK Go.Proofs.Tryd.prog 70 e)) := by
  cases h
  exact ⟨by kernel_rfl, .inl ⟨a70v, a70b, Go.Proofs.Tryd.f70, Go.Proofs.Tryd.func70, ok70⟩⟩
theorem t71 (af : AFn) (h : some a71 = some af) : enterB Go.Proofs.Tryd.prog 71 = true ∧ ((∃ slots bxs fn, Go.Proofs.Tryd.prog.funcs[71]? = some fn ∧ ∀ A, fnOK Go.Proofs.Tryd.prog gts slots bxs fn af A = true) ∨ (∃ e, af.ext = some e ∧ ExtOK Go.Proofs.Tryd.prog 71 e)) := by
  cases h
  exact ⟨by kernel_rfl, .inl ⟨a71v, a71b, Go.Proofs.Tryd.f71, Go.Proofs.Tryd.func71, ok71⟩⟩
theorem t72 (af : AFn) (h : some a72 = some af) : enterB Go.Proofs.Tryd.prog 72 = true ∧ ((∃ slots bxs fn, Go.Proofs.Tryd.prog.funcs[72]? = some fn ∧ ∀ A, fnOK Go.Proofs.Tryd.prog gts slots bxs fn af A = true) ∨ (∃ e, af.ext = some e ∧ ExtOK Go.Proofs.Tryd.prog 72 e)) := by
  cases h
  exact ⟨by kernel_rfl, .inl ⟨a72v, a72b, Go.Proofs.Tryd.f72, Go.Proofs.Tryd.func72, ok72⟩⟩
theorem t73 (af : AFn) (h : some a73 = some af) : enterB Go.Proofs.Tryd.prog 73 = true ∧ ((∃ slots bxs fn, Go.Proofs.Tryd.prog.funcs[73]? = some fn ∧ ∀ A, fnOK Go.Proofs.Tryd.prog gts slots bxs fn af A = true) ∨ (∃ e, af.ext = some e ∧ ExtOK Go.Proofs.Tryd.prog 73 e)) := by
  cases h
  exact ⟨by kernel_rfl, .inl ⟨a73v, a73b, Go.Proofs.Tryd.f73, Go.Proofs.Tryd.func73, ok73⟩⟩
theorem t74 (af : AFn) (h : some a74 = some af) : enterB Go.Proofs.Tryd.prog 74 = true ∧ ((∃ slots bxs fn, Go.Proofs.Tryd.prog.funcs[74]? = some fn ∧ ∀ A, fnOK Go.Proofs.Tryd.prog gts slots bxs fn af A = true) ∨ (∃ e, af.ext = some e ∧ ExtOK Go.Proofs.Tryd.prog 74 e)) := by
  cases h
  exact ⟨by kernel_rfl, .inl ⟨a74v, a74b, Go.Proofs.Tryd.f74, Go.Proofs.Tryd.func74, ok74⟩⟩
theorem t75 (af : AFn) (h : some a75 = some af) : enterB Go.Proofs.Tryd.prog 75 = true ∧ ((∃ slots bxs fn, Go.Proofs.Tryd.prog.funcs[75]? = some fn ∧ ∀ A, fnOK Go.Proofs.Tryd.prog gts slots bxs fn af A = true) ∨ (∃ e, af.ext = some e ∧ ExtOK Go.Proofs.Tryd.prog 75 e)) := by
  cases h
  exact ⟨by kernel_rfl, .inl ⟨a75v, a75b, Go.Proofs.Tryd.f75, Go.Proofs.Tryd.func75, ok75⟩⟩
theorem t76 (af : AFn) (h : some a76 = some af) : enterB Go.Proofs.Tryd.prog 76 = true ∧ ((∃ slots bxs fn, Go.Proofs.Tryd.prog.funcs[76]? = some fn ∧ ∀ A, fnOK Go.Proofs.Tryd.prog gts slots bxs fn af A = true) ∨ (∃ e, af.ext = some e ∧ ExtOK Go.Proofs.Tryd.prog 76 e)) := by
  cases h
  exact ⟨by kernel_rfl, .inl ⟨a76v, a76b, Go.Proofs.Tryd.f76, Go.Proofs.Tryd.func76, ok76⟩⟩
theorem t77 (af : AFn) (h : some a77 = some af) : enterB Go.Proofs.Tryd.prog 77 = true ∧ ((∃ slots bxs fn, Go.Proofs.Tryd.prog.funcs[77]? = some fn ∧ ∀ A, fnOK Go.Proofs.Tryd.prog gts slots bxs fn af A = true) ∨ (∃ e, af.ext = some e ∧ ExtOK Go.Proofs.Tryd.prog 77 e)) := by
  cases h
  exact ⟨by kernel_rfl, .inl ⟨a77v, a77b, Go.Proofs.Tryd.f77, Go.Proofs.Tryd.func77, ok77⟩⟩
theorem t78 (af : AFn) (h : some a78 = some af) : enterB Go.Proofs.Tryd.prog 78 = true ∧ ((∃ slots bxs fn, Go.Proofs.Tryd.prog.funcs[78]? = some fn ∧ ∀ A, fnOK Go.Proofs.Tryd.prog gts slots bxs fn af A = true) ∨ (∃ e, af.ext = some e ∧ ExtOK Go.Proofs.Tryd.prog 78 e)) := by
  cases h
  exact ⟨by kernel_rfl, .inl ⟨a78v, a78b, Go.Proofs.Tryd.f78, Go.Proofs.Tryd.func78, ok78⟩⟩
theorem t79 (af : AFn) (h : some a79 = some af) : enterB Go.Proofs.Tryd.prog 79 = true ∧ ((∃ slots bxs fn, Go.Proofs.Tryd.prog.funcs[79]? = some fn ∧ ∀ A, fnOK Go.Proofs.Tryd.prog gts slots bxs fn af A = true) ∨ (∃ e, af.ext = some e ∧ ExtOK Go.Proofs.Tryd.prog 79 e)) := by
  cases h
  exact ⟨by kernel_rfl, .inl ⟨a79v, a79b, Go.Proofs.Tryd.f79, Go.Proofs.Tryd.func79, ok79⟩⟩
theorem prog_fn : ∀ f af, f < 110 → tbl f = some af → enterB Go.Proofs.Tryd.prog f = true ∧ ((∃ slots bxs fn, Go.Proofs.Tryd.prog.funcs[f]? = some fn ∧ ∀ A, fnOK Go.Proofs.Tryd.prog gts slots bxs fn af A = true) ∨ (∃ e, af.ext = some e ∧ ExtOK Go.Proofs.Tryd.prog f e))
  | 0, af, _, h => by cases (show (none : Option AFn) = some af from h)
  | 1, af, _, h => by cases (show (none : Option AFn) = some af from h)
  | 2, af, _, h => by cases (show (none : Option AFn) = some af from h)
  | 3, af, _, h => by cases (show (none : Option AFn) = some af from h)
  | 4, af, _, h => by cases (show (none : Option AFn) = some af from h)
  | 5, af, _, h => t5 af h
  | 6, af, _, h => by cases (show (none : Option AFn) = some af from h)
  | 7, af, _, h => by cases (show (none : Option AFn) = some af from h)
  | 8, af, _, h => t8 af h
  | 9, af, _, h => t9 af h
  | 10, af, _, h => t10 af h
  | 11, af, _, h => t11 af h
  | 12, af, _, h => t12 af h
  | 13, af, _, h => by cases (show (none : Option AFn) = some af from h)
  | 14, af, _, h => t14 af h
  | 15, af, _, h => t15 af h
  | 16, af, _, h => t16 af h
  | 17, af, _, h => by cases (show (none : Option AFn) = some af from h)
  | 18, af, _, h => t18 af h
  | 19, af, _, h => by cases (show (none : Option AFn) = some af from h)
  | 20, af, _, h => by cases (show (none : Option AFn) = some af from h)
  | 21, af, _, h => t21 af h
  | 22, af, _, h => t22 af h
  | 23, af, _, h => t23 af h
  | 24, af, _, h => by cases (show (none : Option AFn) = some af from h)
  | 25, af, _, h => t25 af h
  | 26, af, _, h => t26 af h
  | 27, af, _, h => t27 af h
  | 28, af, _, h => t28 af h
  | 29, af, _, h => t29 af h
  | 30, af, _, h => t30 af h
  | 31, af, _, h => t31 af h
  | 32, af, _, h => t32 af h
  | 33, af, _, h => t33 af h
  | 34, af, _, h => t34 af h
  | 35, af, _, h => t35 af h
  | 36, af, _, h => t36 af h
  | 37, af, _, h => t37 af h
  | 38, af, _, h => t38 af h
  | 39, af, _, h => by cases (show (none : Option AFn) = some af from h)
  | 40, af, _, h => t40 af h
  | 41, af, _, h => t41 af h
  | 42, af, _, h => t42 af h
  | 43, af, _, h => t43 af h
  | 44, af, _, h => t44 af h
  | 45, af, _, h => t45 af h
  | 46, af, _, h => t46 af h
  | 47, af, _, h => t47 af h
  | 48, af, _, h => t48 af h
  | 49, af, _, h => t49 af h
  | 50, af, _, h => t50 af h
  | 51, af, _, h => t51 af h
  | 52, af, _, h => t52 af h
  | 53, af, _, h => t53 af h
  | 54, af, _, h => t54 af h
  | 55, af, _, h => t55 af h
  | 56, af, _, h => t56 af h
  | 57, af, _, h => t57 af h
  | 58, af, _, h => t58 af h
  | 59, af, _, h => t59 af h
  | 60, af, _, h => t60 af h
  | 61, af, _, h => t61 af h
  | 62, af, _, h => t62 af h
  | 63, af, _, h => t63 af h
  | 64, af, _, h => t64 af h
  | 65, af, _, h => t65 af h
  | 66, af, _, h => t66 af h
  | 67, af, _, h => t67 af h
  | 68, af, _, h => t68 af h
  | 69, af, _, h => t69 af h
  | 70, af, _, h => t70 af h
  | 71, af, _, h => t71 af h
  | 72, af, _, h => t72 af h
  | 73, af, _, h => t73 af h
  | 74, af, _, h => t74 af h
  | 75, af, _, h => t75 af h
  | 76, af, _, h => t76 af h
  | 77, af, _, h => t77 af h
  | 78, af, _, h => t78 af h
  | 79, af, _, h => t79 af h
  | 80, af, _, h => by cases (show (none : Option AFn) = some af from h)
  | 81, af, _, h => by cases (show (none : Option AFn) = some af from h)
  | 82, af, _, h => by cases (show (none : Option AFn) = some af from h)
  | 83, af, _, h => by cases (show (none : Option AFn) = some af from h)
  | 84, af, _, h => by cases (show (none : Option AFn) = some af from h)
  | 85, af, _, h => by cases (show (none : Option AFn) = some af from h)
  | 86, af, _, h => by cases (show (none : Option AFn) = some af from h)
  | 87, af, _, h => by cases (show (none : Option AFn) = some af from h)
  | 88, af, _, h => by cases (show (none : Option AFn) = some af from h)
  | 89, af, _, h => by cases (show (none : Option AFn) = some af from h)
  | 90, af, _, h => by cases (show (none : Option AFn) = some af from h)
  | 91, af, _, h => by cases (show (none : Option AFn) = some af from h)
  | 92, af, _, h => by cases (show (none : Option AFn) = some af from h)
  | 93, af, _, h => by cases (show (none : Option AFn) = some af from h)
  | 94, af, _, h => by cases (show (none : Option AFn) = some af from h)
  | 95, af, _, h => by cases (show (none : Option AFn) = some af from h)
  | 96, af, _, h => by cases (show (none : Option AFn) = some af from h)
  | 97, af, _, h => by cases (show (none : Option AFn) = some af from h)
  | 98, af, _, h => by cases (show (none : Option AFn) = some af from h)
  | 99, af, _, h => by cases (show (none : Option AFn) = some af from h)
  | 100, af, _, h => by cases (show (none : Option AFn) = some af from h)
  | 101, af, _, h => by cases (show (none : Option AFn) = some af from h)
  | 102, af, _, h => by cases (show (none : Option AFn) = some af from h)
  | 103, af, _, h => by cases (show (none : Option AFn) = some af from h)
  | 104, af, _, h => by cases (show (none : Option AFn) = some af from h)
  | 105, af, _, h => by cases (show (none : Option AFn) = some af from h)
  | 106, af, _, h => by cases (show (none : Option AFn) = some af from h)
  | 107, af, _, h => by cases (show (none : Option AFn) = some af from h)
  | 108, af, _, h => by cases (show (none : Option AFn) = some af from h)
  | 109, af, _, h => by cases (show (none : Option AFn) = some af from h)
  | n + 110, _, h, _ => absurd h (by omega)
theorem prog_ok : ProgOK Go.Proofs.Tryd.prog gts tbl := ⟨mixed, fun f af h => prog_fn f af (tbl_lt h) h⟩
end Go.Cb.CodeA
