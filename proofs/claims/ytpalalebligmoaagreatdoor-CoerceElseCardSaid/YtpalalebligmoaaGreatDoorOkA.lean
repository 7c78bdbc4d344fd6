/- That code tells the functions of the seat: the test of each function, and all of them together. No conditions. -/
import Derived.Test.YtpalalebligmoaaGreatDoorChecked
import Derived.KernelRfl
import Derived.Test.YtpalalebligmoaaGreatDoorCodeA
import Derived.Test.YtpalalebligmoaaGreatDoorFmL
set_option maxRecDepth 100000
namespace Go.Cb.CodeA
open Go Go.Cb
theorem ok8 : ∀ A, fnOK Go.Proofs.Tryz.prog gts a8v a8b Go.Proofs.Tryz.f8 a8 A = true := fun A => by kernel_rfl
theorem ok9 : ∀ A, fnOK Go.Proofs.Tryz.prog gts a9v a9b Go.Proofs.Tryz.f9 a9 A = true := fun A => by kernel_rfl
theorem ok12 : ∀ A, fnOK Go.Proofs.Tryz.prog gts a12v a12b Go.Proofs.Tryz.f12 a12 A = true := fun A => by kernel_rfl
theorem ok13 : ∀ A, fnOK Go.Proofs.Tryz.prog gts a13v a13b Go.Proofs.Tryz.f13 a13 A = true := fun A => by kernel_rfl
theorem ok14 : ∀ A, fnOK Go.Proofs.Tryz.prog gts a14v a14b Go.Proofs.Tryz.f14 a14 A = true := fun A => by kernel_rfl
theorem ok15 : ∀ A, fnOK Go.Proofs.Tryz.prog gts a15v a15b Go.Proofs.Tryz.f15 a15 A = true := fun A => by kernel_rfl
theorem ok16 : ∀ A, fnOK Go.Proofs.Tryz.prog gts a16v a16b Go.Proofs.Tryz.f16 a16 A = true := fun A => by kernel_rfl
theorem ok19 : ∀ A, fnOK Go.Proofs.Tryz.prog gts a19v a19b Go.Proofs.Tryz.f19 a19 A = true := fun A => by kernel_rfl
theorem ok20 : ∀ A, fnOK Go.Proofs.Tryz.prog gts a20v a20b Go.Proofs.Tryz.f20 a20 A = true := fun A => by kernel_rfl
theorem ok23 : ∀ A, fnOK Go.Proofs.Tryz.prog gts a23v a23b Go.Proofs.Tryz.f23 a23 A = true := fun A => by kernel_rfl
theorem ok24 : ∀ A, fnOK Go.Proofs.Tryz.prog gts a24v a24b Go.Proofs.Tryz.f24 a24 A = true := fun A => by kernel_rfl
theorem ok25 : ∀ A, fnOK Go.Proofs.Tryz.prog gts a25v a25b Go.Proofs.Tryz.f25 a25 A = true := fun A => by kernel_rfl
theorem ok26 : ∀ A, fnOK Go.Proofs.Tryz.prog gts a26v a26b Go.Proofs.Tryz.f26 a26 A = true := fun A => by kernel_rfl
theorem ok27 : ∀ A, fnOK Go.Proofs.Tryz.prog gts a27v a27b Go.Proofs.Tryz.f27 a27 A = true := fun A => by kernel_rfl
theorem ok28 : ∀ A, fnOK Go.Proofs.Tryz.prog gts a28v a28b Go.Proofs.Tryz.f28 a28 A = true := fun A => by kernel_rfl
theorem ok29 : ∀ A, fnOK Go.Proofs.Tryz.prog gts a29v a29b Go.Proofs.Tryz.f29 a29 A = true := fun A => by kernel_rfl
theorem ok30 : ∀ A, fnOK Go.Proofs.Tryz.prog gts a30v a30b Go.Proofs.Tryz.f30 a30 A = true := fun A => by kernel_rfl
theorem ok31 : ∀ A, fnOK Go.Proofs.Tryz.prog gts a31v a31b Go.Proofs.Tryz.f31 a31 A = true := fun A => by kernel_rfl
theorem ok33 : ∀ A, fnOK Go.Proofs.Tryz.prog gts a33v a33b Go.Proofs.Tryz.f33 a33 A = true := fun A => by kernel_rfl
theorem ok34 : ∀ A, fnOK Go.Proofs.Tryz.prog gts a34v a34b Go.Proofs.Tryz.f34 a34 A = true := fun A => by kernel_rfl
theorem ok35 : ∀ A, fnOK Go.Proofs.Tryz.prog gts a35v a35b Go.Proofs.Tryz.f35 a35 A = true := fun A => by kernel_rfl
theorem ok37 : ∀ A, fnOK Go.Proofs.Tryz.prog gts a37v a37b Go.Proofs.Tryz.f37 a37 A = true := fun A => by kernel_rfl
theorem ok38 : ∀ A, fnOK Go.Proofs.Tryz.prog gts a38v a38b Go.Proofs.Tryz.f38 a38 A = true := fun A => by kernel_rfl
theorem ok39 : ∀ A, fnOK Go.Proofs.Tryz.prog gts a39v a39b Go.Proofs.Tryz.f39 a39 A = true := fun A => by kernel_rfl
theorem ok40 : ∀ A, fnOK Go.Proofs.Tryz.prog gts a40v a40b Go.Proofs.Tryz.f40 a40 A = true := fun A => by kernel_rfl
theorem ok41 : ∀ A, fnOK Go.Proofs.Tryz.prog gts a41v a41b Go.Proofs.Tryz.f41 a41 A = true := fun A => by kernel_rfl
theorem ok42 : ∀ A, fnOK Go.Proofs.Tryz.prog gts a42v a42b Go.Proofs.Tryz.f42 a42 A = true := fun A => by kernel_rfl
theorem ok43 : ∀ A, fnOK Go.Proofs.Tryz.prog gts a43v a43b Go.Proofs.Tryz.f43 a43 A = true := fun A => by kernel_rfl
theorem ok44 : ∀ A, fnOK Go.Proofs.Tryz.prog gts a44v a44b Go.Proofs.Tryz.f44 a44 A = true := fun A => by kernel_rfl
theorem ok45 : ∀ A, fnOK Go.Proofs.Tryz.prog gts a45v a45b Go.Proofs.Tryz.f45 a45 A = true := fun A => by kernel_rfl
theorem ok46 : ∀ A, fnOK Go.Proofs.Tryz.prog gts a46v a46b Go.Proofs.Tryz.f46 a46 A = true := fun A => by kernel_rfl
theorem ok47 : ∀ A, fnOK Go.Proofs.Tryz.prog gts a47v a47b Go.Proofs.Tryz.f47 a47 A = true := fun A => by kernel_rfl
theorem ok48 : ∀ A, fnOK Go.Proofs.Tryz.prog gts a48v a48b Go.Proofs.Tryz.f48 a48 A = true := fun A => by kernel_rfl
theorem ok49 : ∀ A, fnOK Go.Proofs.Tryz.prog gts a49v a49b Go.Proofs.Tryz.f49 a49 A = true := fun A => by kernel_rfl
theorem ok50 : ∀ A, fnOK Go.Proofs.Tryz.prog gts a50v a50b Go.Proofs.Tryz.f50 a50 A = true := fun A => by kernel_rfl
theorem ok51 : ∀ A, fnOK Go.Proofs.Tryz.prog gts a51v a51b Go.Proofs.Tryz.f51 a51 A = true := fun A => by kernel_rfl
theorem ok52 : ∀ A, fnOK Go.Proofs.Tryz.prog gts a52v a52b Go.Proofs.Tryz.f52 a52 A = true := fun A => by kernel_rfl
theorem ok53 : ∀ A, fnOK Go.Proofs.Tryz.prog gts a53v a53b Go.Proofs.Tryz.f53 a53 A = true := fun A => by kernel_rfl
theorem ok54 : ∀ A, fnOK Go.Proofs.Tryz.prog gts a54v a54b Go.Proofs.Tryz.f54 a54 A = true := fun A => by kernel_rfl
theorem ok55 : ∀ A, fnOK Go.Proofs.Tryz.prog gts a55v a55b Go.Proofs.Tryz.f55 a55 A = true := fun A => by kernel_rfl
theorem ok56 : ∀ A, fnOK Go.Proofs.Tryz.prog gts a56v a56b Go.Proofs.Tryz.f56 a56 A = true := fun A => by kernel_rfl
theorem ok57 : ∀ A, fnOK Go.Proofs.Tryz.prog gts a57v a57b Go.Proofs.Tryz.f57 a57 A = true := fun A => by kernel_rfl
theorem ok58 : ∀ A, fnOK Go.Proofs.Tryz.prog gts a58v a58b Go.Proofs.Tryz.f58 a58 A = true := fun A => by kernel_rfl
theorem ok59 : ∀ A, fnOK Go.Proofs.Tryz.prog gts a59v a59b Go.Proofs.Tryz.f59 a59 A = true := fun A => by kernel_rfl
theorem ok60 : ∀ A, fnOK Go.Proofs.Tryz.prog gts a60v a60b Go.Proofs.Tryz.f60 a60 A = true := fun A => by kernel_rfl
theorem ok61 : ∀ A, fnOK Go.Proofs.Tryz.prog gts a61v a61b Go.Proofs.Tryz.f61 a61 A = true := fun A => by kernel_rfl
theorem ok62 : ∀ A, fnOK Go.Proofs.Tryz.prog gts a62v a62b Go.Proofs.Tryz.f62 a62 A = true := fun A => by kernel_rfl
theorem ok63 : ∀ A, fnOK Go.Proofs.Tryz.prog gts a63v a63b Go.Proofs.Tryz.f63 a63 A = true := fun A => by kernel_rfl
theorem ok64 : ∀ A, fnOK Go.Proofs.Tryz.prog gts a64v a64b Go.Proofs.Tryz.f64 a64 A = true := fun A => by kernel_rfl
theorem ok65 : ∀ A, fnOK Go.Proofs.Tryz.prog gts a65v a65b Go.Proofs.Tryz.f65 a65 A = true := fun A => by kernel_rfl
theorem ok66 : ∀ A, fnOK Go.Proofs.Tryz.prog gts a66v a66b Go.Proofs.Tryz.f66 a66 A = true := fun A => by kernel_rfl
theorem ok67 : ∀ A, fnOK Go.Proofs.Tryz.prog gts a67v a67b Go.Proofs.Tryz.f67 a67 A = true := fun A => by kernel_rfl
theorem ok68 : ∀ A, fnOK Go.Proofs.Tryz.prog gts a68v a68b Go.Proofs.Tryz.f68 a68 A = true := fun A => by kernel_rfl
theorem ok69 : ∀ A, fnOK Go.Proofs.Tryz.prog gts a69v a69b Go.Proofs.Tryz.f69 a69 A = true := fun A => by kernel_rfl
theorem ok70 : ∀ A, fnOK Go.Proofs.Tryz.prog gts a70v a70b Go.Proofs.Tryz.f70 a70 A = true := fun A => by kernel_rfl
theorem ok71 : ∀ A, fnOK Go.Proofs.Tryz.prog gts a71v a71b Go.Proofs.Tryz.f71 a71 A = true := fun A => by kernel_rfl
theorem ok72 : ∀ A, fnOK Go.Proofs.Tryz.prog gts a72v a72b Go.Proofs.Tryz.f72 a72 A = true := fun A => by kernel_rfl
theorem ok73 : ∀ A, fnOK Go.Proofs.Tryz.prog gts a73v a73b Go.Proofs.Tryz.f73 a73 A = true := fun A => by kernel_rfl
theorem ok74 : ∀ A, fnOK Go.Proofs.Tryz.prog gts a74v a74b Go.Proofs.Tryz.f74 a74 A = true := fun A => by kernel_rfl
theorem ok76 : ∀ A, fnOK Go.Proofs.Tryz.prog gts a76v a76b Go.Proofs.Tryz.f76 a76 A = true := fun A => by kernel_rfl
theorem ok77 : ∀ A, fnOK Go.Proofs.Tryz.prog gts a77v a77b Go.Proofs.Tryz.f77 a77 A = true := fun A => by kernel_rfl
theorem ok78 : ∀ A, fnOK Go.Proofs.Tryz.prog gts a78v a78b Go.Proofs.Tryz.f78 a78 A = true := fun A => by kernel_rfl
theorem ok79 : ∀ A, fnOK Go.Proofs.Tryz.prog gts a79v a79b Go.Proofs.Tryz.f79 a79 A = true := fun A => by kernel_rfl
theorem ok80 : ∀ A, fnOK Go.Proofs.Tryz.prog gts a80v a80b Go.Proofs.Tryz.f80 a80 A = true := fun A => by kernel_rfl
theorem ok81 : ∀ A, fnOK Go.Proofs.Tryz.prog gts a81v a81b Go.Proofs.Tryz.f81 a81 A = true := fun A => by kernel_rfl
theorem ok82 : ∀ A, fnOK Go.Proofs.Tryz.prog gts a82v a82b Go.Proofs.Tryz.f82 a82 A = true := fun A => by kernel_rfl
theorem ok83 : ∀ A, fnOK Go.Proofs.Tryz.prog gts a83v a83b Go.Proofs.Tryz.f83 a83 A = true := fun A => by kernel_rfl
theorem ok84 : ∀ A, fnOK Go.Proofs.Tryz.prog gts a84v a84b Go.Proofs.Tryz.f84 a84 A = true := fun A => by kernel_rfl
theorem ok85 : ∀ A, fnOK Go.Proofs.Tryz.prog gts a85v a85b Go.Proofs.Tryz.f85 a85 A = true := fun A => by kernel_rfl
theorem ok86 : ∀ A, fnOK Go.Proofs.Tryz.prog gts a86v a86b Go.Proofs.Tryz.f86 a86 A = true := fun A => by kernel_rfl
theorem ok87 : ∀ A, fnOK Go.Proofs.Tryz.prog gts a87v a87b Go.Proofs.Tryz.f87 a87 A = true := fun A => by kernel_rfl
theorem ok88 : ∀ A, fnOK Go.Proofs.Tryz.prog gts a88v a88b Go.Proofs.Tryz.f88 a88 A = true := fun A => by kernel_rfl
theorem ok89 : ∀ A, fnOK Go.Proofs.Tryz.prog gts a89v a89b Go.Proofs.Tryz.f89 a89 A = true := fun A => by kernel_rfl
theorem ok90 : ∀ A, fnOK Go.Proofs.Tryz.prog gts a90v a90b Go.Proofs.Tryz.f90 a90 A = true := fun A => by kernel_rfl
theorem ok91 : ∀ A, fnOK Go.Proofs.Tryz.prog gts a91v a91b Go.Proofs.Tryz.f91 a91 A = true := fun A => by kernel_rfl
theorem ok92 : ∀ A, fnOK Go.Proofs.Tryz.prog gts a92v a92b Go.Proofs.Tryz.f92 a92 A = true := fun A => by kernel_rfl
theorem ok93 : ∀ A, fnOK Go.Proofs.Tryz.prog gts a93v a93b Go.Proofs.Tryz.f93 a93 A = true := fun A => by kernel_rfl
theorem ok94 : ∀ A, fnOK Go.Proofs.Tryz.prog gts a94v a94b Go.Proofs.Tryz.f94 a94 A = true := fun A => by kernel_rfl
theorem ok95 : ∀ A, fnOK Go.Proofs.Tryz.prog gts a95v a95b Go.Proofs.Tryz.f95 a95 A = true := fun A => by kernel_rfl
theorem ok96 : ∀ A, fnOK Go.Proofs.Tryz.prog gts a96v a96b Go.Proofs.Tryz.f96 a96 A = true := fun A => by kernel_rfl
theorem ok97 : ∀ A, fnOK Go.Proofs.Tryz.prog gts a97v a97b Go.Proofs.Tryz.f97 a97 A = true := fun A => by kernel_rfl
theorem ok98 : ∀ A, fnOK Go.Proofs.Tryz.prog gts a98v a98b Go.Proofs.Tryz.f98 a98 A = true := fun A => by kernel_rfl
theorem ok99 : ∀ A, fnOK Go.Proofs.Tryz.prog gts a99v a99b Go.Proofs.Tryz.f99 a99 A = true := fun A => by kernel_rfl
theorem ok101 : ∀ A, fnOK Go.Proofs.Tryz.prog gts a101v a101b Go.Proofs.Tryz.f101 a101 A = true := fun A => by kernel_rfl
theorem ok102 : ∀ A, fnOK Go.Proofs.Tryz.prog gts a102v a102b Go.Proofs.Tryz.f102 a102 A = true := fun A => by kernel_rfl
theorem ok103 : ∀ A, fnOK Go.Proofs.Tryz.prog gts a103v a103b Go.Proofs.Tryz.f103 a103 A = true := fun A => by kernel_rfl
theorem ok104 : ∀ A, fnOK Go.Proofs.Tryz.prog gts a104v a104b Go.Proofs.Tryz.f104 a104 A = true := fun A => by kernel_rfl
theorem ok105 : ∀ A, fnOK Go.Proofs.Tryz.prog gts a105v a105b Go.Proofs.Tryz.f105 a105 A = true := fun A => by kernel_rfl
theorem ok106 : ∀ A, fnOK Go.Proofs.Tryz.prog gts a106v a106b Go.Proofs.Tryz.f106 a106 A = true := fun A => by kernel_rfl
theorem ok107 : ∀ A, fnOK Go.Proofs.Tryz.prog gts a107v a107b Go.Proofs.Tryz.f107 a107 A = true := fun A => by kernel_rfl
theorem ok108 : ∀ A, fnOK Go.Proofs.Tryz.prog gts a108v a108b Go.Proofs.Tryz.f108 a108 A = true := fun A => by kernel_rfl
theorem ok109 : ∀ A, fnOK Go.Proofs.Tryz.prog gts a109v a109b Go.Proofs.Tryz.f109 a109 A = true := fun A => by kernel_rfl
theorem ok114 : ∀ A, fnOK Go.Proofs.Tryz.prog gts a114v a114b Go.Proofs.Tryz.f114 a114 A = true := fun A => by kernel_rfl
theorem ok115 : ∀ A, fnOK Go.Proofs.Tryz.prog gts a115v a115b Go.Proofs.Tryz.f115 a115 A = true := fun A => by kernel_rfl
theorem ok116 : ∀ A, fnOK Go.Proofs.Tryz.prog gts a116v a116b Go.Proofs.Tryz.f116 a116 A = true := fun A => by kernel_rfl
theorem clone36 : ExtOK Go.Proofs.Tryz.prog gts 36 (cloneX 4 72) := clone_ok Go.Proofs.Tryz.func36 (t := Go.Proofs.Tryz.f36.params.getD 0 0) ⟨_, _, _, _, _, _, _, _, _, _, _, _, _, rfl, rfl, rfl, ⟨rfl, rfl, rfl⟩, ⟨rfl, rfl, rfl⟩, ⟨rfl, rfl, rfl⟩, ⟨rfl, rfl, rfl⟩, ⟨rfl, rfl, rfl⟩, ⟨rfl, rfl, rfl⟩, ⟨rfl, rfl, rfl⟩, ⟨rfl, rfl, rfl⟩, by kernel_rfl⟩
theorem clone75 : ExtOK Go.Proofs.Tryz.prog gts 75 fmtX := fmt_ok (gi := 1) (by kernel_rfl) (List.mem_cons_of_mem _ (List.mem_singleton.2 rfl)) fun n h0 h1 w ht => fmt_laid n h0 h1 w ht
theorem mixed : Go.Proofs.Tryz.prog.follows .mixedOrders = true := by kernel_rfl
theorem tbl_lt {f : Nat} {af : AFn} (h : tbl f = some af) : f < 150 := by
  rcases Nat.lt_or_ge f 150 with h1 | h1
  · exact h1
  · exfalso
    have e : tblL.getD (f / 10) [] = [] := by
      rw [List.getD_eq_getElem?_getD, List.getElem?_eq_none]
      · rfl
      · show 15 ≤ f / 10
        omega
    have h : (tblL.getD (f / 10) []).getD (f % 10) none = some af := h
    rw [e] at h
    cases h
theorem t8 (af : AFn) (h : some a8 = some af) : enterB Go.Proofs.Tryz.prog 8 = true ∧ ((∃ slots bxs fn, Go.Proofs.Tryz.prog.funcs[8]? = some fn ∧ ∀ A, fnOK Go.Proofs.Tryz.prog gts slots bxs fn af A = true) ∨ (∃ e, af.ext = some e ∧ ExtOK Go.Proofs.Tryz.prog gts 8 e)) := by
  cases h
  exact ⟨by kernel_rfl, .inl ⟨a8v, a8b, Go.Proofs.Tryz.f8, Go.Proofs.Tryz.func8, ok8⟩⟩
theorem t9 (af : AFn) (h : some a9 = some af) : enterB Go.Proofs.Tryz.prog 9 = true ∧ ((∃ slots bxs fn, Go.Proofs.Tryz.prog.funcs[9]? = some fn ∧ ∀ A, fnOK Go.Proofs.Tryz.prog gts slots bxs fn af A = true) ∨ (∃ e, af.ext = some e ∧ ExtOK Go.Proofs.Tryz.prog gts 9 e)) := by
  cases h
  exact ⟨by kernel_rfl, .inl ⟨a9v, a9b, Go.Proofs.Tryz.f9, Go.Proofs.Tryz.func9, ok9⟩⟩
theorem t12 (af : AFn) (h : some a12 = some af) : enterB Go.Proofs.Tryz.prog 12 = true ∧ ((∃ slots bxs fn, Go.Proofs.Tryz.prog.funcs[12]? = some fn ∧ ∀ A, fnOK Go.Proofs.Tryz.prog gts slots bxs fn af A = true) ∨ (∃ e, af.ext = some e ∧ ExtOK Go.Proofs.Tryz.prog gts 12 e)) := by
  cases h
  exact ⟨by kernel_rfl, .inl ⟨a12v, a12b, Go.Proofs.Tryz.f12, Go.Proofs.Tryz.func12, ok12⟩⟩
theorem t13 (af : AFn) (h : some a13 = some af) : enterB Go.Proofs.Tryz.prog 13 = true ∧ ((∃ slots bxs fn, Go.Proofs.Tryz.prog.funcs[13]? = some fn ∧ ∀ A, fnOK Go.Proofs.Tryz.prog gts slots bxs fn af A = true) ∨ (∃ e, af.ext = some e ∧ ExtOK Go.Proofs.Tryz.prog gts 13 e)) := by
  cases h
  exact ⟨by kernel_rfl, .inl ⟨a13v, a13b, Go.Proofs.Tryz.f13, Go.Proofs.Tryz.func13, ok13⟩⟩
theorem t14 (af : AFn) (h : some a14 = some af) : enterB Go.Proofs.Tryz.prog 14 = true ∧ ((∃ slots bxs fn, Go.Proofs.Tryz.prog.funcs[14]? = some fn ∧ ∀ A, fnOK Go.Proofs.Tryz.prog gts slots bxs fn af A = true) ∨ (∃ e, af.ext = some e ∧ ExtOK Go.Proofs.Tryz.prog gts 14 e)) := by
  cases h
  exact ⟨by kernel_rfl, .inl ⟨a14v, a14b, Go.Proofs.Tryz.f14, Go.Proofs.Tryz.func14, ok14⟩⟩
theorem t15 (af : AFn) (h : some a15 = some af) : enterB Go.Proofs.Tryz.prog 15 = true ∧ ((∃ slots bxs fn, Go.Proofs.Tryz.prog.funcs[15]? = some fn ∧ ∀ A, fnOK Go.Proofs.Tryz.prog gts slots bxs fn af A = true) ∨ (∃ e, af.ext = some e ∧ ExtOK Go.Proofs.Tryz.prog gts 15 e)) := by
  cases h
  exact ⟨by kernel_rfl, .inl ⟨a15v, a15b, Go.Proofs.Tryz.f15, Go.Proofs.Tryz.func15, ok15⟩⟩
theorem t16 (af : AFn) (h : some a16 = some af) : enterB Go.Proofs.Tryz.prog 16 = true ∧ ((∃ slots bxs fn, Go.Proofs.Tryz.prog.funcs[16]? = some fn ∧ ∀ A, fnOK Go.Proofs.Tryz.prog gts slots bxs fn af A = true) ∨ (∃ e, af.ext = some e ∧ ExtOK Go.Proofs.Tryz.prog gts 16 e)) := by
  cases h
  exact ⟨by kernel_rfl, .inl ⟨a16v, a16b, Go.Proofs.Tryz.f16, Go.Proofs.Tryz.func16, ok16⟩⟩
theorem t19 (af : AFn) (h : some a19 = some af) : enterB Go.Proofs.Tryz.prog 19 = true ∧ ((∃ slots bxs fn, Go.Proofs.Tryz.prog.funcs[19]? = some fn ∧ ∀ A, fnOK Go.Proofs.Tryz.prog gts slots bxs fn af A = true) ∨ (∃ e, af.ext = some e ∧ ExtOK Go.Proofs.Tryz.prog gts 19 e)) := by
  cases h
  exact ⟨by kernel_rfl, .inl ⟨a19v, a19b, Go.Proofs.Tryz.f19, Go.Proofs.Tryz.func19, ok19⟩⟩
theorem t20 (af : AFn) (h : some a20 = some af) : enterB Go.Proofs.Tryz.prog 20 = true ∧ ((∃ slots bxs fn, Go.Proofs.Tryz.prog.funcs[20]? = some fn ∧ ∀ A, fnOK Go.Proofs.Tryz.prog gts slots bxs fn af A = true) ∨ (∃ e, af.ext = some e ∧ ExtOK Go.Proofs.Tryz.prog gts 20 e)) := by
  cases h
  exact ⟨by kernel_rfl, .inl ⟨a20v, a20b, Go.Proofs.Tryz.f20, Go.Proofs.Tryz.func20, ok20⟩⟩
theorem t23 (af : AFn) (h : some a23 = some af) : enterB Go.Proofs.Tryz.prog 23 = true ∧ ((∃ slots bxs fn, Go.Proofs.Tryz.prog.funcs[23]? = some fn ∧ ∀ A, fnOK Go.Proofs.Tryz.prog gts slots bxs fn af A = true) ∨ (∃ e, af.ext = some e ∧ ExtOK Go.Proofs.Tryz.prog gts 23 e)) := by
  cases h
  exact ⟨by kernel_rfl, .inl ⟨a23v, a23b, Go.Proofs.Tryz.f23, Go.Proofs.Tryz.func23, ok23⟩⟩
theorem t24 (af : AFn) (h : some a24 = some af) : enterB Go.Proofs.Tryz.prog 24 = true ∧ ((∃ slots bxs fn, Go.Proofs.Tryz.prog.funcs[24]? = some fn ∧ ∀ A, fnOK Go.Proofs.Tryz.prog gts slots bxs fn af A = true) ∨ (∃ e, af.ext = some e ∧ ExtOK Go.Proofs.Tryz.prog gts 24 e)) := by
  cases h
  exact ⟨by kernel_rfl, .inl ⟨a24v, a24b, Go.Proofs.Tryz.f24, Go.Proofs.Tryz.func24, ok24⟩⟩
theorem t25 (af : AFn) (h : some a25 = some af) : enterB Go.Proofs.Tryz.prog 25 = true ∧ ((∃ slots bxs fn, Go.Proofs.Tryz.prog.funcs[25]? = some fn ∧ ∀ A, fnOK Go.Proofs.Tryz.prog gts slots bxs fn af A = true) ∨ (∃ e, af.ext = some e ∧ ExtOK Go.Proofs.Tryz.prog gts 25 e)) := by
  cases h
  exact ⟨by kernel_rfl, .inl ⟨a25v, a25b, Go.Proofs.Tryz.f25, Go.Proofs.Tryz.func25, ok25⟩⟩
theorem t26 (af : AFn) (h : some a26 = some af) : enterB Go.Proofs.Tryz.prog 26 = true ∧ ((∃ slots bxs fn, Go.Proofs.Tryz.prog.funcs[26]? = some fn ∧ ∀ A, fnOK Go.Proofs.Tryz.prog gts slots bxs fn af A = true) ∨ (∃ e, af.ext = some e ∧ ExtOK Go.Proofs.Tryz.prog gts 26 e)) := by
  cases h
  exact ⟨by kernel_rfl, .inl ⟨a26v, a26b, Go.Proofs.Tryz.f26, Go.Proofs.Tryz.func26, ok26⟩⟩
theorem t27 (af : AFn) (h : some a27 = some af) : enterB Go.Proofs.Tryz.prog 27 = true ∧ ((∃ slots bxs fn, Go.Proofs.Tryz.prog.funcs[27]? = some fn ∧ ∀ A, fnOK Go.Proofs.Tryz.prog gts slots bxs fn af A = true) ∨ (∃ e, af.ext = some e ∧ ExtOK Go.Proofs.Tryz.prog gts 27 e)) := by
  cases h
  exact ⟨by kernel_rfl, .inl ⟨a27v, a27b, Go.Proofs.Tryz.f27, Go.Proofs.Tryz.func27, ok27⟩⟩
theorem t28 (af : AFn) (h : some a28 = some af) : enterB Go.Proofs.Tryz.prog 28 = true ∧ ((∃ slots bxs fn, Go.Proofs.Tryz.prog.funcs[28]? = some fn ∧ ∀ A, fnOK Go.Proofs.Tryz.prog gts slots bxs fn af A = true) ∨ (∃ e, af.ext = some e ∧ ExtOK Go.Proofs.Tryz.prog gts 28 e)) := by
  cases h
  exact ⟨by kernel_rfl, .inl ⟨a28v, a28b, Go.Proofs.Tryz.f28, Go.Proofs.Tryz.func28, ok28⟩⟩
theorem t29 (af : AFn) (h : some a29 = some af) : enterB Go.Proofs.Tryz.prog 29 = true ∧ ((∃ slots bxs fn, Go.Proofs.Tryz.prog.funcs[29]? = some fn ∧ ∀ A, fnOK Go.Proofs.Tryz.prog gts slots bxs fn af A = true) ∨ (∃ e, af.ext = some e ∧ ExtOK Go.Proofs.Tryz.prog gts 29 e)) := by
  cases h
  exact ⟨by kernel_rfl, .inl ⟨a29v, a29b, Go.Proofs.Tryz.f29, Go.Proofs.Tryz.func29, ok29⟩⟩
theorem t30 (af : AFn) (h : some a30 = some af) : enterB Go.Proofs.Tryz.prog 30 = true ∧ ((∃ slots bxs fn, Go.Proofs.Tryz.prog.funcs[30]? = some fn ∧ ∀ A, fnOK Go.Proofs.Tryz.prog gts slots bxs fn af A = true) ∨ (∃ e, af.ext = some e ∧ ExtOK Go.Proofs.Tryz.prog gts 30 e)) := by
  cases h
  exact ⟨by kernel_rfl, .inl ⟨a30v, a30b, Go.Proofs.Tryz.f30, Go.Proofs.Tryz.func30, ok30⟩⟩
theorem t31 (af : AFn) (h : some a31 = some af) : enterB Go.Proofs.Tryz.prog 31 = true ∧ ((∃ slots bxs fn, Go.Proofs.Tryz.prog.funcs[31]? = some fn ∧ ∀ A, fnOK Go.Proofs.Tryz.prog gts slots bxs fn af A = true) ∨ (∃ e, af.ext = some e ∧ ExtOK Go.Proofs.Tryz.prog gts 31 e)) := by
  cases h
  exact ⟨by kernel_rfl, .inl ⟨a31v, a31b, Go.Proofs.Tryz.f31, Go.Proofs.Tryz.func31, ok31⟩⟩
theorem t33 (af : AFn) (h : some a33 = some af) : enterB Go.Proofs.Tryz.prog 33 = true ∧ ((∃ slots bxs fn, Go.Proofs.Tryz.prog.funcs[33]? = some fn ∧ ∀ A, fnOK Go.Proofs.Tryz.prog gts slots bxs fn af A = true) ∨ (∃ e, af.ext = some e ∧ ExtOK Go.Proofs.Tryz.prog gts 33 e)) := by
  cases h
  exact ⟨by kernel_rfl, .inl ⟨a33v, a33b, Go.Proofs.Tryz.f33, Go.Proofs.Tryz.func33, ok33⟩⟩
theorem t34 (af : AFn) (h : some a34 = some af) : enterB Go.Proofs.Tryz.prog 34 = true ∧ ((∃ slots bxs fn, Go.Proofs.Tryz.prog.funcs[34]? = some fn ∧ ∀ A, fnOK Go.Proofs.Tryz.prog gts slots bxs fn af A = true) ∨ (∃ e, af.ext = some e ∧ ExtOK Go.Proofs.Tryz.prog gts 34 e)) := by
  cases h
  exact ⟨by kernel_rfl, .inl ⟨a34v, a34b, Go.Proofs.Tryz.f34, Go.Proofs.Tryz.func34, ok34⟩⟩
theorem t35 (af : AFn) (h : some a35 = some af) : enterB Go.Proofs.Tryz.prog 35 = true ∧ ((∃ slots bxs fn, Go.Proofs.Tryz.prog.funcs[35]? = some fn ∧ ∀ A, fnOK Go.Proofs.Tryz.prog gts slots bxs fn af A = true) ∨ (∃ e, af.ext = some e ∧ ExtOK Go.Proofs.Tryz.prog gts 35 e)) := by
  cases h
  exact ⟨by kernel_rfl, .inl ⟨a35v, a35b, Go.Proofs.Tryz.f35, Go.Proofs.Tryz.func35, ok35⟩⟩
theorem t36 (af : AFn) (h : some a36 = some af) : enterB Go.Proofs.Tryz.prog 36 = true ∧ ((∃ slots bxs fn, Go.Proofs.Tryz.prog.funcs[36]? = some fn ∧ ∀ A, fnOK Go.Proofs.Tryz.prog gts slots bxs fn af A = true) ∨ (∃ e, af.ext = some e ∧ ExtOK Go.Proofs.Tryz.prog gts 36 e)) := by
  cases h
  exact ⟨by kernel_rfl, .inr ⟨_, rfl, clone36⟩⟩
theorem t37 (af : AFn) (h : some a37 = some af) : enterB Go.Proofs.Tryz.prog 37 = true ∧ ((∃ slots bxs fn, Go.Proofs.Tryz.prog.funcs[37]? = some fn ∧ ∀ A, fnOK Go.Proofs.Tryz.prog gts slots bxs fn af A = true) ∨ (∃ e, af.ext = some e ∧ ExtOK Go.Proofs.Tryz.prog gts 37 e)) := by
  cases h
  exact ⟨by kernel_rfl, .inl ⟨a37v, a37b, Go.Proofs.Tryz.f37, Go.Proofs.Tryz.func37, ok37⟩⟩
theorem t38 (af : AFn) (h : some a38 = some af) : enterB Go.Proofs.Tryz.prog 38 = true ∧ ((∃ slots bxs fn, Go.Proofs.Tryz.prog.funcs[38]? = some fn ∧ ∀ A, fnOK Go.Proofs.Tryz.prog gts slots bxs fn af A = true) ∨ (∃ e, af.ext = some e ∧ ExtOK Go.Proofs.Tryz.prog gts 38 e)) := by
  cases h
  exact ⟨by kernel_rfl, .inl ⟨a38v, a38b, Go.Proofs.Tryz.f38, Go.Proofs.Tryz.func38, ok38⟩⟩
theorem t39 (af : AFn) (h : some a39 = some af) : enterB Go.Proofs.Tryz.prog 39 = true ∧ ((∃ slots bxs fn, Go.Proofs.Tryz.prog.funcs[39]? = some fn ∧ ∀ A, fnOK Go.Proofs.Tryz.prog gts slots bxs fn af A = true) ∨ (∃ e, af.ext = some e ∧ ExtOK Go.Proofs.Tryz.prog gts 39 e)) := by
  cases h
  exact ⟨by kernel_rfl, .inl ⟨a39v, a39b, Go.Proofs.Tryz.f39, Go.Proofs.Tryz.func39, ok39⟩⟩
theorem t40 (af : AFn) (h : some a40 = some af) : enterB Go.Proofs.Tryz.prog 40 = true ∧ ((∃ slots bxs fn, Go.Proofs.Tryz.prog.funcs[40]? = some fn ∧ ∀ A, fnOK Go.Proofs.Tryz.prog gts slots bxs fn af A = true) ∨ (∃ e, af.ext = some e ∧ ExtOK Go.Proofs.Tryz.prog gts 40 e)) := by
  cases h
  exact ⟨by kernel_rfl, .inl ⟨a40v, a40b, Go.Proofs.Tryz.f40, Go.Proofs.Tryz.func40, ok40⟩⟩
theorem t41 (af : AFn) (h : some a41 = some af) : enterB Go.Proofs.Tryz.prog 41 = true ∧ ((∃ slots bxs fn, Go.Proofs.Tryz.prog.funcs[41]? = some fn ∧ ∀ A, fnOK Go.Proofs.Tryz.prog gts slots bxs fn af A = true) ∨ (∃ e, af.ext = some e ∧ ExtOK Go.Proofs.Tryz.prog gts 41 e)) := by
  cases h
  exact ⟨by kernel_rfl, .inl ⟨a41v, a41b, Go.Proofs.Tryz.f41, Go.Proofs.Tryz.func41, ok41⟩⟩
theorem t42 (af : AFn) (h : some a42 = some af) : enterB Go.Proofs.Tryz.prog 42 = true ∧ ((∃ slots bxs fn, Go.Proofs.Tryz.prog.funcs[42]? = some fn ∧ ∀ A, fnOK Go.Proofs.Tryz.prog gts slots bxs fn af A = true) ∨ (∃ e, af.ext = some e ∧ ExtOK Go.Proofs.Tryz.prog gts 42 e)) := by
  cases h
  exact ⟨by kernel_rfl, .inl ⟨a42v, a42b, Go.Proofs.Tryz.f42, Go.Proofs.Tryz.func42, ok42⟩⟩
theorem t43 (af : AFn) (h : some a43 = some af) : enterB Go.Proofs.Tryz.prog 43 = true ∧ ((∃ slots bxs fn, Go.Proofs.Tryz.prog.funcs[43]? = some fn ∧ ∀ A, fnOK Go.Proofs.Tryz.prog gts slots bxs fn af A = true) ∨ (∃ e, af.ext = some e ∧ ExtOK Go.Proofs.Tryz.prog gts 43 e)) := by
  cases h
  exact ⟨by kernel_rfl, .inl ⟨a43v, a43b, Go.Proofs.Tryz.f43, Go.Proofs.Tryz.func43, ok43⟩⟩
theorem t44 (af : AFn) (h : some a44 = some af) : enterB Go.Proofs.Tryz.prog 44 = true ∧ ((∃ slots bxs fn, Go.Proofs.Tryz.prog.funcs[44]? = some fn ∧ ∀ A, fnOK Go.Proofs.Tryz.prog gts slots bxs fn af A = true) ∨ (∃ e, af.ext = some e ∧ ExtOK Go.Proofs.Tryz.prog gts 44 e)) := by
  cases h
  exact ⟨by kernel_rfl, .inl ⟨a44v, a44b, Go.Proofs.Tryz.f44, Go.Proofs.Tryz.func44, ok44⟩⟩
theorem t45 (af : AFn) (h : some a45 = some af) : enterB Go.Proofs.Tryz.prog 45 = true ∧ ((∃ slots bxs fn, Go.Proofs.Tryz.prog.funcs[45]? = some fn ∧ ∀ A, fnOK Go.Proofs.Tryz.prog gts slots bxs fn af A = true) ∨ (∃ e, af.ext = some e ∧ ExtOK Go.Proofs.Tryz.prog gts 45 e)) := by
  cases h
  exact ⟨by kernel_rfl, .inl ⟨a45v, a45b, Go.Proofs.Tryz.f45, Go.Proofs.Tryz.func45, ok45⟩⟩
theorem t46 (af : AFn) (h : some a46 = some af) : enterB Go.Proofs.Tryz.prog 46 = true ∧ ((∃ slots bxs fn, Go.Proofs.Tryz.prog.funcs[46]? = some fn ∧ ∀ A, fnOK Go.Proofs.Tryz.prog gts slots bxs fn af A = true) ∨ (∃ e, af.ext = some e ∧ ExtOK Go.Proofs.Tryz.prog gts 46 e)) := by
  cases h
  exact ⟨by kernel_rfl, .inl ⟨a46v, a46b, Go.Proofs.Tryz.f46, Go.Proofs.Tryz.func46, ok46⟩⟩
theorem t47 (af : AFn) (h : some a47 = some af) : enterB Go.Proofs.Tryz.prog 47 = true ∧ ((∃ slots bxs fn, Go.Proofs.Tryz.prog.funcs[47]? = some fn ∧ ∀ A, fnOK Go.Proofs.Tryz.prog gts slots bxs fn af A = true) ∨ (∃ e, af.ext = some e ∧ ExtOK Go.Proofs.Tryz.prog gts 47 e)) := by
  cases h
  exact ⟨by kernel_rfl, .inl ⟨a47v, a47b, Go.Proofs.Tryz.f47, Go.Proofs.Tryz.func47, ok47⟩⟩
theorem t48 (af : AFn) (h : some a48 = some af) : enterB Go.Proofs.Tryz.prog 48 = true ∧ ((∃ slots bxs fn, Go.Proofs.Tryz.prog.funcs[48]? = some fn ∧ ∀ A, fnOK Go.Proofs.Tryz.prog gts slots bxs fn af A = true) ∨ (∃ e, af.ext = some e ∧ ExtOK Go.Proofs.Tryz.prog gts 48 e)) := by
  cases h
  exact ⟨by kernel_rfl, .inl ⟨a48v, a48b, Go.Proofs.Tryz.f48, Go.Proofs.Tryz.func48, ok48⟩⟩
theorem t49 (af : AFn) (h : some a49 = some af) : enterB Go.Proofs.Tryz.prog 49 = true ∧ ((∃ slots bxs fn, Go.Proofs.Tryz.prog.funcs[49]? = some fn ∧ ∀ A, fnOK Go.Proofs.Tryz.prog gts slots bxs fn af A = true) ∨ (∃ e, af.ext = some e ∧ ExtOK Go.Proofs.Tryz.prog gts 49 e)) := by
  cases h
  exact ⟨by kernel_rfl, .inl ⟨a49v, a49b, Go.Proofs.Tryz.f49, Go.Proofs.Tryz.func49, ok49⟩⟩
theorem t50 (af : AFn) (h : some a50 = some af) : enterB Go.Proofs.Tryz.prog 50 = true ∧ ((∃ slots bxs fn, Go.Proofs.Tryz.prog.funcs[50]? = some fn ∧ ∀ A, fnOK Go.Proofs.Tryz.prog gts slots bxs fn af A = true) ∨ (∃ e, af.ext = some e ∧ ExtOK Go.Proofs.Tryz.prog gts 50 e)) := by
  cases h
  exact ⟨by kernel_rfl, .inl ⟨a50v, a50b, Go.Proofs.Tryz.f50, Go.Proofs.Tryz.func50, ok50⟩⟩
theorem t51 (af : AFn) (h : some a51 = some af) : enterB Go.Proofs.Tryz.prog 51 = true ∧ ((∃ slots bxs fn, Go.Proofs.Tryz.prog.funcs[51]? = some fn ∧ ∀ A, fnOK Go.Proofs.Tryz.prog gts slots bxs fn af A = true) ∨ (∃ e, af.ext = some e ∧ ExtOK Go.Proofs.Tryz.prog gts 51 e)) := by
  cases h
  exact ⟨by kernel_rfl, .inl ⟨a51v, a51b, Go.Proofs.Tryz.f51, Go.Proofs.Tryz.func51, ok51⟩⟩
theorem t52 (af : AFn) (h : some a52 = some af) : enterB Go.Proofs.Tryz.prog 52 = true ∧ ((∃ slots bxs fn, Go.Proofs.Tryz.prog.funcs[52]? = some fn ∧ ∀ A, fnOK Go.Proofs.Tryz.prog gts slots bxs fn af A = true) ∨ (∃ e, af.ext = some e ∧ ExtOK Go.Proofs.Tryz.prog gts 52 e)) := by
  cases h
  exact ⟨by kernel_rfl, .inl ⟨a52v, a52b, Go.Proofs.Tryz.f52, Go.Proofs.Tryz.func52, ok52⟩⟩
theorem t53 (af : AFn) (h : some a53 = some af) : enterB Go.Proofs.Tryz.prog 53 = true ∧ ((∃ slots bxs fn, Go.Proofs.Tryz.prog.funcs[53]? = some fn ∧ ∀ A, fnOK Go.Proofs.Tryz.prog gts slots bxs fn af A = true) ∨ (∃ e, af.ext = some e ∧ ExtOK Go.Proofs.Tryz.prog gts 53 e)) := by
  cases h
  exact ⟨by kernel_rfl, .inl ⟨a53v, a53b, Go.Proofs.Tryz.f53, Go.Proofs.Tryz.func53, ok53⟩⟩
theorem t54 (af : AFn) (h : some a54 = some af) : enterB Go.Proofs.Tryz.prog 54 = true ∧ ((∃ slots bxs fn, Go.Proofs.Tryz.prog.funcs[54]? = some fn ∧ ∀ A, fnOK Go.Proofs.Tryz.prog gts slots bxs fn af A = true) ∨ (∃ e, af.ext = some e ∧ ExtOK Go.Proofs.Tryz.prog gts 54 e)) := by
  cases h
  exact ⟨by kernel_rfl, .inl ⟨a54v, a54b, Go.Proofs.Tryz.f54, Go.Proofs.Tryz.func54, ok54⟩⟩
theorem t55 (af : AFn) (h : some a55 = some af) : enterB Go.Proofs.Tryz.prog 55 = true ∧ ((∃ slots bxs fn, Go.Proofs.Tryz.prog.funcs[55]? = some fn ∧ ∀ A, fnOK Go.Proofs.Tryz.prog gts slots bxs fn af A = true) ∨ (∃ e, af.ext = some e ∧ ExtOK Go.Proofs.Tryz.prog gts 55 e)) := by
  cases h
  exact ⟨by kernel_rfl, .inl ⟨a55v, a55b, Go.Proofs.Tryz.f55, Go.Proofs.Tryz.func55, ok55⟩⟩
theorem t56 (af : AFn) (h : some a56 = some af) : enterB Go.Proofs.Tryz.prog 56 = true ∧ ((∃ slots bxs fn, Go.Proofs.Tryz.prog.funcs[56]? = some fn ∧ ∀ A, fnOK Go.Proofs.Tryz.prog gts slots bxs fn af A = true) ∨ (∃ e, af.ext = some e ∧ ExtOK Go.Proofs.Tryz.prog gts 56 e)) := by
  cases h
  exact ⟨by kernel_rfl, .inl ⟨a56v, a56b, Go.Proofs.Tryz.f56, Go.Proofs.Tryz.func56, ok56⟩⟩
theorem t57 (af : AFn) (h : some a57 = some af) : enterB Go.Proofs.Tryz.prog 57 = true ∧ ((∃ slots bxs fn, Go.Proofs.Tryz.prog.funcs[57]? = some fn ∧ ∀ A, fnOK Go.Proofs.Tryz.prog gts slots bxs fn af A = true) ∨ (∃ e, af.ext = some e ∧ ExtOK Go.Proofs.Tryz.prog gts 57 e)) := by
  cases h
  exact ⟨by kernel_rfl, .inl ⟨a57v, a57b, Go.Proofs.Tryz.f57, Go.Proofs.Tryz.func57, ok57⟩⟩
theorem t58 (af : AFn) (h : some a58 = some af) : enterB Go.Proofs.Tryz.prog 58 = true ∧ ((∃ slots bxs fn, Go.Proofs.Tryz.prog.funcs[58]? = some fn ∧ ∀ A, fnOK Go.Proofs.Tryz.prog gts slots bxs fn af A = true) ∨ (∃ e, af.ext = some e ∧ ExtOK Go.Proofs.Tryz.prog gts 58 e)) := by
  cases h
  exact ⟨by kernel_rfl, .inl ⟨a58v, a58b, Go.Proofs.Tryz.f58, Go.Proofs.Tryz.func58, ok58⟩⟩
theorem t59 (af : AFn) (h : some a59 = some af) : enterB Go.Proofs.Tryz.prog 59 = true ∧ ((∃ slots bxs fn, Go.Proofs.Tryz.prog.funcs[59]? = some fn ∧ ∀ A, fnOK Go.Proofs.Tryz.prog gts slots bxs fn af A = true) ∨ (∃ e, af.ext = some e ∧ ExtOK Go.Proofs.Tryz.prog gts 59 e)) := by
  cases h
  exact ⟨by kernel_rfl, .inl ⟨a59v, a59b, Go.Proofs.Tryz.f59, Go.Proofs.Tryz.func59, ok59⟩⟩
theorem t60 (af : AFn) (h : some a60 = some af) : enterB Go.Proofs.Tryz.prog 60 = true ∧ ((∃ slots bxs fn, Go.Proofs.Tryz.prog.funcs[60]? = some fn ∧ ∀ A, fnOK Go.Proofs.Tryz.prog gts slots bxs fn af A = true) ∨ (∃ e, af.ext = some e ∧ ExtOK Go.Proofs.Tryz.prog gts 60 e)) := by
  cases h
  exact ⟨by kernel_rfl, .inl ⟨a60v, a60b, Go.Proofs.Tryz.f60, Go.Proofs.Tryz.func60, ok60⟩⟩
theorem t61 (af : AFn) (h : some a61 = some af) : enterB Go.Proofs.Tryz.prog 61 = true ∧ ((∃ slots bxs fn, Go.Proofs.Tryz.prog.funcs[61]? = some fn ∧ ∀ A, fnOK Go.Proofs.Tryz.prog gts slots bxs fn af A = true) ∨ (∃ e, af.ext = some e ∧ ExtOK Go.Proofs.Tryz.prog gts 61 e)) := by
  cases h
  exact ⟨by kernel_rfl, .inl ⟨a61v, a61b, Go.Proofs.Tryz.f61, Go.Proofs.Tryz.func61, ok61⟩⟩
theorem t62 (af : AFn) (h : some a62 = some af) : enterB Go.Proofs.Tryz.prog 62 = true ∧ ((∃ slots bxs fn, Go.Proofs.Tryz.prog.funcs[62]? = some fn ∧ ∀ A, fnOK Go.Proofs.Tryz.prog gts slots bxs fn af A = true) ∨ (∃ e, af.ext = some e ∧ ExtOK Go.Proofs.Tryz.prog gts 62 e)) := by
  cases h
  exact ⟨by kernel_rfl, .inl ⟨a62v, a62b, Go.Proofs.Tryz.f62, Go.Proofs.Tryz.func62, ok62⟩⟩
theorem t63 (af : AFn) (h : some a63 = some af) : enterB Go.Proofs.Tryz.prog 63 = true ∧ ((∃ slots bxs fn, Go.Proofs.Tryz.prog.funcs[63]? = some fn ∧ ∀ A, fnOK Go.Proofs.Tryz.prog gts slots bxs fn af A = true) ∨ (∃ e, af.ext = some e ∧ ExtOK Go.Proofs.Tryz.prog gts 63 e)) := by
  cases h
  exact ⟨by kernel_rfl, .inl ⟨a63v, a63b, Go.Proofs.Tryz.f63, Go.Proofs.Tryz.func63, ok63⟩⟩
theorem t64 (af : AFn) (h : some a64 = some af) : enterB Go.Proofs.Tryz.prog 64 = true ∧ ((∃ slots bxs fn, Go.Proofs.Tryz.prog.funcs[64]? = some fn ∧ ∀ A, fnOK Go.Proofs.Tryz.prog gts slots bxs fn af A = true) ∨ (∃ e, af.ext = some e ∧ ExtOK Go.Proofs.Tryz.prog gts 64 e)) := by
  cases h
  exact ⟨by kernel_rfl, .inl ⟨a64v, a64b, Go.Proofs.Tryz.f64, Go.Proofs.Tryz.func64, ok64⟩⟩
theorem t65 (af : AFn) (h : some a65 = some af) : enterB Go.Proofs.Tryz.prog 65 = true ∧ ((∃ slots bxs fn, Go.Proofs.Tryz.prog.funcs[65]? = some fn ∧ ∀ A, fnOK Go.Proofs.Tryz.prog gts slots bxs fn af A = true) ∨ (∃ e, af.ext = some e ∧ ExtOK Go.Proofs.Tryz.prog gts 65 e)) := by
  cases h
  exact ⟨by kernel_rfl, .inl ⟨a65v, a65b, Go.Proofs.Tryz.f65, Go.Proofs.Tryz.func65, ok65⟩⟩
theorem t66 (af : AFn) (h : some a66 = some af) : enterB Go.Proofs.Tryz.prog 66 = true ∧ ((∃ slots bxs fn, Go.Proofs.Tryz.prog.funcs[66]? = some fn ∧ ∀ A, fnOK Go.Proofs.Tryz.prog gts slots bxs fn af A = true) ∨ (∃ e, af.ext = some e ∧ ExtOK Go.Proofs.Tryz.prog gts 66 e)) := by
  cases h
  exact ⟨by kernel_rfl, .inl ⟨a66v, a66b, Go.Proofs.Tryz.f66, Go.Proofs.Tryz.func66, ok66⟩⟩
theorem t67 (af : AFn) (h : some a67 = some af) : enterB Go.Proofs.Tryz.prog 67 = true ∧ ((∃ slots bxs fn, Go.Proofs.Tryz.prog.funcs[67]? = some fn ∧ ∀ A, fnOK Go.Proofs.Tryz.prog gts slots bxs fn af A = true) ∨ (∃ e, af.ext = some e ∧ ExtOK Go.Proofs.Tryz.prog gts 67 e)) := by
  cases h
  exact ⟨by kernel_rfl, .inl ⟨a67v, a67b, Go.Proofs.Tryz.f67, Go.Proofs.Tryz.func67, ok67⟩⟩
theorem t68 (af : AFn) (h : some a68 = some af) : enterB Go.Proofs.Tryz.prog 68 = true ∧ ((∃ slots bxs fn, Go.Proofs.Tryz.prog.funcs[68]? = some fn ∧ ∀ A, fnOK Go.Proofs.Tryz.prog gts slots bxs fn af A = true) ∨ (∃ e, af.ext = some e ∧ ExtOK Go.Proofs.Tryz.prog gts 68 e)) := by
  cases h
  exact ⟨by kernel_rfl, .inl ⟨a68v, a68b, Go.Proofs.Tryz.f68, Go.Proofs.Tryz.func68, ok68⟩⟩
theorem t69 (af : AFn) (h : some a69 = some af) : enterB Go.Proofs.Tryz.prog 69 = true ∧ ((∃ slots bxs fn, Go.Proofs.Tryz.prog.funcs[69]? = some fn ∧ ∀ A, fnOK Go.Proofs.Tryz.prog gts slots bxs fn af A = true) ∨ (∃ e, af.ext = some e ∧ ExtOK Go.Proofs.Tryz.prog gts 69 e)) := by
  cases h
  exact ⟨by kernel_rfl, .inl ⟨a69v, a69b, Go.Proofs.Tryz.f69, Go.Proofs.Tryz.func69, ok69⟩⟩
theorem t70 (af : AFn) (h : some a70 = some af) : enterB Go.Proofs.Tryz.prog 70 = true ∧ ((∃ slots bxs fn, Go.Proofs.Tryz.prog.funcs[70]? = some fn ∧ ∀ A, fnOK Go.Proofs.Tryz.prog gts slots bxs fn af A = true) ∨ (∃ e, af.ext = some e ∧ ExtOK Go.Proofs.Tryz.prog gts 70 e)) := by
  cases h
  exact ⟨by kernel_rfl, .inl ⟨a70v, a70b, Go.Proofs.Tryz.f70, Go.Proofs.Tryz.func70, ok70⟩⟩
theorem t71 (af : AFn) (h : some a71 = some af) : enterB Go.Proofs.Tryz.prog 71 = true ∧ ((∃ slots bxs fn, Go.Proofs.Tryz.prog.funcs[71]? = some fn ∧ ∀ A, fnOK Go.Proofs.Tryz.prog gts slots bxs fn af A = true) ∨ (∃ e, af.ext = some e ∧ ExtOK Go.Proofs.Tryz.prog gts 71 e)) := by
  cases h
  exact ⟨by kernel_rfl, .inl ⟨a71v, a71b, Go.Proofs.Tryz.f71, Go.Proofs.Tryz.func71, ok71⟩⟩
theorem t72 (af : AFn) (h : some a72 = some af) : enterB Go.Proofs.Tryz.prog 72 = true ∧ ((∃ slots bxs fn, Go.Proofs.Tryz.prog.funcs[72]? = some fn ∧ ∀ A, fnOK Go.Proofs.Tryz.prog gts slots bxs fn af A = true) ∨ (∃ e, af.ext = some e ∧ ExtOK Go.Proofs.Tryz.prog gts 72 e)) := by
  cases h
  exact ⟨by kernel_rfl, .inl ⟨a72v, a72b, Go.Proofs.Tryz.f72, Go.Proofs.Tryz.func72, ok72⟩⟩
theorem t73 (af : AFn) (h : some a73 = some af) : enterB Go.Proofs.Tryz.prog 73 = true ∧ ((∃ slots bxs fn, Go.Proofs.Tryz.prog.funcs[73]? = some fn ∧ ∀ A, fnOK Go.Proofs.Tryz.prog gts slots bxs fn af A = true) ∨ (∃ e, af.ext = some e ∧ ExtOK Go.Proofs.Tryz.prog gts 73 e)) := by
  cases h
  exact ⟨by kernel_rfl, .inl ⟨a73v, a73b, Go.Proofs.Tryz.f73, Go.Proofs.Tryz.func73, ok73⟩⟩
theorem t74 (af : AFn) (h : some a74 = some af) : enterB Go.Proofs.Tryz.prog 74 = true ∧ ((∃ slots bxs fn, Go.Proofs.Tryz.prog.funcs[74]? = some fn ∧ ∀ A, fnOK Go.Proofs.Tryz.prog gts slots bxs fn af A = true) ∨ (∃ e, af.ext = some e ∧ ExtOK Go.Proofs.Tryz.prog gts 74 e)) := by
  cases h
  exact ⟨by kernel_rfl, .inl ⟨a74v, a74b, Go.Proofs.Tryz.f74, Go.Proofs.Tryz.func74, ok74⟩⟩
theorem t75 (af : AFn) (h : some a75 = some af) : enterB Go.Proofs.Tryz.prog 75 = true ∧ ((∃ slots bxs fn, Go.Proofs.Tryz.prog.funcs[75]? = some fn ∧ ∀ A, fnOK Go.Proofs.Tryz.prog gts slots bxs fn af A = true) ∨ (∃ e, af.ext = some e ∧ ExtOK Go.Proofs.Tryz.prog gts 75 e)) := by
  cases h
  exact ⟨by kernel_rfl, .inr ⟨_, rfl, clone75⟩⟩
theorem t76 (af : AFn) (h : some a76 = some af) : enterB Go.Proofs.Tryz.prog 76 = true ∧ ((∃ slots bxs fn, Go.Proofs.Tryz.prog.funcs[76]? = some fn ∧ ∀ A, fnOK Go.Proofs.Tryz.prog gts slots bxs fn af A = true) ∨ (∃ e, af.ext = some e ∧ ExtOK Go.Proofs.Tryz.prog gts 76 e)) := by
  cases h
  exact ⟨by kernel_rfl, .inl ⟨a76v, a76b, Go.Proofs.Tryz.f76, Go.Proofs.Tryz.func76, ok76⟩⟩
theorem t77 (af : AFn) (h : some a77 = some af) : enterB Go.Proofs.Tryz.prog 77 = true ∧ ((∃ slots bxs fn, Go.Proofs.Tryz.prog.funcs[77]? = some fn ∧ ∀ A, fnOK Go.Proofs.Tryz.prog gts slots bxs fn af A = true) ∨ (∃ e, af.ext = some e ∧ ExtOK Go.Proofs.Tryz.prog gts 77 e)) := by
  cases h
  exact ⟨by kernel_rfl, .inl ⟨a77v, a77b, Go.Proofs.Tryz.f77, Go.Proofs.Tryz.func77, ok77⟩⟩
theorem t78 (af : AFn) (h : some a78 = some af) : enterB Go.Proofs.Tryz.prog 78 = true ∧ ((∃ slots bxs fn, Go.Proofs.Tryz.prog.funcs[78]? = some fn ∧ ∀ A, fnOK Go.Proofs.Tryz.prog gts slots bxs fn af A = true) ∨ (∃ e, af.ext = some e ∧ ExtOK Go.Proofs.Tryz.prog gts 78 e)) := by
  cases h
  exact ⟨by kernel_rfl, .inl ⟨a78v, a78b, Go.Proofs.Tryz.f78, Go.Proofs.Tryz.func78, ok78⟩⟩
theorem t79 (af : AFn) (h : some a79 = some af) : enterB Go.Proofs.Tryz.prog 79 = true ∧ ((∃ slots bxs fn, Go.Proofs.Tryz.prog.funcs[79]? = some fn ∧ ∀ A, fnOK Go.Proofs.Tryz.prog gts slots bxs fn af A = true) ∨ (∃ e, af.ext = some e ∧ ExtOK Go.Proofs.Tryz.prog gts 79 e)) := by
  cases h
  exact ⟨by kernel_rfl, .inl ⟨a79v, a79b, Go.Proofs.Tryz.f79, Go.Proofs.Tryz.func79, ok79⟩⟩
theorem t80 (af : AFn) (h : some a80 = some af) : enterB Go.Proofs.Tryz.prog 80 = true ∧ ((∃ slots bxs fn, Go.Proofs.Tryz.prog.funcs[80]? = some fn ∧ ∀ A, fnOK Go.Proofs.Tryz.prog gts slots bxs fn af A = true) ∨ (∃ e, af.ext = some e ∧ ExtOK Go.Proofs.Tryz.prog gts 80 e)) := by
  cases h
  exact ⟨by kernel_rfl, .inl ⟨a80v, a80b, Go.Proofs.Tryz.f80, Go.Proofs.Tryz.func80, ok80⟩⟩
theorem t81 (af : AFn) (h : some a81 = some af) : enterB Go.Proofs.Tryz.prog 81 = true ∧ ((∃ slots bxs fn, Go.Proofs.Tryz.prog.funcs[81]? = some fn ∧ ∀ A, fnOK Go.Proofs.Tryz.prog gts slots bxs fn af A = true) ∨ (∃ e, af.ext = some e ∧ ExtOK Go.Proofs.Tryz.prog gts 81 e)) := by
  cases h
  exact ⟨by kernel_rfl, .inl ⟨a81v, a81b, Go.Proofs.Tryz.f81, Go.Proofs.Tryz.func81, ok81⟩⟩
theorem t82 (af : AFn) (h : some a82 = some af) : enterB Go.Proofs.Tryz.prog 82 = true ∧ ((∃ slots bxs fn, Go.Proofs.Tryz.prog.funcs[82]? = some fn ∧ ∀ A, fnOK Go.Proofs.Tryz.prog gts slots bxs fn af A = true) ∨ (∃ e, af.ext = some e ∧ ExtOK Go.Proofs.Tryz.prog gts 82 e)) := by
  cases h
  exact ⟨by kernel_rfl, .inl ⟨a82v, a82b, Go.Proofs.Tryz.f82, Go.Proofs.Tryz.func82, ok82⟩⟩
theorem t83 (af : AFn) (h : some a83 = some af) : enterB Go.Proofs.Tryz.prog 83 = true ∧ ((∃ slots bxs fn, Go.Proofs.Tryz.prog.funcs[83]? = some fn ∧ ∀ A, fnOK Go.Proofs.Tryz.prog gts slots bxs fn af A = true) ∨ (∃ e, af.ext = some e ∧ ExtOK Go.Proofs.Tryz.prog gts 83 e)) := by
  cases h
  exact ⟨by kernel_rfl, .inl ⟨a83v, a83b, Go.Proofs.Tryz.f83, Go.Proofs.Tryz.func83, ok83⟩⟩
theorem t84 (af : AFn) (h : some a84 = some af) : enterB Go.Proofs.Tryz.prog 84 = true ∧ ((∃ slots bxs fn, Go.Proofs.Tryz.prog.funcs[84]? = some fn ∧ ∀ A, fnOK Go.Proofs.Tryz.prog gts slots bxs fn af A = true) ∨ (∃ e, af.ext = some e ∧ ExtOK Go.Proofs.Tryz.prog gts 84 e)) := by
  cases h
  exact ⟨by kernel_rfl, .inl ⟨a84v, a84b, Go.Proofs.Tryz.f84, Go.Proofs.Tryz.func84, ok84⟩⟩
theorem t85 (af : AFn) (h : some a85 = some af) : enterB Go.Proofs.Tryz.prog 85 = true ∧ ((∃ slots bxs fn, Go.Proofs.Tryz.prog.funcs[85]? = some fn ∧ ∀ A, fnOK Go.Proofs.Tryz.prog gts slots bxs fn af A = true) ∨ (∃ e, af.ext = some e ∧ ExtOK Go.Proofs.Tryz.prog gts 85 e)) := by
  cases h
  exact ⟨by kernel_rfl, .inl ⟨a85v, a85b, Go.Proofs.Tryz.f85, Go.Proofs.Tryz.func85, ok85⟩⟩
theorem t86 (af : AFn) (h : some a86 = some af) : enterB Go.Proofs.Tryz.prog 86 = true ∧ ((∃ slots bxs fn, Go.Proofs.Tryz.prog.funcs[86]? = some fn ∧ ∀ A, fnOK Go.Proofs.Tryz.prog gts slots bxs fn af A = true) ∨ (∃ e, af.ext = some e ∧ ExtOK Go.Proofs.Tryz.prog gts 86 e)) := by
  cases h
  exact ⟨by kernel_rfl, .inl ⟨a86v, a86b, Go.Proofs.Tryz.f86, Go.Proofs.Tryz.func86, ok86⟩⟩
theorem t87 (af : AFn) (h : some a87 = some af) : enterB Go.Proofs.Tryz.prog 87 = true ∧ ((∃ slots bxs fn, Go.Proofs.Tryz.prog.funcs[87]? = some fn ∧ ∀ A, fnOK Go.Proofs.Tryz.prog gts slots bxs fn af A = true) ∨ (∃ e, af.ext = some e ∧ ExtOK Go.Proofs.Tryz.prog gts 87 e)) := by
  cases h
  exact ⟨by kernel_rfl, .inl ⟨a87v, a87b, Go.Proofs.Tryz.f87, Go.Proofs.Tryz.func87, ok87⟩⟩
theorem t88 (af : AFn) (h : some a88 = some af) : enterB Go.Proofs.Tryz.prog 88 = true ∧ ((∃ slots bxs fn, Go.Proofs.Tryz.prog.funcs[88]? = some fn ∧ ∀ A, fnOK Go.Proofs.Tryz.prog gts slots bxs fn af A = true) ∨ (∃ e, af.ext = some e ∧ ExtOK Go.Proofs.Tryz.prog gts 88 e)) := by
  cases h
  exact ⟨by kernel_rfl, .inl ⟨a88v, a88b, Go.Proofs.Tryz.f88, Go.Proofs.Tryz.func88, ok88⟩⟩
theorem t89 (af : AFn) (h : some a89 = some af) : enterB Go.Proofs.Tryz.prog 89 = true ∧ ((∃ slots bxs fn, Go.Proofs.Tryz.prog.funcs[89]? = some fn ∧ ∀ A, fnOK Go.Proofs.Tryz.prog gts slots bxs fn af A = true) ∨ (∃ e, af.ext = some e ∧ ExtOK Go.Proofs.Tryz.prog gts 89 e)) := by
  cases h
  exact ⟨by kernel_rfl, .inl ⟨a89v, a89b, Go.Proofs.Tryz.f89, Go.Proofs.Tryz.func89, ok89⟩⟩
theorem t90 (af : AFn) (h : some a90 = some af) : enterB Go.Proofs.Tryz.prog 90 = true ∧ ((∃ slots bxs fn, Go.Proofs.Tryz.prog.funcs[90]? = some fn ∧ ∀ A, fnOK Go.Proofs.Tryz.prog gts slots bxs fn af A = true) ∨ (∃ e, af.ext = some e ∧ ExtOK Go.Proofs.Tryz.prog gts 90 e)) := by
  cases h
  exact ⟨by kernel_rfl, .inl ⟨a90v, a90b, Go.Proofs.Tryz.f90, Go.Proofs.Tryz.func90, ok90⟩⟩
theorem t91 (af : AFn) (h : some a91 = some af) : enterB Go.Proofs.Tryz.prog 91 = true ∧ ((∃ slots bxs fn, Go.Proofs.Tryz.prog.funcs[91]? = some fn ∧ ∀ A, fnOK Go.Proofs.Tryz.prog gts slots bxs fn af A = true) ∨ (∃ e, af.ext = some e ∧ ExtOK Go.Proofs.Tryz.prog gts 91 e)) := by
  cases h
  exact ⟨by kernel_rfl, .inl ⟨a91v, a91b, Go.Proofs.Tryz.f91, Go.Proofs.Tryz.func91, ok91⟩⟩
theorem t92 (af : AFn) (h : some a92 = some af) : enterB Go.Proofs.Tryz.prog 92 = true ∧ ((∃ slots bxs fn, Go.Proofs.Tryz.prog.funcs[92]? = some fn ∧ ∀ A, fnOK Go.Proofs.Tryz.prog gts slots bxs fn af A = true) ∨ (∃ e, af.ext = some e ∧ ExtOK Go.Proofs.Tryz.prog gts 92 e)) := by
  cases h
  exact ⟨by kernel_rfl, .inl ⟨a92v, a92b, Go.Proofs.Tryz.f92, Go.Proofs.Tryz.func92, ok92⟩⟩
theorem t93 (af : AFn) (h : some a93 = some af) : enterB Go.Proofs.Tryz.prog 93 = true ∧ ((∃ slots bxs fn, Go.Proofs.Tryz.prog.funcs[93]? = some fn ∧ ∀ A, fnOK Go.Proofs.Tryz.prog gts slots bxs fn af A = true) ∨ (∃ e, af.ext = some e ∧ ExtOK Go.Proofs.Tryz.prog gts 93 e)) := by
  cases h
  exact ⟨by kernel_rfl, .inl ⟨a93v, a93b, Go.Proofs.Tryz.f93, Go.Proofs.Tryz.func93, ok93⟩⟩
theorem t94 (af : AFn) (h : some a94 = some af) : enterB Go.Proofs.Tryz.prog 94 = true ∧ ((∃ slots bxs fn, Go.Proofs.Tryz.prog.funcs[94]? = some fn ∧ ∀ A, fnOK Go.Proofs.Tryz.prog gts slots bxs fn af A = true) ∨ (∃ e, af.ext = some e ∧ ExtOK Go.Proofs.Tryz.prog gts 94 e)) := by
  cases h
  exact ⟨by kernel_rfl, .inl ⟨a94v, a94b, Go.Proofs.Tryz.f94, Go.Proofs.Tryz.func94, ok94⟩⟩
theorem t95 (af : AFn) (h : some a95 = some af) : enterB Go.Proofs.Tryz.prog 95 = true ∧ ((∃ slots bxs fn, Go.Proofs.Tryz.prog.funcs[95]? = some fn ∧ ∀ A, fnOK Go.Proofs.Tryz.prog gts slots bxs fn af A = true) ∨ (∃ e, af.ext = some e ∧ ExtOK Go.Proofs.Tryz.prog gts 95 e)) := by
  cases h
  exact ⟨by kernel_rfl, .inl ⟨a95v, a95b, Go.Proofs.Tryz.f95, Go.Proofs.Tryz.func95, ok95⟩⟩
theorem t96 (af : AFn) (h : some a96 = some af) : enterB Go.Proofs.Tryz.prog 96 = true ∧ ((∃ slots bxs fn, Go.Proofs.Tryz.prog.funcs[96]? = some fn ∧ ∀ A, fnOK Go.Proofs.Tryz.prog gts slots bxs fn af A = true) ∨ (∃ e, af.ext = some e ∧ ExtOK Go.Proofs.Tryz.prog gts 96 e)) := by
  cases h
  exact ⟨by kernel_rfl, .inl ⟨a96v, a96b, Go.Proofs.Tryz.f96, Go.Proofs.Tryz.func96, ok96⟩⟩
theorem t97 (af : AFn) (h : some a97 = some af) : enterB Go.Proofs.Tryz.prog 97 = true ∧ ((∃ slots bxs fn, Go.Proofs.Tryz.prog.funcs[97]? = some fn ∧ ∀ A, fnOK Go.Proofs.Tryz.prog gts slots bxs fn af A = true) ∨ (∃ e, af.ext = some e ∧ ExtOK Go.Proofs.Tryz.prog gts 97 e)) := by
  cases h
  exact ⟨by kernel_rfl, .inl ⟨a97v, a97b, Go.Proofs.Tryz.f97, Go.Proofs.Tryz.func97, ok97⟩⟩
theorem t98 (af : AFn) (h : some a98 = some af) : enterB Go.Proofs.Tryz.prog 98 = true ∧ ((∃ slots bxs fn, Go.Proofs.Tryz.prog.funcs[98]? = some fn ∧ ∀ A, fnOK Go.Proofs.Tryz.prog gts slots bxs fn af A = true) ∨ (∃ e, af.ext = some e ∧ ExtOK Go.Proofs.Tryz.prog gts 98 e)) := by
  cases h
  exact ⟨by kernel_rfl, .inl ⟨a98v, a98b, Go.Proofs.Tryz.f98, Go.Proofs.Tryz.func98, ok98⟩⟩
theorem t99 (af : AFn) (h : some a99 = some af) : enterB Go.Proofs.Tryz.prog 99 = true ∧ ((∃ slots bxs fn, Go.Proofs.Tryz.prog.funcs[99]? = some fn ∧ ∀ A, fnOK Go.Proofs.Tryz.prog gts slots bxs fn af A = true) ∨ (∃ e, af.ext = some e ∧ ExtOK Go.Proofs.Tryz.prog gts 99 e)) := by
  cases h
  exact ⟨by kernel_rfl, .inl ⟨a99v, a99b, Go.Proofs.Tryz.f99, Go.Proofs.Tryz.func99, ok99⟩⟩
theorem t101 (af : AFn) (h : some a101 = some af) : enterB Go.Proofs.Tryz.prog 101 = true ∧ ((∃ slots bxs fn, Go.Proofs.Tryz.prog.funcs[101]? = some fn ∧ ∀ A, fnOK Go.Proofs.Tryz.prog gts slots bxs fn af A = true) ∨ (∃ e, af.ext = some e ∧ ExtOK Go.Proofs.Tryz.prog gts 101 e)) := by
  cases h
  exact ⟨by kernel_rfl, .inl ⟨a101v, a101b, Go.Proofs.Tryz.f101, Go.Proofs.Tryz.func101, ok101⟩⟩
theorem t102 (af : AFn) (h : some a102 = some af) : enterB Go.Proofs.Tryz.prog 102 = true ∧ ((∃ slots bxs fn, Go.Proofs.Tryz.prog.funcs[102]? = some fn ∧ ∀ A, fnOK Go.Proofs.Tryz.prog gts slots bxs fn af A = true) ∨ (∃ e, af.ext = some e ∧ ExtOK Go.Proofs.Tryz.prog gts 102 e)) := by
  cases h
  exact ⟨by kernel_rfl, .inl ⟨a102v, a102b, Go.Proofs.Tryz.f102, Go.Proofs.Tryz.func102, ok102⟩⟩
theorem t103 (af : AFn) (h : some a103 = some af) : enterB Go.Proofs.Tryz.prog 103 = true ∧ ((∃ slots bxs fn, Go.Proofs.Tryz.prog.funcs[103]? = some fn ∧ ∀ A, fnOK Go.Proofs.Tryz.prog gts slots bxs fn af A = true) ∨ (∃ e, af.ext = some e ∧ ExtOK Go.Proofs.Tryz.prog gts 103 e)) := by
  cases h
  exact ⟨by kernel_rfl, .inl ⟨a103v, a103b, Go.Proofs.Tryz.f103, Go.Proofs.Tryz.func103, ok103⟩⟩
theorem t104 (af : AFn) (h : some a104 = some af) : enterB Go.Proofs.Tryz.prog 104 = true ∧ ((∃ slots bxs fn, Go.Proofs.Tryz.prog.funcs[104]? = some fn ∧ ∀ A, fnOK Go.Proofs.Tryz.prog gts slots bxs fn af A = true) ∨ (∃ e, af.ext = some e ∧ ExtOK Go.Proofs.Tryz.prog gts 104 e)) := by
  cases h
  exact ⟨by kernel_rfl, .inl ⟨a104v, a104b, Go.Proofs.Tryz.f104, Go.Proofs.Tryz.func104, ok104⟩⟩
theorem t105 (af : AFn) (h : some a105 = some af) : enterB Go.Proofs.Tryz.prog 105 = true ∧ ((∃ slots bxs fn, Go.Proofs.Tryz.prog.funcs[105]? = some fn ∧ ∀ A, fnOK Go.Proofs.Tryz.prog gts slots bxs fn af A = true) ∨ (∃ e, af.ext = some e ∧ ExtOK Go.Proofs.Tryz.prog gts 105 e)) := by
  cases h
  exact ⟨by kernel_rfl, .inl ⟨a105v, a105b, Go.Proofs.Tryz.f105, Go.Proofs.Tryz.func105, ok105⟩⟩
theorem t106 (af : AFn) (h : some a106 = some af) : enterB Go.Proofs.Tryz.prog 106 = true ∧ ((∃ slots bxs fn, Go.Proofs.Tryz.prog.funcs[106]? = some fn ∧ ∀ A, fnOK Go.Proofs.Tryz.prog gts slots bxs fn af A = true) ∨ (∃ e, af.ext = some e ∧ ExtOK Go.Proofs.Tryz.prog gts 106 e)) := by
  cases h
  exact ⟨by kernel_rfl, .inl ⟨a106v, a106b, Go.Proofs.Tryz.f106, Go.Proofs.Tryz.func106, ok106⟩⟩
theorem t107 (af : AFn) (h : some a107 = some af) : enterB Go.Proofs.Tryz.prog 107 = true ∧ ((∃ slots bxs fn, Go.Proofs.Tryz.prog.funcs[107]? = some fn ∧ ∀ A, fnOK Go.Proofs.Tryz.prog gts slots bxs fn af A = true) ∨ (∃ e, af.ext = some e ∧ ExtOK Go.Proofs.Tryz.prog gts 107 e)) := by
  cases h
  exact ⟨by kernel_rfl, .inl ⟨a107v, a107b, Go.Proofs.Tryz.f107, Go.Proofs.Tryz.func107, ok107⟩⟩
theorem t108 (af : AFn) (h : some a108 = some af) : enterB Go.Proofs.Tryz.prog 108 = true ∧ ((∃ slots bxs fn, Go.Proofs.Tryz.prog.funcs[108]? = some fn ∧ ∀ A, fnOK Go.Proofs.Tryz.prog gts slots bxs fn af A = true) ∨ (∃ e, af.ext = some e ∧ ExtOK Go.Proofs.Tryz.prog gts 108 e)) := by
  cases h
  exact ⟨by kernel_rfl, .inl ⟨a108v, a108b, Go.Proofs.Tryz.f108, Go.Proofs.Tryz.func108, ok108⟩⟩
theorem t109 (af : AFn) (h : some a109 = some af) : enterB Go.Proofs.Tryz.prog 109 = true ∧ ((∃ slots bxs fn, Go.Proofs.Tryz.prog.funcs[109]? = some fn ∧ ∀ A, fnOK Go.Proofs.Tryz.prog gts slots bxs fn af A = true) ∨ (∃ e, af.ext = some e ∧ ExtOK Go.Proofs.Tryz.prog gts 109 e)) := by
  cases h
  exact ⟨by kernel_rfl, .inl ⟨a109v, a109b, Go.Proofs.Tryz.f109, Go.Proofs.Tryz.func109, ok109⟩⟩
theorem t114 (af : AFn) (h : some a114 = some af) : enterB Go.Proofs.Tryz.prog 114 = true ∧ ((∃ slots bxs fn, Go.Proofs.Tryz.prog.funcs[114]? = some fn ∧ ∀ A, fnOK Go.Proofs.Tryz.prog gts slots bxs fn af A = true) ∨ (∃ e, af.ext = some e ∧ ExtOK Go.Proofs.Tryz.prog gts 114 e)) := by
  cases h
  exact ⟨by kernel_rfl, .inl ⟨a114v, a114b, Go.Proofs.Tryz.f114, Go.Proofs.Tryz.func114, ok114⟩⟩
theorem t115 (af : AFn) (h : some a115 = some af) : enterB Go.Proofs.Tryz.prog 115 = true ∧ ((∃ slots bxs fn, Go.Proofs.Tryz.prog.funcs[115]? = some fn ∧ ∀ A, fnOK Go.Proofs.Tryz.prog gts slots bxs fn af A = true) ∨ (∃ e, af.ext = some e ∧ ExtOK Go.Proofs.Tryz.prog gts 115 e)) := by
  cases h
  exact ⟨by kernel_rfl, .inl ⟨a115v, a115b, Go.Proofs.Tryz.f115, Go.Proofs.Tryz.func115, ok115⟩⟩
theorem t116 (af : AFn) (h : some a116 = some af) : enterB Go.Proofs.Tryz.prog 116 = true ∧ ((∃ slots bxs fn, Go.Proofs.Tryz.prog.funcs[116]? = some fn ∧ ∀ A, fnOK Go.Proofs.Tryz.prog gts slots bxs fn af A = true) ∨ (∃ e, af.ext = some e ∧ ExtOK Go.Proofs.Tryz.prog gts 116 e)) := by
  cases h
  exact ⟨by kernel_rfl, .inl ⟨a116v, a116b, Go.Proofs.Tryz.f116, Go.Proofs.Tryz.func116, ok116⟩⟩
theorem prog_fn : ∀ f af, f < 150 → tbl f = some af → enterB Go.Proofs.Tryz.prog f = true ∧ ((∃ slots bxs fn, Go.Proofs.Tryz.prog.funcs[f]? = some fn ∧ ∀ A, fnOK Go.Proofs.Tryz.prog gts slots bxs fn af A = true) ∨ (∃ e, af.ext = some e ∧ ExtOK Go.Proofs.Tryz.prog gts f e))
  | 0, af, _, h => by cases (show (none : Option AFn) = some af from h)
  | 1, af, _, h => by cases (show (none : Option AFn) = some af from h)
  | 2, af, _, h => by cases (show (none : Option AFn) = some af from h)
  | 3, af, _, h => by cases (show (none : Option AFn) = some af from h)
  | 4, af, _, h => by cases (show (none : Option AFn) = some af from h)
  | 5, af, _, h => by cases (show (none : Option AFn) = some af from h)
  | 6, af, _, h => by cases (show (none : Option AFn) = some af from h)
  | 7, af, _, h => by cases (show (none : Option AFn) = some af from h)
  | 8, af, _, h => t8 af h
  | 9, af, _, h => t9 af h
  | 10, af, _, h => by cases (show (none : Option AFn) = some af from h)
  | 11, af, _, h => by cases (show (none : Option AFn) = some af from h)
  | 12, af, _, h => t12 af h
  | 13, af, _, h => t13 af h
  | 14, af, _, h => t14 af h
  | 15, af, _, h => t15 af h
  | 16, af, _, h => t16 af h
  | 17, af, _, h => by cases (show (none : Option AFn) = some af from h)
  | 18, af, _, h => by cases (show (none : Option AFn) = some af from h)
  | 19, af, _, h => t19 af h
  | 20, af, _, h => t20 af h
  | 21, af, _, h => by cases (show (none : Option AFn) = some af from h)
  | 22, af, _, h => by cases (show (none : Option AFn) = some af from h)
  | 23, af, _, h => t23 af h
  | 24, af, _, h => t24 af h
  | 25, af, _, h => t25 af h
  | 26, af, _, h => t26 af h
  | 27, af, _, h => t27 af h
  | 28, af, _, h => t28 af h
  | 29, af, _, h => t29 af h
  | 30, af, _, h => t30 af h
  | 31, af, _, h => t31 af h
  | 32, af, _, h => by cases (show (none : Option AFn) = some af from h)
  | 33, af, _, h => t33 af h
  | 34, af, _, h => t34 af h
  | 35, af, _, h => t35 af h
  | 36, af, _, h => t36 af h
  | 37, af, _, h => t37 af h
  | 38, af, _, h => t38 af h
  | 39, af, _, h => t39 af h
  | 40, af, _, h => t40 af h
  | 41, af, _, h => t41 af h
  | 42, af, _, h => t42 af h
  | 43, af, _, h => t43 af h
  | 44, af, _, h => t44 af h
  | 45, af, _, h => t45 af h
  | 46, af, _, h => t46 af h
  | 47, af, _, h => t47 af h
  | 48, af, _, h => t48 af h
  | 49, af, _, h => t49 af h
  | 50, af, _, h => t50 af h
  | 51, af, _, h => t51 af h
  | 52, af, _, h => t52 af h
  | 53, af, _, h => t53 af h
  | 54, af, _, h => t54 af h
  | 55, af, _, h => t55 af h
  | 56, af, _, h => t56 af h
  | 57, af, _, h => t57 af h
  | 58, af, _, h => t58 af h
  | 59, af, _, h => t59 af h
  | 60, af, _, h => t60 af h
  | 61, af, _, h => t61 af h
  | 62, af, _, h => t62 af h
  | 63, af, _, h => t63 af h
  | 64, af, _, h => t64 af h
  | 65, af, _, h => t65 af h
  | 66, af, _, h => t66 af h
  | 67, af, _, h => t67 af h
  | 68, af, _, h => t68 af h
  | 69, af, _, h => t69 af h
  | 70, af, _, h => t70 af h
  | 71, af, _, h => t71 af h
  | 72, af, _, h => t72 af h
  | 73, af, _, h => t73 af h
  | 74, af, _, h => t74 af h
  | 75, af, _, h => t75 af h
  | 76, af, _, h => t76 af h
  | 77, af, _, h => t77 af h
  | 78, af, _, h => t78 af h
  | 79, af, _, h => t79 af h
  | 80, af, _, h => t80 af h
  | 81, af, _, h => t81 af h
  | 82, af, _, h => t82 af h
  | 83, af, _, h => t83 af h
  | 84, af, _, h => t84 af h
  | 85, af, _, h => t85 af h
  | 86, af, _, h => t86 af h
  | 87, af, _, h => t87 af h
  | 88, af, _, h => t88 af h
  | 89, af, _, h => t89 af h
  | 90, af, _, h => t90 af h
  | 91, af, _, h => t91 af h
  | 92, af, _, h => t92 af h
  | 93, af, _, h => t93 af h
  | 94, af, _, h => t94 af h
  | 95, af, _, h => t95 af h
  | 96, af, _, h => t96 af h
  | 97, af, _, h => t97 af h
  | 98, af, _, h => t98 af h
  | 99, af, _, h => t99 af h
  | 100, af, _, h => by cases (show (none : Option AFn) = some af from h)
  | 101, af, _, h => t101 af h
  | 102, af, _, h => t102 af h
  | 103, af, _, h => t103 af h
  | 104, af, _, h => t104 af h
  | 105, af, _, h => t105 af h
  | 106, af, _, h => t106 af h
  | 107, af, _, h => t107 af h
  | 108, af, _, h => t108 af h
  | 109, af, _, h => t109 af h
  | 110, af, _, h => by cases (show (none : Option AFn) = some af from h)
  | 111, af, _, h => by cases (show (none : Option AFn) = some af from h)
  | 112, af, _, h => by cases (show (none : Option AFn) = some af from h)
  | 113, af, _, h => by cases (show (none : Option AFn) = some af from h)
  | 114, af, _, h => t114 af h
  | 115, af, _, h => t115 af h
  | 116, af, _, h => t116 af h
  | 117, af, _, h => by cases (show (none : Option AFn) = some af from h)
  | 118, af, _, h => by cases (show (none : Option AFn) = some af from h)
  | 119, af, _, h => by cases (show (none : Option AFn) = some af from h)
  | 120, af, _, h => by cases (show (none : Option AFn) = some af from h)
  | 121, af, _, h => by cases (show (none : Option AFn) = some af from h)
  | 122, af, _, h => by cases (show (none : Option AFn) = some af from h)
  | 123, af, _, h => by cases (show (none : Option AFn) = some af from h)
  | 124, af, _, h => by cases (show (none : Option AFn) = some af from h)
  | 125, af, _, h => by cases (show (none : Option AFn) = some af from h)
  | 126, af, _, h => by cases (show (none : Option AFn) = some af from h)
  | 127, af, _, h => by cases (show (none : Option AFn) = some af from h)
  | 128, af, _, h => by cases (show (none : Option AFn) = some af from h)
  | 129, af, _, h => by cases (show (none : Option AFn) = some af from h)
  | 130, af, _, h => by cases (show (none : Option AFn) = some af from h)
  | 131, af, _, h => by cases (show (none : Option AFn) = some af from h)
  | 132, af, _, h => by cases (show (none : Option AFn) = some af from h)
  | 133, af, _, h => by cases (show (none : Option AFn) = some af from h)
  | 134, af, _, h => by cases (show (none : Option AFn) = some af from h)
  | 135, af, _, h => by cases (show (none : Option AFn) = some af from h)
  | 136, af, _, h => by cases (show (none : Option AFn) = some af from h)
  | 137, af, _, h => by cases (show (none : Option AFn) = some af from h)
  | 138, af, _, h => by cases (show (none : Option AFn) = some af from h)
  | 139, af, _, h => by cases (show (none : Option AFn) = some af from h)
  | 140, af, _, h => by cases (show (none : Option AFn) = some af from h)
  | 141, af, _, h => by cases (show (none : Option AFn) = some af from h)
  | 142, af, _, h => by cases (show (none : Option AFn) = some af from h)
  | 143, af, _, h => by cases (show (none : Option AFn) = some af from h)
  | 144, af, _, h => by cases (show (none : Option AFn) = some af from h)
  | 145, af, _, h => by cases (show (none : Option AFn) = some af from h)
  | 146, af, _, h => by cases (show (none : Option AFn) = some af from h)
  | 147, af, _, h => by cases (show (none : Option AFn) = some af from h)
  | 148, af, _, h => by cases (show (none : Option AFn) = some af from h)
  | 149, af, _, h => by cases (show (none : Option AFn) = some af from h)
  | n + 150, _, h, _ => absurd h (by omega)
theorem prog_ok : ProgOK Go.Proofs.Tryz.prog gts tbl := ⟨mixed, fun f af h => prog_fn f af (tbl_lt h) h⟩
end Go.Cb.CodeA
