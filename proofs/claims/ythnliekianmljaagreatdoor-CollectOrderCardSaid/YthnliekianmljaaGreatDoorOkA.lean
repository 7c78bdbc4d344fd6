/- That code tells the functions of the seat: the test of each function, and all of them together. No conditions. -/
import Derived.Test.YthnliekianmljaaGreatDoorChecked
import Derived.KernelRfl
import Derived.Test.YthnliekianmljaaGreatDoorCodeA
import Derived.Test.YthnliekianmljaaGreatDoorXAms3
set_option maxRecDepth 100000
namespace Go.Cb.CodeA
open Go Go.Cb
open Go.Proofs
abbrev FK (v b : List Nat) (f : Func) (a : AFn) : Prop := ∀ A, fnOK Go.Proofs.Tryz.prog gts v b f a A = true
abbrev TK (f : Nat) (af : AFn) : Prop := enterB Go.Proofs.Tryz.prog f = true ∧ ((∃ slots bxs fn, Go.Proofs.Tryz.prog.funcs[f]? = some fn ∧ ∀ A, fnOK Go.Proofs.Tryz.prog gts slots bxs fn af A = true) ∨ (∃ e, af.ext = some e ∧ ExtOK Go.Proofs.Tryz.prog gts f e))
theorem ok6 : FK a6v a6b Tryz.f6 a6 := fun A => by kernel_rfl
theorem ok9 : FK a9v a9b Tryz.f9 a9 := fun A => by kernel_rfl
theorem ok10 : FK a10v a10b Tryz.f10 a10 := fun A => by kernel_rfl
theorem ok11 : FK a11v a11b Tryz.f11 a11 := fun A => by kernel_rfl
theorem ok12 : FK a12v a12b Tryz.f12 a12 := fun A => by kernel_rfl
theorem ok17 : FK a17v a17b Tryz.f17 a17 := fun A => by kernel_rfl
theorem ok18 : FK a18v a18b Tryz.f18 a18 := fun A => by kernel_rfl
theorem ok19 : FK a19v a19b Tryz.f19 a19 := fun A => by kernel_rfl
theorem ok20 : FK a20v a20b Tryz.f20 a20 := fun A => by kernel_rfl
theorem ok21 : FK a21v a21b Tryz.f21 a21 := fun A => by kernel_rfl
theorem ok22 : FK a22v a22b Tryz.f22 a22 := fun A => by kernel_rfl
theorem ok23 : FK a23v a23b Tryz.f23 a23 := fun A => by kernel_rfl
theorem ok24 : FK a24v a24b Tryz.f24 a24 := fun A => by kernel_rfl
theorem ok25 : FK a25v a25b Tryz.f25 a25 := fun A => by kernel_rfl
theorem ok26 : FK a26v a26b Tryz.f26 a26 := fun A => by kernel_rfl
theorem ok27 : FK a27v a27b Tryz.f27 a27 := fun A => by kernel_rfl
theorem ok28 : FK a28v a28b Tryz.f28 a28 := fun A => by kernel_rfl
theorem ok29 : FK a29v a29b Tryz.f29 a29 := fun A => by kernel_rfl
theorem ok30 : FK a30v a30b Tryz.f30 a30 := fun A => by kernel_rfl
theorem ok31 : FK a31v a31b Tryz.f31 a31 := fun A => by kernel_rfl
theorem ok38 : FK a38v a38b Tryz.f38 a38 := fun A => by kernel_rfl
theorem ok39 : FK a39v a39b Tryz.f39 a39 := fun A => by kernel_rfl
theorem ok40 : FK a40v a40b Tryz.f40 a40 := fun A => by kernel_rfl
theorem ok41 : FK a41v a41b Tryz.f41 a41 := fun A => by kernel_rfl
theorem ok42 : FK a42v a42b Tryz.f42 a42 := fun A => by kernel_rfl
theorem ok43 : FK a43v a43b Tryz.f43 a43 := fun A => by kernel_rfl
theorem ok45 : FK a45v a45b Tryz.f45 a45 := fun A => by kernel_rfl
theorem ok46 : FK a46v a46b Tryz.f46 a46 := fun A => by kernel_rfl
theorem ok47 : FK a47v a47b Tryz.f47 a47 := fun A => by kernel_rfl
theorem ok48 : FK a48v a48b Tryz.f48 a48 := fun A => by kernel_rfl
theorem ok49 : FK a49v a49b Tryz.f49 a49 := fun A => by kernel_rfl
theorem ok50 : FK a50v a50b Tryz.f50 a50 := fun A => by kernel_rfl
theorem ok51 : FK a51v a51b Tryz.f51 a51 := fun A => by kernel_rfl
theorem ok52 : FK a52v a52b Tryz.f52 a52 := fun A => by kernel_rfl
theorem ok53 : FK a53v a53b Tryz.f53 a53 := fun A => by kernel_rfl
theorem ok54 : FK a54v a54b Tryz.f54 a54 := fun A => by kernel_rfl
theorem ok55 : FK a55v a55b Tryz.f55 a55 := fun A => by kernel_rfl
theorem ok56 : FK a56v a56b Tryz.f56 a56 := fun A => by kernel_rfl
theorem ok57 : FK a57v a57b Tryz.f57 a57 := fun A => by kernel_rfl
theorem ok58 : FK a58v a58b Tryz.f58 a58 := fun A => by kernel_rfl
theorem ok59 : FK a59v a59b Tryz.f59 a59 := fun A => by kernel_rfl
theorem ok60 : FK a60v a60b Tryz.f60 a60 := fun A => by kernel_rfl
theorem ok64 : FK a64v a64b Tryz.f64 a64 := fun A => by kernel_rfl
theorem ok65 : FK a65v a65b Tryz.f65 a65 := fun A => by kernel_rfl
theorem ok66 : FK a66v a66b Tryz.f66 a66 := fun A => by kernel_rfl
theorem ok67 : FK a67v a67b Tryz.f67 a67 := fun A => by kernel_rfl
theorem ok68 : FK a68v a68b Tryz.f68 a68 := fun A => by kernel_rfl
theorem ok69 : FK a69v a69b Tryz.f69 a69 := fun A => by kernel_rfl
theorem ok70 : FK a70v a70b Tryz.f70 a70 := fun A => by kernel_rfl
theorem ok71 : FK a71v a71b Tryz.f71 a71 := fun A => by kernel_rfl
theorem ok72 : FK a72v a72b Tryz.f72 a72 := fun A => by kernel_rfl
theorem ok73 : FK a73v a73b Tryz.f73 a73 := fun A => by kernel_rfl
theorem ok74 : FK a74v a74b Tryz.f74 a74 := fun A => by kernel_rfl
theorem ok75 : FK a75v a75b Tryz.f75 a75 := fun A => by kernel_rfl
theorem ok76 : FK a76v a76b Tryz.f76 a76 := fun A => by kernel_rfl
theorem ok77 : FK a77v a77b Tryz.f77 a77 := fun A => by kernel_rfl
theorem ok78 : FK a78v a78b Tryz.f78 a78 := fun A => by kernel_rfl
theorem ok79 : FK a79v a79b Tryz.f79 a79 := fun A => by kernel_rfl
theorem ok80 : FK a80v a80b Tryz.f80 a80 := fun A => by kernel_rfl
theorem ok81 : FK a81v a81b Tryz.f81 a81 := fun A => by kernel_rfl
theorem ok82 : FK a82v a82b Tryz.f82 a82 := fun A => by kernel_rfl
theorem ok83 : FK a83v a83b Tryz.f83 a83 := fun A => by kernel_rfl
theorem ok84 : FK a84v a84b Tryz.f84 a84 := fun A => by kernel_rfl
theorem ok85 : FK a85v a85b Tryz.f85 a85 := fun A => by kernel_rfl
theorem ok86 : FK a86v a86b Tryz.f86 a86 := fun A => by kernel_rfl
theorem ok87 : FK a87v a87b Tryz.f87 a87 := fun A => by kernel_rfl
theorem ok88 : FK a88v a88b Tryz.f88 a88 := fun A => by kernel_rfl
theorem ok89 : FK a89v a89b Tryz.f89 a89 := fun A => by kernel_rfl
theorem ok90 : FK a90v a90b Tryz.f90 a90 := fun A => by kernel_rfl
theorem ok91 : FK a91v a91b Tryz.f91 a91 := fun A => by kernel_rfl
theorem ok92 : FK a92v a92b Tryz.f92 a92 := fun A => by kernel_rfl
theorem ok93 : FK a93v a93b Tryz.f93 a93 := fun A => by kernel_rfl
theorem ok94 : FK a94v a94b Tryz.f94 a94 := fun A => by kernel_rfl
theorem ok95 : FK a95v a95b Tryz.f95 a95 := fun A => by kernel_rfl
theorem ok96 : FK a96v a96b Tryz.f96 a96 := fun A => by kernel_rfl
theorem ok97 : FK a97v a97b Tryz.f97 a97 := fun A => by kernel_rfl
theorem ok98 : FK a98v a98b Tryz.f98 a98 := fun A => by kernel_rfl
theorem ok102 : FK a102v a102b Tryz.f102 a102 := fun A => by kernel_rfl
theorem ok103 : FK a103v a103b Tryz.f103 a103 := fun A => by kernel_rfl
theorem ok104 : FK a104v a104b Tryz.f104 a104 := fun A => by kernel_rfl
theorem ok105 : FK a105v a105b Tryz.f105 a105 := fun A => by kernel_rfl
theorem ok106 : FK a106v a106b Tryz.f106 a106 := fun A => by kernel_rfl
theorem ok107 : FK a107v a107b Tryz.f107 a107 := fun A => by kernel_rfl
theorem ok108 : FK a108v a108b Tryz.f108 a108 := fun A => by kernel_rfl
theorem ok109 : FK a109v a109b Tryz.f109 a109 := fun A => by kernel_rfl
theorem ok110 : FK a110v a110b Tryz.f110 a110 := fun A => by kernel_rfl
theorem ok111 : FK a111v a111b Tryz.f111 a111 := fun A => by kernel_rfl
theorem ok112 : FK a112v a112b Tryz.f112 a112 := fun A => by kernel_rfl
theorem ok113 : FK a113v a113b Tryz.f113 a113 := fun A => by kernel_rfl
theorem ok114 : FK a114v a114b Tryz.f114 a114 := fun A => by kernel_rfl
theorem ok115 : FK a115v a115b Tryz.f115 a115 := fun A => by kernel_rfl
theorem ok116 : FK a116v a116b Tryz.f116 a116 := fun A => by kernel_rfl
theorem ok117 : FK a117v a117b Tryz.f117 a117 := fun A => by kernel_rfl
theorem ok118 : FK a118v a118b Tryz.f118 a118 := fun A => by kernel_rfl
theorem ok119 : FK a119v a119b Tryz.f119 a119 := fun A => by kernel_rfl
theorem ok120 : FK a120v a120b Tryz.f120 a120 := fun A => by kernel_rfl
theorem ok123 : FK a123v a123b Tryz.f123 a123 := fun A => by kernel_rfl
theorem ok124 : FK a124v a124b Tryz.f124 a124 := fun A => by kernel_rfl
theorem ok125 : FK a125v a125b Tryz.f125 a125 := fun A => by kernel_rfl
theorem ok126 : FK a126v a126b Tryz.f126 a126 := fun A => by kernel_rfl
theorem ok127 : FK a127v a127b Tryz.f127 a127 := fun A => by kernel_rfl
theorem ok128 : FK a128v a128b Tryz.f128 a128 := fun A => by kernel_rfl
theorem ok129 : FK a129v a129b Tryz.f129 a129 := fun A => by kernel_rfl
theorem ok132 : FK a132v a132b Tryz.f132 a132 := fun A => by kernel_rfl
theorem ok133 : FK a133v a133b Tryz.f133 a133 := fun A => by kernel_rfl
theorem ok134 : FK a134v a134b Tryz.f134 a134 := fun A => by kernel_rfl
theorem clone44 : ExtOK Go.Proofs.Tryz.prog gts 44 (cloneX 4 72) := clone_ok Go.Proofs.Tryz.func44 (t := Go.Proofs.Tryz.f44.params.getD 0 0) ⟨_, _, _, _, _, _, _, _, _, _, _, _, _, rfl, rfl, rfl, ⟨rfl, rfl, rfl⟩, ⟨rfl, rfl, rfl⟩, ⟨rfl, rfl, rfl⟩, ⟨rfl, rfl, rfl⟩, ⟨rfl, rfl, rfl⟩, ⟨rfl, rfl, rfl⟩, ⟨rfl, rfl, rfl⟩, ⟨rfl, rfl, rfl⟩, by kernel_rfl⟩
theorem clone121 : ExtOK Go.Proofs.Tryz.prog gts 121 (cloneX 1 16) := clone_ok Go.Proofs.Tryz.func121 (t := Go.Proofs.Tryz.f121.params.getD 0 0) ⟨_, _, _, _, _, _, _, _, _, _, _, _, _, rfl, rfl, rfl, ⟨rfl, rfl, rfl⟩, ⟨rfl, rfl, rfl⟩, ⟨rfl, rfl, rfl⟩, ⟨rfl, rfl, rfl⟩, ⟨rfl, rfl, rfl⟩, ⟨rfl, rfl, rfl⟩, ⟨rfl, rfl, rfl⟩, ⟨rfl, rfl, rfl⟩, by kernel_rfl⟩
theorem mixed : Go.Proofs.Tryz.prog.follows .mixedOrders = true := by kernel_rfl
theorem tbl_lt {f : Nat} {af : AFn} (h : tbl f = some af) : f < 160 := by
  rcases Nat.lt_or_ge f 160 with h1 | h1
  · exact h1
  · exfalso
    have e : tblL.getD (f / 10) [] = [] := by
      rw [List.getD_eq_getElem?_getD, List.getElem?_eq_none]
      · rfl
      · show 16 ≤ f / 10
        omega
    have h : (tblL.getD (f / 10) []).getD (f % 10) none = some af := h
    rw [e] at h
    cases h
theorem tK {f : Nat} {fn : Func} {v b : List Nat} {a af : AFn} (h1 : Go.Proofs.Tryz.prog.funcs[f]? = some fn) (h2 : FK v b fn a) (h3 : enterB Go.Proofs.Tryz.prog f = true) (h : some a = some af) : TK f af := by cases h; exact ⟨h3, .inl ⟨v, b, fn, h1, h2⟩⟩
theorem nK {f : Nat} {af : AFn} (h : (none : Option AFn) = some af) : TK f af := by cases h
theorem t44 (af : AFn) (h : some a44 = some af) : TK 44 af := by cases h; exact ⟨by kernel_rfl, .inr ⟨_, rfl, clone44⟩⟩
theorem t121 (af : AFn) (h : some a121 = some af) : TK 121 af := by cases h; exact ⟨by kernel_rfl, .inr ⟨_, rfl, clone121⟩⟩
theorem prog_fn : ∀ f af, f < 160 → tbl f = some af → TK f af
 | 0,_,_,h => nK h
 | 1,_,_,h => nK h
 | 2,_,_,h => nK h
 | 3,_,_,h => nK h
 | 4,_,_,h => nK h
 | 5,_,_,h => nK h
 | 6,_,_,h => tK Tryz.func6 ok6 (by kernel_rfl) h
 | 7,_,_,h => nK h
 | 8,_,_,h => nK h
 | 9,_,_,h => tK Tryz.func9 ok9 (by kernel_rfl) h
 | 10,_,_,h => tK Tryz.func10 ok10 (by kernel_rfl) h
 | 11,_,_,h => tK Tryz.func11 ok11 (by kernel_rfl) h
 | 12,_,_,h => tK Tryz.func12 ok12 (by kernel_rfl) h
 | 13,_,_,h => nK h
 | 14,_,_,h => nK h
 | 15,_,_,h => nK h
 | 16,_,_,h => nK h
 | 17,_,_,h => tK Tryz.func17 ok17 (by kernel_rfl) h
 | 18,_,_,h => tK Tryz.func18 ok18 (by kernel_rfl) h
 | 19,_,_,h => tK Tryz.func19 ok19 (by kernel_rfl) h
 | 20,_,_,h => tK Tryz.func20 ok20 (by kernel_rfl) h
 | 21,_,_,h => tK Tryz.func21 ok21 (by kernel_rfl) h
 | 22,_,_,h => tK Tryz.func22 ok22 (by kernel_rfl) h
 | 23,_,_,h => tK Tryz.func23 ok23 (by kernel_rfl) h
 | 24,_,_,h => tK Tryz.func24 ok24 (by kernel_rfl) h
 | 25,_,_,h => tK Tryz.func25 ok25 (by kernel_rfl) h
 | 26,_,_,h => tK Tryz.func26 ok26 (by kernel_rfl) h
 | 27,_,_,h => tK Tryz.func27 ok27 (by kernel_rfl) h
 | 28,_,_,h => tK Tryz.func28 ok28 (by kernel_rfl) h
 | 29,_,_,h => tK Tryz.func29 ok29 (by kernel_rfl) h
 | 30,_,_,h => tK Tryz.func30 ok30 (by kernel_rfl) h
 | 31,_,_,h => tK Tryz.func31 ok31 (by kernel_rfl) h
 | 32,_,_,h => nK h
 | 33,_,_,h => nK h
 | 34,_,_,h => nK h
 | 35,_,_,h => nK h
 | 36,_,_,h => nK h
 | 37,_,_,h => nK h
 | 38,_,_,h => tK Tryz.func38 ok38 (by kernel_rfl) h
 | 39,_,_,h => tK Tryz.func39 ok39 (by kernel_rfl) h
 | 40,_,_,h => tK Tryz.func40 ok40 (by kernel_rfl) h
 | 41,_,_,h => tK Tryz.func41 ok41 (by kernel_rfl) h
 | 42,_,_,h => tK Tryz.func42 ok42 (by kernel_rfl) h
 | 43,_,_,h => tK Tryz.func43 ok43 (by kernel_rfl) h
 | 44,_,_,h => t44 _ h
 | 45,_,_,h => tK Tryz.func45 ok45 (by kernel_rfl) h
 | 46,_,_,h => tK Tryz.func46 ok46 (by kernel_rfl) h
 | 47,_,_,h => tK Tryz.func47 ok47 (by kernel_rfl) h
 | 48,_,_,h => tK Tryz.func48 ok48 (by kernel_rfl) h
 | 49,_,_,h => tK Tryz.func49 ok49 (by kernel_rfl) h
 | 50,_,_,h => tK Tryz.func50 ok50 (by kernel_rfl) h
 | 51,_,_,h => tK Tryz.func51 ok51 (by kernel_rfl) h
 | 52,_,_,h => tK Tryz.func52 ok52 (by kernel_rfl) h
 | 53,_,_,h => tK Tryz.func53 ok53 (by kernel_rfl) h
 | 54,_,_,h => tK Tryz.func54 ok54 (by kernel_rfl) h
 | 55,_,_,h => tK Tryz.func55 ok55 (by kernel_rfl) h
 | 56,_,_,h => tK Tryz.func56 ok56 (by kernel_rfl) h
 | 57,_,_,h => tK Tryz.func57 ok57 (by kernel_rfl) h
 | 58,_,_,h => tK Tryz.func58 ok58 (by kernel_rfl) h
 | 59,_,_,h => tK Tryz.func59 ok59 (by kernel_rfl) h
 | 60,_,_,h => tK Tryz.func60 ok60 (by kernel_rfl) h
 | 61,_,_,h => nK h
 | 62,_,_,h => nK h
 | 63,_,_,h => nK h
 | 64,_,_,h => tK Tryz.func64 ok64 (by kernel_rfl) h
 | 65,_,_,h => tK Tryz.func65 ok65 (by kernel_rfl) h
 | 66,_,_,h => tK Tryz.func66 ok66 (by kernel_rfl) h
 | 67,_,_,h => tK Tryz.func67 ok67 (by kernel_rfl) h
 | 68,_,_,h => tK Tryz.func68 ok68 (by kernel_rfl) h
 | 69,_,_,h => tK Tryz.func69 ok69 (by kernel_rfl) h
 | 70,_,_,h => tK Tryz.func70 ok70 (by kernel_rfl) h
 | 71,_,_,h => tK Tryz.func71 ok71 (by kernel_rfl) h
 | 72,_,_,h => tK Tryz.func72 ok72 (by kernel_rfl) h
 | 73,_,_,h => tK Tryz.func73 ok73 (by kernel_rfl) h
 | 74,_,_,h => tK Tryz.func74 ok74 (by kernel_rfl) h
 | 75,_,_,h => tK Tryz.func75 ok75 (by kernel_rfl) h
 | 76,_,_,h => tK Tryz.func76 ok76 (by kernel_rfl) h
 | 77,_,_,h => tK Tryz.func77 ok77 (by kernel_rfl) h
 | 78,_,_,h => tK Tryz.func78 ok78 (by kernel_rfl) h
 | 79,_,_,h => tK Tryz.func79 ok79 (by kernel_rfl) h
 | 80,_,_,h => tK Tryz.func80 ok80 (by kernel_rfl) h
 | 81,_,_,h => tK Tryz.func81 ok81 (by kernel_rfl) h
 | 82,_,_,h => tK Tryz.func82 ok82 (by kernel_rfl) h
 | 83,_,_,h => tK Tryz.func83 ok83 (by kernel_rfl) h
 | 84,_,_,h => tK Tryz.func84 ok84 (by kernel_rfl) h
 | 85,_,_,h => tK Tryz.func85 ok85 (by kernel_rfl) h
 | 86,_,_,h => tK Tryz.func86 ok86 (by kernel_rfl) h
 | 87,_,_,h => tK Tryz.func87 ok87 (by kernel_rfl) h
 | 88,_,_,h => tK Tryz.func88 ok88 (by kernel_rfl) h
 | 89,_,_,h => tK Tryz.func89 ok89 (by kernel_rfl) h
 | 90,_,_,h => tK Tryz.func90 ok90 (by kernel_rfl) h
 | 91,_,_,h => tK Tryz.func91 ok91 (by kernel_rfl) h
 | 92,_,_,h => tK Tryz.func92 ok92 (by kernel_rfl) h
 | 93,_,_,h => tK Tryz.func93 ok93 (by kernel_rfl) h
 | 94,_,_,h => tK Tryz.func94 ok94 (by kernel_rfl) h
 | 95,_,_,h => tK Tryz.func95 ok95 (by kernel_rfl) h
 | 96,_,_,h => tK Tryz.func96 ok96 (by kernel_rfl) h
 | 97,_,_,h => tK Tryz.func97 ok97 (by kernel_rfl) h
 | 98,_,_,h => tK Tryz.func98 ok98 (by kernel_rfl) h
 | 99,_,_,h => nK h
 | 100,_,_,h => nK h
 | 101,_,_,h => nK h
 | 102,_,_,h => tK Tryz.func102 ok102 (by kernel_rfl) h
 | 103,_,_,h => tK Tryz.func103 ok103 (by kernel_rfl) h
 | 104,_,_,h => tK Tryz.func104 ok104 (by kernel_rfl) h
 | 105,_,_,h => tK Tryz.func105 ok105 (by kernel_rfl) h
 | 106,_,_,h => tK Tryz.func106 ok106 (by kernel_rfl) h
 | 107,_,_,h => tK Tryz.func107 ok107 (by kernel_rfl) h
 | 108,_,_,h => tK Tryz.func108 ok108 (by kernel_rfl) h
 | 109,_,_,h => tK Tryz.func109 ok109 (by kernel_rfl) h
 | 110,_,_,h => tK Tryz.func110 ok110 (by kernel_rfl) h
 | 111,_,_,h => tK Tryz.func111 ok111 (by kernel_rfl) h
 | 112,_,_,h => tK Tryz.func112 ok112 (by kernel_rfl) h
 | 113,_,_,h => tK Tryz.func113 ok113 (by kernel_rfl) h
 | 114,_,_,h => tK Tryz.func114 ok114 (by kernel_rfl) h
 | 115,_,_,h => tK Tryz.func115 ok115 (by kernel_rfl) h
 | 116,_,_,h => tK Tryz.func116 ok116 (by kernel_rfl) h
 | 117,_,_,h => tK Tryz.func117 ok117 (by kernel_rfl) h
 | 118,_,_,h => tK Tryz.func118 ok118 (by kernel_rfl) h
 | 119,_,_,h => tK Tryz.func119 ok119 (by kernel_rfl) h
 | 120,_,_,h => tK Tryz.func120 ok120 (by kernel_rfl) h
 | 121,_,_,h => t121 _ h
 | 122,_,_,h => nK h
 | 123,_,_,h => tK Tryz.func123 ok123 (by kernel_rfl) h
 | 124,_,_,h => tK Tryz.func124 ok124 (by kernel_rfl) h
 | 125,_,_,h => tK Tryz.func125 ok125 (by kernel_rfl) h
 | 126,_,_,h => tK Tryz.func126 ok126 (by kernel_rfl) h
 | 127,_,_,h => tK Tryz.func127 ok127 (by kernel_rfl) h
 | 128,_,_,h => tK Tryz.func128 ok128 (by kernel_rfl) h
 | 129,_,_,h => tK Tryz.func129 ok129 (by kernel_rfl) h
 | 130,_,_,h => nK h
 | 131,_,_,h => nK h
 | 132,_,_,h => tK Tryz.func132 ok132 (by kernel_rfl) h
 | 133,_,_,h => tK Tryz.func133 ok133 (by kernel_rfl) h
 | 134,_,_,h => tK Tryz.func134 ok134 (by kernel_rfl) h
 | 135,_,_,h => nK h
 | 136,_,_,h => nK h
 | 137,_,_,h => nK h
 | 138,_,_,h => nK h
 | 139,_,_,h => nK h
 | 140,_,_,h => nK h
 | 141,_,_,h => nK h
 | 142,_,_,h => nK h
 | 143,_,_,h => nK h
 | 144,_,_,h => nK h
 | 145,_,_,h => nK h
 | 146,_,_,h => nK h
 | 147,_,_,h => nK h
 | 148,_,_,h => nK h
 | 149,_,_,h => nK h
 | 150,_,_,h => nK h
 | 151,_,_,h => nK h
 | 152,_,_,h => nK h
 | 153,_,_,h => nK h
 | 154,_,_,h => nK h
 | 155,_,_,h => nK h
 | 156,_,_,h => nK h
 | 157,_,_,h => nK h
 | 158,_,_,h => nK h
 | 159,_,_,h => nK h
  | n + 160, _, h, _ => absurd h (by omega)
theorem prog_ok : ProgOK Go.Proofs.Tryz.prog gts tbl := ⟨mixed, fun f af h => prog_fn f af (tbl_lt h) h⟩
end Go.Cb.CodeA
