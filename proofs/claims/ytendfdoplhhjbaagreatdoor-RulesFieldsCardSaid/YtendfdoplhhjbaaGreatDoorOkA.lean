/- That code tells the functions of the seat: the test of each function, and all of them together. No conditions. -/
import Derived.Test.YtendfdoplhhjbaaGreatDoorChecked
import Derived.KernelRfl
import Derived.Test.YtendfdoplhhjbaaGreatDoorCodeA
import Derived.Test.YtendfdoplhhjbaaGreatDoorXAms3
set_option maxRecDepth 100000
namespace Go.Cb.CodeA
open Go Go.Cb
theorem ok3 : ∀ A, fnOK Go.Proofs.Tryz.prog gts a3v a3b Go.Proofs.Tryz.f3 a3 A = true := fun A => by kernel_rfl
theorem ok5 : ∀ A, fnOK Go.Proofs.Tryz.prog gts a5v a5b Go.Proofs.Tryz.f5 a5 A = true := fun A => by kernel_rfl
theorem ok6 : ∀ A, fnOK Go.Proofs.Tryz.prog gts a6v a6b Go.Proofs.Tryz.f6 a6 A = true := fun A => by kernel_rfl
theorem ok7 : ∀ A, fnOK Go.Proofs.Tryz.prog gts a7v a7b Go.Proofs.Tryz.f7 a7 A = true := fun A => by kernel_rfl
theorem ok8 : ∀ A, fnOK Go.Proofs.Tryz.prog gts a8v a8b Go.Proofs.Tryz.f8 a8 A = true := fun A => by kernel_rfl
theorem ok9 : ∀ A, fnOK Go.Proofs.Tryz.prog gts a9v a9b Go.Proofs.Tryz.f9 a9 A = true := fun A => by kernel_rfl
theorem ok10 : ∀ A, fnOK Go.Proofs.Tryz.prog gts a10v a10b Go.Proofs.Tryz.f10 a10 A = true := fun A => by kernel_rfl
theorem ok12 : ∀ A, fnOK Go.Proofs.Tryz.prog gts a12v a12b Go.Proofs.Tryz.f12 a12 A = true := fun A => by kernel_rfl
theorem ok13 : ∀ A, fnOK Go.Proofs.Tryz.prog gts a13v a13b Go.Proofs.Tryz.f13 a13 A = true := fun A => by kernel_rfl
theorem ok14 : ∀ A, fnOK Go.Proofs.Tryz.prog gts a14v a14b Go.Proofs.Tryz.f14 a14 A = true := fun A => by kernel_rfl
theorem ok15 : ∀ A, fnOK Go.Proofs.Tryz.prog gts a15v a15b Go.Proofs.Tryz.f15 a15 A = true := fun A => by kernel_rfl
theorem ok16 : ∀ A, fnOK Go.Proofs.Tryz.prog gts a16v a16b Go.Proofs.Tryz.f16 a16 A = true := fun A => by kernel_rfl
theorem ok17 : ∀ A, fnOK Go.Proofs.Tryz.prog gts a17v a17b Go.Proofs.Tryz.f17 a17 A = true := fun A => by kernel_rfl
theorem ok18 : ∀ A, fnOK Go.Proofs.Tryz.prog gts a18v a18b Go.Proofs.Tryz.f18 a18 A = true := fun A => by kernel_rfl
theorem ok19 : ∀ A, fnOK Go.Proofs.Tryz.prog gts a19v a19b Go.Proofs.Tryz.f19 a19 A = true := fun A => by kernel_rfl
theorem ok20 : ∀ A, fnOK Go.Proofs.Tryz.prog gts a20v a20b Go.Proofs.Tryz.f20 a20 A = true := fun A => by kernel_rfl
theorem ok21 : ∀ A, fnOK Go.Proofs.Tryz.prog gts a21v a21b Go.Proofs.Tryz.f21 a21 A = true := fun A => by kernel_rfl
theorem ok22 : ∀ A, fnOK Go.Proofs.Tryz.prog gts a22v a22b Go.Proofs.Tryz.f22 a22 A = true := fun A => by kernel_rfl
theorem ok23 : ∀ A, fnOK Go.Proofs.Tryz.prog gts a23v a23b Go.Proofs.Tryz.f23 a23 A = true := fun A => by kernel_rfl
theorem ok24 : ∀ A, fnOK Go.Proofs.Tryz.prog gts a24v a24b Go.Proofs.Tryz.f24 a24 A = true := fun A => by kernel_rfl
theorem ok25 : ∀ A, fnOK Go.Proofs.Tryz.prog gts a25v a25b Go.Proofs.Tryz.f25 a25 A = true := fun A => by kernel_rfl
theorem ok26 : ∀ A, fnOK Go.Proofs.Tryz.prog gts a26v a26b Go.Proofs.Tryz.f26 a26 A = true := fun A => by kernel_rfl
theorem ok27 : ∀ A, fnOK Go.Proofs.Tryz.prog gts a27v a27b Go.Proofs.Tryz.f27 a27 A = true := fun A => by kernel_rfl
theorem ok28 : ∀ A, fnOK Go.Proofs.Tryz.prog gts a28v a28b Go.Proofs.Tryz.f28 a28 A = true := fun A => by kernel_rfl
theorem ok29 : ∀ A, fnOK Go.Proofs.Tryz.prog gts a29v a29b Go.Proofs.Tryz.f29 a29 A = true := fun A => by kernel_rfl
theorem ok30 : ∀ A, fnOK Go.Proofs.Tryz.prog gts a30v a30b Go.Proofs.Tryz.f30 a30 A = true := fun A => by kernel_rfl
theorem ok31 : ∀ A, fnOK Go.Proofs.Tryz.prog gts a31v a31b Go.Proofs.Tryz.f31 a31 A = true := fun A => by kernel_rfl
theorem ok32 : ∀ A, fnOK Go.Proofs.Tryz.prog gts a32v a32b Go.Proofs.Tryz.f32 a32 A = true := fun A => by kernel_rfl
theorem ok33 : ∀ A, fnOK Go.Proofs.Tryz.prog gts a33v a33b Go.Proofs.Tryz.f33 a33 A = true := fun A => by kernel_rfl
theorem ok34 : ∀ A, fnOK Go.Proofs.Tryz.prog gts a34v a34b Go.Proofs.Tryz.f34 a34 A = true := fun A => by kernel_rfl
theorem ok35 : ∀ A, fnOK Go.Proofs.Tryz.prog gts a35v a35b Go.Proofs.Tryz.f35 a35 A = true := fun A => by kernel_rfl
theorem ok36 : ∀ A, fnOK Go.Proofs.Tryz.prog gts a36v a36b Go.Proofs.Tryz.f36 a36 A = true := fun A => by kernel_rfl
theorem ok37 : ∀ A, fnOK Go.Proofs.Tryz.prog gts a37v a37b Go.Proofs.Tryz.f37 a37 A = true := fun A => by kernel_rfl
theorem ok38 : ∀ A, fnOK Go.Proofs.Tryz.prog gts a38v a38b Go.Proofs.Tryz.f38 a38 A = true := fun A => by kernel_rfl
theorem ok39 : ∀ A, fnOK Go.Proofs.Tryz.prog gts a39v a39b Go.Proofs.Tryz.f39 a39 A = true := fun A => by kernel_rfl
theorem ok40 : ∀ A, fnOK Go.Proofs.Tryz.prog gts a40v a40b Go.Proofs.Tryz.f40 a40 A = true := fun A => by kernel_rfl
theorem ok41 : ∀ A, fnOK Go.Proofs.Tryz.prog gts a41v a41b Go.Proofs.Tryz.f41 a41 A = true := fun A => by kernel_rfl
theorem ok43 : ∀ A, fnOK Go.Proofs.Tryz.prog gts a43v a43b Go.Proofs.Tryz.f43 a43 A = true := fun A => by kernel_rfl
theorem ok44 : ∀ A, fnOK Go.Proofs.Tryz.prog gts a44v a44b Go.Proofs.Tryz.f44 a44 A = true := fun A => by kernel_rfl
theorem ok45 : ∀ A, fnOK Go.Proofs.Tryz.prog gts a45v a45b Go.Proofs.Tryz.f45 a45 A = true := fun A => by kernel_rfl
theorem ok46 : ∀ A, fnOK Go.Proofs.Tryz.prog gts a46v a46b Go.Proofs.Tryz.f46 a46 A = true := fun A => by kernel_rfl
theorem ok47 : ∀ A, fnOK Go.Proofs.Tryz.prog gts a47v a47b Go.Proofs.Tryz.f47 a47 A = true := fun A => by kernel_rfl
theorem ok48 : ∀ A, fnOK Go.Proofs.Tryz.prog gts a48v a48b Go.Proofs.Tryz.f48 a48 A = true := fun A => by kernel_rfl
theorem ok49 : ∀ A, fnOK Go.Proofs.Tryz.prog gts a49v a49b Go.Proofs.Tryz.f49 a49 A = true := fun A => by kernel_rfl
theorem ok50 : ∀ A, fnOK Go.Proofs.Tryz.prog gts a50v a50b Go.Proofs.Tryz.f50 a50 A = true := fun A => by kernel_rfl
theorem ok51 : ∀ A, fnOK Go.Proofs.Tryz.prog gts a51v a51b Go.Proofs.Tryz.f51 a51 A = true := fun A => by kernel_rfl
theorem ok52 : ∀ A, fnOK Go.Proofs.Tryz.prog gts a52v a52b Go.Proofs.Tryz.f52 a52 A = true := fun A => by kernel_rfl
theorem ok53 : ∀ A, fnOK Go.Proofs.Tryz.prog gts a53v a53b Go.Proofs.Tryz.f53 a53 A = true := fun A => by kernel_rfl
theorem ok54 : ∀ A, fnOK Go.Proofs.Tryz.prog gts a54v a54b Go.Proofs.Tryz.f54 a54 A = true := fun A => by kernel_rfl
theorem ok55 : ∀ A, fnOK Go.Proofs.Tryz.prog gts a55v a55b Go.Proofs.Tryz.f55 a55 A = true := fun A => by kernel_rfl
theorem ok56 : ∀ A, fnOK Go.Proofs.Tryz.prog gts a56v a56b Go.Proofs.Tryz.f56 a56 A = true := fun A => by kernel_rfl
theorem ok57 : ∀ A, fnOK Go.Proofs.Tryz.prog gts a57v a57b Go.Proofs.Tryz.f57 a57 A = true := fun A => by kernel_rfl
theorem ok58 : ∀ A, fnOK Go.Proofs.Tryz.prog gts a58v a58b Go.Proofs.Tryz.f58 a58 A = true := fun A => by kernel_rfl
theorem ok59 : ∀ A, fnOK Go.Proofs.Tryz.prog gts a59v a59b Go.Proofs.Tryz.f59 a59 A = true := fun A => by kernel_rfl
theorem ok60 : ∀ A, fnOK Go.Proofs.Tryz.prog gts a60v a60b Go.Proofs.Tryz.f60 a60 A = true := fun A => by kernel_rfl
theorem ok61 : ∀ A, fnOK Go.Proofs.Tryz.prog gts a61v a61b Go.Proofs.Tryz.f61 a61 A = true := fun A => by kernel_rfl
theorem ok62 : ∀ A, fnOK Go.Proofs.Tryz.prog gts a62v a62b Go.Proofs.Tryz.f62 a62 A = true := fun A => by kernel_rfl
theorem ok63 : ∀ A, fnOK Go.Proofs.Tryz.prog gts a63v a63b Go.Proofs.Tryz.f63 a63 A = true := fun A => by kernel_rfl
theorem ok64 : ∀ A, fnOK Go.Proofs.Tryz.prog gts a64v a64b Go.Proofs.Tryz.f64 a64 A = true := fun A => by kernel_rfl
theorem ok65 : ∀ A, fnOK Go.Proofs.Tryz.prog gts a65v a65b Go.Proofs.Tryz.f65 a65 A = true := fun A => by kernel_rfl
theorem ok66 : ∀ A, fnOK Go.Proofs.Tryz.prog gts a66v a66b Go.Proofs.Tryz.f66 a66 A = true := fun A => by kernel_rfl
theorem ok67 : ∀ A, fnOK Go.Proofs.Tryz.prog gts a67v a67b Go.Proofs.Tryz.f67 a67 A = true := fun A => by kernel_rfl
theorem ok68 : ∀ A, fnOK Go.Proofs.Tryz.prog gts a68v a68b Go.Proofs.Tryz.f68 a68 A = true := fun A => by kernel_rfl
theorem ok69 : ∀ A, fnOK Go.Proofs.Tryz.prog gts a69v a69b Go.Proofs.Tryz.f69 a69 A = true := fun A => by kernel_rfl
theorem ok70 : ∀ A, fnOK Go.Proofs.Tryz.prog gts a70v a70b Go.Proofs.Tryz.f70 a70 A = true := fun A => by kernel_rfl
theorem ok71 : ∀ A, fnOK Go.Proofs.Tryz.prog gts a71v a71b Go.Proofs.Tryz.f71 a71 A = true := fun A => by kernel_rfl
theorem ok72 : ∀ A, fnOK Go.Proofs.Tryz.prog gts a72v a72b Go.Proofs.Tryz.f72 a72 A = true := fun A => by kernel_rfl
theorem ok73 : ∀ A, fnOK Go.Proofs.Tryz.prog gts a73v a73b Go.Proofs.Tryz.f73 a73 A = true := fun A => by kernel_rfl
theorem ok74 : ∀ A, fnOK Go.Proofs.Tryz.prog gts a74v a74b Go.Proofs.Tryz.f74 a74 A = true := fun A => by kernel_rfl
theorem ok75 : ∀ A, fnOK Go.Proofs.Tryz.prog gts a75v a75b Go.Proofs.Tryz.f75 a75 A = true := fun A => by kernel_rfl
theorem ok76 : ∀ A, fnOK Go.Proofs.Tryz.prog gts a76v a76b Go.Proofs.Tryz.f76 a76 A = true := fun A => by kernel_rfl
theorem ok77 : ∀ A, fnOK Go.Proofs.Tryz.prog gts a77v a77b Go.Proofs.Tryz.f77 a77 A = true := fun A => by kernel_rfl
theorem ok78 : ∀ A, fnOK Go.Proofs.Tryz.prog gts a78v a78b Go.Proofs.Tryz.f78 a78 A = true := fun A => by kernel_rfl
theorem ok79 : ∀ A, fnOK Go.Proofs.Tryz.prog gts a79v a79b Go.Proofs.Tryz.f79 a79 A = true := fun A => by kernel_rfl
theorem ok80 : ∀ A, fnOK Go.Proofs.Tryz.prog gts a80v a80b Go.Proofs.Tryz.f80 a80 A = true := fun A => by kernel_rfl
theorem ok81 : ∀ A, fnOK Go.Proofs.Tryz.prog gts a81v a81b Go.Proofs.Tryz.f81 a81 A = true := fun A => by kernel_rfl
theorem ok82 : ∀ A, fnOK Go.Proofs.Tryz.prog gts a82v a82b Go.Proofs.Tryz.f82 a82 A = true := fun A => by kernel_rfl
theorem ok83 : ∀ A, fnOK Go.Proofs.Tryz.prog gts a83v a83b Go.Proofs.Tryz.f83 a83 A = true := fun A => by kernel_rfl
theorem ok84 : ∀ A, fnOK Go.Proofs.Tryz.prog gts a84v a84b Go.Proofs.Tryz.f84 a84 A = true := fun A => by kernel_rfl
theorem ok85 : ∀ A, fnOK Go.Proofs.Tryz.prog gts a85v a85b Go.Proofs.Tryz.f85 a85 A = true := fun A => by kernel_rfl
theorem ok86 : ∀ A, fnOK Go.Proofs.Tryz.prog gts a86v a86b Go.Proofs.Tryz.f86 a86 A = true := fun A => by kernel_rfl
theorem ok87 : ∀ A, fnOK Go.Proofs.Tryz.prog gts a87v a87b Go.Proofs.Tryz.f87 a87 A = true := fun A => by kernel_rfl
theorem ok88 : ∀ A, fnOK Go.Proofs.Tryz.prog gts a88v a88b Go.Proofs.Tryz.f88 a88 A = true := fun A => by kernel_rfl
theorem ok89 : ∀ A, fnOK Go.Proofs.Tryz.prog gts a89v a89b Go.Proofs.Tryz.f89 a89 A = true := fun A => by kernel_rfl
theorem ok90 : ∀ A, fnOK Go.Proofs.Tryz.prog gts a90v a90b Go.Proofs.Tryz.f90 a90 A = true := fun A => by kernel_rfl
theorem ok91 : ∀ A, fnOK Go.Proofs.Tryz.prog gts a91v a91b Go.Proofs.Tryz.f91 a91 A = true := fun A => by kernel_rfl
theorem ok92 : ∀ A, fnOK Go.Proofs.Tryz.prog gts a92v a92b Go.Proofs.Tryz.f92 a92 A = true := fun A => by kernel_rfl
theorem ok93 : ∀ A, fnOK Go.Proofs.Tryz.prog gts a93v a93b Go.Proofs.Tryz.f93 a93 A = true := fun A => by kernel_rfl
theorem ok94 : ∀ A, fnOK Go.Proofs.Tryz.prog gts a94v a94b Go.Proofs.Tryz.f94 a94 A = true := fun A => by kernel_rfl
theorem ok95 : ∀ A, fnOK Go.Proofs.Tryz.prog gts a95v a95b Go.Proofs.Tryz.f95 a95 A = true := fun A => by kernel_rfl
theorem ok96 : ∀ A, fnOK Go.Proofs.Tryz.prog gts a96v a96b Go.Proofs.Tryz.f96 a96 A = true := fun A => by kernel_rfl
theorem ok97 : ∀ A, fnOK Go.Proofs.Tryz.prog gts a97v a97b Go.Proofs.Tryz.f97 a97 A = true := fun A => by kernel_rfl
theorem ok98 : ∀ A, fnOK Go.Proofs.Tryz.prog gts a98v a98b Go.Proofs.Tryz.f98 a98 A = true := fun A => by kernel_rfl
theorem ok99 : ∀ A, fnOK Go.Proofs.Tryz.prog gts a99v a99b Go.Proofs.Tryz.f99 a99 A = true := fun A => by kernel_rfl
theorem ok100 : ∀ A, fnOK Go.Proofs.Tryz.prog gts a100v a100b Go.Proofs.Tryz.f100 a100 A = true := fun A => by kernel_rfl
theorem ok101 : ∀ A, fnOK Go.Proofs.Tryz.prog gts a101v a101b Go.Proofs.Tryz.f101 a101 A = true := fun A => by kernel_rfl
theorem ok102 : ∀ A, fnOK Go.Proofs.Tryz.prog gts a102v a102b Go.Proofs.Tryz.f102 a102 A = true := fun A => by kernel_rfl
theorem ok103 : ∀ A, fnOK Go.Proofs.Tryz.prog gts a103v a103b Go.Proofs.Tryz.f103 a103 A = true := fun A => by kernel_rfl
theorem ok104 : ∀ A, fnOK Go.Proofs.Tryz.prog gts a104v a104b Go.Proofs.Tryz.f104 a104 A = true := fun A => by kernel_rfl
theorem ok105 : ∀ A, fnOK Go.Proofs.Tryz.prog gts a105v a105b Go.Proofs.Tryz.f105 a105 A = true := fun A => by kernel_rfl
theorem ok106 : ∀ A, fnOK Go.Proofs.Tryz.prog gts a106v a106b Go.Proofs.Tryz.f106 a106 A = true := fun A => by kernel_rfl
theorem ok107 : ∀ A, fnOK Go.Proofs.Tryz.prog gts a107v a107b Go.Proofs.Tryz.f107 a107 A = true := fun A => by kernel_rfl
theorem ok108 : ∀ A, fnOK Go.Proofs.Tryz.prog gts a108v a108b Go.Proofs.Tryz.f108 a108 A = true := fun A => by kernel_rfl
theorem ok109 : ∀ A, fnOK Go.Proofs.Tryz.prog gts a109v a109b Go.Proofs.Tryz.f109 a109 A = true := fun A => by kernel_rfl
theorem ok110 : ∀ A, fnOK Go.Proofs.Tryz.prog gts a110v a110b Go.Proofs.Tryz.f110 a110 A = true := fun A => by kernel_rfl
theorem ok111 : ∀ A, fnOK Go.Proofs.Tryz.prog gts a111v a111b Go.Proofs.Tryz.f111 a111 A = true := fun A => by kernel_rfl
theorem ok112 : ∀ A, fnOK Go.Proofs.Tryz.prog gts a112v a112b Go.Proofs.Tryz.f112 a112 A = true := fun A => by kernel_rfl
theorem ok113 : ∀ A, fnOK Go.Proofs.Tryz.prog gts a113v a113b Go.Proofs.Tryz.f113 a113 A = true := fun A => by kernel_rfl
theorem ok114 : ∀ A, fnOK Go.Proofs.Tryz.prog gts a114v a114b Go.Proofs.Tryz.f114 a114 A = true := fun A => by kernel_rfl
theorem ok115 : ∀ A, fnOK Go.Proofs.Tryz.prog gts a115v a115b Go.Proofs.Tryz.f115 a115 A = true := fun A => by kernel_rfl
theorem ok116 : ∀ A, fnOK Go.Proofs.Tryz.prog gts a116v a116b Go.Proofs.Tryz.f116 a116 A = true := fun A => by kernel_rfl
theorem ok117 : ∀ A, fnOK Go.Proofs.Tryz.prog gts a117v a117b Go.Proofs.Tryz.f117 a117 A = true := fun A => by kernel_rfl
theorem ok118 : ∀ A, fnOK Go.Proofs.Tryz.prog gts a118v a118b Go.Proofs.Tryz.f118 a118 A = true := fun A => by kernel_rfl
theorem ok119 : ∀ A, fnOK Go.Proofs.Tryz.prog gts a119v a119b Go.Proofs.Tryz.f119 a119 A = true := fun A => by kernel_rfl
theorem ok120 : ∀ A, fnOK Go.Proofs.Tryz.prog gts a120v a120b Go.Proofs.Tryz.f120 a120 A = true := fun A => by kernel_rfl
theorem ok121 : ∀ A, fnOK Go.Proofs.Tryz.prog gts a121v a121b Go.Proofs.Tryz.f121 a121 A = true := fun A => by kernel_rfl
theorem ok122 : ∀ A, fnOK Go.Proofs.Tryz.prog gts a122v a122b Go.Proofs.Tryz.f122 a122 A = true := fun A => by kernel_rfl
theorem ok123 : ∀ A, fnOK Go.Proofs.Tryz.prog gts a123v a123b Go.Proofs.Tryz.f123 a123 A = true := fun A => by kernel_rfl
theorem ok124 : ∀ A, fnOK Go.Proofs.Tryz.prog gts a124v a124b Go.Proofs.Tryz.f124 a124 A = true := fun A => by kernel_rfl
theorem ok125 : ∀ A, fnOK Go.Proofs.Tryz.prog gts a125v a125b Go.Proofs.Tryz.f125 a125 A = true := fun A => by kernel_rfl
theorem ok126 : ∀ A, fnOK Go.Proofs.Tryz.prog gts a126v a126b Go.Proofs.Tryz.f126 a126 A = true := fun A => by kernel_rfl
theorem ok127 : ∀ A, fnOK Go.Proofs.Tryz.prog gts a127v a127b Go.Proofs.Tryz.f127 a127 A = true := fun A => by kernel_rfl
theorem ok128 : ∀ A, fnOK Go.Proofs.Tryz.prog gts a128v a128b Go.Proofs.Tryz.f128 a128 A = true := fun A => by kernel_rfl
theorem ok129 : ∀ A, fnOK Go.Proofs.Tryz.prog gts a129v a129b Go.Proofs.Tryz.f129 a129 A = true := fun A => by kernel_rfl
theorem ok130 : ∀ A, fnOK Go.Proofs.Tryz.prog gts a130v a130b Go.Proofs.Tryz.f130 a130 A = true := fun A => by kernel_rfl
theorem ok131 : ∀ A, fnOK Go.Proofs.Tryz.prog gts a131v a131b Go.Proofs.Tryz.f131 a131 A = true := fun A => by kernel_rfl
theorem ok132 : ∀ A, fnOK Go.Proofs.Tryz.prog gts a132v a132b Go.Proofs.Tryz.f132 a132 A = true := fun A => by kernel_rfl
theorem ok133 : ∀ A, fnOK Go.Proofs.Tryz.prog gts a133v a133b Go.Proofs.Tryz.f133 a133 A = true := fun A => by kernel_rfl
theorem ok134 : ∀ A, fnOK Go.Proofs.Tryz.prog gts a134v a134b Go.Proofs.Tryz.f134 a134 A = true := fun A => by kernel_rfl
theorem ok135 : ∀ A, fnOK Go.Proofs.Tryz.prog gts a135v a135b Go.Proofs.Tryz.f135 a135 A = true := fun A => by kernel_rfl
theorem ok136 : ∀ A, fnOK Go.Proofs.Tryz.prog gts a136v a136b Go.Proofs.Tryz.f136 a136 A = true := fun A => by kernel_rfl
theorem ok137 : ∀ A, fnOK Go.Proofs.Tryz.prog gts a137v a137b Go.Proofs.Tryz.f137 a137 A = true := fun A => by kernel_rfl
theorem ok138 : ∀ A, fnOK Go.Proofs.Tryz.prog gts a138v a138b Go.Proofs.Tryz.f138 a138 A = true := fun A => by kernel_rfl
theorem ok139 : ∀ A, fnOK Go.Proofs.Tryz.prog gts a139v a139b Go.Proofs.Tryz.f139 a139 A = true := fun A => by kernel_rfl
theorem ok140 : ∀ A, fnOK Go.Proofs.Tryz.prog gts a140v a140b Go.Proofs.Tryz.f140 a140 A = true := fun A => by kernel_rfl
theorem ok141 : ∀ A, fnOK Go.Proofs.Tryz.prog gts a141v a141b Go.Proofs.Tryz.f141 a141 A = true := fun A => by kernel_rfl
theorem ok142 : ∀ A, fnOK Go.Proofs.Tryz.prog gts a142v a142b Go.Proofs.Tryz.f142 a142 A = true := fun A => by kernel_rfl
theorem ok143 : ∀ A, fnOK Go.Proofs.Tryz.prog gts a143v a143b Go.Proofs.Tryz.f143 a143 A = true := fun A => by kernel_rfl
theorem ok144 : ∀ A, fnOK Go.Proofs.Tryz.prog gts a144v a144b Go.Proofs.Tryz.f144 a144 A = true := fun A => by kernel_rfl
theorem ok145 : ∀ A, fnOK Go.Proofs.Tryz.prog gts a145v a145b Go.Proofs.Tryz.f145 a145 A = true := fun A => by kernel_rfl
theorem ok146 : ∀ A, fnOK Go.Proofs.Tryz.prog gts a146v a146b Go.Proofs.Tryz.f146 a146 A = true := fun A => by kernel_rfl
theorem ok147 : ∀ A, fnOK Go.Proofs.Tryz.prog gts a147v a147b Go.Proofs.Tryz.f147 a147 A = true := fun A => by kernel_rfl
theorem ok148 : ∀ A, fnOK Go.Proofs.Tryz.prog gts a148v a148b Go.Proofs.Tryz.f148 a148 A = true := fun A => by kernel_rfl
theorem ok149 : ∀ A, fnOK Go.Proofs.Tryz.prog gts a149v a149b Go.Proofs.Tryz.f149 a149 A = true := fun A => by kernel_rfl
theorem ok150 : ∀ A, fnOK Go.Proofs.Tryz.prog gts a150v a150b Go.Proofs.Tryz.f150 a150 A = true := fun A => by kernel_rfl
theorem ok151 : ∀ A, fnOK Go.Proofs.Tryz.prog gts a151v a151b Go.Proofs.Tryz.f151 a151 A = true := fun A => by kernel_rfl
theorem ok152 : ∀ A, fnOK Go.Proofs.Tryz.prog gts a152v a152b Go.Proofs.Tryz.f152 a152 A = true := fun A => by kernel_rfl
theorem ok153 : ∀ A, fnOK Go.Proofs.Tryz.prog gts a153v a153b Go.Proofs.Tryz.f153 a153 A = true := fun A => by kernel_rfl
theorem ok154 : ∀ A, fnOK Go.Proofs.Tryz.prog gts a154v a154b Go.Proofs.Tryz.f154 a154 A = true := fun A => by kernel_rfl
theorem ok155 : ∀ A, fnOK Go.Proofs.Tryz.prog gts a155v a155b Go.Proofs.Tryz.f155 a155 A = true := fun A => by kernel_rfl
theorem ok156 : ∀ A, fnOK Go.Proofs.Tryz.prog gts a156v a156b Go.Proofs.Tryz.f156 a156 A = true := fun A => by kernel_rfl
theorem ok157 : ∀ A, fnOK Go.Proofs.Tryz.prog gts a157v a157b Go.Proofs.Tryz.f157 a157 A = true := fun A => by kernel_rfl
theorem ok158 : ∀ A, fnOK Go.Proofs.Tryz.prog gts a158v a158b Go.Proofs.Tryz.f158 a158 A = true := fun A => by kernel_rfl
theorem ok159 : ∀ A, fnOK Go.Proofs.Tryz.prog gts a159v a159b Go.Proofs.Tryz.f159 a159 A = true := fun A => by kernel_rfl
theorem ok160 : ∀ A, fnOK Go.Proofs.Tryz.prog gts a160v a160b Go.Proofs.Tryz.f160 a160 A = true := fun A => by kernel_rfl
theorem ok161 : ∀ A, fnOK Go.Proofs.Tryz.prog gts a161v a161b Go.Proofs.Tryz.f161 a161 A = true := fun A => by kernel_rfl
theorem ok162 : ∀ A, fnOK Go.Proofs.Tryz.prog gts a162v a162b Go.Proofs.Tryz.f162 a162 A = true := fun A => by kernel_rfl
theorem ok163 : ∀ A, fnOK Go.Proofs.Tryz.prog gts a163v a163b Go.Proofs.Tryz.f163 a163 A = true := fun A => by kernel_rfl
theorem ok164 : ∀ A, fnOK Go.Proofs.Tryz.prog gts a164v a164b Go.Proofs.Tryz.f164 a164 A = true := fun A => by kernel_rfl
theorem ok165 : ∀ A, fnOK Go.Proofs.Tryz.prog gts a165v a165b Go.Proofs.Tryz.f165 a165 A = true := fun A => by kernel_rfl
theorem ok166 : ∀ A, fnOK Go.Proofs.Tryz.prog gts a166v a166b Go.Proofs.Tryz.f166 a166 A = true := fun A => by kernel_rfl
theorem ok167 : ∀ A, fnOK Go.Proofs.Tryz.prog gts a167v a167b Go.Proofs.Tryz.f167 a167 A = true := fun A => by kernel_rfl
theorem ok168 : ∀ A, fnOK Go.Proofs.Tryz.prog gts a168v a168b Go.Proofs.Tryz.f168 a168 A = true := fun A => by kernel_rfl
theorem ok169 : ∀ A, fnOK Go.Proofs.Tryz.prog gts a169v a169b Go.Proofs.Tryz.f169 a169 A = true := fun A => by kernel_rfl
theorem ok170 : ∀ A, fnOK Go.Proofs.Tryz.prog gts a170v a170b Go.Proofs.Tryz.f170 a170 A = true := fun A => by kernel_rfl
theorem ok171 : ∀ A, fnOK Go.Proofs.Tryz.prog gts a171v a171b Go.Proofs.Tryz.f171 a171 A = true := fun A => by kernel_rfl
theorem ok172 : ∀ A, fnOK Go.Proofs.Tryz.prog gts a172v a172b Go.Proofs.Tryz.f172 a172 A = true := fun A => by kernel_rfl
theorem ok173 : ∀ A, fnOK Go.Proofs.Tryz.prog gts a173v a173b Go.Proofs.Tryz.f173 a173 A = true := fun A => by kernel_rfl
theorem ok174 : ∀ A, fnOK Go.Proofs.Tryz.prog gts a174v a174b Go.Proofs.Tryz.f174 a174 A = true := fun A => by kernel_rfl
theorem ok175 : ∀ A, fnOK Go.Proofs.Tryz.prog gts a175v a175b Go.Proofs.Tryz.f175 a175 A = true := fun A => by kernel_rfl
theorem ok177 : ∀ A, fnOK Go.Proofs.Tryz.prog gts a177v a177b Go.Proofs.Tryz.f177 a177 A = true := fun A => by kernel_rfl
theorem ok178 : ∀ A, fnOK Go.Proofs.Tryz.prog gts a178v a178b Go.Proofs.Tryz.f178 a178 A = true := fun A => by kernel_rfl
theorem ok179 : ∀ A, fnOK Go.Proofs.Tryz.prog gts a179v a179b Go.Proofs.Tryz.f179 a179 A = true := fun A => by kernel_rfl
theorem ok180 : ∀ A, fnOK Go.Proofs.Tryz.prog gts a180v a180b Go.Proofs.Tryz.f180 a180 A = true := fun A => by kernel_rfl
theorem ok181 : ∀ A, fnOK Go.Proofs.Tryz.prog gts a181v a181b Go.Proofs.Tryz.f181 a181 A = true := fun A => by kernel_rfl
theorem ok182 : ∀ A, fnOK Go.Proofs.Tryz.prog gts a182v a182b Go.Proofs.Tryz.f182 a182 A = true := fun A => by kernel_rfl
theorem ok183 : ∀ A, fnOK Go.Proofs.Tryz.prog gts a183v a183b Go.Proofs.Tryz.f183 a183 A = true := fun A => by kernel_rfl
theorem ok184 : ∀ A, fnOK Go.Proofs.Tryz.prog gts a184v a184b Go.Proofs.Tryz.f184 a184 A = true := fun A => by kernel_rfl
theorem clone42 : ExtOK Go.Proofs.Tryz.prog gts 42 (cloneX 4 72) := clone_ok Go.Proofs.Tryz.func42 (t := Go.Proofs.Tryz.f42.params.getD 0 0) ⟨_, _, _, _, _, _, _, _, _, _, _, _, _, rfl, rfl, rfl, ⟨rfl, rfl, rfl⟩, ⟨rfl, rfl, rfl⟩, ⟨rfl, rfl, rfl⟩, ⟨rfl, rfl, rfl⟩, ⟨rfl, rfl, rfl⟩, ⟨rfl, rfl, rfl⟩, ⟨rfl, rfl, rfl⟩, ⟨rfl, rfl, rfl⟩, by kernel_rfl⟩
theorem clone176 : ExtOK Go.Proofs.Tryz.prog gts 176 (cloneX 1 16) := clone_ok Go.Proofs.Tryz.func176 (t := Go.Proofs.Tryz.f176.params.getD 0 0) ⟨_, _, _, _, _, _, _, _, _, _, _, _, _, rfl, rfl, rfl, ⟨rfl, rfl, rfl⟩, ⟨rfl, rfl, rfl⟩, ⟨rfl, rfl, rfl⟩, ⟨rfl, rfl, rfl⟩, ⟨rfl, rfl, rfl⟩, ⟨rfl, rfl, rfl⟩, ⟨rfl, rfl, rfl⟩, ⟨rfl, rfl, rfl⟩, by kernel_rfl⟩
theorem mixed : Go.Proofs.Tryz.prog.follows .mixedOrders = true := by kernel_rfl
theorem tbl_lt {f : Nat} {af : AFn} (h : tbl f = some af) : f < 210 := by
  rcases Nat.lt_or_ge f 210 with h1 | h1
  · exact h1
  · exfalso
    have e : tblL.getD (f / 10) [] = [] := by
      rw [List.getD_eq_getElem?_getD, List.getElem?_eq_none]
      · rfl
      · show 21 ≤ f / 10
        omega
    have h : (tblL.getD (f / 10) []).getD (f % 10) none = some af := h
    rw [e] at h
    cases h
theorem t3 (af : AFn) (h : some a3 = some af) : enterB Go.Proofs.Tryz.prog 3 = true ∧ ((∃ slots bxs fn, Go.Proofs.Tryz.prog.funcs[3]? = some fn ∧ ∀ A, fnOK Go.Proofs.Tryz.prog gts slots bxs fn af A = true) ∨ (∃ e, af.ext = some e ∧ ExtOK Go.Proofs.Tryz.prog gts 3 e)) := by
  cases h
  exact ⟨by kernel_rfl, .inl ⟨a3v, a3b, Go.Proofs.Tryz.f3, Go.Proofs.Tryz.func3, ok3⟩⟩
theorem t5 (af : AFn) (h : some a5 = some af) : enterB Go.Proofs.Tryz.prog 5 = true ∧ ((∃ slots bxs fn, Go.Proofs.Tryz.prog.funcs[5]? = some fn ∧ ∀ A, fnOK Go.Proofs.Tryz.prog gts slots bxs fn af A = true) ∨ (∃ e, af.ext = some e ∧ ExtOK Go.Proofs.Tryz.prog gts 5 e)) := by
  cases h
  exact ⟨by kernel_rfl, .inl ⟨a5v, a5b, Go.Proofs.Tryz.f5, Go.Proofs.Tryz.func5, ok5⟩⟩
theorem t6 (af : AFn) (h : some a6 = some af) : enterB Go.Proofs.Tryz.prog 6 = true ∧ ((∃ slots bxs fn, Go.Proofs.Tryz.prog.funcs[6]? = some fn ∧ ∀ A, fnOK Go.Proofs.Tryz.prog gts slots bxs fn af A = true) ∨ (∃ e, af.ext = some e ∧ ExtOK Go.Proofs.Tryz.prog gts 6 e)) := by
  cases h
  exact ⟨by kernel_rfl, .inl ⟨a6v, a6b, Go.Proofs.Tryz.f6, Go.Proofs.Tryz.func6, ok6⟩⟩
theorem t7 (af : AFn) (h : some a7 = some af) : enterB Go.Proofs.Tryz.prog 7 = true ∧ ((∃ slots bxs fn, Go.Proofs.Tryz.prog.funcs[7]? = some fn ∧ ∀ A, fnOK Go.Proofs.Tryz.prog gts slots bxs fn af A = true) ∨ (∃ e, af.ext = some e ∧ ExtOK Go.Proofs.Tryz.prog gts 7 e)) := by
  cases h
  exact ⟨by kernel_rfl, .inl ⟨a7v, a7b, Go.Proofs.Tryz.f7, Go.Proofs.Tryz.func7, ok7⟩⟩
theorem t8 (af : AFn) (h : some a8 = some af) : enterB Go.Proofs.Tryz.prog 8 = true ∧ ((∃ slots bxs fn, Go.Proofs.Tryz.prog.funcs[8]? = some fn ∧ ∀ A, fnOK Go.Proofs.Tryz.prog gts slots bxs fn af A = true) ∨ (∃ e, af.ext = some e ∧ ExtOK Go.Proofs.Tryz.prog gts 8 e)) := by
  cases h
  exact ⟨by kernel_rfl, .inl ⟨a8v, a8b, Go.Proofs.Tryz.f8, Go.Proofs.Tryz.func8, ok8⟩⟩
theorem t9 (af : AFn) (h : some a9 = some af) : enterB Go.Proofs.Tryz.prog 9 = true ∧ ((∃ slots bxs fn, Go.Proofs.Tryz.prog.funcs[9]? = some fn ∧ ∀ A, fnOK Go.Proofs.Tryz.prog gts slots bxs fn af A = true) ∨ (∃ e, af.ext = some e ∧ ExtOK Go.Proofs.Tryz.prog gts 9 e)) := by
  cases h
  exact ⟨by kernel_rfl, .inl ⟨a9v, a9b, Go.Proofs.Tryz.f9, Go.Proofs.Tryz.func9, ok9⟩⟩
theorem t10 (af : AFn) (h : some a10 = some af) : enterB Go.Proofs.Tryz.prog 10 = true ∧ ((∃ slots bxs fn, Go.Proofs.Tryz.prog.funcs[10]? = some fn ∧ ∀ A, fnOK Go.Proofs.Tryz.prog gts slots bxs fn af A = true) ∨ (∃ e, af.ext = some e ∧ ExtOK Go.Proofs.Tryz.prog gts 10 e)) := by
  cases h
  exact ⟨by kernel_rfl, .inl ⟨a10v, a10b, Go.Proofs.Tryz.f10, Go.Proofs.Tryz.func10, ok10⟩⟩
theorem t12 (af : AFn) (h : some a12 = some af) : enterB Go.Proofs.Tryz.prog 12 = true ∧ ((∃ slots bxs fn, Go.Proofs.Tryz.prog.funcs[12]? = some fn ∧ ∀ A, fnOK Go.Proofs.Tryz.prog gts slots bxs fn af A = true) ∨ (∃ e, af.ext = some e ∧ ExtOK Go.Proofs.Tryz.prog gts 12 e)) := by
  cases h
  exact ⟨by kernel_rfl, .inl ⟨a12v, a12b, Go.Proofs.Tryz.f12, Go.Proofs.Tryz.func12, ok12⟩⟩
theorem t13 (af : AFn) (h : some a13 = some af) : enterB Go.Proofs.Tryz.prog 13 = true ∧ ((∃ slots bxs fn, Go.Proofs.Tryz.prog.funcs[13]? = some fn ∧ ∀ A, fnOK Go.Proofs.Tryz.prog gts slots bxs fn af A = true) ∨ (∃ e, af.ext = some e ∧ ExtOK Go.Proofs.Tryz.prog gts 13 e)) := by
  cases h
  exact ⟨by kernel_rfl, .inl ⟨a13v, a13b, Go.Proofs.Tryz.f13, Go.Proofs.Tryz.func13, ok13⟩⟩
theorem t14 (af : AFn) (h : some a14 = some af) : enterB Go.Proofs.Tryz.prog 14 = true ∧ ((∃ slots bxs fn, Go.Proofs.Tryz.prog.funcs[14]? = some fn ∧ ∀ A, fnOK Go.Proofs.Tryz.prog gts slots bxs fn af A = true) ∨ (∃ e, af.ext = some e ∧ ExtOK Go.Proofs.Tryz.prog gts 14 e)) := by
  cases h
  exact ⟨by kernel_rfl, .inl ⟨a14v, a14b, Go.Proofs.Tryz.f14, Go.Proofs.Tryz.func14, ok14⟩⟩
theorem t15 (af : AFn) (h : some a15 = some af) : enterB Go.Proofs.Tryz.prog 15 = true ∧ ((∃ slots bxs fn, Go.Proofs.Tryz.prog.funcs[15]? = some fn ∧ ∀ A, fnOK Go.Proofs.Tryz.prog gts slots bxs fn af A = true) ∨ (∃ e, af.ext = some e ∧ ExtOK Go.Proofs.Tryz.prog gts 15 e)) := by
  cases h
  exact ⟨by kernel_rfl, .inl ⟨a15v, a15b, Go.Proofs.Tryz.f15, Go.Proofs.Tryz.func15, ok15⟩⟩
theorem t16 (af : AFn) (h : some a16 = some af) : enterB Go.Proofs.Tryz.prog 16 = true ∧ ((∃ slots bxs fn, Go.Proofs.Tryz.prog.funcs[16]? = some fn ∧ ∀ A, fnOK Go.Proofs.Tryz.prog gts slots bxs fn af A = true) ∨ (∃ e, af.ext = some e ∧ ExtOK Go.Proofs.Tryz.prog gts 16 e)) := by
  cases h
  exact ⟨by kernel_rfl, .inl ⟨a16v, a16b, Go.Proofs.Tryz.f16, Go.Proofs.Tryz.func16, ok16⟩⟩
theorem t17 (af : AFn) (h : some a17 = some af) : enterB Go.Proofs.Tryz.prog 17 = true ∧ ((∃ slots bxs fn, Go.Proofs.Tryz.prog.funcs[17]? = some fn ∧ ∀ A, fnOK Go.Proofs.Tryz.prog gts slots bxs fn af A = true) ∨ (∃ e, af.ext = some e ∧ ExtOK Go.Proofs.Tryz.prog gts 17 e)) := by
  cases h
  exact ⟨by kernel_rfl, .inl ⟨a17v, a17b, Go.Proofs.Tryz.f17, Go.Proofs.Tryz.func17, ok17⟩⟩
theorem t18 (af : AFn) (h : some a18 = some af) : enterB Go.Proofs.Tryz.prog 18 = true ∧ ((∃ slots bxs fn, Go.Proofs.Tryz.prog.funcs[18]? = some fn ∧ ∀ A, fnOK Go.Proofs.Tryz.prog gts slots bxs fn af A = true) ∨ (∃ e, af.ext = some e ∧ ExtOK Go.Proofs.Tryz.prog gts 18 e)) := by
  cases h
  exact ⟨by kernel_rfl, .inl ⟨a18v, a18b, Go.Proofs.Tryz.f18, Go.Proofs.Tryz.func18, ok18⟩⟩
theorem t19 (af : AFn) (h : some a19 = some af) : enterB Go.Proofs.Tryz.prog 19 = true ∧ ((∃ slots bxs fn, Go.Proofs.Tryz.prog.funcs[19]? = some fn ∧ ∀ A, fnOK Go.Proofs.Tryz.prog gts slots bxs fn af A = true) ∨ (∃ e, af.ext = some e ∧ ExtOK Go.Proofs.Tryz.prog gts 19 e)) := by
  cases h
  exact ⟨by kernel_rfl, .inl ⟨a19v, a19b, Go.Proofs.Tryz.f19, Go.Proofs.Tryz.func19, ok19⟩⟩
theorem t20 (af : AFn) (h : some a20 = some af) : enterB Go.Proofs.Tryz.prog 20 = true ∧ ((∃ slots bxs fn, Go.Proofs.Tryz.prog.funcs[20]? = some fn ∧ ∀ A, fnOK Go.Proofs.Tryz.prog gts slots bxs fn af A = true) ∨ (∃ e, af.ext = some e ∧ ExtOK Go.Proofs.Tryz.prog gts 20 e)) := by
  cases h
  exact ⟨by kernel_rfl, .inl ⟨a20v, a20b, Go.Proofs.Tryz.f20, Go.Proofs.Tryz.func20, ok20⟩⟩
theorem t21 (af : AFn) (h : some a21 = some af) : enterB Go.Proofs.Tryz.prog 21 = true ∧ ((∃ slots bxs fn, Go.Proofs.Tryz.prog.funcs[21]? = some fn ∧ ∀ A, fnOK Go.Proofs.Tryz.prog gts slots bxs fn af A = true) ∨ (∃ e, af.ext = some e ∧ ExtOK Go.Proofs.Tryz.prog gts 21 e)) := by
  cases h
  exact ⟨by kernel_rfl, .inl ⟨a21v, a21b, Go.Proofs.Tryz.f21, Go.Proofs.Tryz.func21, ok21⟩⟩
theorem t22 (af : AFn) (h : some a22 = some af) : enterB Go.Proofs.Tryz.prog 22 = true ∧ ((∃ slots bxs fn, Go.Proofs.Tryz.prog.funcs[22]? = some fn ∧ ∀ A, fnOK Go.Proofs.Tryz.prog gts slots bxs fn af A = true) ∨ (∃ e, af.ext = some e ∧ ExtOK Go.Proofs.Tryz.prog gts 22 e)) := by
  cases h
  exact ⟨by kernel_rfl, .inl ⟨a22v, a22b, Go.Proofs.Tryz.f22, Go.Proofs.Tryz.func22, ok22⟩⟩
theorem t23 (af : AFn) (h : some a23 = some af) : enterB Go.Proofs.Tryz.prog 23 = true ∧ ((∃ slots bxs fn, Go.Proofs.Tryz.prog.funcs[23]? = some fn ∧ ∀ A, fnOK Go.Proofs.Tryz.prog gts slots bxs fn af A = true) ∨ (∃ e, af.ext = some e ∧ ExtOK Go.Proofs.Tryz.prog gts 23 e)) := by
  cases h
  exact ⟨by kernel_rfl, .inl ⟨a23v, a23b, Go.Proofs.Tryz.f23, Go.Proofs.Tryz.func23, ok23⟩⟩
theorem t24 (af : AFn) (h : some a24 = some af) : enterB Go.Proofs.Tryz.prog 24 = true ∧ ((∃ slots bxs fn, Go.Proofs.Tryz.prog.funcs[24]? = some fn ∧ ∀ A, fnOK Go.Proofs.Tryz.prog gts slots bxs fn af A = true) ∨ (∃ e, af.ext = some e ∧ ExtOK Go.Proofs.Tryz.prog gts 24 e)) := by
  cases h
  exact ⟨by kernel_rfl, .inl ⟨a24v, a24b, Go.Proofs.Tryz.f24, Go.Proofs.Tryz.func24, ok24⟩⟩
theorem t25 (af : AFn) (h : some a25 = some af) : enterB Go.Proofs.Tryz.prog 25 = true ∧ ((∃ slots bxs fn, Go.Proofs.Tryz.prog.funcs[25]? = some fn ∧ ∀ A, fnOK Go.Proofs.Tryz.prog gts slots bxs fn af A = true) ∨ (∃ e, af.ext = some e ∧ ExtOK Go.Proofs.Tryz.prog gts 25 e)) := by
  cases h
  exact ⟨by kernel_rfl, .inl ⟨a25v, a25b, Go.Proofs.Tryz.f25, Go.Proofs.Tryz.func25, ok25⟩⟩
theorem t26 (af : AFn) (h : some a26 = some af) : enterB Go.Proofs.Tryz.prog 26 = true ∧ ((∃ slots bxs fn, Go.Proofs.Tryz.prog.funcs[26]? = some fn ∧ ∀ A, fnOK Go.Proofs.Tryz.prog gts slots bxs fn af A = true) ∨ (∃ e, af.ext = some e ∧ ExtOK Go.Proofs.Tryz.prog gts 26 e)) := by
  cases h
  exact ⟨by kernel_rfl, .inl ⟨a26v, a26b, Go.Proofs.Tryz.f26, Go.Proofs.Tryz.func26, ok26⟩⟩
theorem t27 (af : AFn) (h : some a27 = some af) : enterB Go.Proofs.Tryz.prog 27 = true ∧ ((∃ slots bxs fn, Go.Proofs.Tryz.prog.funcs[27]? = some fn ∧ ∀ A, fnOK Go.Proofs.Tryz.prog gts slots bxs fn af A = true) ∨ (∃ e, af.ext = some e ∧ ExtOK Go.Proofs.Tryz.prog gts 27 e)) := by
  cases h
  exact ⟨by kernel_rfl, .inl ⟨a27v, a27b, Go.Proofs.Tryz.f27, Go.Proofs.Tryz.func27, ok27⟩⟩
theorem t28 (af : AFn) (h : some a28 = some af) : enterB Go.Proofs.Tryz.prog 28 = true ∧ ((∃ slots bxs fn, Go.Proofs.Tryz.prog.funcs[28]? = some fn ∧ ∀ A, fnOK Go.Proofs.Tryz.prog gts slots bxs fn af A = true) ∨ (∃ e, af.ext = some e ∧ ExtOK Go.Proofs.Tryz.prog gts 28 e)) := by
  cases h
  exact ⟨by kernel_rfl, .inl ⟨a28v, a28b, Go.Proofs.Tryz.f28, Go.Proofs.Tryz.func28, ok28⟩⟩
theorem t29 (af : AFn) (h : some a29 = some af) : enterB Go.Proofs.Tryz.prog 29 = true ∧ ((∃ slots bxs fn, Go.Proofs.Tryz.prog.funcs[29]? = some fn ∧ ∀ A, fnOK Go.Proofs.Tryz.prog gts slots bxs fn af A = true) ∨ (∃ e, af.ext = some e ∧ ExtOK Go.Proofs.Tryz.prog gts 29 e)) := by
  cases h
  exact ⟨by kernel_rfl, .inl ⟨a29v, a29b, Go.Proofs.Tryz.f29, Go.Proofs.Tryz.func29, ok29⟩⟩
theorem t30 (af : AFn) (h : some a30 = some af) : enterB Go.Proofs.Tryz.prog 30 = true ∧ ((∃ slots bxs fn, Go.Proofs.Tryz.prog.funcs[30]? = some fn ∧ ∀ A, fnOK Go.Proofs.Tryz.prog gts slots bxs fn af A = true) ∨ (∃ e, af.ext = some e ∧ ExtOK Go.Proofs.Tryz.prog gts 30 e)) := by
  cases h
  exact ⟨by kernel_rfl, .inl ⟨a30v, a30b, Go.Proofs.Tryz.f30, Go.Proofs.Tryz.func30, ok30⟩⟩
theorem t31 (af : AFn) (h : some a31 = some af) : enterB Go.Proofs.Tryz.prog 31 = true ∧ ((∃ slots bxs fn, Go.Proofs.Tryz.prog.funcs[31]? = some fn ∧ ∀ A, fnOK Go.Proofs.Tryz.prog gts slots bxs fn af A = true) ∨ (∃ e, af.ext = some e ∧ ExtOK Go.Proofs.Tryz.prog gts 31 e)) := by
  cases h
  exact ⟨by kernel_rfl, .inl ⟨a31v, a31b, Go.Proofs.Tryz.f31, Go.Proofs.Tryz.func31, ok31⟩⟩
theorem t32 (af : AFn) (h : some a32 = some af) : enterB Go.Proofs.Tryz.prog 32 = true ∧ ((∃ slots bxs fn, Go.Proofs.Tryz.prog.funcs[32]? = some fn ∧ ∀ A, fnOK Go.Proofs.Tryz.prog gts slots bxs fn af A = true) ∨ (∃ e, af.ext = some e ∧ ExtOK Go.Proofs.Tryz.prog gts 32 e)) := by
  cases h
  exact ⟨by kernel_rfl, .inl ⟨a32v, a32b, Go.Proofs.Tryz.f32, Go.Proofs.Tryz.func32, ok32⟩⟩
theorem t33 (af : AFn) (h : some a33 = some af) : enterB Go.Proofs.Tryz.prog 33 = true ∧ ((∃ slots bxs fn, Go.Proofs.Tryz.prog.funcs[33]? = some fn ∧ ∀ A, fnOK Go.Proofs.Tryz.prog gts slots bxs fn af A = true) ∨ (∃ e, af.ext = some e ∧ ExtOK Go.Proofs.Tryz.prog gts 33 e)) := by
  cases h
  exact ⟨by kernel_rfl, .inl ⟨a33v, a33b, Go.Proofs.Tryz.f33, Go.Proofs.Tryz.func33, ok33⟩⟩
theorem t34 (af : AFn) (h : some a34 = some af) : enterB Go.Proofs.Tryz.prog 34 = true ∧ ((∃ slots bxs fn, Go.Proofs.Tryz.prog.funcs[34]? = some fn ∧ ∀ A, fnOK Go.Proofs.Tryz.prog gts slots bxs fn af A = true) ∨ (∃ e, af.ext = some e ∧ ExtOK Go.Proofs.Tryz.prog gts 34 e)) := by
  cases h
  exact ⟨by kernel_rfl, .inl ⟨a34v, a34b, Go.Proofs.Tryz.f34, Go.Proofs.Tryz.func34, ok34⟩⟩
theorem t35 (af : AFn) (h : some a35 = some af) : enterB Go.Proofs.Tryz.prog 35 = true ∧ ((∃ slots bxs fn, Go.Proofs.Tryz.prog.funcs[35]? = some fn ∧ ∀ A, fnOK Go.Proofs.Tryz.prog gts slots bxs fn af A = true) ∨ (∃ e, af.ext = some e ∧ ExtOK Go.Proofs.Tryz.prog gts 35 e)) := by
  cases h
  exact ⟨by kernel_rfl, .inl ⟨a35v, a35b, Go.Proofs.Tryz.f35, Go.Proofs.Tryz.func35, ok35⟩⟩
theorem t36 (af : AFn) (h : some a36 = some af) : enterB Go.Proofs.Tryz.prog 36 = true ∧ ((∃ slots bxs fn, Go.Proofs.Tryz.prog.funcs[36]? = some fn ∧ ∀ A, fnOK Go.Proofs.Tryz.prog gts slots bxs fn af A = true) ∨ (∃ e, af.ext = some e ∧ ExtOK Go.Proofs.Tryz.prog gts 36 e)) := by
  cases h
  exact ⟨by kernel_rfl, .inl ⟨a36v, a36b, Go.Proofs.Tryz.f36, Go.Proofs.Tryz.func36, ok36⟩⟩
theorem t37 (af : AFn) (h : some a37 = some af) : enterB Go.Proofs.Tryz.prog 37 = true ∧ ((∃ slots bxs fn, Go.Proofs.Tryz.prog.funcs[37]? = some fn ∧ ∀ A, fnOK Go.Proofs.Tryz.prog gts slots bxs fn af A = true) ∨ (∃ e, af.ext = some e ∧ ExtOK Go.Proofs.Tryz.prog gts 37 e)) := by
  cases h
  exact ⟨by kernel_rfl, .inl ⟨a37v, a37b, Go.Proofs.Tryz.f37, Go.Proofs.Tryz.func37, ok37⟩⟩
theorem t38 (af : AFn) (h : some a38 = some af) : enterB Go.Proofs.Tryz.prog 38 = true ∧ ((∃ slots bxs fn, Go.Proofs.Tryz.prog.funcs[38]? = some fn ∧ ∀ A, fnOK Go.Proofs.Tryz.prog gts slots bxs fn af A = true) ∨ (∃ e, af.ext = some e ∧ ExtOK Go.Proofs.Tryz.prog gts 38 e)) := by
  cases h
  exact ⟨by kernel_rfl, .inl ⟨a38v, a38b, Go.Proofs.Tryz.f38, Go.Proofs.Tryz.func38, ok38⟩⟩
theorem t39 (af : AFn) (h : some a39 = some af) : enterB Go.Proofs.Tryz.prog 39 = true ∧ ((∃ slots bxs fn, Go.Proofs.Tryz.prog.funcs[39]? = some fn ∧ ∀ A, fnOK Go.Proofs.Tryz.prog gts slots bxs fn af A = true) ∨ (∃ e, af.ext = some e ∧ ExtOK Go.Proofs.Tryz.prog gts 39 e)) := by
  cases h
  exact ⟨by kernel_rfl, .inl ⟨a39v, a39b, Go.Proofs.Tryz.f39, Go.Proofs.Tryz.func39, ok39⟩⟩
theorem t40 (af : AFn) (h : some a40 = some af) : enterB Go.Proofs.Tryz.prog 40 = true ∧ ((∃ slots bxs fn, Go.Proofs.Tryz.prog.funcs[40]? = some fn ∧ ∀ A, fnOK Go.Proofs.Tryz.prog gts slots bxs fn af A = true) ∨ (∃ e, af.ext = some e ∧ ExtOK Go.Proofs.Tryz.prog gts 40 e)) := by
  cases h
  exact ⟨by kernel_rfl, .inl ⟨a40v, a40b, Go.Proofs.Tryz.f40, Go.Proofs.Tryz.func40, ok40⟩⟩
theorem t41 (af : AFn) (h : some a41 = some af) : enterB Go.Proofs.Tryz.prog 41 = true ∧ ((∃ slots bxs fn, Go.Proofs.Tryz.prog.funcs[41]? = some fn ∧ ∀ A, fnOK Go.Proofs.Tryz.prog gts slots bxs fn af A = true) ∨ (∃ e, af.ext = some e ∧ ExtOK Go.Proofs.Tryz.prog gts 41 e)) := by
  cases h
  exact ⟨by kernel_rfl, .inl ⟨a41v, a41b, Go.Proofs.Tryz.f41, Go.Proofs.Tryz.func41, ok41⟩⟩
theorem t42 (af : AFn) (h : some a42 = some af) : enterB Go.Proofs.Tryz.prog 42 = true ∧ ((∃ slots bxs fn, Go.Proofs.Tryz.prog.funcs[42]? = some fn ∧ ∀ A, fnOK Go.Proofs.Tryz.prog gts slots bxs fn af A = true) ∨ (∃ e, af.ext = some e ∧ ExtOK Go.Proofs.Tryz.prog gts 42 e)) := by
  cases h
  exact ⟨by kernel_rfl, .inr ⟨_, rfl, clone42⟩⟩
theorem t43 (af : AFn) (h : some a43 = some af) : enterB Go.Proofs.Tryz.prog 43 = true ∧ ((∃ slots bxs fn, Go.Proofs.Tryz.prog.funcs[43]? = some fn ∧ ∀ A, fnOK Go.Proofs.Tryz.prog gts slots bxs fn af A = true) ∨ (∃ e, af.ext = some e ∧ ExtOK Go.Proofs.Tryz.prog gts 43 e)) := by
  cases h
  exact ⟨by kernel_rfl, .inl ⟨a43v, a43b, Go.Proofs.Tryz.f43, Go.Proofs.Tryz.func43, ok43⟩⟩
theorem t44 (af : AFn) (h : some a44 = some af) : enterB Go.Proofs.Tryz.prog 44 = true ∧ ((∃ slots bxs fn, Go.Proofs.Tryz.prog.funcs[44]? = some fn ∧ ∀ A, fnOK Go.Proofs.Tryz.prog gts slots bxs fn af A = true) ∨ (∃ e, af.ext = some e ∧ ExtOK Go.Proofs.Tryz.prog gts 44 e)) := by
  cases h
  exact ⟨by kernel_rfl, .inl ⟨a44v, a44b, Go.Proofs.Tryz.f44, Go.Proofs.Tryz.func44, ok44⟩⟩
theorem t45 (af : AFn) (h : some a45 = some af) : enterB Go.Proofs.Tryz.prog 45 = true ∧ ((∃ slots bxs fn, Go.Proofs.Tryz.prog.funcs[45]? = some fn ∧ ∀ A, fnOK Go.Proofs.Tryz.prog gts slots bxs fn af A = true) ∨ (∃ e, af.ext = some e ∧ ExtOK Go.Proofs.Tryz.prog gts 45 e)) := by
  cases h
  exact ⟨by kernel_rfl, .inl ⟨a45v, a45b, Go.Proofs.Tryz.f45, Go.Proofs.Tryz.func45, ok45⟩⟩
theorem t46 (af : AFn) (h : some a46 = some af) : enterB Go.Proofs.Tryz.prog 46 = true ∧ ((∃ slots bxs fn, Go.Proofs.Tryz.prog.funcs[46]? = some fn ∧ ∀ A, fnOK Go.Proofs.Tryz.prog gts slots bxs fn af A = true) ∨ (∃ e, af.ext = some e ∧ ExtOK Go.Proofs.Tryz.prog gts 46 e)) := by
  cases h
  exact ⟨by kernel_rfl, .inl ⟨a46v, a46b, Go.Proofs.Tryz.f46, Go.Proofs.Tryz.func46, ok46⟩⟩
theorem t47 (af : AFn) (h : some a47 = some af) : enterB Go.Proofs.Tryz.prog 47 = true ∧ ((∃ slots bxs fn, Go.Proofs.Tryz.prog.funcs[47]? = some fn ∧ ∀ A, fnOK Go.Proofs.Tryz.prog gts slots bxs fn af A = true) ∨ (∃ e, af.ext = some e ∧ ExtOK Go.Proofs.Tryz.prog gts 47 e)) := by
  cases h
  exact ⟨by kernel_rfl, .inl ⟨a47v, a47b, Go.Proofs.Tryz.f47, Go.Proofs.Tryz.func47, ok47⟩⟩
theorem t48 (af : AFn) (h : some a48 = some af) : enterB Go.Proofs.Tryz.prog 48 = true ∧ ((∃ slots bxs fn, Go.Proofs.Tryz.prog.funcs[48]? = some fn ∧ ∀ A, fnOK Go.Proofs.Tryz.prog gts slots bxs fn af A = true) ∨ (∃ e, af.ext = some e ∧ ExtOK Go.Proofs.Tryz.prog gts 48 e)) := by
  cases h
  exact ⟨by kernel_rfl, .inl ⟨a48v, a48b, Go.Proofs.Tryz.f48, Go.Proofs.Tryz.func48, ok48⟩⟩
theorem t49 (af : AFn) (h : some a49 = some af) : enterB Go.Proofs.Tryz.prog 49 = true ∧ ((∃ slots bxs fn, Go.Proofs.Tryz.prog.funcs[49]? = some fn ∧ ∀ A, fnOK Go.Proofs.Tryz.prog gts slots bxs fn af A = true) ∨ (∃ e, af.ext = some e ∧ ExtOK Go.Proofs.Tryz.prog gts 49 e)) := by
  cases h
  exact ⟨by kernel_rfl, .inl ⟨a49v, a49b, Go.Proofs.Tryz.f49, Go.Proofs.Tryz.func49, ok49⟩⟩
theorem t50 (af : AFn) (h : some a50 = some af) : enterB Go.Proofs.Tryz.prog 50 = true ∧ ((∃ slots bxs fn, Go.Proofs.Tryz.prog.funcs[50]? = some fn ∧ ∀ A, fnOK Go.Proofs.Tryz.prog gts slots bxs fn af A = true) ∨ (∃ e, af.ext = some e ∧ ExtOK Go.Proofs.Tryz.prog gts 50 e)) := by
  cases h
  exact ⟨by kernel_rfl, .inl ⟨a50v, a50b, Go.Proofs.Tryz.f50, Go.Proofs.Tryz.func50, ok50⟩⟩
theorem t51 (af : AFn) (h : some a51 = some af) : enterB Go.Proofs.Tryz.prog 51 = true ∧ ((∃ slots bxs fn, Go.Proofs.Tryz.prog.funcs[51]? = some fn ∧ ∀ A, fnOK Go.Proofs.Tryz.prog gts slots bxs fn af A = true) ∨ (∃ e, af.ext = some e ∧ ExtOK Go.Proofs.Tryz.prog gts 51 e)) := by
  cases h
  exact ⟨by kernel_rfl, .inl ⟨a51v, a51b, Go.Proofs.Tryz.f51, Go.Proofs.Tryz.func51, ok51⟩⟩
theorem t52 (af : AFn) (h : some a52 = some af) : enterB Go.Proofs.Tryz.prog 52 = true ∧ ((∃ slots bxs fn, Go.Proofs.Tryz.prog.funcs[52]? = some fn ∧ ∀ A, fnOK Go.Proofs.Tryz.prog gts slots bxs fn af A = true) ∨ (∃ e, af.ext = some e ∧ ExtOK Go.Proofs.Tryz.prog gts 52 e)) := by
  cases h
  exact ⟨by kernel_rfl, .inl ⟨a52v, a52b, Go.Proofs.Tryz.f52, Go.Proofs.Tryz.func52, ok52⟩⟩
theorem t53 (af : AFn) (h : some a53 = some af) : enterB Go.Proofs.Tryz.prog 53 = true ∧ ((∃ slots bxs fn, Go.Proofs.Tryz.prog.funcs[53]? = some fn ∧ ∀ A, fnOK Go.Proofs.Tryz.prog gts slots bxs fn af A = true) ∨ (∃ e, af.ext = some e ∧ ExtOK Go.Proofs.Tryz.prog gts 53 e)) := by
  cases h
  exact ⟨by kernel_rfl, .inl ⟨a53v, a53b, Go.Proofs.Tryz.f53, Go.Proofs.Tryz.func53, ok53⟩⟩
theorem t54 (af : AFn) (h : some a54 = some af) : enterB Go.Proofs.Tryz.prog 54 = true ∧ ((∃ slots bxs fn, Go.Proofs.Tryz.prog.funcs[54]? = some fn ∧ ∀ A, fnOK Go.Proofs.Tryz.prog gts slots bxs fn af A = true) ∨ (∃ e, af.ext = some e ∧ ExtOK Go.Proofs.Tryz.prog gts 54 e)) := by
  cases h
  exact ⟨by kernel_rfl, .inl ⟨a54v, a54b, Go.Proofs.Tryz.f54, Go.Proofs.Tryz.func54, ok54⟩⟩
theorem t55 (af : AFn) (h : some a55 = some af) : enterB Go.Proofs.Tryz.prog 55 = true ∧ ((∃ slots bxs fn, Go.Proofs.Tryz.prog.funcs[55]? = some fn ∧ ∀ A, fnOK Go.Proofs.Tryz.prog gts slots bxs fn af A = true) ∨ (∃ e, af.ext = some e ∧ ExtOK Go.Proofs.Tryz.prog gts 55 e)) := by
  cases h
  exact ⟨by kernel_rfl, .inl ⟨a55v, a55b, Go.Proofs.Tryz.f55, Go.Proofs.Tryz.func55, ok55⟩⟩
theorem t56 (af : AFn) (h : some a56 = some af) : enterB Go.Proofs.Tryz.prog 56 = true ∧ ((∃ slots bxs fn, Go.Proofs.Tryz.prog.funcs[56]? = some fn ∧ ∀ A, fnOK Go.Proofs.Tryz.prog gts slots bxs fn af A = true) ∨ (∃ e, af.ext = some e ∧ ExtOK Go.Proofs.Tryz.prog gts 56 e)) := by
  cases h
  exact ⟨by kernel_rfl, .inl ⟨a56v, a56b, Go.Proofs.Tryz.f56, Go.Proofs.Tryz.func56, ok56⟩⟩
theorem t57 (af : AFn) (h : some a57 = some af) : enterB Go.Proofs.Tryz.prog 57 = true ∧ ((∃ slots bxs fn, Go.Proofs.Tryz.prog.funcs[57]? = some fn ∧ ∀ A, fnOK Go.Proofs.Tryz.prog gts slots bxs fn af A = true) ∨ (∃ e, af.ext = some e ∧ ExtOK Go.Proofs.Tryz.prog gts 57 e)) := by
  cases h
  exact ⟨by kernel_rfl, .inl ⟨a57v, a57b, Go.Proofs.Tryz.f57, Go.Proofs.Tryz.func57, ok57⟩⟩
theorem t58 (af : AFn) (h : some a58 = some af) : enterB Go.Proofs.Tryz.prog 58 = true ∧ ((∃ slots bxs fn, Go.Proofs.Tryz.prog.funcs[58]? = some fn ∧ ∀ A, fnOK Go.Proofs.Tryz.prog gts slots bxs fn af A = true) ∨ (∃ e, af.ext = some e ∧ ExtOK Go.Proofs.Tryz.prog gts 58 e)) := by
  cases h
  exact ⟨by kernel_rfl, .inl ⟨a58v, a58b, Go.Proofs.Tryz.f58, Go.Proofs.Tryz.func58, ok58⟩⟩
theorem t59 (af : AFn) (h : some a59 = some af) : enterB Go.Proofs.Tryz.prog 59 = true ∧ ((∃ slots bxs fn, Go.Proofs.Tryz.prog.funcs[59]? = some fn ∧ ∀ A, fnOK Go.Proofs.Tryz.prog gts slots bxs fn af A = true) ∨ (∃ e, af.ext = some e ∧ ExtOK Go.Proofs.Tryz.prog gts 59 e)) := by
  cases h
  exact ⟨by kernel_rfl, .inl ⟨a59v, a59b, Go.Proofs.Tryz.f59, Go.Proofs.Tryz.func59, ok59⟩⟩
theorem t60 (af : AFn) (h : some a60 = some af) : enterB Go.Proofs.Tryz.prog 60 = true ∧ ((∃ slots bxs fn, Go.Proofs.Tryz.prog.funcs[60]? = some fn ∧ ∀ A, fnOK Go.Proofs.Tryz.prog gts slots bxs fn af A = true) ∨ (∃ e, af.ext = some e ∧ ExtOK Go.Proofs.Tryz.prog gts 60 e)) := by
  cases h
  exact ⟨by kernel_rfl, .inl ⟨a60v, a60b, Go.Proofs.Tryz.f60, Go.Proofs.Tryz.func60, ok60⟩⟩
theorem t61 (af : AFn) (h : some a61 = some af) : enterB Go.Proofs.Tryz.prog 61 = true ∧ ((∃ slots bxs fn, Go.Proofs.Tryz.prog.funcs[61]? = some fn ∧ ∀ A, fnOK Go.Proofs.Tryz.prog gts slots bxs fn af A = true) ∨ (∃ e, af.ext = some e ∧ ExtOK Go.Proofs.Tryz.prog gts 61 e)) := by
  cases h
  exact ⟨by kernel_rfl, .inl ⟨a61v, a61b, Go.Proofs.Tryz.f61, Go.Proofs.Tryz.func61, ok61⟩⟩
theorem t62 (af : AFn) (h : some a62 = some af) : enterB Go.Proofs.Tryz.prog 62 = true ∧ ((∃ slots bxs fn, Go.Proofs.Tryz.prog.funcs[62]? = some fn ∧ ∀ A, fnOK Go.Proofs.Tryz.prog gts slots bxs fn af A = true) ∨ (∃ e, af.ext = some e ∧ ExtOK Go.Proofs.Tryz.prog gts 62 e)) := by
  cases h
  exact ⟨by kernel_rfl, .inl ⟨a62v, a62b, Go.Proofs.Tryz.f62, Go.Proofs.Tryz.func62, ok62⟩⟩
theorem t63 (af : AFn) (h : some a63 = some af) : enterB Go.Proofs.Tryz.prog 63 = true ∧ ((∃ slots bxs fn, Go.Proofs.Tryz.prog.funcs[63]? = some fn ∧ ∀ A, fnOK Go.Proofs.Tryz.prog gts slots bxs fn af A = true) ∨ (∃ e, af.ext = some e ∧ ExtOK Go.Proofs.Tryz.prog gts 63 e)) := by
  cases h
  exact ⟨by kernel_rfl, .inl ⟨a63v, a63b, Go.Proofs.Tryz.f63, Go.Proofs.Tryz.func63, ok63⟩⟩
theorem t64 (af : AFn) (h : some a64 = some af) : enterB Go.Proofs.Tryz.prog 64 = true ∧ ((∃ slots bxs fn, Go.Proofs.Tryz.prog.funcs[64]? = some fn ∧ ∀ A, fnOK Go.Proofs.Tryz.prog gts slots bxs fn af A = true) ∨ (∃ e, af.ext = some e ∧ ExtOK Go.Proofs.Tryz.prog gts 64 e)) := by
  cases h
  exact ⟨by kernel_rfl, .inl ⟨a64v, a64b, Go.Proofs.Tryz.f64, Go.Proofs.Tryz.func64, ok64⟩⟩
theorem t65 (af : AFn) (h : some a65 = some af) : enterB Go.Proofs.Tryz.prog 65 = true ∧ ((∃ slots bxs fn, Go.Proofs.Tryz.prog.funcs[65]? = some fn ∧ ∀ A, fnOK Go.Proofs.Tryz.prog gts slots bxs fn af A = true) ∨ (∃ e, af.ext = some e ∧ ExtOK Go.Proofs.Tryz.prog gts 65 e)) := by
  cases h
  exact ⟨by kernel_rfl, .inl ⟨a65v, a65b, Go.Proofs.Tryz.f65, Go.Proofs.Tryz.func65, ok65⟩⟩
theorem t66 (af : AFn) (h : some a66 = some af) : enterB Go.Proofs.Tryz.prog 66 = true ∧ ((∃ slots bxs fn, Go.Proofs.Tryz.prog.funcs[66]? = some fn ∧ ∀ A, fnOK Go.Proofs.Tryz.prog gts slots bxs fn af A = true) ∨ (∃ e, af.ext = some e ∧ ExtOK Go.Proofs.Tryz.prog gts 66 e)) := by
  cases h
  exact ⟨by kernel_rfl, .inl ⟨a66v, a66b, Go.Proofs.Tryz.f66, Go.Proofs.Tryz.func66, ok66⟩⟩
theorem t67 (af : AFn) (h : some a67 = some af) : enterB Go.Proofs.Tryz.prog 67 = true ∧ ((∃ slots bxs fn, Go.Proofs.Tryz.prog.funcs[67]? = some fn ∧ ∀ A, fnOK Go.Proofs.Tryz.prog gts slots bxs fn af A = true) ∨ (∃ e, af.ext = some e ∧ ExtOK Go.Proofs.Tryz.prog gts 67 e)) := by
  cases h
  exact ⟨by kernel_rfl, .inl ⟨a67v, a67b, Go.Proofs.Tryz.f67, Go.Proofs.Tryz.func67, ok67⟩⟩
theorem t68 (af : AFn) (h : some a68 = some af) : enterB Go.Proofs.Tryz.prog 68 = true ∧ ((∃ slots bxs fn, Go.Proofs.Tryz.prog.funcs[68]? = some fn ∧ ∀ A, fnOK Go.Proofs.Tryz.prog gts slots bxs fn af A = true) ∨ (∃ e, af.ext = some e ∧ ExtOK Go.Proofs.Tryz.prog gts 68 e)) := by
  cases h
  exact ⟨by kernel_rfl, .inl ⟨a68v, a68b, Go.Proofs.Tryz.f68, Go.Proofs.Tryz.func68, ok68⟩⟩
theorem t69 (af : AFn) (h : some a69 = some af) : enterB Go.Proofs.Tryz.prog 69 = true ∧ ((∃ slots bxs fn, Go.Proofs.Tryz.prog.funcs[69]? = some fn ∧ ∀ A, fnOK Go.Proofs.Tryz.prog gts slots bxs fn af A = true) ∨ (∃ e, af.ext = some e ∧ ExtOK Go.Proofs.Tryz.prog gts 69 e)) := by
  cases h
  exact ⟨by kernel_rfl, .inl ⟨a69v, a69b, Go.Proofs.Tryz.f69, Go.Proofs.Tryz.func69, ok69⟩⟩
theorem t70 (af : AFn) (h : some a70 = some af) : enterB Go.Proofs.Tryz.prog 70 = true ∧ ((∃ slots bxs fn, Go.Proofs.Tryz.prog.funcs[70]? = some fn ∧ ∀ A, fnOK Go.Proofs.Tryz.prog gts slots bxs fn af A = true) ∨ (∃ e, af.ext = some e ∧ ExtOK Go.Proofs.Tryz.prog gts 70 e)) := by
  cases h
  exact ⟨by kernel_rfl, .inl ⟨a70v, a70b, Go.Proofs.Tryz.f70, Go.Proofs.Tryz.func70, ok70⟩⟩
theorem t71 (af : AFn) (h : some a71 = some af) : enterB Go.Proofs.Tryz.prog 71 = true ∧ ((∃ slots bxs fn, Go.Proofs.Tryz.prog.funcs[71]? = some fn ∧ ∀ A, fnOK Go.Proofs.Tryz.prog gts slots bxs fn af A = true) ∨ (∃ e, af.ext = some e ∧ ExtOK Go.Proofs.Tryz.prog gts 71 e)) := by
  cases h
  exact ⟨by kernel_rfl, .inl ⟨a71v, a71b, Go.Proofs.Tryz.f71, Go.Proofs.Tryz.func71, ok71⟩⟩
theorem t72 (af : AFn) (h : some a72 = some af) : enterB Go.Proofs.Tryz.prog 72 = true ∧ ((∃ slots bxs fn, Go.Proofs.Tryz.prog.funcs[72]? = some fn ∧ ∀ A, fnOK Go.Proofs.Tryz.prog gts slots bxs fn af A = true) ∨ (∃ e, af.ext = some e ∧ ExtOK Go.Proofs.Tryz.prog gts 72 e)) := by
  cases h
  exact ⟨by kernel_rfl, .inl ⟨a72v, a72b, Go.Proofs.Tryz.f72, Go.Proofs.Tryz.func72, ok72⟩⟩
theorem t73 (af : AFn) (h : some a73 = some af) : enterB Go.Proofs.Tryz.prog 73 = true ∧ ((∃ slots bxs fn, Go.Proofs.Tryz.prog.funcs[73]? = some fn ∧ ∀ A, fnOK Go.Proofs.Tryz.prog gts slots bxs fn af A = true) ∨ (∃ e, af.ext = some e ∧ ExtOK Go.Proofs.Tryz.prog gts 73 e)) := by
  cases h
  exact ⟨by kernel_rfl, .inl ⟨a73v, a73b, Go.Proofs.Tryz.f73, Go.Proofs.Tryz.func73, ok73⟩⟩
theorem t74 (af : AFn) (h : some a74 = some af) : enterB Go.Proofs.Tryz.prog 74 = true ∧ ((∃ slots bxs fn, Go.Proofs.Tryz.prog.funcs[74]? = some fn ∧ ∀ A, fnOK Go.Proofs.Tryz.prog gts slots bxs fn af A = true) ∨ (∃ e, af.ext = some e ∧ ExtOK Go.Proofs.Tryz.prog gts 74 e)) := by
  cases h
  exact ⟨by kernel_rfl, .inl ⟨a74v, a74b, Go.Proofs.Tryz.f74, Go.Proofs.Tryz.func74, ok74⟩⟩
theorem t75 (af : AFn) (h : some a75 = some af) : enterB Go.Proofs.Tryz.prog 75 = true ∧ ((∃ slots bxs fn, Go.Proofs.Tryz.prog.funcs[75]? = some fn ∧ ∀ A, fnOK Go.Proofs.Tryz.prog gts slots bxs fn af A = true) ∨ (∃ e, af.ext = some e ∧ ExtOK Go.Proofs.Tryz.prog gts 75 e)) := by
  cases h
  exact ⟨by kernel_rfl, .inl ⟨a75v, a75b, Go.Proofs.Tryz.f75, Go.Proofs.Tryz.func75, ok75⟩⟩
theorem t76 (af : AFn) (h : some a76 = some af) : enterB Go.Proofs.Tryz.prog 76 = true ∧ ((∃ slots bxs fn, Go.Proofs.Tryz.prog.funcs[76]? = some fn ∧ ∀ A, fnOK Go.Proofs.Tryz.prog gts slots bxs fn af A = true) ∨ (∃ e, af.ext = some e ∧ ExtOK Go.Proofs.Tryz.prog gts 76 e)) := by
  cases h
  exact ⟨by kernel_rfl, .inl ⟨a76v, a76b, Go.Proofs.Tryz.f76, Go.Proofs.Tryz.func76, ok76⟩⟩
theorem t77 (af : AFn) (h : some a77 = some af) : enterB Go.Proofs.Tryz.prog 77 = true ∧ ((∃ slots bxs fn, Go.Proofs.Tryz.prog.funcs[77]? = some fn ∧ ∀ A, fnOK Go.Proofs.Tryz.prog gts slots bxs fn af A = true) ∨ (∃ e, af.ext = some e ∧ ExtOK Go.Proofs.Tryz.prog gts 77 e)) := by
  cases h
  exact ⟨by kernel_rfl, .inl ⟨a77v, a77b, Go.Proofs.Tryz.f77, Go.Proofs.Tryz.func77, ok77⟩⟩
theorem t78 (af : AFn) (h : some a78 = some af) : enterB Go.Proofs.Tryz.prog 78 = true ∧ ((∃ slots bxs fn, Go.Proofs.Tryz.prog.funcs[78]? = some fn ∧ ∀ A, fnOK Go.Proofs.Tryz.prog gts slots bxs fn af A = true) ∨ (∃ e, af.ext = some e ∧ ExtOK Go.Proofs.Tryz.prog gts 78 e)) := by
  cases h
  exact ⟨by kernel_rfl, .inl ⟨a78v, a78b, Go.Proofs.Tryz.f78, Go.Proofs.Tryz.func78, ok78⟩⟩
theorem t79 (af : AFn) (h : some a79 = some af) : enterB Go.Proofs.Tryz.prog 79 = true ∧ ((∃ slots bxs fn, Go.Proofs.Tryz.prog.funcs[79]? = some fn ∧ ∀ A, fnOK Go.Proofs.Tryz.prog gts slots bxs fn af A = true) ∨ (∃ e, af.ext = some e ∧ ExtOK Go.Proofs.Tryz.prog gts 79 e)) := by
  cases h
  exact ⟨by kernel_rfl, .inl ⟨a79v, a79b, Go.Proofs.Tryz.f79, Go.Proofs.Tryz.func79, ok79⟩⟩
theorem t80 (af : AFn) (h : some a80 = some af) : enterB Go.Proofs.Tryz.prog 80 = true ∧ ((∃ slots bxs fn, Go.Proofs.Tryz.prog.funcs[80]? = some fn ∧ ∀ A, fnOK Go.Proofs.Tryz.prog gts slots bxs fn af A = true) ∨ (∃ e, af.ext = some e ∧ ExtOK Go.Proofs.Tryz.prog gts 80 e)) := by
  cases h
  exact ⟨by kernel_rfl, .inl ⟨a80v, a80b, Go.Proofs.Tryz.f80, Go.Proofs.Tryz.func80, ok80⟩⟩
theorem t81 (af : AFn) (h : some a81 = some af) : enterB Go.Proofs.Tryz.prog 81 = true ∧ ((∃ slots bxs fn, Go.Proofs.Tryz.prog.funcs[81]? = some fn ∧ ∀ A, fnOK Go.Proofs.Tryz.prog gts slots bxs fn af A = true) ∨ (∃ e, af.ext = some e ∧ ExtOK Go.Proofs.Tryz.prog gts 81 e)) := by
  cases h
  exact ⟨by kernel_rfl, .inl ⟨a81v, a81b, Go.Proofs.Tryz.f81, Go.Proofs.Tryz.func81, ok81⟩⟩
theorem t82 (af : AFn) (h : some a82 = some af) : enterB Go.Proofs.Tryz.prog 82 = true ∧ ((∃ slots bxs fn, Go.Proofs.Tryz.prog.funcs[82]? = some fn ∧ ∀ A, fnOK Go.Proofs.Tryz.prog gts slots bxs fn af A = true) ∨ (∃ e, af.ext = some e ∧ ExtOK Go.Proofs.Tryz.prog gts 82 e)) := by
  cases h
  exact ⟨by kernel_rfl, .inl ⟨a82v, a82b, Go.Proofs.Tryz.f82, Go.Proofs.Tryz.func82, ok82⟩⟩
theorem t83 (af : AFn) (h : some a83 = some af) : enterB Go.Proofs.Tryz.prog 83 = true ∧ ((∃ slots bxs fn, Go.Proofs.Tryz.prog.funcs[83]? = some fn ∧ ∀ A, fnOK Go.Proofs.Tryz.prog gts slots bxs fn af A = true) ∨ (∃ e, af.ext = some e ∧ ExtOK Go.Proofs.Tryz.prog gts 83 e)) := by
  cases h
  exact ⟨by kernel_rfl, .inl ⟨a83v, a83b, Go.Proofs.Tryz.f83, Go.Proofs.Tryz.func83, ok83⟩⟩
theorem t84 (af : AFn) (h : some a84 = some af) : enterB Go.Proofs.Tryz.prog 84 = true ∧ ((∃ slots bxs fn, Go.Proofs.Tryz.prog.funcs[84]? = some fn ∧ ∀ A, fnOK Go.Proofs.Tryz.prog gts slots bxs fn af A = true) ∨ (∃ e, af.ext = some e ∧ ExtOK Go.Proofs.Tryz.prog gts 84 e)) := by
  cases h
  exact ⟨by kernel_rfl, .inl ⟨a84v, a84b, Go.Proofs.Tryz.f84, Go.Proofs.Tryz.func84, ok84⟩⟩
theorem t85 (af : AFn) (h : some a85 = some af) : enterB Go.Proofs.Tryz.prog 85 = true ∧ ((∃ slots bxs fn, Go.Proofs.Tryz.prog.funcs[85]? = some fn ∧ ∀ A, fnOK Go.Proofs.Tryz.prog gts slots bxs fn af A = true) ∨ (∃ e, af.ext = some e ∧ ExtOK Go.Proofs.Tryz.prog gts 85 e)) := by
  cases h
  exact ⟨by kernel_rfl, .inl ⟨a85v, a85b, Go.Proofs.Tryz.f85, Go.Proofs.Tryz.func85, ok85⟩⟩
theorem t86 (af : AFn) (h : some a86 = some af) : enterB Go.Proofs.Tryz.prog 86 = true ∧ ((∃ slots bxs fn, Go.Proofs.Tryz.prog.funcs[86]? = some fn ∧ ∀ A, fnOK Go.Proofs.Tryz.prog gts slots bxs fn af A = true) ∨ (∃ e, af.ext = some e ∧ ExtOK Go.Proofs.Tryz.prog gts 86 e)) := by
  cases h
  exact ⟨by kernel_rfl, .inl ⟨a86v, a86b, Go.Proofs.Tryz.f86, Go.Proofs.Tryz.func86, ok86⟩⟩
theorem t87 (af : AFn) (h : some a87 = some af) : enterB Go.Proofs.Tryz.prog 87 = true ∧ ((∃ slots bxs fn, Go.Proofs.Tryz.prog.funcs[87]? = some fn ∧ ∀ A, fnOK Go.Proofs.Tryz.prog gts slots bxs fn af A = true) ∨ (∃ e, af.ext = some e ∧ ExtOK Go.Proofs.Tryz.prog gts 87 e)) := by
  cases h
  exact ⟨by kernel_rfl, .inl ⟨a87v, a87b, Go.Proofs.Tryz.f87, Go.Proofs.Tryz.func87, ok87⟩⟩
theorem t88 (af : AFn) (h : some a88 = some af) : enterB Go.Proofs.Tryz.prog 88 = true ∧ ((∃ slots bxs fn, Go.Proofs.Tryz.prog.funcs[88]? = some fn ∧ ∀ A, fnOK Go.Proofs.Tryz.prog gts slots bxs fn af A = true) ∨ (∃ e, af.ext = some e ∧ ExtOK Go.Proofs.Tryz.prog gts 88 e)) := by
  cases h
  exact ⟨by kernel_rfl, .inl ⟨a88v, a88b, Go.Proofs.Tryz.f88, Go.Proofs.Tryz.func88, ok88⟩⟩
theorem t89 (af : AFn) (h : some a89 = some af) : enterB Go.Proofs.Tryz.prog 89 = true ∧ ((∃ slots bxs fn, Go.Proofs.Tryz.prog.funcs[89]? = some fn ∧ ∀ A, fnOK Go.Proofs.Tryz.prog gts slots bxs fn af A = true) ∨ (∃ e, af.ext = some e ∧ ExtOK Go.Proofs.Tryz.prog gts 89 e)) := by
  cases h
  exact ⟨by kernel_rfl, .inl ⟨a89v, a89b, Go.Proofs.Tryz.f89, Go.Proofs.Tryz.func89, ok89⟩⟩
theorem t90 (af : AFn) (h : some a90 = some af) : enterB Go.Proofs.Tryz.prog 90 = true ∧ ((∃ slots bxs fn, Go.Proofs.Tryz.prog.funcs[90]? = some fn ∧ ∀ A, fnOK Go.Proofs.Tryz.prog gts slots bxs fn af A = true) ∨ (∃ e, af.ext = some e ∧ ExtOK Go.Proofs.Tryz.prog gts 90 e)) := by
  cases h
  exact ⟨by kernel_rfl, .inl ⟨a90v, a90b, Go.Proofs.Tryz.f90, Go.Proofs.Tryz.func90, ok90⟩⟩
theorem t91 (af : AFn) (h : some a91 = some af) : enterB Go.Proofs.Tryz.prog 91 = true ∧ ((∃ slots bxs fn, Go.Proofs.Tryz.prog.funcs[91]? = some fn ∧ ∀ A, fnOK Go.Proofs.Tryz.prog gts slots bxs fn af A = true) ∨ (∃ e, af.ext = some e ∧ ExtOK Go.Proofs.Tryz.prog gts 91 e)) := by
  cases h
  exact ⟨by kernel_rfl, .inl ⟨a91v, a91b, Go.Proofs.Tryz.f91, Go.Proofs.Tryz.func91, ok91⟩⟩
theorem t92 (af : AFn) (h : some a92 = some af) : enterB Go.Proofs.Tryz.prog 92 = true ∧ ((∃ slots bxs fn, Go.Proofs.Tryz.prog.funcs[92]? = some fn ∧ ∀ A, fnOK Go.Proofs.Tryz.prog gts slots bxs fn af A = true) ∨ (∃ e, af.ext = some e ∧ ExtOK Go.Proofs.Tryz.prog gts 92 e)) := by
  cases h
  exact ⟨by kernel_rfl, .inl ⟨a92v, a92b, Go.Proofs.Tryz.f92, Go.Proofs.Tryz.func92, ok92⟩⟩
theorem t93 (af : AFn) (h : some a93 = some af) : enterB Go.Proofs.Tryz.prog 93 = true ∧ ((∃ slots bxs fn, Go.Proofs.Tryz.prog.funcs[93]? = some fn ∧ ∀ A, fnOK Go.Proofs.Tryz.prog gts slots bxs fn af A = true) ∨ (∃ e, af.ext = some e ∧ ExtOK Go.Proofs.Tryz.prog gts 93 e)) := by
  cases h
  exact ⟨by kernel_rfl, .inl ⟨a93v, a93b, Go.Proofs.Tryz.f93, Go.Proofs.Tryz.func93, ok93⟩⟩
theorem t94 (af : AFn) (h : some a94 = some af) : enterB Go.Proofs.Tryz.prog 94 = true ∧ ((∃ slots bxs fn, Go.Proofs.Tryz.prog.funcs[94]? = some fn ∧ ∀ A, fnOK Go.Proofs.Tryz.prog gts slots bxs fn af A = true) ∨ (∃ e, af.ext = some e ∧ ExtOK Go.Proofs.Tryz.prog gts 94 e)) := by
  cases h
  exact ⟨by kernel_rfl, .inl ⟨a94v, a94b, Go.Proofs.Tryz.f94, Go.Proofs.Tryz.func94, ok94⟩⟩
theorem t95 (af : AFn) (h : some a95 = some af) : enterB Go.Proofs.Tryz.prog 95 = true ∧ ((∃ slots bxs fn, Go.Proofs.Tryz.prog.funcs[95]? = some fn ∧ ∀ A, fnOK Go.Proofs.Tryz.prog gts slots bxs fn af A = true) ∨ (∃ e, af.ext = some e ∧ ExtOK Go.Proofs.Tryz.prog gts 95 e)) := by
  cases h
  exact ⟨by kernel_rfl, .inl ⟨a95v, a95b, Go.Proofs.Tryz.f95, Go.Proofs.Tryz.func95, ok95⟩⟩
theorem t96 (af : AFn) (h : some a96 = some af) : enterB Go.Proofs.Tryz.prog 96 = true ∧ ((∃ slots bxs fn, Go.Proofs.Tryz.prog.funcs[96]? = some fn ∧ ∀ A, fnOK Go.Proofs.Tryz.prog gts slots bxs fn af A = true) ∨ (∃ e, af.ext = some e ∧ ExtOK Go.Proofs.Tryz.prog gts 96 e)) := by
  cases h
  exact ⟨by kernel_rfl, .inl ⟨a96v, a96b, Go.Proofs.Tryz.f96, Go.Proofs.Tryz.func96, ok96⟩⟩
theorem t97 (af : AFn) (h : some a97 = some af) : enterB Go.Proofs.Tryz.prog 97 = true ∧ ((∃ slots bxs fn, Go.Proofs.Tryz.prog.funcs[97]? = some fn ∧ ∀ A, fnOK Go.Proofs.Tryz.prog gts slots bxs fn af A = true) ∨ (∃ e, af.ext = some e ∧ ExtOK Go.Proofs.Tryz.prog gts 97 e)) := by
  cases h
  exact ⟨by kernel_rfl, .inl ⟨a97v, a97b, Go.Proofs.Tryz.f97, Go.Proofs.Tryz.func97, ok97⟩⟩
theorem t98 (af : AFn) (h : some a98 = some af) : enterB Go.Proofs.Tryz.prog 98 = true ∧ ((∃ slots bxs fn, Go.Proofs.Tryz.prog.funcs[98]? = some fn ∧ ∀ A, fnOK Go.Proofs.Tryz.prog gts slots bxs fn af A = true) ∨ (∃ e, af.ext = some e ∧ ExtOK Go.Proofs.Tryz.prog gts 98 e)) := by
  cases h
  exact ⟨by kernel_rfl, .inl ⟨a98v, a98b, Go.Proofs.Tryz.f98, Go.Proofs.Tryz.func98, ok98⟩⟩
theorem t99 (af : AFn) (h : some a99 = some af) : enterB Go.Proofs.Tryz.prog 99 = true ∧ ((∃ slots bxs fn, Go.Proofs.Tryz.prog.funcs[99]? = some fn ∧ ∀ A, fnOK Go.Proofs.Tryz.prog gts slots bxs fn af A = true) ∨ (∃ e, af.ext = some e ∧ ExtOK Go.Proofs.Tryz.prog gts 99 e)) := by
  cases h
  exact ⟨by kernel_rfl, .inl ⟨a99v, a99b, Go.Proofs.Tryz.f99, Go.Proofs.Tryz.func99, ok99⟩⟩
theorem t100 (af : AFn) (h : some a100 = some af) : enterB Go.Proofs.Tryz.prog 100 = true ∧ ((∃ slots bxs fn, Go.Proofs.Tryz.prog.funcs[100]? = some fn ∧ ∀ A, fnOK Go.Proofs.Tryz.prog gts slots bxs fn af A = true) ∨ (∃ e, af.ext = some e ∧ ExtOK Go.Proofs.Tryz.prog gts 100 e)) := by
  cases h
  exact ⟨by kernel_rfl, .inl ⟨a100v, a100b, Go.Proofs.Tryz.f100, Go.Proofs.Tryz.func100, ok100⟩⟩
theorem t101 (af : AFn) (h : some a101 = some af) : enterB Go.Proofs.Tryz.prog 101 = true ∧ ((∃ slots bxs fn, Go.Proofs.Tryz.prog.funcs[101]? = some fn ∧ ∀ A, fnOK Go.Proofs.Tryz.prog gts slots bxs fn af A = true) ∨ (∃ e, af.ext = some e ∧ ExtOK Go.Proofs.Tryz.prog gts 101 e)) := by
  cases h
  exact ⟨by kernel_rfl, .inl ⟨a101v, a101b, Go.Proofs.Tryz.f101, Go.Proofs.Tryz.func101, ok101⟩⟩
theorem t102 (af : AFn) (h : some a102 = some af) : enterB Go.Proofs.Tryz.prog 102 = true ∧ ((∃ slots bxs fn, Go.Proofs.Tryz.prog.funcs[102]? = some fn ∧ ∀ A, fnOK Go.Proofs.Tryz.prog gts slots bxs fn af A = true) ∨ (∃ e, af.ext = some e ∧ ExtOK Go.Proofs.Tryz.prog gts 102 e)) := by
  cases h
  exact ⟨by kernel_rfl, .inl ⟨a102v, a102b, Go.Proofs.Tryz.f102, Go.Proofs.Tryz.func102, ok102⟩⟩
theorem t103 (af : AFn) (h : some a103 = some af) : enterB Go.Proofs.Tryz.prog 103 = true ∧ ((∃ slots bxs fn, Go.Proofs.Tryz.prog.funcs[103]? = some fn ∧ ∀ A, fnOK Go.Proofs.Tryz.prog gts slots bxs fn af A = true) ∨ (∃ e, af.ext = some e ∧ ExtOK Go.Proofs.Tryz.prog gts 103 e)) := by
  cases h
  exact ⟨by kernel_rfl, .inl ⟨a103v, a103b, Go.Proofs.Tryz.f103, Go.Proofs.Tryz.func103, ok103⟩⟩
theorem t104 (af : AFn) (h : some a104 = some af) : enterB Go.Proofs.Tryz.prog 104 = true ∧ ((∃ slots bxs fn, Go.Proofs.Tryz.prog.funcs[104]? = some fn ∧ ∀ A, fnOK Go.Proofs.Tryz.prog gts slots bxs fn af A = true) ∨ (∃ e, af.ext = some e ∧ ExtOK Go.Proofs.Tryz.prog gts 104 e)) := by
  cases h
  exact ⟨by kernel_rfl, .inl ⟨a104v, a104b, Go.Proofs.Tryz.f104, Go.Proofs.Tryz.func104, ok104⟩⟩
theorem t105 (af : AFn) (h : some a105 = some af) : enterB Go.Proofs.Tryz.prog 105 = true ∧ ((∃ slots bxs fn, Go.Proofs.Tryz.prog.funcs[105]? = some fn ∧ ∀ A, fnOK Go.Proofs.Tryz.prog gts slots bxs fn af A = true) ∨ (∃ e, af.ext = some e ∧ ExtOK Go.Proofs.Tryz.prog gts 105 e)) := by
  cases h
  exact ⟨by kernel_rfl, .inl ⟨a105v, a105b, Go.Proofs.Tryz.f105, Go.Proofs.Tryz.func105, ok105⟩⟩
theorem t106 (af : AFn) (h : some a106 = some af) : enterB Go.Proofs.Tryz.prog 106 = true ∧ ((∃ slots bxs fn, Go.Proofs.Tryz.prog.funcs[106]? = some fn ∧ ∀ A, fnOK Go.Proofs.Tryz.prog gts slots bxs fn af A = true) ∨ (∃ e, af.ext = some e ∧ ExtOK Go.Proofs.Tryz.prog gts 106 e)) := by
  cases h
  exact ⟨by kernel_rfl, .inl ⟨a106v, a106b, Go.Proofs.Tryz.f106, Go.Proofs.Tryz.func106, ok106⟩⟩
theorem t107 (af : AFn) (h : some a107 = some af) : enterB Go.Proofs.Tryz.prog 107 = true ∧ ((∃ slots bxs fn, Go.Proofs.Tryz.prog.funcs[107]? = some fn ∧ ∀ A, fnOK Go.Proofs.Tryz.prog gts slots bxs fn af A = true) ∨ (∃ e, af.ext = some e ∧ ExtOK Go.Proofs.Tryz.prog gts 107 e)) := by
  cases h
  exact ⟨by kernel_rfl, .inl ⟨a107v, a107b, Go.Proofs.Tryz.f107, Go.Proofs.Tryz.func107, ok107⟩⟩
theorem t108 (af : AFn) (h : some a108 = some af) : enterB Go.Proofs.Tryz.prog 108 = true ∧ ((∃ slots bxs fn, Go.Proofs.Tryz.prog.funcs[108]? = some fn ∧ ∀ A, fnOK Go.Proofs.Tryz.prog gts slots bxs fn af A = true) ∨ (∃ e, af.ext = some e ∧ ExtOK Go.Proofs.Tryz.prog gts 108 e)) := by
  cases h
  exact ⟨by kernel_rfl, .inl ⟨a108v, a108b, Go.Proofs.Tryz.f108, Go.Proofs.Tryz.func108, ok108⟩⟩
theorem t109 (af : AFn) (h : some a109 = some af) : enterB Go.Proofs.Tryz.prog 109 = true ∧ ((∃ slots bxs fn, Go.Proofs.Tryz.prog.funcs[109]? = some fn ∧ ∀ A, fnOK Go.Proofs.Tryz.prog gts slots bxs fn af A = true) ∨ (∃ e, af.ext = some e ∧ ExtOK Go.Proofs.Tryz.prog gts 109 e)) := by
  cases h
  exact ⟨by kernel_rfl, .inl ⟨a109v, a109b, Go.Proofs.Tryz.f109, Go.Proofs.Tryz.func109, ok109⟩⟩
theorem t110 (af : AFn) (h : some a110 = some af) : enterB Go.Proofs.Tryz.prog 110 = true ∧ ((∃ slots bxs fn, Go.Proofs.Tryz.prog.funcs[110]? = some fn ∧ ∀ A, fnOK Go.Proofs.Tryz.prog gts slots bxs fn af A = true) ∨ (∃ e, af.ext = some e ∧ ExtOK Go.Proofs.Tryz.prog gts 110 e)) := by
  cases h
  exact ⟨by kernel_rfl, .inl ⟨a110v, a110b, Go.Proofs.Tryz.f110, Go.Proofs.Tryz.func110, ok110⟩⟩
theorem t111 (af : AFn) (h : some a111 = some af) : enterB Go.Proofs.Tryz.prog 111 = true ∧ ((∃ slots bxs fn, Go.Proofs.Tryz.prog.funcs[111]? = some fn ∧ ∀ A, fnOK Go.Proofs.Tryz.prog gts slots bxs fn af A = true) ∨ (∃ e, af.ext = some e ∧ ExtOK Go.Proofs.Tryz.prog gts 111 e)) := by
  cases h
  exact ⟨by kernel_rfl, .inl ⟨a111v, a111b, Go.Proofs.Tryz.f111, Go.Proofs.Tryz.func111, ok111⟩⟩
theorem t112 (af : AFn) (h : some a112 = some af) : enterB Go.Proofs.Tryz.prog 112 = true ∧ ((∃ slots bxs fn, Go.Proofs.Tryz.prog.funcs[112]? = some fn ∧ ∀ A, fnOK Go.Proofs.Tryz.prog gts slots bxs fn af A = true) ∨ (∃ e, af.ext = some e ∧ ExtOK Go.Proofs.Tryz.prog gts 112 e)) := by
  cases h
  exact ⟨by kernel_rfl, .inl ⟨a112v, a112b, Go.Proofs.Tryz.f112, Go.Proofs.Tryz.func112, ok112⟩⟩
theorem t113 (af : AFn) (h : some a113 = some af) : enterB Go.Proofs.Tryz.prog 113 = true ∧ ((∃ slots bxs fn, Go.Proofs.Tryz.prog.funcs[113]? = some fn ∧ ∀ A, fnOK Go.Proofs.Tryz.prog gts slots bxs fn af A = true) ∨ (∃ e, af.ext = some e ∧ ExtOK Go.Proofs.Tryz.prog gts 113 e)) := by
  cases h
  exact ⟨by kernel_rfl, .inl ⟨a113v, a113b, Go.Proofs.Tryz.f113, Go.Proofs.Tryz.func113, ok113⟩⟩
theorem t114 (af : AFn) (h : some a114 = some af) : enterB Go.Proofs.Tryz.prog 114 = true ∧ ((∃ slots bxs fn, Go.Proofs.Tryz.prog.funcs[114]? = some fn ∧ ∀ A, fnOK Go.Proofs.Tryz.prog gts slots bxs fn af A = true) ∨ (∃ e, af.ext = some e ∧ ExtOK Go.Proofs.Tryz.prog gts 114 e)) := by
  cases h
  exact ⟨by kernel_rfl, .inl ⟨a114v, a114b, Go.Proofs.Tryz.f114, Go.Proofs.Tryz.func114, ok114⟩⟩
theorem t115 (af : AFn) (h : some a115 = some af) : enterB Go.Proofs.Tryz.prog 115 = true ∧ ((∃ slots bxs fn, Go.Proofs.Tryz.prog.funcs[115]? = some fn ∧ ∀ A, fnOK Go.Proofs.Tryz.prog gts slots bxs fn af A = true) ∨ (∃ e, af.ext = some e ∧ ExtOK Go.Proofs.Tryz.prog gts 115 e)) := by
  cases h
  exact ⟨by kernel_rfl, .inl ⟨a115v, a115b, Go.Proofs.Tryz.f115, Go.Proofs.Tryz.func115, ok115⟩⟩
theorem t116 (af : AFn) (h : some a116 = some af) : enterB Go.Proofs.Tryz.prog 116 = true ∧ ((∃ slots bxs fn, Go.Proofs.Tryz.prog.funcs[116]? = some fn ∧ ∀ A, fnOK Go.Proofs.Tryz.prog gts slots bxs fn af A = true) ∨ (∃ e, af.ext = some e ∧ ExtOK Go.Proofs.Tryz.prog gts 116 e)) := by
  cases h
  exact ⟨by kernel_rfl, .inl ⟨a116v, a116b, Go.Proofs.Tryz.f116, Go.Proofs.Tryz.func116, ok116⟩⟩
theorem t117 (af : AFn) (h : some a117 = some af) : enterB Go.Proofs.Tryz.prog 117 = true ∧ ((∃ slots bxs fn, Go.Proofs.Tryz.prog.funcs[117]? = some fn ∧ ∀ A, fnOK Go.Proofs.Tryz.prog gts slots bxs fn af A = true) ∨ (∃ e, af.ext = some e ∧ ExtOK Go.Proofs.Tryz.prog gts 117 e)) := by
  cases h
  exact ⟨by kernel_rfl, .inl ⟨a117v, a117b, Go.Proofs.Tryz.f117, Go.Proofs.Tryz.func117, ok117⟩⟩
theorem t118 (af : AFn) (h : some a118 = some af) : enterB Go.Proofs.Tryz.prog 118 = true ∧ ((∃ slots bxs fn, Go.Proofs.Tryz.prog.funcs[118]? = some fn ∧ ∀ A, fnOK Go.Proofs.Tryz.prog gts slots bxs fn af A = true) ∨ (∃ e, af.ext = some e ∧ ExtOK Go.Proofs.Tryz.prog gts 118 e)) := by
  cases h
  exact ⟨by kernel_rfl, .inl ⟨a118v, a118b, Go.Proofs.Tryz.f118, Go.Proofs.Tryz.func118, ok118⟩⟩
theorem t119 (af : AFn) (h : some a119 = some af) : enterB Go.Proofs.Tryz.prog 119 = true ∧ ((∃ slots bxs fn, Go.Proofs.Tryz.prog.funcs[119]? = some fn ∧ ∀ A, fnOK Go.Proofs.Tryz.prog gts slots bxs fn af A = true) ∨ (∃ e, af.ext = some e ∧ ExtOK Go.Proofs.Tryz.prog gts 119 e)) := by
  cases h
  exact ⟨by kernel_rfl, .inl ⟨a119v, a119b, Go.Proofs.Tryz.f119, Go.Proofs.Tryz.func119, ok119⟩⟩
theorem t120 (af : AFn) (h : some a120 = some af) : enterB Go.Proofs.Tryz.prog 120 = true ∧ ((∃ slots bxs fn, Go.Proofs.Tryz.prog.funcs[120]? = some fn ∧ ∀ A, fnOK Go.Proofs.Tryz.prog gts slots bxs fn af A = true) ∨ (∃ e, af.ext = some e ∧ ExtOK Go.Proofs.Tryz.prog gts 120 e)) := by
  cases h
  exact ⟨by kernel_rfl, .inl ⟨a120v, a120b, Go.Proofs.Tryz.f120, Go.Proofs.Tryz.func120, ok120⟩⟩
theorem t121 (af : AFn) (h : some a121 = some af) : enterB Go.Proofs.Tryz.prog 121 = true ∧ ((∃ slots bxs fn, Go.Proofs.Tryz.prog.funcs[121]? = some fn ∧ ∀ A, fnOK Go.Proofs.Tryz.prog gts slots bxs fn af A = true) ∨ (∃ e, af.ext = some e ∧ ExtOK Go.Proofs.Tryz.prog gts 121 e)) := by
  cases h
  exact ⟨by kernel_rfl, .inl ⟨a121v, a121b, Go.Proofs.Tryz.f121, Go.Proofs.Tryz.func121, ok121⟩⟩
theorem t122 (af : AFn) (h : some a122 = some af) : enterB Go.Proofs.Tryz.prog 122 = true ∧ ((∃ slots bxs fn, Go.Proofs.Tryz.prog.funcs[122]? = some fn ∧ ∀ A, fnOK Go.Proofs.Tryz.prog gts slots bxs fn af A = true) ∨ (∃ e, af.ext = some e ∧ ExtOK Go.Proofs.Tryz.prog gts 122 e)) := by
  cases h
  exact ⟨by kernel_rfl, .inl ⟨a122v, a122b, Go.Proofs.Tryz.f122, Go.Proofs.Tryz.func122, ok122⟩⟩
theorem t123 (af : AFn) (h : some a123 = some af) : enterB Go.Proofs.Tryz.prog 123 = true ∧ ((∃ slots bxs fn, Go.Proofs.Tryz.prog.funcs[123]? = some fn ∧ ∀ A, fnOK Go.Proofs.Tryz.prog gts slots bxs fn af A = true) ∨ (∃ e, af.ext = some e ∧ ExtOK Go.Proofs.Tryz.prog gts 123 e)) := by
  cases h
  exact ⟨by kernel_rfl, .inl ⟨a123v, a123b, Go.Proofs.Tryz.f123, Go.Proofs.Tryz.func123, ok123⟩⟩
theorem t124 (af : AFn) (h : some a124 = some af) : enterB Go.Proofs.Tryz.prog 124 = true ∧ ((∃ slots bxs fn, Go.Proofs.Tryz.prog.funcs[124]? = some fn ∧ ∀ A, fnOK Go.Proofs.Tryz.prog gts slots bxs fn af A = true) ∨ (∃ e, af.ext = some e ∧ ExtOK Go.Proofs.Tryz.prog gts 124 e)) := by
  cases h
  exact ⟨by kernel_rfl, .inl ⟨a124v, a124b, Go.Proofs.Tryz.f124, Go.Proofs.Tryz.func124, ok124⟩⟩
theorem t125 (af : AFn) (h : some a125 = some af) : enterB Go.Proofs.Tryz.prog 125 = true ∧ ((∃ slots bxs fn, Go.Proofs.Tryz.prog.funcs[125]? = some fn ∧ ∀ A, fnOK Go.Proofs.Tryz.prog gts slots bxs fn af A = true) ∨ (∃ e, af.ext = some e ∧ ExtOK Go.Proofs.Tryz.prog gts 125 e)) := by
  cases h
  exact ⟨by kernel_rfl, .inl ⟨a125v, a125b, Go.Proofs.Tryz.f125, Go.Proofs.Tryz.func125, ok125⟩⟩
theorem t126 (af : AFn) (h : some a126 = some af) : enterB Go.Proofs.Tryz.prog 126 = true ∧ ((∃ slots bxs fn, Go.Proofs.Tryz.prog.funcs[126]? = some fn ∧ ∀ A, fnOK Go.Proofs.Tryz.prog gts slots bxs fn af A = true) ∨ (∃ e, af.ext = some e ∧ ExtOK Go.Proofs.Tryz.prog gts 126 e)) := by
  cases h
  exact ⟨by kernel_rfl, .inl ⟨a126v, a126b, Go.Proofs.Tryz.f126, Go.Proofs.Tryz.func126, ok126⟩⟩
theorem t127 (af : AFn) (h : some a127 = some af) : enterB Go.Proofs.Tryz.prog 127 = true ∧ ((∃ slots bxs fn, Go.Proofs.Tryz.prog.funcs[127]? = some fn ∧ ∀ A, fnOK Go.Proofs.Tryz.prog gts slots bxs fn af A = true) ∨ (∃ e, af.ext = some e ∧ ExtOK Go.Proofs.Tryz.prog gts 127 e)) := by
  cases h
  exact ⟨by kernel_rfl, .inl ⟨a127v, a127b, Go.Proofs.Tryz.f127, Go.Proofs.Tryz.func127, ok127⟩⟩
theorem t128 (af : AFn) (h : some a128 = some af) : enterB Go.Proofs.Tryz.prog 128 = true ∧ ((∃ slots bxs fn, Go.Proofs.Tryz.prog.funcs[128]? = some fn ∧ ∀ A, fnOK Go.Proofs.Tryz.prog gts slots bxs fn af A = true) ∨ (∃ e, af.ext = some e ∧ ExtOK Go.Proofs.Tryz.prog gts 128 e)) := by
  cases h
  exact ⟨by kernel_rfl, .inl ⟨a128v, a128b, Go.Proofs.Tryz.f128, Go.Proofs.Tryz.func128, ok128⟩⟩
theorem t129 (af : AFn) (h : some a129 = some af) : enterB Go.Proofs.Tryz.prog 129 = true ∧ ((∃ slots bxs fn, Go.Proofs.Tryz.prog.funcs[129]? = some fn ∧ ∀ A, fnOK Go.Proofs.Tryz.prog gts slots bxs fn af A = true) ∨ (∃ e, af.ext = some e ∧ ExtOK Go.Proofs.Tryz.prog gts 129 e)) := by
  cases h
  exact ⟨by kernel_rfl, .inl ⟨a129v, a129b, Go.Proofs.Tryz.f129, Go.Proofs.Tryz.func129, ok129⟩⟩
theorem t130 (af : AFn) (h : some a130 = some af) : enterB Go.Proofs.Tryz.prog 130 = true ∧ ((∃ slots bxs fn, Go.Proofs.Tryz.prog.funcs[130]? = some fn ∧ ∀ A, fnOK Go.Proofs.Tryz.prog gts slots bxs fn af A = true) ∨ (∃ e, af.ext = some e ∧ ExtOK Go.Proofs.Tryz.prog gts 130 e)) := by
  cases h
  exact ⟨by kernel_rfl, .inl ⟨a130v, a130b, Go.Proofs.Tryz.f130, Go.Proofs.Tryz.func130, ok130⟩⟩
theorem t131 (af : AFn) (h : some a131 = some af) : enterB Go.Proofs.Tryz.prog 131 = true ∧ ((∃ slots bxs fn, Go.Proofs.Tryz.prog.funcs[131]? = some fn ∧ ∀ A, fnOK Go.Proofs.Tryz.prog gts slots bxs fn af A = true) ∨ (∃ e, af.ext = some e ∧ ExtOK Go.Proofs.Tryz.prog gts 131 e)) := by
  cases h
  exact ⟨by kernel_rfl, .inl ⟨a131v, a131b, Go.Proofs.Tryz.f131, Go.Proofs.Tryz.func131, ok131⟩⟩
theorem t132 (af : AFn) (h : some a132 = some af) : enterB Go.Proofs.Tryz.prog 132 = true ∧ ((∃ slots bxs fn, Go.Proofs.Tryz.prog.funcs[132]? = some fn ∧ ∀ A, fnOK Go.Proofs.Tryz.prog gts slots bxs fn af A = true) ∨ (∃ e, af.ext = some e ∧ ExtOK Go.Proofs.Tryz.prog gts 132 e)) := by
  cases h
  exact ⟨by kernel_rfl, .inl ⟨a132v, a132b, Go.Proofs.Tryz.f132, Go.Proofs.Tryz.func132, ok132⟩⟩
theorem t133 (af : AFn) (h : some a133 = some af) : enterB Go.Proofs.Tryz.prog 133 = true ∧ ((∃ slots bxs fn, Go.Proofs.Tryz.prog.funcs[133]? = some fn ∧ ∀ A, fnOK Go.Proofs.Tryz.prog gts slots bxs fn af A = true) ∨ (∃ e, af.ext = some e ∧ ExtOK Go.Proofs.Tryz.prog gts 133 e)) := by
  cases h
  exact ⟨by kernel_rfl, .inl ⟨a133v, a133b, Go.Proofs.Tryz.f133, Go.Proofs.Tryz.func133, ok133⟩⟩
theorem t134 (af : AFn) (h : some a134 = some af) : enterB Go.Proofs.Tryz.prog 134 = true ∧ ((∃ slots bxs fn, Go.Proofs.Tryz.prog.funcs[134]? = some fn ∧ ∀ A, fnOK Go.Proofs.Tryz.prog gts slots bxs fn af A = true) ∨ (∃ e, af.ext = some e ∧ ExtOK Go.Proofs.Tryz.prog gts 134 e)) := by
  cases h
  exact ⟨by kernel_rfl, .inl ⟨a134v, a134b, Go.Proofs.Tryz.f134, Go.Proofs.Tryz.func134, ok134⟩⟩
theorem t135 (af : AFn) (h : some a135 = some af) : enterB Go.Proofs.Tryz.prog 135 = true ∧ ((∃ slots bxs fn, Go.Proofs.Tryz.prog.funcs[135]? = some fn ∧ ∀ A, fnOK Go.Proofs.Tryz.prog gts slots bxs fn af A = true) ∨ (∃ e, af.ext = some e ∧ ExtOK Go.Proofs.Tryz.prog gts 135 e)) := by
  cases h
  exact ⟨by kernel_rfl, .inl ⟨a135v, a135b, Go.Proofs.Tryz.f135, Go.Proofs.Tryz.func135, ok135⟩⟩
theorem t136 (af : AFn) (h : some a136 = some af) : enterB Go.Proofs.Tryz.prog 136 = true ∧ ((∃ slots bxs fn, Go.Proofs.Tryz.prog.funcs[136]? = some fn ∧ ∀ A, fnOK Go.Proofs.Tryz.prog gts slots bxs fn af A = true) ∨ (∃ e, af.ext = some e ∧ ExtOK Go.Proofs.Tryz.prog gts 136 e)) := by
  cases h
  exact ⟨by kernel_rfl, .inl ⟨a136v, a136b, Go.Proofs.Tryz.f136, Go.Proofs.Tryz.func136, ok136⟩⟩
theorem t137 (af : AFn) (h : some a137 = some af) : enterB Go.Proofs.Tryz.prog 137 = true ∧ ((∃ slots bxs fn, Go.Proofs.Tryz.prog.funcs[137]? = some fn ∧ ∀ A, fnOK Go.Proofs.Tryz.prog gts slots bxs fn af A = true) ∨ (∃ e, af.ext = some e ∧ ExtOK Go.Proofs.Tryz.prog gts 137 e)) := by
  cases h
  exact ⟨by kernel_rfl, .inl ⟨a137v, a137b, Go.Proofs.Tryz.f137, Go.Proofs.Tryz.func137, ok137⟩⟩
theorem t138 (af : AFn) (h : some a138 = some af) : enterB Go.Proofs.Tryz.prog 138 = true ∧ ((∃ slots bxs fn, Go.Proofs.Tryz.prog.funcs[138]? = some fn ∧ ∀ A, fnOK Go.Proofs.Tryz.prog gts slots bxs fn af A = true) ∨ (∃ e, af.ext = some e ∧ ExtOK Go.Proofs.Tryz.prog gts 138 e)) := by
  cases h
  exact ⟨by kernel_rfl, .inl ⟨a138v, a138b, Go.Proofs.Tryz.f138, Go.Proofs.Tryz.func138, ok138⟩⟩
theorem t139 (af : AFn) (h : some a139 = some af) : enterB Go.Proofs.Tryz.prog 139 = true ∧ ((∃ slots bxs fn, Go.Proofs.Tryz.prog.funcs[139]? = some fn ∧ ∀ A, fnOK Go.Proofs.Tryz.prog gts slots bxs fn af A = true) ∨ (∃ e, af.ext = some e ∧ ExtOK Go.Proofs.Tryz.prog gts 139 e)) := by
  cases h
  exact ⟨by kernel_rfl, .inl ⟨a139v, a139b, Go.Proofs.Tryz.f139, Go.Proofs.Tryz.func139, ok139⟩⟩
theorem t140 (af : AFn) (h : some a140 = some af) : enterB Go.Proofs.Tryz.prog 140 = true ∧ ((∃ slots bxs fn, Go.Proofs.Tryz.prog.funcs[140]? = some fn ∧ ∀ A, fnOK Go.Proofs.Tryz.prog gts slots bxs fn af A = true) ∨ (∃ e, af.ext = some e ∧ ExtOK Go.Proofs.Tryz.prog gts 140 e)) := by
  cases h
  exact ⟨by kernel_rfl, .inl ⟨a140v, a140b, Go.Proofs.Tryz.f140, Go.Proofs.Tryz.func140, ok140⟩⟩
theorem t141 (af : AFn) (h : some a141 = some af) : enterB Go.Proofs.Tryz.prog 141 = true ∧ ((∃ slots bxs fn, Go.Proofs.Tryz.prog.funcs[141]? = some fn ∧ ∀ A, fnOK Go.Proofs.Tryz.prog gts slots bxs fn af A = true) ∨ (∃ e, af.ext = some e ∧ ExtOK Go.Proofs.Tryz.prog gts 141 e)) := by
  cases h
  exact ⟨by kernel_rfl, .inl ⟨a141v, a141b, Go.Proofs.Tryz.f141, Go.Proofs.Tryz.func141, ok141⟩⟩
theorem t142 (af : AFn) (h : some a142 = some af) : enterB Go.Proofs.Tryz.prog 142 = true ∧ ((∃ slots bxs fn, Go.Proofs.Tryz.prog.funcs[142]? = some fn ∧ ∀ A, fnOK Go.Proofs.Tryz.prog gts slots bxs fn af A = true) ∨ (∃ e, af.ext = some e ∧ ExtOK Go.Proofs.Tryz.prog gts 142 e)) := by
  cases h
  exact ⟨by kernel_rfl, .inl ⟨a142v, a142b, Go.Proofs.Tryz.f142, Go.Proofs.Tryz.func142, ok142⟩⟩
theorem t143 (af : AFn) (h : some a143 = some af) : enterB Go.Proofs.Tryz.prog 143 = true ∧ ((∃ slots bxs fn, Go.Proofs.Tryz.prog.funcs[143]? = some fn ∧ ∀ A, fnOK Go.Proofs.Tryz.prog gts slots bxs fn af A = true) ∨ (∃ e, af.ext = some e ∧ ExtOK Go.Proofs.Tryz.prog gts 143 e)) := by
  cases h
  exact ⟨by kernel_rfl, .inl ⟨a143v, a143b, Go.Proofs.Tryz.f143, Go.Proofs.Tryz.func143, ok143⟩⟩
theorem t144 (af : AFn) (h : some a144 = some af) : enterB Go.Proofs.Tryz.prog 144 = true ∧ ((∃ slots bxs fn, Go.Proofs.Tryz.prog.funcs[144]? = some fn ∧ ∀ A, fnOK Go.Proofs.Tryz.prog gts slots bxs fn af A = true) ∨ (∃ e, af.ext = some e ∧ ExtOK Go.Proofs.Tryz.prog gts 144 e)) := by
  cases h
  exact ⟨by kernel_rfl, .inl ⟨a144v, a144b, Go.Proofs.Tryz.f144, Go.Proofs.Tryz.func144, ok144⟩⟩
theorem t145 (af : AFn) (h : some a145 = some af) : enterB Go.Proofs.Tryz.prog 145 = true ∧ ((∃ slots bxs fn, Go.Proofs.Tryz.prog.funcs[145]? = some fn ∧ ∀ A, fnOK Go.Proofs.Tryz.prog gts slots bxs fn af A = true) ∨ (∃ e, af.ext = some e ∧ ExtOK Go.Proofs.Tryz.prog gts 145 e)) := by
  cases h
  exact ⟨by kernel_rfl, .inl ⟨a145v, a145b, Go.Proofs.Tryz.f145, Go.Proofs.Tryz.func145, ok145⟩⟩
theorem t146 (af : AFn) (h : some a146 = some af) : enterB Go.Proofs.Tryz.prog 146 = true ∧ ((∃ slots bxs fn, Go.Proofs.Tryz.prog.funcs[146]? = some fn ∧ ∀ A, fnOK Go.Proofs.Tryz.prog gts slots bxs fn af A = true) ∨ (∃ e, af.ext = some e ∧ ExtOK Go.Proofs.Tryz.prog gts 146 e)) := by
  cases h
  exact ⟨by kernel_rfl, .inl ⟨a146v, a146b, Go.Proofs.Tryz.f146, Go.Proofs.Tryz.func146, ok146⟩⟩
theorem t147 (af : AFn) (h : some a147 = some af) : enterB Go.Proofs.Tryz.prog 147 = true ∧ ((∃ slots bxs fn, Go.Proofs.Tryz.prog.funcs[147]? = some fn ∧ ∀ A, fnOK Go.Proofs.Tryz.prog gts slots bxs fn af A = true) ∨ (∃ e, af.ext = some e ∧ ExtOK Go.Proofs.Tryz.prog gts 147 e)) := by
  cases h
  exact ⟨by kernel_rfl, .inl ⟨a147v, a147b, Go.Proofs.Tryz.f147, Go.Proofs.Tryz.func147, ok147⟩⟩
theorem t148 (af : AFn) (h : some a148 = some af) : enterB Go.Proofs.Tryz.prog 148 = true ∧ ((∃ slots bxs fn, Go.Proofs.Tryz.prog.funcs[148]? = some fn ∧ ∀ A, fnOK Go.Proofs.Tryz.prog gts slots bxs fn af A = true) ∨ (∃ e, af.ext = some e ∧ ExtOK Go.Proofs.Tryz.prog gts 148 e)) := by
  cases h
  exact ⟨by kernel_rfl, .inl ⟨a148v, a148b, Go.Proofs.Tryz.f148, Go.Proofs.Tryz.func148, ok148⟩⟩
theorem t149 (af : AFn) (h : some a149 = some af) : enterB Go.Proofs.Tryz.prog 149 = true ∧ ((∃ slots bxs fn, Go.Proofs.Tryz.prog.funcs[149]? = some fn ∧ ∀ A, fnOK Go.Proofs.Tryz.prog gts slots bxs fn af A = true) ∨ (∃ e, af.ext = some e ∧ ExtOK Go.Proofs.Tryz.prog gts 149 e)) := by
  cases h
  exact ⟨by kernel_rfl, .inl ⟨a149v, a149b, Go.Proofs.Tryz.f149, Go.Proofs.Tryz.func149, ok149⟩⟩
theorem t150 (af : AFn) (h : some a150 = some af) : enterB Go.Proofs.Tryz.prog 150 = true ∧ ((∃ slots bxs fn, Go.Proofs.Tryz.prog.funcs[150]? = some fn ∧ ∀ A, fnOK Go.Proofs.Tryz.prog gts slots bxs fn af A = true) ∨ (∃ e, af.ext = some e ∧ ExtOK Go.Proofs.Tryz.prog gts 150 e)) := by
  cases h
  exact ⟨by kernel_rfl, .inl ⟨a150v, a150b, Go.Proofs.Tryz.f150, Go.Proofs.Tryz.func150, ok150⟩⟩
theorem t151 (af : AFn) (h : some a151 = some af) : enterB Go.Proofs.Tryz.prog 151 = true ∧ ((∃ slots bxs fn, Go.Proofs.Tryz.prog.funcs[151]? = some fn ∧ ∀ A, fnOK Go.Proofs.Tryz.prog gts slots bxs fn af A = true) ∨ (∃ e, af.ext = some e ∧ ExtOK Go.Proofs.Tryz.prog gts 151 e)) := by
  cases h
  exact ⟨by kernel_rfl, .inl ⟨a151v, a151b, Go.Proofs.Tryz.f151, Go.Proofs.Tryz.func151, ok151⟩⟩
theorem t152 (af : AFn) (h : some a152 = some af) : enterB Go.Proofs.Tryz.prog 152 = true ∧ ((∃ slots bxs fn, Go.Proofs.Tryz.prog.funcs[152]? = some fn ∧ ∀ A, fnOK Go.Proofs.Tryz.prog gts slots bxs fn af A = true) ∨ (∃ e, af.ext = some e ∧ ExtOK Go.Proofs.Tryz.prog gts 152 e)) := by
  cases h
  exact ⟨by kernel_rfl, .inl ⟨a152v, a152b, Go.Proofs.Tryz.f152, Go.Proofs.Tryz.func152, ok152⟩⟩
theorem t153 (af : AFn) (h : some a153 = some af) : enterB Go.Proofs.Tryz.prog 153 = true ∧ ((∃ slots bxs fn, Go.Proofs.Tryz.prog.funcs[153]? = some fn ∧ ∀ A, fnOK Go.Proofs.Tryz.prog gts slots bxs fn af A = true) ∨ (∃ e, af.ext = some e ∧ ExtOK Go.Proofs.Tryz.prog gts 153 e)) := by
  cases h
  exact ⟨by kernel_rfl, .inl ⟨a153v, a153b, Go.Proofs.Tryz.f153, Go.Proofs.Tryz.func153, ok153⟩⟩
theorem t154 (af : AFn) (h : some a154 = some af) : enterB Go.Proofs.Tryz.prog 154 = true ∧ ((∃ slots bxs fn, Go.Proofs.Tryz.prog.funcs[154]? = some fn ∧ ∀ A, fnOK Go.Proofs.Tryz.prog gts slots bxs fn af A = true) ∨ (∃ e, af.ext = some e ∧ ExtOK Go.Proofs.Tryz.prog gts 154 e)) := by
  cases h
  exact ⟨by kernel_rfl, .inl ⟨a154v, a154b, Go.Proofs.Tryz.f154, Go.Proofs.Tryz.func154, ok154⟩⟩
theorem t155 (af : AFn) (h : some a155 = some af) : enterB Go.Proofs.Tryz.prog 155 = true ∧ ((∃ slots bxs fn, Go.Proofs.Tryz.prog.funcs[155]? = some fn ∧ ∀ A, fnOK Go.Proofs.Tryz.prog gts slots bxs fn af A = true) ∨ (∃ e, af.ext = some e ∧ ExtOK Go.Proofs.Tryz.prog gts 155 e)) := by
  cases h
  exact ⟨by kernel_rfl, .inl ⟨a155v, a155b, Go.Proofs.Tryz.f155, Go.Proofs.Tryz.func155, ok155⟩⟩
theorem t156 (af : AFn) (h : some a156 = some af) : enterB Go.Proofs.Tryz.prog 156 = true ∧ ((∃ slots bxs fn, Go.Proofs.Tryz.prog.funcs[156]? = some fn ∧ ∀ A, fnOK Go.Proofs.Tryz.prog gts slots bxs fn af A = true) ∨ (∃ e, af.ext = some e ∧ ExtOK Go.Proofs.Tryz.prog gts 156 e)) := by
  cases h
  exact ⟨by kernel_rfl, .inl ⟨a156v, a156b, Go.Proofs.Tryz.f156, Go.Proofs.Tryz.func156, ok156⟩⟩
theorem t157 (af : AFn) (h : some a157 = some af) : enterB Go.Proofs.Tryz.prog 157 = true ∧ ((∃ slots bxs fn, Go.Proofs.Tryz.prog.funcs[157]? = some fn ∧ ∀ A, fnOK Go.Proofs.Tryz.prog gts slots bxs fn af A = true) ∨ (∃ e, af.ext = some e ∧ ExtOK Go.Proofs.Tryz.prog gts 157 e)) := by
  cases h
  exact ⟨by kernel_rfl, .inl ⟨a157v, a157b, Go.Proofs.Tryz.f157, Go.Proofs.Tryz.func157, ok157⟩⟩
theorem t158 (af : AFn) (h : some a158 = some af) : enterB Go.Proofs.Tryz.prog 158 = true ∧ ((∃ slots bxs fn, Go.Proofs.Tryz.prog.funcs[158]? = some fn ∧ ∀ A, fnOK Go.Proofs.Tryz.prog gts slots bxs fn af A = true) ∨ (∃ e, af.ext = some e ∧ ExtOK Go.Proofs.Tryz.prog gts 158 e)) := by
  cases h
  exact ⟨by kernel_rfl, .inl ⟨a158v, a158b, Go.Proofs.Tryz.f158, Go.Proofs.Tryz.func158, ok158⟩⟩
theorem t159 (af : AFn) (h : some a159 = some af) : enterB Go.Proofs.Tryz.prog 159 = true ∧ ((∃ slots bxs fn, Go.Proofs.Tryz.prog.funcs[159]? = some fn ∧ ∀ A, fnOK Go.Proofs.Tryz.prog gts slots bxs fn af A = true) ∨ (∃ e, af.ext = some e ∧ ExtOK Go.Proofs.Tryz.prog gts 159 e)) := by
  cases h
  exact ⟨by kernel_rfl, .inl ⟨a159v, a159b, Go.Proofs.Tryz.f159, Go.Proofs.Tryz.func159, ok159⟩⟩
theorem t160 (af : AFn) (h : some a160 = some af) : enterB Go.Proofs.Tryz.prog 160 = true ∧ ((∃ slots bxs fn, Go.Proofs.Tryz.prog.funcs[160]? = some fn ∧ ∀ A, fnOK Go.Proofs.Tryz.prog gts slots bxs fn af A = true) ∨ (∃ e, af.ext = some e ∧ ExtOK Go.Proofs.Tryz.prog gts 160 e)) := by
  cases h
  exact ⟨by kernel_rfl, .inl ⟨a160v, a160b, Go.Proofs.Tryz.f160, Go.Proofs.Tryz.func160, ok160⟩⟩
theorem t161 (af : AFn) (h : some a161 = some af) : enterB Go.Proofs.Tryz.prog 161 = true ∧ ((∃ slots bxs fn, Go.Proofs.Tryz.prog.funcs[161]? = some fn ∧ ∀ A, fnOK Go.Proofs.Tryz.prog gts slots bxs fn af A = true) ∨ (∃ e, af.ext = some e ∧ ExtOK Go.Proofs.Tryz.prog gts 161 e)) := by
  cases h
  exact ⟨by kernel_rfl, .inl ⟨a161v, a161b, Go.Proofs.Tryz.f161, Go.Proofs.Tryz.func161, ok161⟩⟩
theorem t162 (af : AFn) (h : some a162 = some af) : enterB Go.Proofs.Tryz.prog 162 = true ∧ ((∃ slots bxs fn, Go.Proofs.Tryz.prog.funcs[162]? = some fn ∧ ∀ A, fnOK Go.Proofs.Tryz.prog gts slots bxs fn af A = true) ∨ (∃ e, af.ext = some e ∧ ExtOK Go.Proofs.Tryz.prog gts 162 e)) := by
  cases h
  exact ⟨by kernel_rfl, .inl ⟨a162v, a162b, Go.Proofs.Tryz.f162, Go.Proofs.Tryz.func162, ok162⟩⟩
theorem t163 (af : AFn) (h : some a163 = some af) : enterB Go.Proofs.Tryz.prog 163 = true ∧ ((∃ slots bxs fn, Go.Proofs.Tryz.prog.funcs[163]? = some fn ∧ ∀ A, fnOK Go.Proofs.Tryz.prog gts slots bxs fn af A = true) ∨ (∃ e, af.ext = some e ∧ ExtOK Go.Proofs.Tryz.prog gts 163 e)) := by
  cases h
  exact ⟨by kernel_rfl, .inl ⟨a163v, a163b, Go.Proofs.Tryz.f163, Go.Proofs.Tryz.func163, ok163⟩⟩
theorem t164 (af : AFn) (h : some a164 = some af) : enterB Go.Proofs.Tryz.prog 164 = true ∧ ((∃ slots bxs fn, Go.Proofs.Tryz.prog.funcs[164]? = some fn ∧ ∀ A, fnOK Go.Proofs.Tryz.prog gts slots bxs fn af A = true) ∨ (∃ e, af.ext = some e ∧ ExtOK Go.Proofs.Tryz.prog gts 164 e)) := by
  cases h
  exact ⟨by kernel_rfl, .inl ⟨a164v, a164b, Go.Proofs.Tryz.f164, Go.Proofs.Tryz.func164, ok164⟩⟩
theorem t165 (af : AFn) (h : some a165 = some af) : enterB Go.Proofs.Tryz.prog 165 = true ∧ ((∃ slots bxs fn, Go.Proofs.Tryz.prog.funcs[165]? = some fn ∧ ∀ A, fnOK Go.Proofs.Tryz.prog gts slots bxs fn af A = true) ∨ (∃ e, af.ext = some e ∧ ExtOK Go.Proofs.Tryz.prog gts 165 e)) := by
  cases h
  exact ⟨by kernel_rfl, .inl ⟨a165v, a165b, Go.Proofs.Tryz.f165, Go.Proofs.Tryz.func165, ok165⟩⟩
theorem t166 (af : AFn) (h : some a166 = some af) : enterB Go.Proofs.Tryz.prog 166 = true ∧ ((∃ slots bxs fn, Go.Proofs.Tryz.prog.funcs[166]? = some fn ∧ ∀ A, fnOK Go.Proofs.Tryz.prog gts slots bxs fn af A = true) ∨ (∃ e, af.ext = some e ∧ ExtOK Go.Proofs.Tryz.prog gts 166 e)) := by
  cases h
  exact ⟨by kernel_rfl, .inl ⟨a166v, a166b, Go.Proofs.Tryz.f166, Go.Proofs.Tryz.func166, ok166⟩⟩
theorem t167 (af : AFn) (h : some a167 = some af) : enterB Go.Proofs.Tryz.prog 167 = true ∧ ((∃ slots bxs fn, Go.Proofs.Tryz.prog.funcs[167]? = some fn ∧ ∀ A, fnOK Go.Proofs.Tryz.prog gts slots bxs fn af A = true) ∨ (∃ e, af.ext = some e ∧ ExtOK Go.Proofs.Tryz.prog gts 167 e)) := by
  cases h
  exact ⟨by kernel_rfl, .inl ⟨a167v, a167b, Go.Proofs.Tryz.f167, Go.Proofs.Tryz.func167, ok167⟩⟩
theorem t168 (af : AFn) (h : some a168 = some af) : enterB Go.Proofs.Tryz.prog 168 = true ∧ ((∃ slots bxs fn, Go.Proofs.Tryz.prog.funcs[168]? = some fn ∧ ∀ A, fnOK Go.Proofs.Tryz.prog gts slots bxs fn af A = true) ∨ (∃ e, af.ext = some e ∧ ExtOK Go.Proofs.Tryz.prog gts 168 e)) := by
  cases h
  exact ⟨by kernel_rfl, .inl ⟨a168v, a168b, Go.Proofs.Tryz.f168, Go.Proofs.Tryz.func168, ok168⟩⟩
theorem t169 (af : AFn) (h : some a169 = some af) : enterB Go.Proofs.Tryz.prog 169 = true ∧ ((∃ slots bxs fn, Go.Proofs.Tryz.prog.funcs[169]? = some fn ∧ ∀ A, fnOK Go.Proofs.Tryz.prog gts slots bxs fn af A = true) ∨ (∃ e, af.ext = some e ∧ ExtOK Go.Proofs.Tryz.prog gts 169 e)) := by
  cases h
  exact ⟨by kernel_rfl, .inl ⟨a169v, a169b, Go.Proofs.Tryz.f169, Go.Proofs.Tryz.func169, ok169⟩⟩
theorem t170 (af : AFn) (h : some a170 = some af) : enterB Go.Proofs.Tryz.prog 170 = true ∧ ((∃ slots bxs fn, Go.Proofs.Tryz.prog.funcs[170]? = some fn ∧ ∀ A, fnOK Go.Proofs.Tryz.prog gts slots bxs fn af A = true) ∨ (∃ e, af.ext = some e ∧ ExtOK Go.Proofs.Tryz.prog gts 170 e)) := by
  cases h
  exact ⟨by kernel_rfl, .inl ⟨a170v, a170b, Go.Proofs.Tryz.f170, Go.Proofs.Tryz.func170, ok170⟩⟩
theorem t171 (af : AFn) (h : some a171 = some af) : enterB Go.Proofs.Tryz.prog 171 = true ∧ ((∃ slots bxs fn, Go.Proofs.Tryz.prog.funcs[171]? = some fn ∧ ∀ A, fnOK Go.Proofs.Tryz.prog gts slots bxs fn af A = true) ∨ (∃ e, af.ext = some e ∧ ExtOK Go.Proofs.Tryz.prog gts 171 e)) := by
  cases h
  exact ⟨by kernel_rfl, .inl ⟨a171v, a171b, Go.Proofs.Tryz.f171, Go.Proofs.Tryz.func171, ok171⟩⟩
theorem t172 (af : AFn) (h : some a172 = some af) : enterB Go.Proofs.Tryz.prog 172 = true ∧ ((∃ slots bxs fn, Go.Proofs.Tryz.prog.funcs[172]? = some fn ∧ ∀ A, fnOK Go.Proofs.Tryz.prog gts slots bxs fn af A = true) ∨ (∃ e, af.ext = some e ∧ ExtOK Go.Proofs.Tryz.prog gts 172 e)) := by
  cases h
  exact ⟨by kernel_rfl, .inl ⟨a172v, a172b, Go.Proofs.Tryz.f172, Go.Proofs.Tryz.func172, ok172⟩⟩
theorem t173 (af : AFn) (h : some a173 = some af) : enterB Go.Proofs.Tryz.prog 173 = true ∧ ((∃ slots bxs fn, Go.Proofs.Tryz.prog.funcs[173]? = some fn ∧ ∀ A, fnOK Go.Proofs.Tryz.prog gts slots bxs fn af A = true) ∨ (∃ e, af.ext = some e ∧ ExtOK Go.Proofs.Tryz.prog gts 173 e)) := by
  cases h
  exact ⟨by kernel_rfl, .inl ⟨a173v, a173b, Go.Proofs.Tryz.f173, Go.Proofs.Tryz.func173, ok173⟩⟩
theorem t174 (af : AFn) (h : some a174 = some af) : enterB Go.Proofs.Tryz.prog 174 = true ∧ ((∃ slots bxs fn, Go.Proofs.Tryz.prog.funcs[174]? = some fn ∧ ∀ A, fnOK Go.Proofs.Tryz.prog gts slots bxs fn af A = true) ∨ (∃ e, af.ext = some e ∧ ExtOK Go.Proofs.Tryz.prog gts 174 e)) := by
  cases h
  exact ⟨by kernel_rfl, .inl ⟨a174v, a174b, Go.Proofs.Tryz.f174, Go.Proofs.Tryz.func174, ok174⟩⟩
theorem t175 (af : AFn) (h : some a175 = some af) : enterB Go.Proofs.Tryz.prog 175 = true ∧ ((∃ slots bxs fn, Go.Proofs.Tryz.prog.funcs[175]? = some fn ∧ ∀ A, fnOK Go.Proofs.Tryz.prog gts slots bxs fn af A = true) ∨ (∃ e, af.ext = some e ∧ ExtOK Go.Proofs.Tryz.prog gts 175 e)) := by
  cases h
  exact ⟨by kernel_rfl, .inl ⟨a175v, a175b, Go.Proofs.Tryz.f175, Go.Proofs.Tryz.func175, ok175⟩⟩
theorem t176 (af : AFn) (h : some a176 = some af) : enterB Go.Proofs.Tryz.prog 176 = true ∧ ((∃ slots bxs fn, Go.Proofs.Tryz.prog.funcs[176]? = some fn ∧ ∀ A, fnOK Go.Proofs.Tryz.prog gts slots bxs fn af A = true) ∨ (∃ e, af.ext = some e ∧ ExtOK Go.Proofs.Tryz.prog gts 176 e)) := by
  cases h
  exact ⟨by kernel_rfl, .inr ⟨_, rfl, clone176⟩⟩
theorem t177 (af : AFn) (h : some a177 = some af) : enterB Go.Proofs.Tryz.prog 177 = true ∧ ((∃ slots bxs fn, Go.Proofs.Tryz.prog.funcs[177]? = some fn ∧ ∀ A, fnOK Go.Proofs.Tryz.prog gts slots bxs fn af A = true) ∨ (∃ e, af.ext = some e ∧ ExtOK Go.Proofs.Tryz.prog gts 177 e)) := by
  cases h
  exact ⟨by kernel_rfl, .inl ⟨a177v, a177b, Go.Proofs.Tryz.f177, Go.Proofs.Tryz.func177, ok177⟩⟩
theorem t178 (af : AFn) (h : some a178 = some af) : enterB Go.Proofs.Tryz.prog 178 = true ∧ ((∃ slots bxs fn, Go.Proofs.Tryz.prog.funcs[178]? = some fn ∧ ∀ A, fnOK Go.Proofs.Tryz.prog gts slots bxs fn af A = true) ∨ (∃ e, af.ext = some e ∧ ExtOK Go.Proofs.Tryz.prog gts 178 e)) := by
  cases h
  exact ⟨by kernel_rfl, .inl ⟨a178v, a178b, Go.Proofs.Tryz.f178, Go.Proofs.Tryz.func178, ok178⟩⟩
theorem t179 (af : AFn) (h : some a179 = some af) : enterB Go.Proofs.Tryz.prog 179 = true ∧ ((∃ slots bxs fn, Go.Proofs.Tryz.prog.funcs[179]? = some fn ∧ ∀ A, fnOK Go.Proofs.Tryz.prog gts slots bxs fn af A = true) ∨ (∃ e, af.ext = some e ∧ ExtOK Go.Proofs.Tryz.prog gts 179 e)) := by
  cases h
  exact ⟨by kernel_rfl, .inl ⟨a179v, a179b, Go.Proofs.Tryz.f179, Go.Proofs.Tryz.func179, ok179⟩⟩
theorem t180 (af : AFn) (h : some a180 = some af) : enterB Go.Proofs.Tryz.prog 180 = true ∧ ((∃ slots bxs fn, Go.Proofs.Tryz.prog.funcs[180]? = some fn ∧ ∀ A, fnOK Go.Proofs.Tryz.prog gts slots bxs fn af A = true) ∨ (∃ e, af.ext = some e ∧ ExtOK Go.Proofs.Tryz.prog gts 180 e)) := by
  cases h
  exact ⟨by kernel_rfl, .inl ⟨a180v, a180b, Go.Proofs.Tryz.f180, Go.Proofs.Tryz.func180, ok180⟩⟩
theorem t181 (af : AFn) (h : some a181 = some af) : enterB Go.Proofs.Tryz.prog 181 = true ∧ ((∃ slots bxs fn, Go.Proofs.Tryz.prog.funcs[181]? = some fn ∧ ∀ A, fnOK Go.Proofs.Tryz.prog gts slots bxs fn af A = true) ∨ (∃ e, af.ext = some e ∧ ExtOK Go.Proofs.Tryz.prog gts 181 e)) := by
  cases h
  exact ⟨by kernel_rfl, .inl ⟨a181v, a181b, Go.Proofs.Tryz.f181, Go.Proofs.Tryz.func181, ok181⟩⟩
theorem t182 (af : AFn) (h : some a182 = some af) : enterB Go.Proofs.Tryz.prog 182 = true ∧ ((∃ slots bxs fn, Go.Proofs.Tryz.prog.funcs[182]? = some fn ∧ ∀ A, fnOK Go.Proofs.Tryz.prog gts slots bxs fn af A = true) ∨ (∃ e, af.ext = some e ∧ ExtOK Go.Proofs.Tryz.prog gts 182 e)) := by
  cases h
  exact ⟨by kernel_rfl, .inl ⟨a182v, a182b, Go.Proofs.Tryz.f182, Go.Proofs.Tryz.func182, ok182⟩⟩
theorem t183 (af : AFn) (h : some a183 = some af) : enterB Go.Proofs.Tryz.prog 183 = true ∧ ((∃ slots bxs fn, Go.Proofs.Tryz.prog.funcs[183]? = some fn ∧ ∀ A, fnOK Go.Proofs.Tryz.prog gts slots bxs fn af A = true) ∨ (∃ e, af.ext = some e ∧ ExtOK Go.Proofs.Tryz.prog gts 183 e)) := by
  cases h
  exact ⟨by kernel_rfl, .inl ⟨a183v, a183b, Go.Proofs.Tryz.f183, Go.Proofs.Tryz.func183, ok183⟩⟩
theorem t184 (af : AFn) (h : some a184 = some af) : enterB Go.Proofs.Tryz.prog 184 = true ∧ ((∃ slots bxs fn, Go.Proofs.Tryz.prog.funcs[184]? = some fn ∧ ∀ A, fnOK Go.Proofs.Tryz.prog gts slots bxs fn af A = true) ∨ (∃ e, af.ext = some e ∧ ExtOK Go.Proofs.Tryz.prog gts 184 e)) := by
  cases h
  exact ⟨by kernel_rfl, .inl ⟨a184v, a184b, Go.Proofs.Tryz.f184, Go.Proofs.Tryz.func184, ok184⟩⟩
theorem prog_fn : ∀ f af, f < 210 → tbl f = some af → enterB Go.Proofs.Tryz.prog f = true ∧ ((∃ slots bxs fn, Go.Proofs.Tryz.prog.funcs[f]? = some fn ∧ ∀ A, fnOK Go.Proofs.Tryz.prog gts slots bxs fn af A = true) ∨ (∃ e, af.ext = some e ∧ ExtOK Go.Proofs.Tryz.prog gts f e))
  | 0, af, _, h => by cases (show (none : Option AFn) = some af from h)
  | 1, af, _, h => by cases (show (none : Option AFn) = some af from h)
  | 2, af, _, h => by cases (show (none : Option AFn) = some af from h)
  | 3, af, _, h => t3 af h
  | 4, af, _, h => by cases (show (none : Option AFn) = some af from h)
  | 5, af, _, h => t5 af h
  | 6, af, _, h => t6 af h
  | 7, af, _, h => t7 af h
  | 8, af, _, h => t8 af h
  | 9, af, _, h => t9 af h
  | 10, af, _, h => t10 af h
  | 11, af, _, h => by cases (show (none : Option AFn) = some af from h)
  | 12, af, _, h => t12 af h
  | 13, af, _, h => t13 af h
  | 14, af, _, h => t14 af h
  | 15, af, _, h => t15 af h
  | 16, af, _, h => t16 af h
  | 17, af, _, h => t17 af h
  | 18, af, _, h => t18 af h
  | 19, af, _, h => t19 af h
  | 20, af, _, h => t20 af h
  | 21, af, _, h => t21 af h
  | 22, af, _, h => t22 af h
  | 23, af, _, h => t23 af h
  | 24, af, _, h => t24 af h
  | 25, af, _, h => t25 af h
  | 26, af, _, h => t26 af h
  | 27, af, _, h => t27 af h
  | 28, af, _, h => t28 af h
  | 29, af, _, h => t29 af h
  | 30, af, _, h => t30 af h
  | 31, af, _, h => t31 af h
  | 32, af, _, h => t32 af h
  | 33, af, _, h => t33 af h
  | 34, af, _, h => t34 af h
  | 35, af, _, h => t35 af h
  | 36, af, _, h => t36 af h
  | 37, af, _, h => t37 af h
  | 38, af, _, h => t38 af h
  | 39, af, _, h => t39 af h
  | 40, af, _, h => t40 af h
  | 41, af, _, h => t41 af h
  | 42, af, _, h => t42 af h
  | 43, af, _, h => t43 af h
  | 44, af, _, h => t44 af h
  | 45, af, _, h => t45 af h
  | 46, af, _, h => t46 af h
  | 47, af, _, h => t47 af h
  | 48, af, _, h => t48 af h
  | 49, af, _, h => t49 af h
  | 50, af, _, h => t50 af h
  | 51, af, _, h => t51 af h
  | 52, af, _, h => t52 af h
  | 53, af, _, h => t53 af h
  | 54, af, _, h => t54 af h
  | 55, af, _, h => t55 af h
  | 56, af, _, h => t56 af h
  | 57, af, _, h => t57 af h
  | 58, af, _, h => t58 af h
  | 59, af, _, h => t59 af h
  | 60, af, _, h => t60 af h
  | 61, af, _, h => t61 af h
  | 62, af, _, h => t62 af h
  | 63, af, _, h => t63 af h
  | 64, af, _, h => t64 af h
  | 65, af, _, h => t65 af h
  | 66, af, _, h => t66 af h
  | 67, af, _, h => t67 af h
  | 68, af, _, h => t68 af h
  | 69, af, _, h => t69 af h
  | 70, af, _, h => t70 af h
  | 71, af, _, h => t71 af h
  | 72, af, _, h => t72 af h
  | 73, af, _, h => t73 af h
  | 74, af, _, h => t74 af h
  | 75, af, _, h => t75 af h
  | 76, af, _, h => t76 af h
  | 77, af, _, h => t77 af h
  | 78, af, _, h => t78 af h
  | 79, af, _, h => t79 af h
  | 80, af, _, h => t80 af h
  | 81, af, _, h => t81 af h
  | 82, af, _, h => t82 af h
  | 83, af, _, h => t83 af h
  | 84, af, _, h => t84 af h
  | 85, af, _, h => t85 af h
  | 86, af, _, h => t86 af h
  | 87, af, _, h => t87 af h
  | 88, af, _, h => t88 af h
  | 89, af, _, h => t89 af h
  | 90, af, _, h => t90 af h
  | 91, af, _, h => t91 af h
  | 92, af, _, h => t92 af h
  | 93, af, _, h => t93 af h
  | 94, af, _, h => t94 af h
  | 95, af, _, h => t95 af h
  | 96, af, _, h => t96 af h
  | 97, af, _, h => t97 af h
  | 98, af, _, h => t98 af h
  | 99, af, _, h => t99 af h
  | 100, af, _, h => t100 af h
  | 101, af, _, h => t101 af h
  | 102, af, _, h => t102 af h
  | 103, af, _, h => t103 af h
  | 104, af, _, h => t104 af h
  | 105, af, _, h => t105 af h
  | 106, af, _, h => t106 af h
  | 107, af, _, h => t107 af h
  | 108, af, _, h => t108 af h
  | 109, af, _, h => t109 af h
  | 110, af, _, h => t110 af h
  | 111, af, _, h => t111 af h
  | 112, af, _, h => t112 af h
  | 113, af, _, h => t113 af h
  | 114, af, _, h => t114 af h
  | 115, af, _, h => t115 af h
  | 116, af, _, h => t116 af h
  | 117, af, _, h => t117 af h
  | 118, af, _, h => t118 af h
  | 119, af, _, h => t119 af h
  | 120, af, _, h => t120 af h
  | 121, af, _, h => t121 af h
  | 122, af, _, h => t122 af h
  | 123, af, _, h => t123 af h
  | 124, af, _, h => t124 af h
  | 125, af, _, h => t125 af h
  | 126, af, _, h => t126 af h
  | 127, af, _, h => t127 af h
  | 128, af, _, h => t128 af h
  | 129, af, _, h => t129 af h
  | 130, af, _, h => t130 af h
  | 131, af, _, h => t131 af h
  | 132, af, _, h => t132 af h
  | 133, af, _, h => t133 af h
  | 134, af, _, h => t134 af h
  | 135, af, _, h => t135 af h
  | 136, af, _, h => t136 af h
  | 137, af, _, h => t137 af h
  | 138, af, _, h => t138 af h
  | 139, af, _, h => t139 af h
  | 140, af, _, h => t140 af h
  | 141, af, _, h => t141 af h
  | 142, af, _, h => t142 af h
  | 143, af, _, h => t143 af h
  | 144, af, _, h => t144 af h
  | 145, af, _, h => t145 af h
  | 146, af, _, h => t146 af h
  | 147, af, _, h => t147 af h
  | 148, af, _, h => t148 af h
  | 149, af, _, h => t149 af h
  | 150, af, _, h => t150 af h
  | 151, af, _, h => t151 af h
  | 152, af, _, h => t152 af h
  | 153, af, _, h => t153 af h
  | 154, af, _, h => t154 af h
  | 155, af, _, h => t155 af h
  | 156, af, _, h => t156 af h
  | 157, af, _, h => t157 af h
  | 158, af, _, h => t158 af h
  | 159, af, _, h => t159 af h
  | 160, af, _, h => t160 af h
  | 161, af, _, h => t161 af h
  | 162, af, _, h => t162 af h
  | 163, af, _, h => t163 af h
  | 164, af, _, h => t164 af h
  | 165, af, _, h => t165 af h
  | 166, af, _, h => t166 af h
  | 167, af, _, h => t167 af h
  | 168, af, _, h => t168 af h
  | 169, af, _, h => t169 af h
  | 170, af, _, h => t170 af h
  | 171, af, _, h => t171 af h
  | 172, af, _, h => t172 af h
  | 173, af, _, h => t173 af h
  | 174, af, _, h => t174 af h
  | 175, af, _, h => t175 af h
  | 176, af, _, h => t176 af h
  | 177, af, _, h => t177 af h
  | 178, af, _, h => t178 af h
  | 179, af, _, h => t179 af h
  | 180, af, _, h => t180 af h
  | 181, af, _, h => t181 af h
  | 182, af, _, h => t182 af h
  | 183, af, _, h => t183 af h
  | 184, af, _, h => t184 af h
  | 185, af, _, h => by cases (show (none : Option AFn) = some af from h)
  | 186, af, _, h => by cases (show (none : Option AFn) = some af from h)
  | 187, af, _, h => by cases (show (none : Option AFn) = some af from h)
  | 188, af, _, h => by cases (show (none : Option AFn) = some af from h)
  | 189, af, _, h => by cases (show (none : Option AFn) = some af from h)
  | 190, af, _, h => by cases (show (none : Option AFn) = some af from h)
  | 191, af, _, h => by cases (show (none : Option AFn) = some af from h)
  | 192, af, _, h => by cases (show (none : Option AFn) = some af from h)
  | 193, af, _, h => by cases (show (none : Option AFn) = some af from h)
  | 194, af, _, h => by cases (show (none : Option AFn) = some af from h)
  | 195, af, _, h => by cases (show (none : Option AFn) = some af from h)
  | 196, af, _, h => by cases (show (none : Option AFn) = some af from h)
  | 197, af, _, h => by cases (show (none : Option AFn) = some af from h)
  | 198, af, _, h => by cases (show (none : Option AFn) = some af from h)
  | 199, af, _, h => by cases (show (none : Option AFn) = some af from h)
  | 200, af, _, h => by cases (show (none : Option AFn) = some af from h)
  | 201, af, _, h => by cases (show (none : Option AFn) = some af from h)
  | 202, af, _, h => by cases (show (none : Option AFn) = some af from h)
  | 203, af, _, h => by cases (show (none : Option AFn) = some af from h)
  | 204, af, _, h => by cases (show (none : Option AFn) = some af from h)
  | 205, af, _, h => by cases (show (none : Option AFn) = some af from h)
  | 206, af, _, h => by cases (show (none : Option AFn) = some af from h)
  | 207, af, _, h => by cases (show (none : Option AFn) = some af from h)
  | 208, af, _, h => by cases (show (none : Option AFn) = some af from h)
  | 209, af, _, h => by cases (show (none : Option AFn) = some af from h)
  | n + 210, _, h, _ => absurd h (by omega)
theorem prog_ok : ProgOK Go.Proofs.Tryz.prog gts tbl := ⟨mixed, fun f af h => prog_fn f af (tbl_lt h) h⟩
end Go.Cb.CodeA
