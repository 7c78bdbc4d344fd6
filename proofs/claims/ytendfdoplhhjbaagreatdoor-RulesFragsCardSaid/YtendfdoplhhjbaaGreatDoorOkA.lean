/- That code tells the functions of the seat: the test of each function, and all of them together. No conditions. -/
import Derived.Test.YtendfdoplhhjbaaGreatDoorChecked
import Derived.KernelRfl
import Derived.Test.YtendfdoplhhjbaaGreatDoorCodeA
import Derived.Test.YtendfdoplhhjbaaGreatDoorXAms3
set_option maxRecDepth 100000
namespace Go.Cb.CodeA
open Go Go.Cb
open Go.Proofs
abbrev FKo (v b:List Nat) (f:Func) (a:AFn):Prop:=∀ A,b09 Go.Proofs.Tryz.prog gts v b f a A=true
abbrev TK (f:Nat) (af:AFn):Prop:=W3 Go.Proofs.Tryz.prog f=true∧((∃ slots bxs fn,Go.Proofs.Tryz.prog.funcs[f]?=some fn∧∀ A,b09 Go.Proofs.Tryz.prog gts slots bxs fn af A=true)∨(∃ e,af.ext=some e∧a2z Go.Proofs.Tryz.prog gts f e))
theorem ok4:FKo a4v a4b Tryz.f4 a4:=fun A=>by kernel_rfl
theorem ok5:FKo a5v a5b Tryz.f5 a5:=fun A=>by kernel_rfl
theorem ok6:FKo a6v a6b Tryz.f6 a6:=fun A=>by kernel_rfl
theorem ok7:FKo a7v a7b Tryz.f7 a7:=fun A=>by kernel_rfl
theorem ok8:FKo a8v a8b Tryz.f8 a8:=fun A=>by kernel_rfl
theorem ok9:FKo a9v a9b Tryz.f9 a9:=fun A=>by kernel_rfl
theorem f6e:FKo f3H f7u Tryz.f11 a11:=fun A=>by kernel_rfl
theorem f3E:FKo f4F f8d Tryz.f12 a12:=fun A=>by kernel_rfl
theorem f5g:FKo f7E f8q Tryz.f13 a13:=fun A=>by kernel_rfl
theorem f1R:FKo f6t f7d Tryz.f14 a14:=fun A=>by kernel_rfl
theorem f3D:FKo f3m f1K Tryz.f15 a15:=fun A=>by kernel_rfl
theorem f5i:FKo f4h f4f Tryz.f16 a16:=fun A=>by kernel_rfl
theorem f2S:FKo f7C f5Q Tryz.f17 a17:=fun A=>by kernel_rfl
theorem f6Y:FKo f1M f2x Tryz.f18 a18:=fun A=>by kernel_rfl
theorem f3U:FKo f4H f4K Tryz.f19 a19:=fun A=>by kernel_rfl
theorem f2w:FKo f7k f4V Tryz.f20 a20:=fun A=>by kernel_rfl
theorem f2s:FKo f3L f6G Tryz.f21 a21:=fun A=>by kernel_rfl
theorem f8E:FKo f4l f1f Tryz.f22 a22:=fun A=>by kernel_rfl
theorem f2c:FKo f3s f1s Tryz.f23 a23:=fun A=>by kernel_rfl
theorem f2z:FKo f2d f7e Tryz.f24 a24:=fun A=>by kernel_rfl
theorem f6c:FKo f8B f3K Tryz.f25 a25:=fun A=>by kernel_rfl
theorem f3x:FKo f7g f5R Tryz.f26 a26:=fun A=>by kernel_rfl
theorem f2T:FKo f5F f1F Tryz.f27 a27:=fun A=>by kernel_rfl
theorem f4o:FKo f2M f7j Tryz.f28 a28:=fun A=>by kernel_rfl
theorem f7K:FKo f1n f3C Tryz.f29 a29:=fun A=>by kernel_rfl
theorem f3N:FKo f2q f7D Tryz.f30 a30:=fun A=>by kernel_rfl
theorem f8l:FKo f1D f7r Tryz.f31 a31:=fun A=>by kernel_rfl
theorem f4I:FKo f1e f4A Tryz.f32 a32:=fun A=>by kernel_rfl
theorem f5v:FKo f1z f1W Tryz.f33 a33:=fun A=>by kernel_rfl
theorem f2H:FKo f7I f1x Tryz.f34 a34:=fun A=>by kernel_rfl
theorem f7w:FKo f7f f7m Tryz.f35 a35:=fun A=>by kernel_rfl
theorem f3G:FKo f4u f1t Tryz.f36 a36:=fun A=>by kernel_rfl
theorem f8u:FKo f8s f6k Tryz.f37 a37:=fun A=>by kernel_rfl
theorem f2t:FKo f6L f7W Tryz.f38 a38:=fun A=>by kernel_rfl
theorem f5Y:FKo f4E f8C Tryz.f39 a39:=fun A=>by kernel_rfl
theorem f8g:FKo f7S f6Q Tryz.f40 a40:=fun A=>by kernel_rfl
theorem f1X:FKo f5y f4j Tryz.f41 a41:=fun A=>by kernel_rfl
theorem f6v:FKo f8a f1P Tryz.f43 a43:=fun A=>by kernel_rfl
theorem f4D:FKo f1J f2u Tryz.f44 a44:=fun A=>by kernel_rfl
theorem f6E:FKo f6V f2N Tryz.f45 a45:=fun A=>by kernel_rfl
theorem f7M:FKo f5k f3V Tryz.f46 a46:=fun A=>by kernel_rfl
theorem f8w:FKo f2V f3w Tryz.f47 a47:=fun A=>by kernel_rfl
theorem f2p:FKo f8e f2W Tryz.f48 a48:=fun A=>by kernel_rfl
theorem f4e:FKo f5r f3q Tryz.f49 a49:=fun A=>by kernel_rfl
theorem f4R:FKo f3Y f2I Tryz.f50 a50:=fun A=>by kernel_rfl
theorem f4X:FKo f2y f6l Tryz.f51 a51:=fun A=>by kernel_rfl
theorem f1y:FKo f1o f6F Tryz.f52 a52:=fun A=>by kernel_rfl
theorem f8z:FKo f4p f7h Tryz.f53 a53:=fun A=>by kernel_rfl
theorem f1E:FKo f5A f2Z Tryz.f54 a54:=fun A=>by kernel_rfl
theorem f7U:FKo f5K f8j Tryz.f55 a55:=fun A=>by kernel_rfl
theorem f3e:FKo f5O f4T Tryz.f56 a56:=fun A=>by kernel_rfl
theorem f3o:FKo f7x f8A Tryz.f57 a57:=fun A=>by kernel_rfl
theorem f6d:FKo f8m f7l Tryz.f58 a58:=fun A=>by kernel_rfl
theorem f2A:FKo f4w f7P Tryz.f59 a59:=fun A=>by kernel_rfl
theorem f5S:FKo f8v f4Q Tryz.f60 a60:=fun A=>by kernel_rfl
theorem f2R:FKo f6y f2F Tryz.f61 a61:=fun A=>by kernel_rfl
theorem f4r:FKo f7p f8h Tryz.f62 a62:=fun A=>by kernel_rfl
theorem f6J:FKo f5T f5s Tryz.f63 a63:=fun A=>by kernel_rfl
theorem f7L:FKo f2g f4U Tryz.f64 a64:=fun A=>by kernel_rfl
theorem f3B:FKo f2O f6h Tryz.f65 a65:=fun A=>by kernel_rfl
theorem f4L:FKo f5B f4J Tryz.f66 a66:=fun A=>by kernel_rfl
theorem f2X:FKo f4P f6K Tryz.f67 a67:=fun A=>by kernel_rfl
theorem f5C:FKo f2n f7Y Tryz.f68 a68:=fun A=>by kernel_rfl
theorem f4z:FKo f1Z f5d Tryz.f69 a69:=fun A=>by kernel_rfl
theorem f7B:FKo f7T f4m Tryz.f70 a70:=fun A=>by kernel_rfl
theorem f4G:FKo f4W f6n Tryz.f71 a71:=fun A=>by kernel_rfl
theorem f5J:FKo f5W f8k Tryz.f72 a72:=fun A=>by kernel_rfl
theorem f3b:FKo f4i f4Z Tryz.f73 a73:=fun A=>by kernel_rfl
theorem f5E:FKo f8t f6R Tryz.f74 a74:=fun A=>by kernel_rfl
theorem f7V:FKo f8F f4c Tryz.f75 a75:=fun A=>by kernel_rfl
theorem f5G:FKo f6A f3n Tryz.f76 a76:=fun A=>by kernel_rfl
theorem f4y:FKo f7J f2m Tryz.f77 a77:=fun A=>by kernel_rfl
theorem f7t:FKo f2r f1C Tryz.f78 a78:=fun A=>by kernel_rfl
theorem f7b:FKo f7N f2Y Tryz.f79 a79:=fun A=>by kernel_rfl
theorem f8p:FKo f2j f1L Tryz.f80 a80:=fun A=>by kernel_rfl
theorem f5e:FKo f3j f6U Tryz.f81 a81:=fun A=>by kernel_rfl
theorem f7a:FKo f2h f6T Tryz.f82 a82:=fun A=>by kernel_rfl
theorem f3S:FKo f1h f4M Tryz.f83 a83:=fun A=>by kernel_rfl
theorem f3c:FKo f2k f6a Tryz.f84 a84:=fun A=>by kernel_rfl
theorem f3Z:FKo f5j f6O Tryz.f85 a85:=fun A=>by kernel_rfl
theorem f4a:FKo f8f f3A Tryz.f86 a86:=fun A=>by kernel_rfl
theorem f6q:FKo f6Z f8y Tryz.f87 a87:=fun A=>by kernel_rfl
theorem f5V:FKo f3J f3t Tryz.f88 a88:=fun A=>by kernel_rfl
theorem f2b:FKo f3u f7v Tryz.f89 a89:=fun A=>by kernel_rfl
theorem f4k:FKo f1q f7Q Tryz.f90 a90:=fun A=>by kernel_rfl
theorem f6W:FKo f5m f5f Tryz.f91 a91:=fun A=>by kernel_rfl
theorem f5P:FKo f6M f2P Tryz.f92 a92:=fun A=>by kernel_rfl
theorem f6g:FKo f5N f1Y Tryz.f93 a93:=fun A=>by kernel_rfl
theorem f7A:FKo f3O f6I Tryz.f94 a94:=fun A=>by kernel_rfl
theorem f5q:FKo f4t f7X Tryz.f95 a95:=fun A=>by kernel_rfl
theorem f6s:FKo f4g f1A Tryz.f96 a96:=fun A=>by kernel_rfl
theorem f8i:FKo f5X f6x Tryz.f97 a97:=fun A=>by kernel_rfl
theorem f3r:FKo f2l f3T Tryz.f98 a98:=fun A=>by kernel_rfl
theorem f2i:FKo f5t f5L Tryz.f99 a99:=fun A=>by kernel_rfl
theorem e6H:FKo e81 e0O Tryz.f100 d4x:=fun A=>by kernel_rfl
theorem e4D:FKo e1P d9w Tryz.f101 d4U:=fun A=>by kernel_rfl
theorem e5P:FKo e9U e2X Tryz.f102 c82:=fun A=>by kernel_rfl
theorem f1b:FKo e2D e4n Tryz.f103 d2u:=fun A=>by kernel_rfl
theorem e4g:FKo e9v e9B Tryz.f104 d5L:=fun A=>by kernel_rfl
theorem e2A:FKo e3k e74 Tryz.f105 d3Y:=fun A=>by kernel_rfl
theorem d92:FKo e9a e42 Tryz.f106 c7N:=fun A=>by kernel_rfl
theorem e7N:FKo e2q e3t Tryz.f107 c5l:=fun A=>by kernel_rfl
theorem e7Z:FKo e3N e1I Tryz.f108 c80:=fun A=>by kernel_rfl
theorem e7r:FKo e0v e4T Tryz.f109 c8V:=fun A=>by kernel_rfl
theorem e6c:FKo f0t d9I Tryz.f110 c5f:=fun A=>by kernel_rfl
theorem e5h:FKo e0e e6D Tryz.f111 c6h:=fun A=>by kernel_rfl
theorem e6A:FKo e8y d9q Tryz.f112 a112:=fun A=>by kernel_rfl
theorem d9x:FKo e19 e2V Tryz.f113 a113:=fun A=>by kernel_rfl
theorem e1N:FKo e3e d99 Tryz.f114 a114:=fun A=>by kernel_rfl
theorem e6v:FKo e7L e6Q Tryz.f115 a115:=fun A=>by kernel_rfl
theorem e6N:FKo e23 e7q Tryz.f116 d7w:=fun A=>by kernel_rfl
theorem e04:FKo d9M f0D Tryz.f117 c9D:=fun A=>by kernel_rfl
theorem e9D:FKo e7F e7l Tryz.f118 d89:=fun A=>by kernel_rfl
theorem e8r:FKo e0x e8O Tryz.f119 d7C:=fun A=>by kernel_rfl
theorem e4N:FKo e7x e5N Tryz.f120 d4g:=fun A=>by kernel_rfl
theorem f0A:FKo e7T e3x Tryz.f121 d4c:=fun A=>by kernel_rfl
theorem e5F:FKo e9C e7c Tryz.f122 d7x:=fun A=>by kernel_rfl
theorem e0N:FKo e9e e24 Tryz.f123 c8U:=fun A=>by kernel_rfl
theorem e2n:FKo f0Q e6u Tryz.f124 c9m:=fun A=>by kernel_rfl
theorem e45:FKo e7D e6e Tryz.f125 c65:=fun A=>by kernel_rfl
theorem d9j:FKo e1f e3s Tryz.f126 d4Y:=fun A=>by kernel_rfl
theorem e1L:FKo e3G e0d Tryz.f127 d42:=fun A=>by kernel_rfl
theorem e1O:FKo e52 f0S Tryz.f128 c7E:=fun A=>by kernel_rfl
theorem e5d:FKo e4Z e5X Tryz.f129 c7b:=fun A=>by kernel_rfl
theorem e0T:FKo e0I e1o Tryz.f130 d4o:=fun A=>by kernel_rfl
theorem e5U:FKo e9g e4x Tryz.f131 d6S:=fun A=>by kernel_rfl
theorem e4L:FKo e82 d9z Tryz.f132 c5P:=fun A=>by kernel_rfl
theorem e4s:FKo d95 e8E Tryz.f133 d4G:=fun A=>by kernel_rfl
theorem e9N:FKo e0Q e4p Tryz.f134 c97:=fun A=>by kernel_rfl
theorem e51:FKo e4O e0E Tryz.f135 c5z:=fun A=>by kernel_rfl
theorem e26:FKo e79 e5M Tryz.f136 c5j:=fun A=>by kernel_rfl
theorem e3L:FKo e7g e1q Tryz.f137 d7W:=fun A=>by kernel_rfl
theorem e0F:FKo e5I f0Y Tryz.f138 d34:=fun A=>by kernel_rfl
theorem e1S:FKo e2P e1K Tryz.f139 c43:=fun A=>by kernel_rfl
theorem f08:FKo e4G e6b Tryz.f140 c7A:=fun A=>by kernel_rfl
theorem e2k:FKo e8Z f0l Tryz.f141 d1k:=fun A=>by kernel_rfl
theorem e3Y:FKo f0M e01 Tryz.f142 c9X:=fun A=>by kernel_rfl
theorem e9F:FKo e3q e5w Tryz.f143 d8y:=fun A=>by kernel_rfl
theorem e85:FKo e4B e6q Tryz.f144 d65:=fun A=>by kernel_rfl
theorem e5H:FKo e9o e4w Tryz.f145 c8k:=fun A=>by kernel_rfl
theorem e7s:FKo e1C e44 Tryz.f146 d7r:=fun A=>by kernel_rfl
theorem e3f:FKo e8n d9K Tryz.f147 c88:=fun A=>by kernel_rfl
theorem e4o:FKo e38 f0K Tryz.f148 d5J:=fun A=>by kernel_rfl
theorem f0u:FKo e3v e9y Tryz.f149 a149:=fun A=>by kernel_rfl
theorem e5i:FKo f0x e99 Tryz.f150 a150:=fun A=>by kernel_rfl
theorem f0H:FKo e3U e5L Tryz.f151 c9A:=fun A=>by kernel_rfl
theorem e64:FKo e9J e1j Tryz.f152 c8F:=fun A=>by kernel_rfl
theorem e9I:FKo d9C e5W Tryz.f153 d8i:=fun A=>by kernel_rfl
theorem e0L:FKo e4I e2B Tryz.f154 d8a:=fun A=>by kernel_rfl
theorem e8v:FKo e68 f0s Tryz.f155 c4C:=fun A=>by kernel_rfl
theorem e16:FKo f0C e2a Tryz.f156 d0m:=fun A=>by kernel_rfl
theorem e5R:FKo f0q e6R Tryz.f157 d6H:=fun A=>by kernel_rfl
theorem e2d:FKo e49 d9Q Tryz.f158 d4I:=fun A=>by kernel_rfl
theorem e2S:FKo e8p e4Y Tryz.f159 d7k:=fun A=>by kernel_rfl
theorem e4V:FKo f0N e9A Tryz.f160 d1g:=fun A=>by kernel_rfl
theorem e25:FKo e2g f0Z Tryz.f161 d3l:=fun A=>by kernel_rfl
theorem f0F:FKo e06 e2e Tryz.f162 c5h:=fun A=>by kernel_rfl
theorem e2f:FKo e5G e7v Tryz.f163 d85:=fun A=>by kernel_rfl
theorem e1a:FKo e2o e71 Tryz.f164 d8G:=fun A=>by kernel_rfl
theorem e92:FKo e3O e7O Tryz.f165 d2w:=fun A=>by kernel_rfl
theorem e0D:FKo e6t e93 Tryz.f166 c5T:=fun A=>by kernel_rfl
theorem e9E:FKo e4C e96 Tryz.f167 a167:=fun A=>by kernel_rfl
theorem e6B:FKo f0i f06 Tryz.f168 d64:=fun A=>by kernel_rfl
theorem e8C:FKo e0l e8H Tryz.f169 c7S:=fun A=>by kernel_rfl
theorem e7u:FKo e3X e46 Tryz.f170 d7N:=fun A=>by kernel_rfl
theorem e4b:FKo e5D e2E Tryz.f171 c5p:=fun A=>by kernel_rfl
theorem e7G:FKo e2M e5y Tryz.f172 d6o:=fun A=>by kernel_rfl
theorem e2c:FKo e2W e8i Tryz.f173 c4y:=fun A=>by kernel_rfl
theorem e9h:FKo e1c e0g Tryz.f174 c5H:=fun A=>by kernel_rfl
theorem e9S:FKo e6C e9k Tryz.f175 d2t:=fun A=>by kernel_rfl
theorem e9M:FKo e0j f07 Tryz.f177 d8R:=fun A=>by kernel_rfl
theorem e9n:FKo e7Q e8e Tryz.f178 d8P:=fun A=>by kernel_rfl
theorem e7U:FKo e5j e8S Tryz.f179 d1J:=fun A=>by kernel_rfl
theorem e2R:FKo e3R f0k Tryz.f180 c6W:=fun A=>by kernel_rfl
theorem f0E:FKo f0a e1F Tryz.f181 c5x:=fun A=>by kernel_rfl
theorem d9H:FKo e7o e5c Tryz.f182 a182:=fun A=>by kernel_rfl
theorem e8R:FKo e0X e4f Tryz.f183 d4u:=fun A=>by kernel_rfl
theorem e2Z:FKo e6U d9S Tryz.f184 d7E:=fun A=>by kernel_rfl
theorem b7g:a2z Go.Proofs.Tryz.prog gts 42 (U9 4 72):=a7n Go.Proofs.Tryz.func42 (t:=Go.Proofs.Tryz.f42.params.getD 0 0) ⟨_,_,_,_,_,_,_,_,_,_,_,_,_,rfl,rfl,rfl,⟨rfl,rfl,rfl⟩,⟨rfl,rfl,rfl⟩,⟨rfl,rfl,rfl⟩,⟨rfl,rfl,rfl⟩,⟨rfl,rfl,rfl⟩,⟨rfl,rfl,rfl⟩,⟨rfl,rfl,rfl⟩,⟨rfl,rfl,rfl⟩,by kernel_rfl⟩
theorem b3P:a2z Go.Proofs.Tryz.prog gts 176 (U9 1 16):=a7n Go.Proofs.Tryz.func176 (t:=Go.Proofs.Tryz.f176.params.getD 0 0) ⟨_,_,_,_,_,_,_,_,_,_,_,_,_,rfl,rfl,rfl,⟨rfl,rfl,rfl⟩,⟨rfl,rfl,rfl⟩,⟨rfl,rfl,rfl⟩,⟨rfl,rfl,rfl⟩,⟨rfl,rfl,rfl⟩,⟨rfl,rfl,rfl⟩,⟨rfl,rfl,rfl⟩,⟨rfl,rfl,rfl⟩,by kernel_rfl⟩
theorem mixed:Go.Proofs.Tryz.prog.follows .mixedOrders=true:=by kernel_rfl
theorem d6c {f:Nat} {af:AFn} (h:tbl f=some af):f < 210:=by
  rcases Nat.lt_or_ge f 210 with h1|h1
  · exact h1
  · exfalso
    have e:tblL.getD (f / 10) []=[]:=by
      rw [List.getD_eq_getElem?_getD,List.getElem?_eq_none]
      · rfl
      · show 21≤f / 10
        omega
    have h:(tblL.getD (f / 10) []).getD (f % 10) none=some af:=h
    rw [e] at h
    cases h
theorem tK {f:Nat} {fn:Func} {v b:List Nat} {a af:AFn} (h1:Go.Proofs.Tryz.prog.funcs[f]?=some fn) (h2:FKo v b fn a) (h3:W3 Go.Proofs.Tryz.prog f=true) (h:some a=some af):TK f af:=by cases h; exact ⟨h3,.inl ⟨v,b,fn,h1,h2⟩⟩
theorem nK {f:Nat} {af:AFn} (h:(none:Option AFn)=some af):TK f af:=by cases h
theorem t42 (af:AFn) (h:some a42=some af):TK 42 af:=by cases h; exact ⟨by kernel_rfl,.inr ⟨_,rfl,b7g⟩⟩
theorem f2K (af:AFn) (h:some c4l=some af):TK 176 af:=by cases h; exact ⟨by kernel_rfl,.inr ⟨_,rfl,b3P⟩⟩
theorem b8X:∀ f af,f < 210→tbl f=some af→TK f af
 | 0,_,_,h=>nK h
 | 1,_,_,h=>nK h
 | 2,_,_,h=>nK h
 | 3,_,_,h=>nK h
 | 4,_,_,h=>tK Tryz.func4 ok4 (by kernel_rfl) h
 | 5,_,_,h=>tK Tryz.func5 ok5 (by kernel_rfl) h
 | 6,_,_,h=>tK Tryz.func6 ok6 (by kernel_rfl) h
 | 7,_,_,h=>tK Tryz.func7 ok7 (by kernel_rfl) h
 | 8,_,_,h=>tK Tryz.func8 ok8 (by kernel_rfl) h
 | 9,_,_,h=>tK Tryz.func9 ok9 (by kernel_rfl) h
 | 10,_,_,h=>nK h
 | 11,_,_,h=>tK Tryz.func11 f6e (by kernel_rfl) h
 | 12,_,_,h=>tK Tryz.func12 f3E (by kernel_rfl) h
 | 13,_,_,h=>tK Tryz.func13 f5g (by kernel_rfl) h
 | 14,_,_,h=>tK Tryz.func14 f1R (by kernel_rfl) h
 | 15,_,_,h=>tK Tryz.func15 f3D (by kernel_rfl) h
 | 16,_,_,h=>tK Tryz.func16 f5i (by kernel_rfl) h
 | 17,_,_,h=>tK Tryz.func17 f2S (by kernel_rfl) h
 | 18,_,_,h=>tK Tryz.func18 f6Y (by kernel_rfl) h
 | 19,_,_,h=>tK Tryz.func19 f3U (by kernel_rfl) h
 | 20,_,_,h=>tK Tryz.func20 f2w (by kernel_rfl) h
 | 21,_,_,h=>tK Tryz.func21 f2s (by kernel_rfl) h
 | 22,_,_,h=>tK Tryz.func22 f8E (by kernel_rfl) h
 | 23,_,_,h=>tK Tryz.func23 f2c (by kernel_rfl) h
 | 24,_,_,h=>tK Tryz.func24 f2z (by kernel_rfl) h
 | 25,_,_,h=>tK Tryz.func25 f6c (by kernel_rfl) h
 | 26,_,_,h=>tK Tryz.func26 f3x (by kernel_rfl) h
 | 27,_,_,h=>tK Tryz.func27 f2T (by kernel_rfl) h
 | 28,_,_,h=>tK Tryz.func28 f4o (by kernel_rfl) h
 | 29,_,_,h=>tK Tryz.func29 f7K (by kernel_rfl) h
 | 30,_,_,h=>tK Tryz.func30 f3N (by kernel_rfl) h
 | 31,_,_,h=>tK Tryz.func31 f8l (by kernel_rfl) h
 | 32,_,_,h=>tK Tryz.func32 f4I (by kernel_rfl) h
 | 33,_,_,h=>tK Tryz.func33 f5v (by kernel_rfl) h
 | 34,_,_,h=>tK Tryz.func34 f2H (by kernel_rfl) h
 | 35,_,_,h=>tK Tryz.func35 f7w (by kernel_rfl) h
 | 36,_,_,h=>tK Tryz.func36 f3G (by kernel_rfl) h
 | 37,_,_,h=>tK Tryz.func37 f8u (by kernel_rfl) h
 | 38,_,_,h=>tK Tryz.func38 f2t (by kernel_rfl) h
 | 39,_,_,h=>tK Tryz.func39 f5Y (by kernel_rfl) h
 | 40,_,_,h=>tK Tryz.func40 f8g (by kernel_rfl) h
 | 41,_,_,h=>tK Tryz.func41 f1X (by kernel_rfl) h
 | 42,_,_,h=>t42 _ h
 | 43,_,_,h=>tK Tryz.func43 f6v (by kernel_rfl) h
 | 44,_,_,h=>tK Tryz.func44 f4D (by kernel_rfl) h
 | 45,_,_,h=>tK Tryz.func45 f6E (by kernel_rfl) h
 | 46,_,_,h=>tK Tryz.func46 f7M (by kernel_rfl) h
 | 47,_,_,h=>tK Tryz.func47 f8w (by kernel_rfl) h
 | 48,_,_,h=>tK Tryz.func48 f2p (by kernel_rfl) h
 | 49,_,_,h=>tK Tryz.func49 f4e (by kernel_rfl) h
 | 50,_,_,h=>tK Tryz.func50 f4R (by kernel_rfl) h
 | 51,_,_,h=>tK Tryz.func51 f4X (by kernel_rfl) h
 | 52,_,_,h=>tK Tryz.func52 f1y (by kernel_rfl) h
 | 53,_,_,h=>tK Tryz.func53 f8z (by kernel_rfl) h
 | 54,_,_,h=>tK Tryz.func54 f1E (by kernel_rfl) h
 | 55,_,_,h=>tK Tryz.func55 f7U (by kernel_rfl) h
 | 56,_,_,h=>tK Tryz.func56 f3e (by kernel_rfl) h
 | 57,_,_,h=>tK Tryz.func57 f3o (by kernel_rfl) h
 | 58,_,_,h=>tK Tryz.func58 f6d (by kernel_rfl) h
 | 59,_,_,h=>tK Tryz.func59 f2A (by kernel_rfl) h
 | 60,_,_,h=>tK Tryz.func60 f5S (by kernel_rfl) h
 | 61,_,_,h=>tK Tryz.func61 f2R (by kernel_rfl) h
 | 62,_,_,h=>tK Tryz.func62 f4r (by kernel_rfl) h
 | 63,_,_,h=>tK Tryz.func63 f6J (by kernel_rfl) h
 | 64,_,_,h=>tK Tryz.func64 f7L (by kernel_rfl) h
 | 65,_,_,h=>tK Tryz.func65 f3B (by kernel_rfl) h
 | 66,_,_,h=>tK Tryz.func66 f4L (by kernel_rfl) h
 | 67,_,_,h=>tK Tryz.func67 f2X (by kernel_rfl) h
 | 68,_,_,h=>tK Tryz.func68 f5C (by kernel_rfl) h
 | 69,_,_,h=>tK Tryz.func69 f4z (by kernel_rfl) h
 | 70,_,_,h=>tK Tryz.func70 f7B (by kernel_rfl) h
 | 71,_,_,h=>tK Tryz.func71 f4G (by kernel_rfl) h
 | 72,_,_,h=>tK Tryz.func72 f5J (by kernel_rfl) h
 | 73,_,_,h=>tK Tryz.func73 f3b (by kernel_rfl) h
 | 74,_,_,h=>tK Tryz.func74 f5E (by kernel_rfl) h
 | 75,_,_,h=>tK Tryz.func75 f7V (by kernel_rfl) h
 | 76,_,_,h=>tK Tryz.func76 f5G (by kernel_rfl) h
 | 77,_,_,h=>tK Tryz.func77 f4y (by kernel_rfl) h
 | 78,_,_,h=>tK Tryz.func78 f7t (by kernel_rfl) h
 | 79,_,_,h=>tK Tryz.func79 f7b (by kernel_rfl) h
 | 80,_,_,h=>tK Tryz.func80 f8p (by kernel_rfl) h
 | 81,_,_,h=>tK Tryz.func81 f5e (by kernel_rfl) h
 | 82,_,_,h=>tK Tryz.func82 f7a (by kernel_rfl) h
 | 83,_,_,h=>tK Tryz.func83 f3S (by kernel_rfl) h
 | 84,_,_,h=>tK Tryz.func84 f3c (by kernel_rfl) h
 | 85,_,_,h=>tK Tryz.func85 f3Z (by kernel_rfl) h
 | 86,_,_,h=>tK Tryz.func86 f4a (by kernel_rfl) h
 | 87,_,_,h=>tK Tryz.func87 f6q (by kernel_rfl) h
 | 88,_,_,h=>tK Tryz.func88 f5V (by kernel_rfl) h
 | 89,_,_,h=>tK Tryz.func89 f2b (by kernel_rfl) h
 | 90,_,_,h=>tK Tryz.func90 f4k (by kernel_rfl) h
 | 91,_,_,h=>tK Tryz.func91 f6W (by kernel_rfl) h
 | 92,_,_,h=>tK Tryz.func92 f5P (by kernel_rfl) h
 | 93,_,_,h=>tK Tryz.func93 f6g (by kernel_rfl) h
 | 94,_,_,h=>tK Tryz.func94 f7A (by kernel_rfl) h
 | 95,_,_,h=>tK Tryz.func95 f5q (by kernel_rfl) h
 | 96,_,_,h=>tK Tryz.func96 f6s (by kernel_rfl) h
 | 97,_,_,h=>tK Tryz.func97 f8i (by kernel_rfl) h
 | 98,_,_,h=>tK Tryz.func98 f3r (by kernel_rfl) h
 | 99,_,_,h=>tK Tryz.func99 f2i (by kernel_rfl) h
 | 100,_,_,h=>tK Tryz.func100 e6H (by kernel_rfl) h
 | 101,_,_,h=>tK Tryz.func101 e4D (by kernel_rfl) h
 | 102,_,_,h=>tK Tryz.func102 e5P (by kernel_rfl) h
 | 103,_,_,h=>tK Tryz.func103 f1b (by kernel_rfl) h
 | 104,_,_,h=>tK Tryz.func104 e4g (by kernel_rfl) h
 | 105,_,_,h=>tK Tryz.func105 e2A (by kernel_rfl) h
 | 106,_,_,h=>tK Tryz.func106 d92 (by kernel_rfl) h
 | 107,_,_,h=>tK Tryz.func107 e7N (by kernel_rfl) h
 | 108,_,_,h=>tK Tryz.func108 e7Z (by kernel_rfl) h
 | 109,_,_,h=>tK Tryz.func109 e7r (by kernel_rfl) h
 | 110,_,_,h=>tK Tryz.func110 e6c (by kernel_rfl) h
 | 111,_,_,h=>tK Tryz.func111 e5h (by kernel_rfl) h
 | 112,_,_,h=>tK Tryz.func112 e6A (by kernel_rfl) h
 | 113,_,_,h=>tK Tryz.func113 d9x (by kernel_rfl) h
 | 114,_,_,h=>tK Tryz.func114 e1N (by kernel_rfl) h
 | 115,_,_,h=>tK Tryz.func115 e6v (by kernel_rfl) h
 | 116,_,_,h=>tK Tryz.func116 e6N (by kernel_rfl) h
 | 117,_,_,h=>tK Tryz.func117 e04 (by kernel_rfl) h
 | 118,_,_,h=>tK Tryz.func118 e9D (by kernel_rfl) h
 | 119,_,_,h=>tK Tryz.func119 e8r (by kernel_rfl) h
 | 120,_,_,h=>tK Tryz.func120 e4N (by kernel_rfl) h
 | 121,_,_,h=>tK Tryz.func121 f0A (by kernel_rfl) h
 | 122,_,_,h=>tK Tryz.func122 e5F (by kernel_rfl) h
 | 123,_,_,h=>tK Tryz.func123 e0N (by kernel_rfl) h
 | 124,_,_,h=>tK Tryz.func124 e2n (by kernel_rfl) h
 | 125,_,_,h=>tK Tryz.func125 e45 (by kernel_rfl) h
 | 126,_,_,h=>tK Tryz.func126 d9j (by kernel_rfl) h
 | 127,_,_,h=>tK Tryz.func127 e1L (by kernel_rfl) h
 | 128,_,_,h=>tK Tryz.func128 e1O (by kernel_rfl) h
 | 129,_,_,h=>tK Tryz.func129 e5d (by kernel_rfl) h
 | 130,_,_,h=>tK Tryz.func130 e0T (by kernel_rfl) h
 | 131,_,_,h=>tK Tryz.func131 e5U (by kernel_rfl) h
 | 132,_,_,h=>tK Tryz.func132 e4L (by kernel_rfl) h
 | 133,_,_,h=>tK Tryz.func133 e4s (by kernel_rfl) h
 | 134,_,_,h=>tK Tryz.func134 e9N (by kernel_rfl) h
 | 135,_,_,h=>tK Tryz.func135 e51 (by kernel_rfl) h
 | 136,_,_,h=>tK Tryz.func136 e26 (by kernel_rfl) h
 | 137,_,_,h=>tK Tryz.func137 e3L (by kernel_rfl) h
 | 138,_,_,h=>tK Tryz.func138 e0F (by kernel_rfl) h
 | 139,_,_,h=>tK Tryz.func139 e1S (by kernel_rfl) h
 | 140,_,_,h=>tK Tryz.func140 f08 (by kernel_rfl) h
 | 141,_,_,h=>tK Tryz.func141 e2k (by kernel_rfl) h
 | 142,_,_,h=>tK Tryz.func142 e3Y (by kernel_rfl) h
 | 143,_,_,h=>tK Tryz.func143 e9F (by kernel_rfl) h
 | 144,_,_,h=>tK Tryz.func144 e85 (by kernel_rfl) h
 | 145,_,_,h=>tK Tryz.func145 e5H (by kernel_rfl) h
 | 146,_,_,h=>tK Tryz.func146 e7s (by kernel_rfl) h
 | 147,_,_,h=>tK Tryz.func147 e3f (by kernel_rfl) h
 | 148,_,_,h=>tK Tryz.func148 e4o (by kernel_rfl) h
 | 149,_,_,h=>tK Tryz.func149 f0u (by kernel_rfl) h
 | 150,_,_,h=>tK Tryz.func150 e5i (by kernel_rfl) h
 | 151,_,_,h=>tK Tryz.func151 f0H (by kernel_rfl) h
 | 152,_,_,h=>tK Tryz.func152 e64 (by kernel_rfl) h
 | 153,_,_,h=>tK Tryz.func153 e9I (by kernel_rfl) h
 | 154,_,_,h=>tK Tryz.func154 e0L (by kernel_rfl) h
 | 155,_,_,h=>tK Tryz.func155 e8v (by kernel_rfl) h
 | 156,_,_,h=>tK Tryz.func156 e16 (by kernel_rfl) h
 | 157,_,_,h=>tK Tryz.func157 e5R (by kernel_rfl) h
 | 158,_,_,h=>tK Tryz.func158 e2d (by kernel_rfl) h
 | 159,_,_,h=>tK Tryz.func159 e2S (by kernel_rfl) h
 | 160,_,_,h=>tK Tryz.func160 e4V (by kernel_rfl) h
 | 161,_,_,h=>tK Tryz.func161 e25 (by kernel_rfl) h
 | 162,_,_,h=>tK Tryz.func162 f0F (by kernel_rfl) h
 | 163,_,_,h=>tK Tryz.func163 e2f (by kernel_rfl) h
 | 164,_,_,h=>tK Tryz.func164 e1a (by kernel_rfl) h
 | 165,_,_,h=>tK Tryz.func165 e92 (by kernel_rfl) h
 | 166,_,_,h=>tK Tryz.func166 e0D (by kernel_rfl) h
 | 167,_,_,h=>tK Tryz.func167 e9E (by kernel_rfl) h
 | 168,_,_,h=>tK Tryz.func168 e6B (by kernel_rfl) h
 | 169,_,_,h=>tK Tryz.func169 e8C (by kernel_rfl) h
 | 170,_,_,h=>tK Tryz.func170 e7u (by kernel_rfl) h
 | 171,_,_,h=>tK Tryz.func171 e4b (by kernel_rfl) h
 | 172,_,_,h=>tK Tryz.func172 e7G (by kernel_rfl) h
 | 173,_,_,h=>tK Tryz.func173 e2c (by kernel_rfl) h
 | 174,_,_,h=>tK Tryz.func174 e9h (by kernel_rfl) h
 | 175,_,_,h=>tK Tryz.func175 e9S (by kernel_rfl) h
 | 176,_,_,h=>f2K _ h
 | 177,_,_,h=>tK Tryz.func177 e9M (by kernel_rfl) h
 | 178,_,_,h=>tK Tryz.func178 e9n (by kernel_rfl) h
 | 179,_,_,h=>tK Tryz.func179 e7U (by kernel_rfl) h
 | 180,_,_,h=>tK Tryz.func180 e2R (by kernel_rfl) h
 | 181,_,_,h=>tK Tryz.func181 f0E (by kernel_rfl) h
 | 182,_,_,h=>tK Tryz.func182 d9H (by kernel_rfl) h
 | 183,_,_,h=>tK Tryz.func183 e8R (by kernel_rfl) h
 | 184,_,_,h=>tK Tryz.func184 e2Z (by kernel_rfl) h
 | 185,_,_,h=>nK h
 | 186,_,_,h=>nK h
 | 187,_,_,h=>nK h
 | 188,_,_,h=>nK h
 | 189,_,_,h=>nK h
 | 190,_,_,h=>nK h
 | 191,_,_,h=>nK h
 | 192,_,_,h=>nK h
 | 193,_,_,h=>nK h
 | 194,_,_,h=>nK h
 | 195,_,_,h=>nK h
 | 196,_,_,h=>nK h
 | 197,_,_,h=>nK h
 | 198,_,_,h=>nK h
 | 199,_,_,h=>nK h
 | 200,_,_,h=>nK h
 | 201,_,_,h=>nK h
 | 202,_,_,h=>nK h
 | 203,_,_,h=>nK h
 | 204,_,_,h=>nK h
 | 205,_,_,h=>nK h
 | 206,_,_,h=>nK h
 | 207,_,_,h=>nK h
 | 208,_,_,h=>nK h
 | 209,_,_,h=>nK h
  | n+210,_,h,_=>absurd h (by omega)
theorem c2e:ProgOK Go.Proofs.Tryz.prog gts tbl:=⟨mixed,fun f af h=>b8X f af (d6c h) h⟩
end Go.Cb.CodeA
