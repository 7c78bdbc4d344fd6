/- That code tells the functions of the seat: the test of each function, and all of them together. No conditions. -/
import Derived.Test.YtbibkdncfclnbaaGreatDoorChecked
import Derived.KernelRfl
import Derived.Test.YtbibkdncfclnbaaGreatDoorCodeA
import Derived.Test.YtbibkdncfclnbaaGreatDoorFmL
import Derived.Test.YtbibkdncfclnbaaGreatDoorInsX
import Derived.Test.YtbibkdncfclnbaaGreatDoorDel
set_option maxRecDepth 100000
namespace Go.Cb.CodeA
open Go Go.Cb
open Go.Proofs
abbrev FK (v b:List Nat) (f:Func) (a:AFn):Prop:=∀ A,b36 Go.Proofs.Tryz.prog gts v b f a A=true
abbrev TK (f:Nat) (af:AFn):Prop:=a1o Go.Proofs.Tryz.prog f=true∧((∃ slots bxs fn,Go.Proofs.Tryz.prog.funcs[f]?=some fn∧∀ A,b36 Go.Proofs.Tryz.prog gts slots bxs fn af A=true)∨(∃ e,af.ext=some e∧R1 Go.Proofs.Tryz.prog gts f e))
theorem ok5:FK a5v a5b Tryz.f5 a5:=fun A=>by kernel_rfl
theorem d4U:FK d1N d5f Tryz.f11 a11:=fun A=>by kernel_rfl
theorem d4V:FK d2d d3o Tryz.f12 a12:=fun A=>by kernel_rfl
theorem d13:FK d3z d2Q Tryz.f13 a13:=fun A=>by kernel_rfl
theorem d5j:FK d3I d2S Tryz.f15 a15:=fun A=>by kernel_rfl
theorem d3n:FK d3y d4O Tryz.f16 a16:=fun A=>by kernel_rfl
theorem d3S:FK d1P d49 Tryz.f17 a17:=fun A=>by kernel_rfl
theorem d39:FK d2w d4h Tryz.f18 a18:=fun A=>by kernel_rfl
theorem d4M:FK d1K d2e Tryz.f19 a19:=fun A=>by kernel_rfl
theorem d35:FK d2x d2T Tryz.f21 a21:=fun A=>by kernel_rfl
theorem d3T:FK d4N d28 Tryz.f22 a22:=fun A=>by kernel_rfl
theorem d31:FK d4m d4E Tryz.f25 a25:=fun A=>by kernel_rfl
theorem d1F:FK d3A d4K Tryz.f29 a29:=fun A=>by kernel_rfl
theorem d2D:FK d2q d4n Tryz.f31 a31:=fun A=>by kernel_rfl
theorem d3Q:FK d3Y d5p Tryz.f32 a32:=fun A=>by kernel_rfl
theorem d2O:FK d4p d4Z Tryz.f33 a33:=fun A=>by kernel_rfl
theorem d1V:FK d4D d40 Tryz.f34 a34:=fun A=>by kernel_rfl
theorem d3X:FK d11 d4Y Tryz.f35 a35:=fun A=>by kernel_rfl
theorem d2u:FK d2o d4y Tryz.f37 a37:=fun A=>by kernel_rfl
theorem d4k:FK d1G d3F Tryz.f38 a38:=fun A=>by kernel_rfl
theorem d2r:FK d3d d5w Tryz.f39 a39:=fun A=>by kernel_rfl
theorem d5o:FK d5z d3H Tryz.f40 a40:=fun A=>by kernel_rfl
theorem d2V:FK d3K d2G Tryz.f41 a41:=fun A=>by kernel_rfl
theorem d2j:FK d2m d2a Tryz.f42 a42:=fun A=>by kernel_rfl
theorem d2E:FK d26 d4C Tryz.f43 a43:=fun A=>by kernel_rfl
theorem d5g:FK d3m d1Y Tryz.f44 a44:=fun A=>by kernel_rfl
theorem d5i:FK d1S d3B Tryz.f45 a45:=fun A=>by kernel_rfl
theorem d3r:FK d3w d3E Tryz.f46 a46:=fun A=>by kernel_rfl
theorem d1T:FK d41 d2A Tryz.f48 a48:=fun A=>by kernel_rfl
theorem d19:FK d5C d3p Tryz.f50 a50:=fun A=>by kernel_rfl
theorem d5h:FK d4f d10 Tryz.f51 a51:=fun A=>by kernel_rfl
theorem d2h:FK d5x d2J Tryz.f52 a52:=fun A=>by kernel_rfl
theorem d4j:FK d20 d2L Tryz.f54 a54:=fun A=>by kernel_rfl
theorem d2W:FK d4t d5l Tryz.f55 a55:=fun A=>by kernel_rfl
theorem d16:FK d4i d3R Tryz.f56 a56:=fun A=>by kernel_rfl
theorem d3x:FK d2f d4W Tryz.f57 a57:=fun A=>by kernel_rfl
theorem d3k:FK d4P d4J Tryz.f58 a58:=fun A=>by kernel_rfl
theorem d1Z:FK d3l d4x Tryz.f59 a59:=fun A=>by kernel_rfl
theorem d23:FK d4s d29 Tryz.f60 a60:=fun A=>by kernel_rfl
theorem d5d:FK d2t d4F Tryz.f61 a61:=fun A=>by kernel_rfl
theorem d2H:FK d18 d3q Tryz.f62 a62:=fun A=>by kernel_rfl
theorem d12:FK d4d d5v Tryz.f63 a63:=fun A=>by kernel_rfl
theorem d33:FK d5c d1Q Tryz.f64 a64:=fun A=>by kernel_rfl
theorem d3J:FK d1W d2K Tryz.f65 a65:=fun A=>by kernel_rfl
theorem d4z:FK d5e d4X Tryz.f66 a66:=fun A=>by kernel_rfl
theorem d30:FK d2M d5a Tryz.f67 a67:=fun A=>by kernel_rfl
theorem d3N:FK d25 d42 Tryz.f68 a68:=fun A=>by kernel_rfl
theorem d1X:FK d3O d3s Tryz.f69 a69:=fun A=>by kernel_rfl
theorem d36:FK d14 d2U Tryz.f70 a70:=fun A=>by kernel_rfl
theorem d5r:FK d4R d5q Tryz.f71 a71:=fun A=>by kernel_rfl
theorem d4Q:FK d4q d3P Tryz.f72 a72:=fun A=>by kernel_rfl
theorem d4c:FK d4g d27 Tryz.f73 a73:=fun A=>by kernel_rfl
theorem d3M:FK d5b d3i Tryz.f74 a74:=fun A=>by kernel_rfl
theorem d2X:FK d47 d5y Tryz.f75 a75:=fun A=>by kernel_rfl
theorem d2y:FK d15 d22 Tryz.f76 a76:=fun A=>by kernel_rfl
theorem d5u:FK d2Y d2n Tryz.f77 a77:=fun A=>by kernel_rfl
theorem d2P:FK d4L d2F Tryz.f78 a78:=fun A=>by kernel_rfl
theorem d3c:FK d5B d2R Tryz.f79 a79:=fun A=>by kernel_rfl
theorem d2i:FK d4u d2p Tryz.f80 a80:=fun A=>by kernel_rfl
theorem d2C:FK d4H d32 Tryz.f81 a81:=fun A=>by kernel_rfl
theorem d3t:FK d5m d3f Tryz.f82 a82:=fun A=>by kernel_rfl
theorem d3a:FK d43 d1M Tryz.f83 a83:=fun A=>by kernel_rfl
theorem d3v:FK d1J d4S Tryz.f84 a84:=fun A=>by kernel_rfl
theorem d5F:FK d3C d46 Tryz.f85 a85:=fun A=>by kernel_rfl
theorem d3W:FK d4v d2g Tryz.f87 a87:=fun A=>by kernel_rfl
theorem d2s:FK d2N d1O Tryz.f89 a89:=fun A=>by kernel_rfl
theorem d5n:FK d4l d3g Tryz.f90 a90:=fun A=>by kernel_rfl
theorem d3G:FK d3D d3V Tryz.f91 a91:=fun A=>by kernel_rfl
theorem d2v:FK d4G d38 Tryz.f92 a92:=fun A=>by kernel_rfl
theorem d2c:FK d4I d1I Tryz.f93 a93:=fun A=>by kernel_rfl
theorem d4A:FK d2z d1L Tryz.f94 a94:=fun A=>by kernel_rfl
theorem d21:FK d2l d4o Tryz.f95 a95:=fun A=>by kernel_rfl
theorem d3L:FK d4w d45 Tryz.f96 a96:=fun A=>by kernel_rfl
theorem d1R:FK d17 d5s Tryz.f97 a97:=fun A=>by kernel_rfl
theorem d3h:FK d4e d4B Tryz.f98 a98:=fun A=>by kernel_rfl
theorem d2I:FK d44 d5A Tryz.f99 a99:=fun A=>by kernel_rfl
theorem c7X:FK c7e c8T Tryz.f100 a100:=fun A=>by kernel_rfl
theorem d0C:FK c84 d0a Tryz.f101 c5N:=fun A=>by kernel_rfl
theorem c9r:FK c9O d0y Tryz.f102 a102:=fun A=>by kernel_rfl
theorem c9X:FK c6S c6D Tryz.f103 c4n:=fun A=>by kernel_rfl
theorem c6O:FK c89 c8r Tryz.f104 c6h:=fun A=>by kernel_rfl
theorem c9Q:FK d0l c9E Tryz.f105 c3q:=fun A=>by kernel_rfl
theorem c9R:FK c7V d05 Tryz.f106 c4O:=fun A=>by kernel_rfl
theorem c8I:FK c9l c8O Tryz.f107 c4F:=fun A=>by kernel_rfl
theorem c7T:FK d0e c8M Tryz.f108 c33:=fun A=>by kernel_rfl
theorem c8S:FK c7E c7m Tryz.f109 c38:=fun A=>by kernel_rfl
theorem d1k:FK c8c d0n Tryz.f110 c5H:=fun A=>by kernel_rfl
theorem c6s:FK c68 c8y Tryz.f111 c5T:=fun A=>by kernel_rfl
theorem c8C:FK c8b c9j Tryz.f112 c4S:=fun A=>by kernel_rfl
theorem c7w:FK d0V d0Z Tryz.f113 c4A:=fun A=>by kernel_rfl
theorem c8w:FK d1D d0m Tryz.f114 c4u:=fun A=>by kernel_rfl
theorem d0S:FK c60 c8J Tryz.f115 c5M:=fun A=>by kernel_rfl
theorem d0Q:FK c9t d0h Tryz.f116 c4b:=fun A=>by kernel_rfl
theorem c9T:FK d0T c87 Tryz.f117 c4U:=fun A=>by kernel_rfl
theorem c7C:FK d1w c7p Tryz.f118 c3u:=fun A=>by kernel_rfl
theorem d08:FK d1t c9H Tryz.f119 c5x:=fun A=>by kernel_rfl
theorem c8p:FK c9e c9W Tryz.f120 c4h:=fun A=>by kernel_rfl
theorem d1v:FK c6v c6Z Tryz.f121 c3K:=fun A=>by kernel_rfl
theorem d0z:FK c9w c7J Tryz.f122 c3Q:=fun A=>by kernel_rfl
theorem c7P:FK c7A d0p Tryz.f123 c3m:=fun A=>by kernel_rfl
theorem c7R:FK c8A d1i Tryz.f124 c46:=fun A=>by kernel_rfl
theorem c7K:FK d01 c9c Tryz.f125 c4k:=fun A=>by kernel_rfl
theorem d1z:FK c7F d0J Tryz.f126 c5t:=fun A=>by kernel_rfl
theorem c79:FK c77 d1a Tryz.f127 c5j:=fun A=>by kernel_rfl
theorem c7W:FK d07 c98 Tryz.f128 c48:=fun A=>by kernel_rfl
theorem c8j:FK c7u c6r Tryz.f129 c5b:=fun A=>by kernel_rfl
theorem c9y:FK c7M c6o Tryz.f130 a130:=fun A=>by kernel_rfl
theorem c7Z:FK c8P c9v Tryz.f131 a131:=fun A=>by kernel_rfl
theorem c8X:FK d02 c9P Tryz.f132 a132:=fun A=>by kernel_rfl
theorem d0P:FK d0K d0d Tryz.f133 a133:=fun A=>by kernel_rfl
theorem c7f:FK d0X c97 Tryz.f134 a134:=fun A=>by kernel_rfl
theorem c7i:FK d0f c9G Tryz.f135 a135:=fun A=>by kernel_rfl
theorem c93:FK c7D c8L Tryz.f136 a136:=fun A=>by kernel_rfl
theorem d1d:FK c6U c6A Tryz.f139 c4l:=fun A=>by kernel_rfl
theorem c64:FK c7d d06 Tryz.f140 c3L:=fun A=>by kernel_rfl
theorem c8D:FK c7b c6L Tryz.f141 c6e:=fun A=>by kernel_rfl
theorem d03:FK d0g c8G Tryz.f142 c5y:=fun A=>by kernel_rfl
theorem c8x:FK d0q c6C Tryz.f143 a143:=fun A=>by kernel_rfl
theorem d0H:FK c7y c6F Tryz.f144 a144:=fun A=>by kernel_rfl
theorem c8n:FK c8s d1b Tryz.f145 c44:=fun A=>by kernel_rfl
theorem c7N:FK c83 c6M Tryz.f146 a146:=fun A=>by kernel_rfl
theorem c9o:FK d1e c82 Tryz.f147 a147:=fun A=>by kernel_rfl
theorem c6J:FK c7I c9C Tryz.f148 c5c:=fun A=>by kernel_rfl
theorem c7l:FK c6u d0R Tryz.f149 c3z:=fun A=>by kernel_rfl
theorem c9D:FK c6H c8R Tryz.f150 c4m:=fun A=>by kernel_rfl
theorem c85:FK c8u c7n Tryz.f151 c37:=fun A=>by kernel_rfl
theorem d0E:FK c7s c8m Tryz.f152 c5P:=fun A=>by kernel_rfl
theorem c8U:FK c6z c61 Tryz.f153 c5n:=fun A=>by kernel_rfl
theorem c8E:FK d00 c8N Tryz.f154 c4g:=fun A=>by kernel_rfl
theorem c6N:FK c75 c8B Tryz.f155 c4P:=fun A=>by kernel_rfl
theorem c63:FK d0u c7B Tryz.f156 c3N:=fun A=>by kernel_rfl
theorem c7x:FK c6t c9u Tryz.f157 c4Z:=fun A=>by kernel_rfl
theorem c88:FK c8Z d1p Tryz.f158 c31:=fun A=>by kernel_rfl
theorem c6Q:FK c9M c66 Tryz.f159 c5I:=fun A=>by kernel_rfl
theorem c95:FK c9Z c6K Tryz.f160 c5m:=fun A=>by kernel_rfl
theorem d0O:FK c7o c8Q Tryz.f161 c5U:=fun A=>by kernel_rfl
theorem c6X:FK d1f c7a Tryz.f162 c34:=fun A=>by kernel_rfl
theorem d1c:FK c7H c67 Tryz.f163 c5S:=fun A=>by kernel_rfl
theorem d1y:FK d1l c9z Tryz.f164 c4L:=fun A=>by kernel_rfl
theorem c8t:FK c6P d1o Tryz.f165 c5q:=fun A=>by kernel_rfl
theorem c9S:FK d0r c9V Tryz.f166 a166:=fun A=>by kernel_rfl
theorem c8d:FK d0Y d1A Tryz.f167 a167:=fun A=>by kernel_rfl
theorem c7k:FK c6Y c9N Tryz.f168 a168:=fun A=>by kernel_rfl
theorem c8z:FK d1q d0A Tryz.f169 a169:=fun A=>by kernel_rfl
theorem c7g:FK d0b c7c Tryz.f170 a170:=fun A=>by kernel_rfl
theorem d1x:FK c8a d0I Tryz.f171 a171:=fun A=>by kernel_rfl
theorem c9n:FK c9f d1C Tryz.f172 a172:=fun A=>by kernel_rfl
theorem c8W:FK c9s c71 Tryz.f173 a173:=fun A=>by kernel_rfl
theorem c99:FK c7j c9F Tryz.f174 a174:=fun A=>by kernel_rfl
theorem c74:FK c8Y c8K Tryz.f175 a175:=fun A=>by kernel_rfl
theorem c7q:FK c86 d1B Tryz.f177 c54:=fun A=>by kernel_rfl
theorem c90:FK c8V c8k Tryz.f178 c4N:=fun A=>by kernel_rfl
theorem d0s:FK d1s c8e Tryz.f179 c3y:=fun A=>by kernel_rfl
theorem c6W:FK c9Y c7U Tryz.f180 a180:=fun A=>by kernel_rfl
theorem c80:FK c9x c92 Tryz.f181 c4s:=fun A=>by kernel_rfl
theorem c9b:FK c9a c7L Tryz.f182 c4T:=fun A=>by kernel_rfl
theorem d1h:FK d0L c8H Tryz.f183 c4E:=fun A=>by kernel_rfl
theorem c6q:FK c9h c9B Tryz.f184 c5O:=fun A=>by kernel_rfl
theorem c73:FK c7S d0c Tryz.f185 a185:=fun A=>by kernel_rfl
theorem c81:FK c6p c6E Tryz.f186 a186:=fun A=>by kernel_rfl
theorem d0W:FK c7Q d04 Tryz.f187 a187:=fun A=>by kernel_rfl
theorem d0k:FK c9J c6I Tryz.f188 a188:=fun A=>by kernel_rfl
theorem d1u:FK c69 c8F Tryz.f189 a189:=fun A=>by kernel_rfl
theorem d0F:FK c7h c8o Tryz.f190 a190:=fun A=>by kernel_rfl
theorem d0j:FK d1r c6T Tryz.f191 a191:=fun A=>by kernel_rfl
theorem c8v:FK d09 c6V Tryz.f192 a192:=fun A=>by kernel_rfl
theorem c7r:FK c6w d0w Tryz.f193 a193:=fun A=>by kernel_rfl
theorem d0o:FK d0M d1j Tryz.f194 a194:=fun A=>by kernel_rfl
theorem c7t:FK c7z d0i Tryz.f195 a195:=fun A=>by kernel_rfl
theorem c9K:FK c6R c9I Tryz.f197 c3J:=fun A=>by kernel_rfl
theorem c6y:FK c7G c76 Tryz.f198 c3r:=fun A=>by kernel_rfl
theorem c8i:FK c8h c9d Tryz.f199 c40:=fun A=>by kernel_rfl
theorem c9A:FK c9L d0v Tryz.f200 c3Z:=fun A=>by kernel_rfl
theorem c8g:FK c78 c9g Tryz.f202 a202:=fun A=>by kernel_rfl
theorem d0N:FK c9m c91 Tryz.f203 a203:=fun A=>by kernel_rfl
theorem d1g:FK c7Y d0B Tryz.f204 c6c:=fun A=>by kernel_rfl
theorem c2Y:R1 Go.Proofs.Tryz.prog gts 53 (X9 4 72):=b08 Go.Proofs.Tryz.func53 (t:=Go.Proofs.Tryz.f53.params.getD 0 0) ⟨_,_,_,_,_,_,_,_,_,_,_,_,_,rfl,rfl,rfl,⟨rfl,rfl,rfl⟩,⟨rfl,rfl,rfl⟩,⟨rfl,rfl,rfl⟩,⟨rfl,rfl,rfl⟩,⟨rfl,rfl,rfl⟩,⟨rfl,rfl,rfl⟩,⟨rfl,rfl,rfl⟩,⟨rfl,rfl,rfl⟩,by kernel_rfl⟩
theorem c2v:R1 Go.Proofs.Tryz.prog gts 86 (X9 1 16):=b08 Go.Proofs.Tryz.func86 (t:=Go.Proofs.Tryz.f86.params.getD 0 0) ⟨_,_,_,_,_,_,_,_,_,_,_,_,_,rfl,rfl,rfl,⟨rfl,rfl,rfl⟩,⟨rfl,rfl,rfl⟩,⟨rfl,rfl,rfl⟩,⟨rfl,rfl,rfl⟩,⟨rfl,rfl,rfl⟩,⟨rfl,rfl,rfl⟩,⟨rfl,rfl,rfl⟩,⟨rfl,rfl,rfl⟩,by kernel_rfl⟩
theorem c2y:R1 Go.Proofs.Tryz.prog gts 47 (a0n 4 80):=b5v gts
theorem c29:R1 Go.Proofs.Tryz.prog gts 88 (R7 4 80):=b7M gts
theorem b8j:R1 Go.Proofs.Tryz.prog gts 201 a7D:=c4a (gi:=1) (by kernel_rfl) (List.mem_cons_of_mem _ (List.mem_singleton.2 rfl)) fun n h0 h1 w ht=>b9l n h0 h1 w ht
theorem mixed:Go.Proofs.Tryz.prog.follows .mixedOrders=true:=by kernel_rfl
theorem c5r {f:Nat} {af:AFn} (h:tbl f=some af):f < 250:=by
  rcases Nat.lt_or_ge f 250 with h1|h1
  · exact h1
  · exfalso
    have e:tblL.getD (f / 10) []=[]:=by
      rw [List.getD_eq_getElem?_getD,List.getElem?_eq_none]
      · rfl
      · show 25≤f / 10
        omega
    have h:(tblL.getD (f / 10) []).getD (f % 10) none=some af:=h
    rw [e] at h
    cases h
theorem tK {f:Nat} {fn:Func} {v b:List Nat} {a af:AFn} (h1:Go.Proofs.Tryz.prog.funcs[f]?=some fn) (h2:FK v b fn a) (h3:a1o Go.Proofs.Tryz.prog f=true) (h:some a=some af):TK f af:=by cases h; exact ⟨h3,.inl ⟨v,b,fn,h1,h2⟩⟩
theorem nK {f:Nat} {af:AFn} (h:(none:Option AFn)=some af):TK f af:=by cases h
theorem t47 (af:AFn) (h:some a47=some af):TK 47 af:=by cases h; exact ⟨by kernel_rfl,.inr ⟨_,rfl,c2y⟩⟩
theorem t53 (af:AFn) (h:some a53=some af):TK 53 af:=by cases h; exact ⟨by kernel_rfl,.inr ⟨_,rfl,c2Y⟩⟩
theorem t86 (af:AFn) (h:some a86=some af):TK 86 af:=by cases h; exact ⟨by kernel_rfl,.inr ⟨_,rfl,c2v⟩⟩
theorem t88 (af:AFn) (h:some a88=some af):TK 88 af:=by cases h; exact ⟨by kernel_rfl,.inr ⟨_,rfl,c29⟩⟩
theorem d5t (af:AFn) (h:some a201=some af):TK 201 af:=by cases h; exact ⟨by kernel_rfl,.inr ⟨_,rfl,b8j⟩⟩
theorem c1s:∀ f af,f < 250→tbl f=some af→TK f af
 | 0,_,_,h=>nK h
 | 1,_,_,h=>nK h
 | 2,_,_,h=>nK h
 | 3,_,_,h=>nK h
 | 4,_,_,h=>nK h
 | 5,_,_,h=>tK Tryz.func5 ok5 (by kernel_rfl) h
 | 6,_,_,h=>nK h
 | 7,_,_,h=>nK h
 | 8,_,_,h=>nK h
 | 9,_,_,h=>nK h
 | 10,_,_,h=>nK h
 | 11,_,_,h=>tK Tryz.func11 d4U (by kernel_rfl) h
 | 12,_,_,h=>tK Tryz.func12 d4V (by kernel_rfl) h
 | 13,_,_,h=>tK Tryz.func13 d13 (by kernel_rfl) h
 | 14,_,_,h=>nK h
 | 15,_,_,h=>tK Tryz.func15 d5j (by kernel_rfl) h
 | 16,_,_,h=>tK Tryz.func16 d3n (by kernel_rfl) h
 | 17,_,_,h=>tK Tryz.func17 d3S (by kernel_rfl) h
 | 18,_,_,h=>tK Tryz.func18 d39 (by kernel_rfl) h
 | 19,_,_,h=>tK Tryz.func19 d4M (by kernel_rfl) h
 | 20,_,_,h=>nK h
 | 21,_,_,h=>tK Tryz.func21 d35 (by kernel_rfl) h
 | 22,_,_,h=>tK Tryz.func22 d3T (by kernel_rfl) h
 | 23,_,_,h=>nK h
 | 24,_,_,h=>nK h
 | 25,_,_,h=>tK Tryz.func25 d31 (by kernel_rfl) h
 | 26,_,_,h=>nK h
 | 27,_,_,h=>nK h
 | 28,_,_,h=>nK h
 | 29,_,_,h=>tK Tryz.func29 d1F (by kernel_rfl) h
 | 30,_,_,h=>nK h
 | 31,_,_,h=>tK Tryz.func31 d2D (by kernel_rfl) h
 | 32,_,_,h=>tK Tryz.func32 d3Q (by kernel_rfl) h
 | 33,_,_,h=>tK Tryz.func33 d2O (by kernel_rfl) h
 | 34,_,_,h=>tK Tryz.func34 d1V (by kernel_rfl) h
 | 35,_,_,h=>tK Tryz.func35 d3X (by kernel_rfl) h
 | 36,_,_,h=>nK h
 | 37,_,_,h=>tK Tryz.func37 d2u (by kernel_rfl) h
 | 38,_,_,h=>tK Tryz.func38 d4k (by kernel_rfl) h
 | 39,_,_,h=>tK Tryz.func39 d2r (by kernel_rfl) h
 | 40,_,_,h=>tK Tryz.func40 d5o (by kernel_rfl) h
 | 41,_,_,h=>tK Tryz.func41 d2V (by kernel_rfl) h
 | 42,_,_,h=>tK Tryz.func42 d2j (by kernel_rfl) h
 | 43,_,_,h=>tK Tryz.func43 d2E (by kernel_rfl) h
 | 44,_,_,h=>tK Tryz.func44 d5g (by kernel_rfl) h
 | 45,_,_,h=>tK Tryz.func45 d5i (by kernel_rfl) h
 | 46,_,_,h=>tK Tryz.func46 d3r (by kernel_rfl) h
 | 47,_,_,h=>t47 _ h
 | 48,_,_,h=>tK Tryz.func48 d1T (by kernel_rfl) h
 | 49,_,_,h=>nK h
 | 50,_,_,h=>tK Tryz.func50 d19 (by kernel_rfl) h
 | 51,_,_,h=>tK Tryz.func51 d5h (by kernel_rfl) h
 | 52,_,_,h=>tK Tryz.func52 d2h (by kernel_rfl) h
 | 53,_,_,h=>t53 _ h
 | 54,_,_,h=>tK Tryz.func54 d4j (by kernel_rfl) h
 | 55,_,_,h=>tK Tryz.func55 d2W (by kernel_rfl) h
 | 56,_,_,h=>tK Tryz.func56 d16 (by kernel_rfl) h
 | 57,_,_,h=>tK Tryz.func57 d3x (by kernel_rfl) h
 | 58,_,_,h=>tK Tryz.func58 d3k (by kernel_rfl) h
 | 59,_,_,h=>tK Tryz.func59 d1Z (by kernel_rfl) h
 | 60,_,_,h=>tK Tryz.func60 d23 (by kernel_rfl) h
 | 61,_,_,h=>tK Tryz.func61 d5d (by kernel_rfl) h
 | 62,_,_,h=>tK Tryz.func62 d2H (by kernel_rfl) h
 | 63,_,_,h=>tK Tryz.func63 d12 (by kernel_rfl) h
 | 64,_,_,h=>tK Tryz.func64 d33 (by kernel_rfl) h
 | 65,_,_,h=>tK Tryz.func65 d3J (by kernel_rfl) h
 | 66,_,_,h=>tK Tryz.func66 d4z (by kernel_rfl) h
 | 67,_,_,h=>tK Tryz.func67 d30 (by kernel_rfl) h
 | 68,_,_,h=>tK Tryz.func68 d3N (by kernel_rfl) h
 | 69,_,_,h=>tK Tryz.func69 d1X (by kernel_rfl) h
 | 70,_,_,h=>tK Tryz.func70 d36 (by kernel_rfl) h
 | 71,_,_,h=>tK Tryz.func71 d5r (by kernel_rfl) h
 | 72,_,_,h=>tK Tryz.func72 d4Q (by kernel_rfl) h
 | 73,_,_,h=>tK Tryz.func73 d4c (by kernel_rfl) h
 | 74,_,_,h=>tK Tryz.func74 d3M (by kernel_rfl) h
 | 75,_,_,h=>tK Tryz.func75 d2X (by kernel_rfl) h
 | 76,_,_,h=>tK Tryz.func76 d2y (by kernel_rfl) h
 | 77,_,_,h=>tK Tryz.func77 d5u (by kernel_rfl) h
 | 78,_,_,h=>tK Tryz.func78 d2P (by kernel_rfl) h
 | 79,_,_,h=>tK Tryz.func79 d3c (by kernel_rfl) h
 | 80,_,_,h=>tK Tryz.func80 d2i (by kernel_rfl) h
 | 81,_,_,h=>tK Tryz.func81 d2C (by kernel_rfl) h
 | 82,_,_,h=>tK Tryz.func82 d3t (by kernel_rfl) h
 | 83,_,_,h=>tK Tryz.func83 d3a (by kernel_rfl) h
 | 84,_,_,h=>tK Tryz.func84 d3v (by kernel_rfl) h
 | 85,_,_,h=>tK Tryz.func85 d5F (by kernel_rfl) h
 | 86,_,_,h=>t86 _ h
 | 87,_,_,h=>tK Tryz.func87 d3W (by kernel_rfl) h
 | 88,_,_,h=>t88 _ h
 | 89,_,_,h=>tK Tryz.func89 d2s (by kernel_rfl) h
 | 90,_,_,h=>tK Tryz.func90 d5n (by kernel_rfl) h
 | 91,_,_,h=>tK Tryz.func91 d3G (by kernel_rfl) h
 | 92,_,_,h=>tK Tryz.func92 d2v (by kernel_rfl) h
 | 93,_,_,h=>tK Tryz.func93 d2c (by kernel_rfl) h
 | 94,_,_,h=>tK Tryz.func94 d4A (by kernel_rfl) h
 | 95,_,_,h=>tK Tryz.func95 d21 (by kernel_rfl) h
 | 96,_,_,h=>tK Tryz.func96 d3L (by kernel_rfl) h
 | 97,_,_,h=>tK Tryz.func97 d1R (by kernel_rfl) h
 | 98,_,_,h=>tK Tryz.func98 d3h (by kernel_rfl) h
 | 99,_,_,h=>tK Tryz.func99 d2I (by kernel_rfl) h
 | 100,_,_,h=>tK Tryz.func100 c7X (by kernel_rfl) h
 | 101,_,_,h=>tK Tryz.func101 d0C (by kernel_rfl) h
 | 102,_,_,h=>tK Tryz.func102 c9r (by kernel_rfl) h
 | 103,_,_,h=>tK Tryz.func103 c9X (by kernel_rfl) h
 | 104,_,_,h=>tK Tryz.func104 c6O (by kernel_rfl) h
 | 105,_,_,h=>tK Tryz.func105 c9Q (by kernel_rfl) h
 | 106,_,_,h=>tK Tryz.func106 c9R (by kernel_rfl) h
 | 107,_,_,h=>tK Tryz.func107 c8I (by kernel_rfl) h
 | 108,_,_,h=>tK Tryz.func108 c7T (by kernel_rfl) h
 | 109,_,_,h=>tK Tryz.func109 c8S (by kernel_rfl) h
 | 110,_,_,h=>tK Tryz.func110 d1k (by kernel_rfl) h
 | 111,_,_,h=>tK Tryz.func111 c6s (by kernel_rfl) h
 | 112,_,_,h=>tK Tryz.func112 c8C (by kernel_rfl) h
 | 113,_,_,h=>tK Tryz.func113 c7w (by kernel_rfl) h
 | 114,_,_,h=>tK Tryz.func114 c8w (by kernel_rfl) h
 | 115,_,_,h=>tK Tryz.func115 d0S (by kernel_rfl) h
 | 116,_,_,h=>tK Tryz.func116 d0Q (by kernel_rfl) h
 | 117,_,_,h=>tK Tryz.func117 c9T (by kernel_rfl) h
 | 118,_,_,h=>tK Tryz.func118 c7C (by kernel_rfl) h
 | 119,_,_,h=>tK Tryz.func119 d08 (by kernel_rfl) h
 | 120,_,_,h=>tK Tryz.func120 c8p (by kernel_rfl) h
 | 121,_,_,h=>tK Tryz.func121 d1v (by kernel_rfl) h
 | 122,_,_,h=>tK Tryz.func122 d0z (by kernel_rfl) h
 | 123,_,_,h=>tK Tryz.func123 c7P (by kernel_rfl) h
 | 124,_,_,h=>tK Tryz.func124 c7R (by kernel_rfl) h
 | 125,_,_,h=>tK Tryz.func125 c7K (by kernel_rfl) h
 | 126,_,_,h=>tK Tryz.func126 d1z (by kernel_rfl) h
 | 127,_,_,h=>tK Tryz.func127 c79 (by kernel_rfl) h
 | 128,_,_,h=>tK Tryz.func128 c7W (by kernel_rfl) h
 | 129,_,_,h=>tK Tryz.func129 c8j (by kernel_rfl) h
 | 130,_,_,h=>tK Tryz.func130 c9y (by kernel_rfl) h
 | 131,_,_,h=>tK Tryz.func131 c7Z (by kernel_rfl) h
 | 132,_,_,h=>tK Tryz.func132 c8X (by kernel_rfl) h
 | 133,_,_,h=>tK Tryz.func133 d0P (by kernel_rfl) h
 | 134,_,_,h=>tK Tryz.func134 c7f (by kernel_rfl) h
 | 135,_,_,h=>tK Tryz.func135 c7i (by kernel_rfl) h
 | 136,_,_,h=>tK Tryz.func136 c93 (by kernel_rfl) h
 | 137,_,_,h=>nK h
 | 138,_,_,h=>nK h
 | 139,_,_,h=>tK Tryz.func139 d1d (by kernel_rfl) h
 | 140,_,_,h=>tK Tryz.func140 c64 (by kernel_rfl) h
 | 141,_,_,h=>tK Tryz.func141 c8D (by kernel_rfl) h
 | 142,_,_,h=>tK Tryz.func142 d03 (by kernel_rfl) h
 | 143,_,_,h=>tK Tryz.func143 c8x (by kernel_rfl) h
 | 144,_,_,h=>tK Tryz.func144 d0H (by kernel_rfl) h
 | 145,_,_,h=>tK Tryz.func145 c8n (by kernel_rfl) h
 | 146,_,_,h=>tK Tryz.func146 c7N (by kernel_rfl) h
 | 147,_,_,h=>tK Tryz.func147 c9o (by kernel_rfl) h
 | 148,_,_,h=>tK Tryz.func148 c6J (by kernel_rfl) h
 | 149,_,_,h=>tK Tryz.func149 c7l (by kernel_rfl) h
 | 150,_,_,h=>tK Tryz.func150 c9D (by kernel_rfl) h
 | 151,_,_,h=>tK Tryz.func151 c85 (by kernel_rfl) h
 | 152,_,_,h=>tK Tryz.func152 d0E (by kernel_rfl) h
 | 153,_,_,h=>tK Tryz.func153 c8U (by kernel_rfl) h
 | 154,_,_,h=>tK Tryz.func154 c8E (by kernel_rfl) h
 | 155,_,_,h=>tK Tryz.func155 c6N (by kernel_rfl) h
 | 156,_,_,h=>tK Tryz.func156 c63 (by kernel_rfl) h
 | 157,_,_,h=>tK Tryz.func157 c7x (by kernel_rfl) h
 | 158,_,_,h=>tK Tryz.func158 c88 (by kernel_rfl) h
 | 159,_,_,h=>tK Tryz.func159 c6Q (by kernel_rfl) h
 | 160,_,_,h=>tK Tryz.func160 c95 (by kernel_rfl) h
 | 161,_,_,h=>tK Tryz.func161 d0O (by kernel_rfl) h
 | 162,_,_,h=>tK Tryz.func162 c6X (by kernel_rfl) h
 | 163,_,_,h=>tK Tryz.func163 d1c (by kernel_rfl) h
 | 164,_,_,h=>tK Tryz.func164 d1y (by kernel_rfl) h
 | 165,_,_,h=>tK Tryz.func165 c8t (by kernel_rfl) h
 | 166,_,_,h=>tK Tryz.func166 c9S (by kernel_rfl) h
 | 167,_,_,h=>tK Tryz.func167 c8d (by kernel_rfl) h
 | 168,_,_,h=>tK Tryz.func168 c7k (by kernel_rfl) h
 | 169,_,_,h=>tK Tryz.func169 c8z (by kernel_rfl) h
 | 170,_,_,h=>tK Tryz.func170 c7g (by kernel_rfl) h
 | 171,_,_,h=>tK Tryz.func171 d1x (by kernel_rfl) h
 | 172,_,_,h=>tK Tryz.func172 c9n (by kernel_rfl) h
 | 173,_,_,h=>tK Tryz.func173 c8W (by kernel_rfl) h
 | 174,_,_,h=>tK Tryz.func174 c99 (by kernel_rfl) h
 | 175,_,_,h=>tK Tryz.func175 c74 (by kernel_rfl) h
 | 176,_,_,h=>nK h
 | 177,_,_,h=>tK Tryz.func177 c7q (by kernel_rfl) h
 | 178,_,_,h=>tK Tryz.func178 c90 (by kernel_rfl) h
 | 179,_,_,h=>tK Tryz.func179 d0s (by kernel_rfl) h
 | 180,_,_,h=>tK Tryz.func180 c6W (by kernel_rfl) h
 | 181,_,_,h=>tK Tryz.func181 c80 (by kernel_rfl) h
 | 182,_,_,h=>tK Tryz.func182 c9b (by kernel_rfl) h
 | 183,_,_,h=>tK Tryz.func183 d1h (by kernel_rfl) h
 | 184,_,_,h=>tK Tryz.func184 c6q (by kernel_rfl) h
 | 185,_,_,h=>tK Tryz.func185 c73 (by kernel_rfl) h
 | 186,_,_,h=>tK Tryz.func186 c81 (by kernel_rfl) h
 | 187,_,_,h=>tK Tryz.func187 d0W (by kernel_rfl) h
 | 188,_,_,h=>tK Tryz.func188 d0k (by kernel_rfl) h
 | 189,_,_,h=>tK Tryz.func189 d1u (by kernel_rfl) h
 | 190,_,_,h=>tK Tryz.func190 d0F (by kernel_rfl) h
 | 191,_,_,h=>tK Tryz.func191 d0j (by kernel_rfl) h
 | 192,_,_,h=>tK Tryz.func192 c8v (by kernel_rfl) h
 | 193,_,_,h=>tK Tryz.func193 c7r (by kernel_rfl) h
 | 194,_,_,h=>tK Tryz.func194 d0o (by kernel_rfl) h
 | 195,_,_,h=>tK Tryz.func195 c7t (by kernel_rfl) h
 | 196,_,_,h=>nK h
 | 197,_,_,h=>tK Tryz.func197 c9K (by kernel_rfl) h
 | 198,_,_,h=>tK Tryz.func198 c6y (by kernel_rfl) h
 | 199,_,_,h=>tK Tryz.func199 c8i (by kernel_rfl) h
 | 200,_,_,h=>tK Tryz.func200 c9A (by kernel_rfl) h
 | 201,_,_,h=>d5t _ h
 | 202,_,_,h=>tK Tryz.func202 c8g (by kernel_rfl) h
 | 203,_,_,h=>tK Tryz.func203 d0N (by kernel_rfl) h
 | 204,_,_,h=>tK Tryz.func204 d1g (by kernel_rfl) h
 | 205,_,_,h=>nK h
 | 206,_,_,h=>nK h
 | 207,_,_,h=>nK h
 | 208,_,_,h=>nK h
 | 209,_,_,h=>nK h
 | 210,_,_,h=>nK h
 | 211,_,_,h=>nK h
 | 212,_,_,h=>nK h
 | 213,_,_,h=>nK h
 | 214,_,_,h=>nK h
 | 215,_,_,h=>nK h
 | 216,_,_,h=>nK h
 | 217,_,_,h=>nK h
 | 218,_,_,h=>nK h
 | 219,_,_,h=>nK h
 | 220,_,_,h=>nK h
 | 221,_,_,h=>nK h
 | 222,_,_,h=>nK h
 | 223,_,_,h=>nK h
 | 224,_,_,h=>nK h
 | 225,_,_,h=>nK h
 | 226,_,_,h=>nK h
 | 227,_,_,h=>nK h
 | 228,_,_,h=>nK h
 | 229,_,_,h=>nK h
 | 230,_,_,h=>nK h
 | 231,_,_,h=>nK h
 | 232,_,_,h=>nK h
 | 233,_,_,h=>nK h
 | 234,_,_,h=>nK h
 | 235,_,_,h=>nK h
 | 236,_,_,h=>nK h
 | 237,_,_,h=>nK h
 | 238,_,_,h=>nK h
 | 239,_,_,h=>nK h
 | 240,_,_,h=>nK h
 | 241,_,_,h=>nK h
 | 242,_,_,h=>nK h
 | 243,_,_,h=>nK h
 | 244,_,_,h=>nK h
 | 245,_,_,h=>nK h
 | 246,_,_,h=>nK h
 | 247,_,_,h=>nK h
 | 248,_,_,h=>nK h
 | 249,_,_,h=>nK h
  | n+250,_,h,_=>absurd h (by omega)
theorem c2R:ProgOK Go.Proofs.Tryz.prog gts tbl:=⟨mixed,fun f af h=>c1s f af (c5r h) h⟩
end Go.Cb.CodeA
