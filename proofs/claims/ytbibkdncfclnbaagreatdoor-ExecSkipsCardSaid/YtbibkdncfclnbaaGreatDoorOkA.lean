/- That code tells the functions of the seat: the test of each function, and all of them together. No conditions. -/
import Derived.Test.YtbibkdncfclnbaaGreatDoorChecked
import Derived.KernelRfl
import Derived.Test.YtbibkdncfclnbaaGreatDoorCodeA
import Derived.Test.YtbibkdncfclnbaaGreatDoorFmL
import Derived.Test.YtbibkdncfclnbaaGreatDoorInsX
import Derived.Test.YtbibkdncfclnbaaGreatDoorDel
set_option maxRecDepth 100000
namespace Go.Cb.CodeA
open Go Go.Cb
open Go.Proofs
abbrev FK (v b:List Nat) (f:Func) (a:AFn):Prop:=∀ A,b3W Go.Proofs.Tryz.prog gts v b f a A=true
abbrev TK (f:Nat) (af:AFn):Prop:=a1J Go.Proofs.Tryz.prog f=true∧((∃ slots bxs fn,Go.Proofs.Tryz.prog.funcs[f]?=some fn∧∀ A,b3W Go.Proofs.Tryz.prog gts slots bxs fn af A=true)∨(∃ e,af.ext=some e∧R4 Go.Proofs.Tryz.prog gts f e))
theorem ok7:FK a7v a7b Tryz.f7 a7:=fun A=>by kernel_rfl
theorem d3s:FK d22 d2G Tryz.f11 a11:=fun A=>by kernel_rfl
theorem d46:FK d5e d5C Tryz.f12 a12:=fun A=>by kernel_rfl
theorem d4K:FK d2w d4t Tryz.f13 a13:=fun A=>by kernel_rfl
theorem d52:FK d4o d2J Tryz.f15 a15:=fun A=>by kernel_rfl
theorem d5O:FK d2A d3e Tryz.f16 a16:=fun A=>by kernel_rfl
theorem d5U:FK d4X d5l Tryz.f17 a17:=fun A=>by kernel_rfl
theorem d4R:FK d36 d37 Tryz.f18 a18:=fun A=>by kernel_rfl
theorem d4C:FK d5r d2R Tryz.f19 a19:=fun A=>by kernel_rfl
theorem d3x:FK d2T d5V Tryz.f20 a20:=fun A=>by kernel_rfl
theorem d4L:FK d3S d3o Tryz.f21 a21:=fun A=>by kernel_rfl
theorem d3T:FK d35 d5S Tryz.f22 a22:=fun A=>by kernel_rfl
theorem d2p:FK d2E d59 Tryz.f25 a25:=fun A=>by kernel_rfl
theorem d4x:FK d2s d5g Tryz.f29 a29:=fun A=>by kernel_rfl
theorem d23:FK d4W d6i Tryz.f31 a31:=fun A=>by kernel_rfl
theorem d41:FK d6b d4H Tryz.f32 a32:=fun A=>by kernel_rfl
theorem d3n:FK d5B d3v Tryz.f33 a33:=fun A=>by kernel_rfl
theorem d5k:FK d5Y d2N Tryz.f34 a34:=fun A=>by kernel_rfl
theorem d3d:FK d2C d5G Tryz.f35 a35:=fun A=>by kernel_rfl
theorem d5x:FK d3p d3a Tryz.f37 a37:=fun A=>by kernel_rfl
theorem d49:FK d5Q d3r Tryz.f38 a38:=fun A=>by kernel_rfl
theorem d5E:FK d5P d5M Tryz.f39 a39:=fun A=>by kernel_rfl
theorem d4D:FK d2h d28 Tryz.f40 a40:=fun A=>by kernel_rfl
theorem d5v:FK d3l d3P Tryz.f41 a41:=fun A=>by kernel_rfl
theorem d54:FK d3t d2X Tryz.f42 a42:=fun A=>by kernel_rfl
theorem d42:FK d5d d4a Tryz.f43 a43:=fun A=>by kernel_rfl
theorem d39:FK d4B d5s Tryz.f44 a44:=fun A=>by kernel_rfl
theorem d2o:FK d2H d2t Tryz.f45 a45:=fun A=>by kernel_rfl
theorem d3q:FK d3D d3R Tryz.f46 a46:=fun A=>by kernel_rfl
theorem d44:FK d4V d21 Tryz.f48 a48:=fun A=>by kernel_rfl
theorem d5L:FK d6d d27 Tryz.f50 a50:=fun A=>by kernel_rfl
theorem d26:FK d3w d5a Tryz.f51 a51:=fun A=>by kernel_rfl
theorem d5H:FK d5u d4P Tryz.f52 a52:=fun A=>by kernel_rfl
theorem d4c:FK d2l d4g Tryz.f54 a54:=fun A=>by kernel_rfl
theorem d3j:FK d4A d3u Tryz.f55 a55:=fun A=>by kernel_rfl
theorem d3U:FK d4b d3c Tryz.f56 a56:=fun A=>by kernel_rfl
theorem d2x:FK d6e d4d Tryz.f57 a57:=fun A=>by kernel_rfl
theorem d2Z:FK d2S d51 Tryz.f58 a58:=fun A=>by kernel_rfl
theorem d29:FK d2m d2D Tryz.f59 a59:=fun A=>by kernel_rfl
theorem d6a:FK d5T d3B Tryz.f60 a60:=fun A=>by kernel_rfl
theorem d2q:FK d2K d5N Tryz.f61 a61:=fun A=>by kernel_rfl
theorem d48:FK d4i d47 Tryz.f62 a62:=fun A=>by kernel_rfl
theorem d4T:FK d4v d4E Tryz.f63 a63:=fun A=>by kernel_rfl
theorem d3Y:FK d25 d2g Tryz.f64 a64:=fun A=>by kernel_rfl
theorem d3W:FK d5X d4n Tryz.f65 a65:=fun A=>by kernel_rfl
theorem d56:FK d2U d4F Tryz.f66 a66:=fun A=>by kernel_rfl
theorem d3z:FK d5Z d5q Tryz.f67 a67:=fun A=>by kernel_rfl
theorem d4p:FK d2V d3M Tryz.f68 a68:=fun A=>by kernel_rfl
theorem d2Y:FK d55 d3X Tryz.f69 a69:=fun A=>by kernel_rfl
theorem d5f:FK d31 d4z Tryz.f70 a70:=fun A=>by kernel_rfl
theorem d5K:FK d2i d3L Tryz.f71 a71:=fun A=>by kernel_rfl
theorem d50:FK d5J d3K Tryz.f72 a72:=fun A=>by kernel_rfl
theorem d5n:FK d3F d2I Tryz.f73 a73:=fun A=>by kernel_rfl
theorem d2M:FK d4I d3J Tryz.f74 a74:=fun A=>by kernel_rfl
theorem d5R:FK d4G d4h Tryz.f75 a75:=fun A=>by kernel_rfl
theorem d4S:FK d5D d4y Tryz.f76 a76:=fun A=>by kernel_rfl
theorem d3C:FK d5W d4w Tryz.f77 a77:=fun A=>by kernel_rfl
theorem d57:FK d3h d4f Tryz.f78 a78:=fun A=>by kernel_rfl
theorem d4k:FK d3m d2F Tryz.f79 a79:=fun A=>by kernel_rfl
theorem d6h:FK d4j d5y Tryz.f80 a80:=fun A=>by kernel_rfl
theorem d3k:FK d3g d4e Tryz.f81 a81:=fun A=>by kernel_rfl
theorem d3I:FK d3G d2O Tryz.f82 a82:=fun A=>by kernel_rfl
theorem d3f:FK d5j d6f Tryz.f83 a83:=fun A=>by kernel_rfl
theorem d5p:FK d2j d2P Tryz.f84 a84:=fun A=>by kernel_rfl
theorem d2k:FK d45 d32 Tryz.f85 a85:=fun A=>by kernel_rfl
theorem d4r:FK d2y d2r Tryz.f87 a87:=fun A=>by kernel_rfl
theorem d3H:FK d34 d3A Tryz.f89 a89:=fun A=>by kernel_rfl
theorem d3b:FK d4m d2B Tryz.f90 a90:=fun A=>by kernel_rfl
theorem d38:FK d5i d3Z Tryz.f91 a91:=fun A=>by kernel_rfl
theorem d2L:FK d4Y d2n Tryz.f92 a92:=fun A=>by kernel_rfl
theorem d5b:FK d4N d3y Tryz.f93 a93:=fun A=>by kernel_rfl
theorem d2v:FK d4J d5h Tryz.f94 a94:=fun A=>by kernel_rfl
theorem d5t:FK d5m d24 Tryz.f95 a95:=fun A=>by kernel_rfl
theorem d5F:FK d20 d3E Tryz.f96 a96:=fun A=>by kernel_rfl
theorem d53:FK d5z d2u Tryz.f97 a97:=fun A=>by kernel_rfl
theorem d4s:FK d58 d4U Tryz.f98 a98:=fun A=>by kernel_rfl
theorem d3N:FK d2Q d5w Tryz.f99 a99:=fun A=>by kernel_rfl
theorem c8O:FK c99 c9H Tryz.f100 a100:=fun A=>by kernel_rfl
theorem c8I:FK c96 c85 Tryz.f101 c56:=fun A=>by kernel_rfl
theorem c9u:FK c93 c9l Tryz.f102 a102:=fun A=>by kernel_rfl
theorem c7f:FK d02 d0d Tryz.f103 c6a:=fun A=>by kernel_rfl
theorem d04:FK c6V c6X Tryz.f104 c4i:=fun A=>by kernel_rfl
theorem d1o:FK d0i c9m Tryz.f105 c43:=fun A=>by kernel_rfl
theorem d1N:FK c8d c9w Tryz.f106 c4Q:=fun A=>by kernel_rfl
theorem d1C:FK c8F d0s Tryz.f107 c6t:=fun A=>by kernel_rfl
theorem c7v:FK c9D c6P Tryz.f108 c6r:=fun A=>by kernel_rfl
theorem d01:FK d1a c9J Tryz.f109 c4H:=fun A=>by kernel_rfl
theorem c9Z:FK d1X d0D Tryz.f110 c3I:=fun A=>by kernel_rfl
theorem c7a:FK c61 c9z Tryz.f111 c5o:=fun A=>by kernel_rfl
theorem d1i:FK d0X c9r Tryz.f112 c53:=fun A=>by kernel_rfl
theorem d09:FK c8G d1U Tryz.f113 c5V:=fun A=>by kernel_rfl
theorem d1O:FK c6R c95 Tryz.f114 c5I:=fun A=>by kernel_rfl
theorem c9W:FK c9R d0t Tryz.f115 c42:=fun A=>by kernel_rfl
theorem d0x:FK d1Q c65 Tryz.f116 c5C:=fun A=>by kernel_rfl
theorem c8n:FK d1q c8E Tryz.f117 c45:=fun A=>by kernel_rfl
theorem d1L:FK d1h c7F Tryz.f118 c4M:=fun A=>by kernel_rfl
theorem d0n:FK c9a c6U Tryz.f119 c5A:=fun A=>by kernel_rfl
theorem d0v:FK d1B c8o Tryz.f120 c5r:=fun A=>by kernel_rfl
theorem c9X:FK d0K d1d Tryz.f121 c33:=fun A=>by kernel_rfl
theorem c80:FK c7S c9x Tryz.f122 c4g:=fun A=>by kernel_rfl
theorem c9T:FK c7t d1H Tryz.f123 c5y:=fun A=>by kernel_rfl
theorem c8x:FK c72 d10 Tryz.f124 c6C:=fun A=>by kernel_rfl
theorem c7V:FK c8g c8X Tryz.f125 c3D:=fun A=>by kernel_rfl
theorem c7Y:FK c7Q c7z Tryz.f126 c41:=fun A=>by kernel_rfl
theorem d1k:FK c8B c8c Tryz.f127 c6w:=fun A=>by kernel_rfl
theorem c7j:FK c6W d0m Tryz.f128 c6b:=fun A=>by kernel_rfl
theorem d0F:FK c7M d0f Tryz.f129 c5X:=fun A=>by kernel_rfl
theorem c7r:FK d1z d0q Tryz.f130 a130:=fun A=>by kernel_rfl
theorem d1e:FK c6T c74 Tryz.f131 a131:=fun A=>by kernel_rfl
theorem c7K:FK c7o c8N Tryz.f132 a132:=fun A=>by kernel_rfl
theorem d11:FK c6S d2a Tryz.f133 a133:=fun A=>by kernel_rfl
theorem d1D:FK d0U c9G Tryz.f134 a134:=fun A=>by kernel_rfl
theorem d0R:FK c7R c7h Tryz.f135 a135:=fun A=>by kernel_rfl
theorem c8a:FK c94 c7y Tryz.f136 a136:=fun A=>by kernel_rfl
theorem d0P:FK c98 c7H Tryz.f139 c5L:=fun A=>by kernel_rfl
theorem d1j:FK d0j c79 Tryz.f140 c55:=fun A=>by kernel_rfl
theorem c9M:FK d0h c67 Tryz.f141 c5O:=fun A=>by kernel_rfl
theorem d0E:FK c7p c9F Tryz.f142 c4X:=fun A=>by kernel_rfl
theorem c89:FK c7P c9p Tryz.f143 a143:=fun A=>by kernel_rfl
theorem c7k:FK d1E d0H Tryz.f144 a144:=fun A=>by kernel_rfl
theorem d2b:FK c9O d0w Tryz.f145 c31:=fun A=>by kernel_rfl
theorem d0A:FK c9n c7e Tryz.f146 a146:=fun A=>by kernel_rfl
theorem c8P:FK d0W d0O Tryz.f147 a147:=fun A=>by kernel_rfl
theorem c8R:FK d1g c7C Tryz.f148 c46:=fun A=>by kernel_rfl
theorem d1W:FK d07 c7N Tryz.f149 c4b:=fun A=>by kernel_rfl
theorem c71:FK c8q c8D Tryz.f150 c5B:=fun A=>by kernel_rfl
theorem d1K:FK c9E c64 Tryz.f151 c5N:=fun A=>by kernel_rfl
theorem c8M:FK c87 c7X Tryz.f152 c4u:=fun A=>by kernel_rfl
theorem c8J:FK d13 d1p Tryz.f153 c40:=fun A=>by kernel_rfl
theorem d1y:FK d16 c73 Tryz.f154 c6p:=fun A=>by kernel_rfl
theorem c8e:FK c9V d00 Tryz.f155 c6B:=fun A=>by kernel_rfl
theorem d1J:FK d0r c7w Tryz.f156 c37:=fun A=>by kernel_rfl
theorem d1P:FK d0a d1R Tryz.f157 c30:=fun A=>by kernel_rfl
theorem c77:FK d0T d1v Tryz.f158 c6y:=fun A=>by kernel_rfl
theorem c9U:FK c7W c7u Tryz.f159 c4D:=fun A=>by kernel_rfl
theorem c7O:FK c69 d1r Tryz.f160 c59:=fun A=>by kernel_rfl
theorem d14:FK c7n c8f Tryz.f161 c4p:=fun A=>by kernel_rfl
theorem c63:FK c60 d1c Tryz.f162 c5k:=fun A=>by kernel_rfl
theorem c9A:FK c76 d1T Tryz.f163 c5R:=fun A=>by kernel_rfl
theorem c9Y:FK c9t c7L Tryz.f164 c6v:=fun A=>by kernel_rfl
theorem c6Z:FK c9c d1b Tryz.f165 c4x:=fun A=>by kernel_rfl
theorem c7b:FK c81 c9P Tryz.f166 a166:=fun A=>by kernel_rfl
theorem d1S:FK c8j c7i Tryz.f167 a167:=fun A=>by kernel_rfl
theorem c6Y:FK c7q d17 Tryz.f168 a168:=fun A=>by kernel_rfl
theorem c7B:FK c68 c7T Tryz.f169 a169:=fun A=>by kernel_rfl
theorem c7A:FK d0y c8C Tryz.f170 a170:=fun A=>by kernel_rfl
theorem c8A:FK d2e d18 Tryz.f171 a171:=fun A=>by kernel_rfl
theorem d2d:FK c8L c8v Tryz.f172 a172:=fun A=>by kernel_rfl
theorem d0M:FK d0B d1A Tryz.f173 a173:=fun A=>by kernel_rfl
theorem d2c:FK d0l c7E Tryz.f174 a174:=fun A=>by kernel_rfl
theorem d0k:FK c83 c7x Tryz.f175 a175:=fun A=>by kernel_rfl
theorem c8W:FK c9s d0e Tryz.f177 c5t:=fun A=>by kernel_rfl
theorem c9K:FK c8w c90 Tryz.f178 c3C:=fun A=>by kernel_rfl
theorem d0Y:FK c9N c9f Tryz.f179 c4T:=fun A=>by kernel_rfl
theorem c8Y:FK c7s d1u Tryz.f180 a180:=fun A=>by kernel_rfl
theorem c9b:FK d0N d0C Tryz.f181 c5K:=fun A=>by kernel_rfl
theorem d1V:FK d0V c8V Tryz.f182 c4G:=fun A=>by kernel_rfl
theorem c7c:FK c8U c8r Tryz.f183 c4t:=fun A=>by kernel_rfl
theorem d08:FK c88 d1f Tryz.f184 c4q:=fun A=>by kernel_rfl
theorem d0g:FK c9j c8H Tryz.f185 a185:=fun A=>by kernel_rfl
theorem c8u:FK c8T c8K Tryz.f186 a186:=fun A=>by kernel_rfl
theorem c8p:FK d03 d0p Tryz.f187 a187:=fun A=>by kernel_rfl
theorem d0b:FK c9I c8b Tryz.f188 a188:=fun A=>by kernel_rfl
theorem d1Z:FK d1x c8S Tryz.f189 a189:=fun A=>by kernel_rfl
theorem c9o:FK d1w c91 Tryz.f190 a190:=fun A=>by kernel_rfl
theorem d0c:FK c9d c9C Tryz.f191 a191:=fun A=>by kernel_rfl
theorem c7J:FK c84 c6Q Tryz.f192 a192:=fun A=>by kernel_rfl
theorem c8s:FK c8z d19 Tryz.f193 a193:=fun A=>by kernel_rfl
theorem c9e:FK c78 d1n Tryz.f194 a194:=fun A=>by kernel_rfl
theorem d1F:FK d1M d1t Tryz.f195 a195:=fun A=>by kernel_rfl
theorem c66:FK d1m c9L Tryz.f197 c6A:=fun A=>by kernel_rfl
theorem d0z:FK c8l c9k Tryz.f198 c5n:=fun A=>by kernel_rfl
theorem c7l:FK c7Z c8k Tryz.f199 c3U:=fun A=>by kernel_rfl
theorem c7D:FK d0S c8t Tryz.f200 c5J:=fun A=>by kernel_rfl
theorem c9g:FK d0Z c8h Tryz.f202 a202:=fun A=>by kernel_rfl
theorem d0G:FK c8i c75 Tryz.f203 a203:=fun A=>by kernel_rfl
theorem c7G:FK c8y c92 Tryz.f204 c35:=fun A=>by kernel_rfl
theorem c3b:R4 Go.Proofs.Tryz.prog gts 53 (Y5 4 72):=b0c Go.Proofs.Tryz.func53 (t:=Go.Proofs.Tryz.f53.params.getD 0 0) ⟨_,_,_,_,_,_,_,_,_,_,_,_,_,rfl,rfl,rfl,⟨rfl,rfl,rfl⟩,⟨rfl,rfl,rfl⟩,⟨rfl,rfl,rfl⟩,⟨rfl,rfl,rfl⟩,⟨rfl,rfl,rfl⟩,⟨rfl,rfl,rfl⟩,⟨rfl,rfl,rfl⟩,⟨rfl,rfl,rfl⟩,by kernel_rfl⟩
theorem c3l:R4 Go.Proofs.Tryz.prog gts 86 (Y5 1 16):=b0c Go.Proofs.Tryz.func86 (t:=Go.Proofs.Tryz.f86.params.getD 0 0) ⟨_,_,_,_,_,_,_,_,_,_,_,_,_,rfl,rfl,rfl,⟨rfl,rfl,rfl⟩,⟨rfl,rfl,rfl⟩,⟨rfl,rfl,rfl⟩,⟨rfl,rfl,rfl⟩,⟨rfl,rfl,rfl⟩,⟨rfl,rfl,rfl⟩,⟨rfl,rfl,rfl⟩,⟨rfl,rfl,rfl⟩,by kernel_rfl⟩
theorem c2z:R4 Go.Proofs.Tryz.prog gts 47 (a0y 4 80):=b6B gts
theorem c1R:R4 Go.Proofs.Tryz.prog gts 88 (S4 4 80):=b41 gts
theorem b9g:R4 Go.Proofs.Tryz.prog gts 201 a7u:=c3Z (gi:=1) (by kernel_rfl) (List.mem_cons_of_mem _ (List.mem_singleton.2 rfl)) fun n h0 h1 w ht=>b9l n h0 h1 w ht
theorem mixed:Go.Proofs.Tryz.prog.follows .mixedOrders=true:=by kernel_rfl
theorem c6L {f:Nat} {af:AFn} (h:tbl f=some af):f < 250:=by
  rcases Nat.lt_or_ge f 250 with h1|h1
  · exact h1
  · exfalso
    have e:tblL.getD (f / 10) []=[]:=by
      rw [List.getD_eq_getElem?_getD,List.getElem?_eq_none]
      · rfl
      · show 25≤f / 10
        omega
    have h:(tblL.getD (f / 10) []).getD (f % 10) none=some af:=h
    rw [e] at h
    cases h
theorem tK {f:Nat} {fn:Func} {v b:List Nat} {a af:AFn} (h1:Go.Proofs.Tryz.prog.funcs[f]?=some fn) (h2:FK v b fn a) (h3:a1J Go.Proofs.Tryz.prog f=true) (h:some a=some af):TK f af:=by cases h; exact ⟨h3,.inl ⟨v,b,fn,h1,h2⟩⟩
theorem nK {f:Nat} {af:AFn} (h:(none:Option AFn)=some af):TK f af:=by cases h
theorem t47 (af:AFn) (h:some a47=some af):TK 47 af:=by cases h; exact ⟨by kernel_rfl,.inr ⟨_,rfl,c2z⟩⟩
theorem t53 (af:AFn) (h:some a53=some af):TK 53 af:=by cases h; exact ⟨by kernel_rfl,.inr ⟨_,rfl,c3b⟩⟩
theorem t86 (af:AFn) (h:some a86=some af):TK 86 af:=by cases h; exact ⟨by kernel_rfl,.inr ⟨_,rfl,c3l⟩⟩
theorem t88 (af:AFn) (h:some a88=some af):TK 88 af:=by cases h; exact ⟨by kernel_rfl,.inr ⟨_,rfl,c1R⟩⟩
theorem d4Z (af:AFn) (h:some a201=some af):TK 201 af:=by cases h; exact ⟨by kernel_rfl,.inr ⟨_,rfl,b9g⟩⟩
theorem c2b:∀ f af,f < 250→tbl f=some af→TK f af
 | 0,_,_,h=>nK h
 | 1,_,_,h=>nK h
 | 2,_,_,h=>nK h
 | 3,_,_,h=>nK h
 | 4,_,_,h=>nK h
 | 5,_,_,h=>nK h
 | 6,_,_,h=>nK h
 | 7,_,_,h=>tK Tryz.func7 ok7 (by kernel_rfl) h
 | 8,_,_,h=>nK h
 | 9,_,_,h=>nK h
 | 10,_,_,h=>nK h
 | 11,_,_,h=>tK Tryz.func11 d3s (by kernel_rfl) h
 | 12,_,_,h=>tK Tryz.func12 d46 (by kernel_rfl) h
 | 13,_,_,h=>tK Tryz.func13 d4K (by kernel_rfl) h
 | 14,_,_,h=>nK h
 | 15,_,_,h=>tK Tryz.func15 d52 (by kernel_rfl) h
 | 16,_,_,h=>tK Tryz.func16 d5O (by kernel_rfl) h
 | 17,_,_,h=>tK Tryz.func17 d5U (by kernel_rfl) h
 | 18,_,_,h=>tK Tryz.func18 d4R (by kernel_rfl) h
 | 19,_,_,h=>tK Tryz.func19 d4C (by kernel_rfl) h
 | 20,_,_,h=>tK Tryz.func20 d3x (by kernel_rfl) h
 | 21,_,_,h=>tK Tryz.func21 d4L (by kernel_rfl) h
 | 22,_,_,h=>tK Tryz.func22 d3T (by kernel_rfl) h
 | 23,_,_,h=>nK h
 | 24,_,_,h=>nK h
 | 25,_,_,h=>tK Tryz.func25 d2p (by kernel_rfl) h
 | 26,_,_,h=>nK h
 | 27,_,_,h=>nK h
 | 28,_,_,h=>nK h
 | 29,_,_,h=>tK Tryz.func29 d4x (by kernel_rfl) h
 | 30,_,_,h=>nK h
 | 31,_,_,h=>tK Tryz.func31 d23 (by kernel_rfl) h
 | 32,_,_,h=>tK Tryz.func32 d41 (by kernel_rfl) h
 | 33,_,_,h=>tK Tryz.func33 d3n (by kernel_rfl) h
 | 34,_,_,h=>tK Tryz.func34 d5k (by kernel_rfl) h
 | 35,_,_,h=>tK Tryz.func35 d3d (by kernel_rfl) h
 | 36,_,_,h=>nK h
 | 37,_,_,h=>tK Tryz.func37 d5x (by kernel_rfl) h
 | 38,_,_,h=>tK Tryz.func38 d49 (by kernel_rfl) h
 | 39,_,_,h=>tK Tryz.func39 d5E (by kernel_rfl) h
 | 40,_,_,h=>tK Tryz.func40 d4D (by kernel_rfl) h
 | 41,_,_,h=>tK Tryz.func41 d5v (by kernel_rfl) h
 | 42,_,_,h=>tK Tryz.func42 d54 (by kernel_rfl) h
 | 43,_,_,h=>tK Tryz.func43 d42 (by kernel_rfl) h
 | 44,_,_,h=>tK Tryz.func44 d39 (by kernel_rfl) h
 | 45,_,_,h=>tK Tryz.func45 d2o (by kernel_rfl) h
 | 46,_,_,h=>tK Tryz.func46 d3q (by kernel_rfl) h
 | 47,_,_,h=>t47 _ h
 | 48,_,_,h=>tK Tryz.func48 d44 (by kernel_rfl) h
 | 49,_,_,h=>nK h
 | 50,_,_,h=>tK Tryz.func50 d5L (by kernel_rfl) h
 | 51,_,_,h=>tK Tryz.func51 d26 (by kernel_rfl) h
 | 52,_,_,h=>tK Tryz.func52 d5H (by kernel_rfl) h
 | 53,_,_,h=>t53 _ h
 | 54,_,_,h=>tK Tryz.func54 d4c (by kernel_rfl) h
 | 55,_,_,h=>tK Tryz.func55 d3j (by kernel_rfl) h
 | 56,_,_,h=>tK Tryz.func56 d3U (by kernel_rfl) h
 | 57,_,_,h=>tK Tryz.func57 d2x (by kernel_rfl) h
 | 58,_,_,h=>tK Tryz.func58 d2Z (by kernel_rfl) h
 | 59,_,_,h=>tK Tryz.func59 d29 (by kernel_rfl) h
 | 60,_,_,h=>tK Tryz.func60 d6a (by kernel_rfl) h
 | 61,_,_,h=>tK Tryz.func61 d2q (by kernel_rfl) h
 | 62,_,_,h=>tK Tryz.func62 d48 (by kernel_rfl) h
 | 63,_,_,h=>tK Tryz.func63 d4T (by kernel_rfl) h
 | 64,_,_,h=>tK Tryz.func64 d3Y (by kernel_rfl) h
 | 65,_,_,h=>tK Tryz.func65 d3W (by kernel_rfl) h
 | 66,_,_,h=>tK Tryz.func66 d56 (by kernel_rfl) h
 | 67,_,_,h=>tK Tryz.func67 d3z (by kernel_rfl) h
 | 68,_,_,h=>tK Tryz.func68 d4p (by kernel_rfl) h
 | 69,_,_,h=>tK Tryz.func69 d2Y (by kernel_rfl) h
 | 70,_,_,h=>tK Tryz.func70 d5f (by kernel_rfl) h
 | 71,_,_,h=>tK Tryz.func71 d5K (by kernel_rfl) h
 | 72,_,_,h=>tK Tryz.func72 d50 (by kernel_rfl) h
 | 73,_,_,h=>tK Tryz.func73 d5n (by kernel_rfl) h
 | 74,_,_,h=>tK Tryz.func74 d2M (by kernel_rfl) h
 | 75,_,_,h=>tK Tryz.func75 d5R (by kernel_rfl) h
 | 76,_,_,h=>tK Tryz.func76 d4S (by kernel_rfl) h
 | 77,_,_,h=>tK Tryz.func77 d3C (by kernel_rfl) h
 | 78,_,_,h=>tK Tryz.func78 d57 (by kernel_rfl) h
 | 79,_,_,h=>tK Tryz.func79 d4k (by kernel_rfl) h
 | 80,_,_,h=>tK Tryz.func80 d6h (by kernel_rfl) h
 | 81,_,_,h=>tK Tryz.func81 d3k (by kernel_rfl) h
 | 82,_,_,h=>tK Tryz.func82 d3I (by kernel_rfl) h
 | 83,_,_,h=>tK Tryz.func83 d3f (by kernel_rfl) h
 | 84,_,_,h=>tK Tryz.func84 d5p (by kernel_rfl) h
 | 85,_,_,h=>tK Tryz.func85 d2k (by kernel_rfl) h
 | 86,_,_,h=>t86 _ h
 | 87,_,_,h=>tK Tryz.func87 d4r (by kernel_rfl) h
 | 88,_,_,h=>t88 _ h
 | 89,_,_,h=>tK Tryz.func89 d3H (by kernel_rfl) h
 | 90,_,_,h=>tK Tryz.func90 d3b (by kernel_rfl) h
 | 91,_,_,h=>tK Tryz.func91 d38 (by kernel_rfl) h
 | 92,_,_,h=>tK Tryz.func92 d2L (by kernel_rfl) h
 | 93,_,_,h=>tK Tryz.func93 d5b (by kernel_rfl) h
 | 94,_,_,h=>tK Tryz.func94 d2v (by kernel_rfl) h
 | 95,_,_,h=>tK Tryz.func95 d5t (by kernel_rfl) h
 | 96,_,_,h=>tK Tryz.func96 d5F (by kernel_rfl) h
 | 97,_,_,h=>tK Tryz.func97 d53 (by kernel_rfl) h
 | 98,_,_,h=>tK Tryz.func98 d4s (by kernel_rfl) h
 | 99,_,_,h=>tK Tryz.func99 d3N (by kernel_rfl) h
 | 100,_,_,h=>tK Tryz.func100 c8O (by kernel_rfl) h
 | 101,_,_,h=>tK Tryz.func101 c8I (by kernel_rfl) h
 | 102,_,_,h=>tK Tryz.func102 c9u (by kernel_rfl) h
 | 103,_,_,h=>tK Tryz.func103 c7f (by kernel_rfl) h
 | 104,_,_,h=>tK Tryz.func104 d04 (by kernel_rfl) h
 | 105,_,_,h=>tK Tryz.func105 d1o (by kernel_rfl) h
 | 106,_,_,h=>tK Tryz.func106 d1N (by kernel_rfl) h
 | 107,_,_,h=>tK Tryz.func107 d1C (by kernel_rfl) h
 | 108,_,_,h=>tK Tryz.func108 c7v (by kernel_rfl) h
 | 109,_,_,h=>tK Tryz.func109 d01 (by kernel_rfl) h
 | 110,_,_,h=>tK Tryz.func110 c9Z (by kernel_rfl) h
 | 111,_,_,h=>tK Tryz.func111 c7a (by kernel_rfl) h
 | 112,_,_,h=>tK Tryz.func112 d1i (by kernel_rfl) h
 | 113,_,_,h=>tK Tryz.func113 d09 (by kernel_rfl) h
 | 114,_,_,h=>tK Tryz.func114 d1O (by kernel_rfl) h
 | 115,_,_,h=>tK Tryz.func115 c9W (by kernel_rfl) h
 | 116,_,_,h=>tK Tryz.func116 d0x (by kernel_rfl) h
 | 117,_,_,h=>tK Tryz.func117 c8n (by kernel_rfl) h
 | 118,_,_,h=>tK Tryz.func118 d1L (by kernel_rfl) h
 | 119,_,_,h=>tK Tryz.func119 d0n (by kernel_rfl) h
 | 120,_,_,h=>tK Tryz.func120 d0v (by kernel_rfl) h
 | 121,_,_,h=>tK Tryz.func121 c9X (by kernel_rfl) h
 | 122,_,_,h=>tK Tryz.func122 c80 (by kernel_rfl) h
 | 123,_,_,h=>tK Tryz.func123 c9T (by kernel_rfl) h
 | 124,_,_,h=>tK Tryz.func124 c8x (by kernel_rfl) h
 | 125,_,_,h=>tK Tryz.func125 c7V (by kernel_rfl) h
 | 126,_,_,h=>tK Tryz.func126 c7Y (by kernel_rfl) h
 | 127,_,_,h=>tK Tryz.func127 d1k (by kernel_rfl) h
 | 128,_,_,h=>tK Tryz.func128 c7j (by kernel_rfl) h
 | 129,_,_,h=>tK Tryz.func129 d0F (by kernel_rfl) h
 | 130,_,_,h=>tK Tryz.func130 c7r (by kernel_rfl) h
 | 131,_,_,h=>tK Tryz.func131 d1e (by kernel_rfl) h
 | 132,_,_,h=>tK Tryz.func132 c7K (by kernel_rfl) h
 | 133,_,_,h=>tK Tryz.func133 d11 (by kernel_rfl) h
 | 134,_,_,h=>tK Tryz.func134 d1D (by kernel_rfl) h
 | 135,_,_,h=>tK Tryz.func135 d0R (by kernel_rfl) h
 | 136,_,_,h=>tK Tryz.func136 c8a (by kernel_rfl) h
 | 137,_,_,h=>nK h
 | 138,_,_,h=>nK h
 | 139,_,_,h=>tK Tryz.func139 d0P (by kernel_rfl) h
 | 140,_,_,h=>tK Tryz.func140 d1j (by kernel_rfl) h
 | 141,_,_,h=>tK Tryz.func141 c9M (by kernel_rfl) h
 | 142,_,_,h=>tK Tryz.func142 d0E (by kernel_rfl) h
 | 143,_,_,h=>tK Tryz.func143 c89 (by kernel_rfl) h
 | 144,_,_,h=>tK Tryz.func144 c7k (by kernel_rfl) h
 | 145,_,_,h=>tK Tryz.func145 d2b (by kernel_rfl) h
 | 146,_,_,h=>tK Tryz.func146 d0A (by kernel_rfl) h
 | 147,_,_,h=>tK Tryz.func147 c8P (by kernel_rfl) h
 | 148,_,_,h=>tK Tryz.func148 c8R (by kernel_rfl) h
 | 149,_,_,h=>tK Tryz.func149 d1W (by kernel_rfl) h
 | 150,_,_,h=>tK Tryz.func150 c71 (by kernel_rfl) h
 | 151,_,_,h=>tK Tryz.func151 d1K (by kernel_rfl) h
 | 152,_,_,h=>tK Tryz.func152 c8M (by kernel_rfl) h
 | 153,_,_,h=>tK Tryz.func153 c8J (by kernel_rfl) h
 | 154,_,_,h=>tK Tryz.func154 d1y (by kernel_rfl) h
 | 155,_,_,h=>tK Tryz.func155 c8e (by kernel_rfl) h
 | 156,_,_,h=>tK Tryz.func156 d1J (by kernel_rfl) h
 | 157,_,_,h=>tK Tryz.func157 d1P (by kernel_rfl) h
 | 158,_,_,h=>tK Tryz.func158 c77 (by kernel_rfl) h
 | 159,_,_,h=>tK Tryz.func159 c9U (by kernel_rfl) h
 | 160,_,_,h=>tK Tryz.func160 c7O (by kernel_rfl) h
 | 161,_,_,h=>tK Tryz.func161 d14 (by kernel_rfl) h
 | 162,_,_,h=>tK Tryz.func162 c63 (by kernel_rfl) h
 | 163,_,_,h=>tK Tryz.func163 c9A (by kernel_rfl) h
 | 164,_,_,h=>tK Tryz.func164 c9Y (by kernel_rfl) h
 | 165,_,_,h=>tK Tryz.func165 c6Z (by kernel_rfl) h
 | 166,_,_,h=>tK Tryz.func166 c7b (by kernel_rfl) h
 | 167,_,_,h=>tK Tryz.func167 d1S (by kernel_rfl) h
 | 168,_,_,h=>tK Tryz.func168 c6Y (by kernel_rfl) h
 | 169,_,_,h=>tK Tryz.func169 c7B (by kernel_rfl) h
 | 170,_,_,h=>tK Tryz.func170 c7A (by kernel_rfl) h
 | 171,_,_,h=>tK Tryz.func171 c8A (by kernel_rfl) h
 | 172,_,_,h=>tK Tryz.func172 d2d (by kernel_rfl) h
 | 173,_,_,h=>tK Tryz.func173 d0M (by kernel_rfl) h
 | 174,_,_,h=>tK Tryz.func174 d2c (by kernel_rfl) h
 | 175,_,_,h=>tK Tryz.func175 d0k (by kernel_rfl) h
 | 176,_,_,h=>nK h
 | 177,_,_,h=>tK Tryz.func177 c8W (by kernel_rfl) h
 | 178,_,_,h=>tK Tryz.func178 c9K (by kernel_rfl) h
 | 179,_,_,h=>tK Tryz.func179 d0Y (by kernel_rfl) h
 | 180,_,_,h=>tK Tryz.func180 c8Y (by kernel_rfl) h
 | 181,_,_,h=>tK Tryz.func181 c9b (by kernel_rfl) h
 | 182,_,_,h=>tK Tryz.func182 d1V (by kernel_rfl) h
 | 183,_,_,h=>tK Tryz.func183 c7c (by kernel_rfl) h
 | 184,_,_,h=>tK Tryz.func184 d08 (by kernel_rfl) h
 | 185,_,_,h=>tK Tryz.func185 d0g (by kernel_rfl) h
 | 186,_,_,h=>tK Tryz.func186 c8u (by kernel_rfl) h
 | 187,_,_,h=>tK Tryz.func187 c8p (by kernel_rfl) h
 | 188,_,_,h=>tK Tryz.func188 d0b (by kernel_rfl) h
 | 189,_,_,h=>tK Tryz.func189 d1Z (by kernel_rfl) h
 | 190,_,_,h=>tK Tryz.func190 c9o (by kernel_rfl) h
 | 191,_,_,h=>tK Tryz.func191 d0c (by kernel_rfl) h
 | 192,_,_,h=>tK Tryz.func192 c7J (by kernel_rfl) h
 | 193,_,_,h=>tK Tryz.func193 c8s (by kernel_rfl) h
 | 194,_,_,h=>tK Tryz.func194 c9e (by kernel_rfl) h
 | 195,_,_,h=>tK Tryz.func195 d1F (by kernel_rfl) h
 | 196,_,_,h=>nK h
 | 197,_,_,h=>tK Tryz.func197 c66 (by kernel_rfl) h
 | 198,_,_,h=>tK Tryz.func198 d0z (by kernel_rfl) h
 | 199,_,_,h=>tK Tryz.func199 c7l (by kernel_rfl) h
 | 200,_,_,h=>tK Tryz.func200 c7D (by kernel_rfl) h
 | 201,_,_,h=>d4Z _ h
 | 202,_,_,h=>tK Tryz.func202 c9g (by kernel_rfl) h
 | 203,_,_,h=>tK Tryz.func203 d0G (by kernel_rfl) h
 | 204,_,_,h=>tK Tryz.func204 c7G (by kernel_rfl) h
 | 205,_,_,h=>nK h
 | 206,_,_,h=>nK h
 | 207,_,_,h=>nK h
 | 208,_,_,h=>nK h
 | 209,_,_,h=>nK h
 | 210,_,_,h=>nK h
 | 211,_,_,h=>nK h
 | 212,_,_,h=>nK h
 | 213,_,_,h=>nK h
 | 214,_,_,h=>nK h
 | 215,_,_,h=>nK h
 | 216,_,_,h=>nK h
 | 217,_,_,h=>nK h
 | 218,_,_,h=>nK h
 | 219,_,_,h=>nK h
 | 220,_,_,h=>nK h
 | 221,_,_,h=>nK h
 | 222,_,_,h=>nK h
 | 223,_,_,h=>nK h
 | 224,_,_,h=>nK h
 | 225,_,_,h=>nK h
 | 226,_,_,h=>nK h
 | 227,_,_,h=>nK h
 | 228,_,_,h=>nK h
 | 229,_,_,h=>nK h
 | 230,_,_,h=>nK h
 | 231,_,_,h=>nK h
 | 232,_,_,h=>nK h
 | 233,_,_,h=>nK h
 | 234,_,_,h=>nK h
 | 235,_,_,h=>nK h
 | 236,_,_,h=>nK h
 | 237,_,_,h=>nK h
 | 238,_,_,h=>nK h
 | 239,_,_,h=>nK h
 | 240,_,_,h=>nK h
 | 241,_,_,h=>nK h
 | 242,_,_,h=>nK h
 | 243,_,_,h=>nK h
 | 244,_,_,h=>nK h
 | 245,_,_,h=>nK h
 | 246,_,_,h=>nK h
 | 247,_,_,h=>nK h
 | 248,_,_,h=>nK h
 | 249,_,_,h=>nK h
  | n+250,_,h,_=>absurd h (by omega)
theorem c1H:ProgOK Go.Proofs.Tryz.prog gts tbl:=⟨mixed,fun f af h=>c2b f af (c6L h) h⟩
end Go.Cb.CodeA
