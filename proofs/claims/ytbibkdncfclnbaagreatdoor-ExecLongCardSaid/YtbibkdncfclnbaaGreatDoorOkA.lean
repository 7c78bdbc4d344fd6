/- That code tells the functions of the seat: the test of each function, and all of them together. No conditions. -/
import Derived.Test.YtbibkdncfclnbaaGreatDoorChecked
import Derived.KernelRfl
import Derived.Test.YtbibkdncfclnbaaGreatDoorCodeA
import Derived.Test.YtbibkdncfclnbaaGreatDoorFmL
import Derived.Test.YtbibkdncfclnbaaGreatDoorInsX
import Derived.Test.YtbibkdncfclnbaaGreatDoorDel
set_option maxRecDepth 100000
namespace Go.Cb.CodeA
open Go Go.Cb
open Go.Proofs
abbrev FK (v b:List Nat) (f:Func) (a:AFn):Prop:=∀ A,b3R Go.Proofs.Tryz.prog gts v b f a A=true
abbrev TK (f:Nat) (af:AFn):Prop:=a1n Go.Proofs.Tryz.prog f=true∧((∃ slots bxs fn,Go.Proofs.Tryz.prog.funcs[f]?=some fn∧∀ A,b3R Go.Proofs.Tryz.prog gts slots bxs fn af A=true)∨(∃ e,af.ext=some e∧Q2 Go.Proofs.Tryz.prog gts f e))
theorem ok6:FK a6v a6b Tryz.f6 a6:=fun A=>by kernel_rfl
theorem d5m:FK d2s d2a Tryz.f11 a11:=fun A=>by kernel_rfl
theorem d41:FK d21 d2t Tryz.f12 a12:=fun A=>by kernel_rfl
theorem d4y:FK d3p d3Q Tryz.f13 a13:=fun A=>by kernel_rfl
theorem d12:FK d4p d1P Tryz.f16 a16:=fun A=>by kernel_rfl
theorem d1z:FK d1A d3G Tryz.f17 a17:=fun A=>by kernel_rfl
theorem d1J:FK d1V d3R Tryz.f18 a18:=fun A=>by kernel_rfl
theorem d1C:FK d2P d3j Tryz.f19 a19:=fun A=>by kernel_rfl
theorem d4S:FK d4b d4F Tryz.f21 a21:=fun A=>by kernel_rfl
theorem d2g:FK d14 d2T Tryz.f22 a22:=fun A=>by kernel_rfl
theorem d4x:FK d22 d4X Tryz.f29 a29:=fun A=>by kernel_rfl
theorem d2m:FK d3Z d1v Tryz.f31 a31:=fun A=>by kernel_rfl
theorem d2j:FK d3d d5g Tryz.f32 a32:=fun A=>by kernel_rfl
theorem d20:FK d4v d45 Tryz.f33 a33:=fun A=>by kernel_rfl
theorem d3b:FK d4s d49 Tryz.f34 a34:=fun A=>by kernel_rfl
theorem d4J:FK d5t d1Q Tryz.f35 a35:=fun A=>by kernel_rfl
theorem d5d:FK d4W d4Z Tryz.f37 a37:=fun A=>by kernel_rfl
theorem d3x:FK d2x d3P Tryz.f38 a38:=fun A=>by kernel_rfl
theorem d2p:FK d5i d4B Tryz.f39 a39:=fun A=>by kernel_rfl
theorem d4L:FK d1w d3e Tryz.f40 a40:=fun A=>by kernel_rfl
theorem d2n:FK d3O d1s Tryz.f41 a41:=fun A=>by kernel_rfl
theorem d3H:FK d3J d4l Tryz.f42 a42:=fun A=>by kernel_rfl
theorem d5f:FK d30 d5q Tryz.f43 a43:=fun A=>by kernel_rfl
theorem d4i:FK d1H d4A Tryz.f44 a44:=fun A=>by kernel_rfl
theorem d1W:FK d4e d33 Tryz.f45 a45:=fun A=>by kernel_rfl
theorem d4U:FK d2C d2d Tryz.f46 a46:=fun A=>by kernel_rfl
theorem d3I:FK d2W d3u Tryz.f48 a48:=fun A=>by kernel_rfl
theorem d4Y:FK d10 d4t Tryz.f50 a50:=fun A=>by kernel_rfl
theorem d3m:FK d3L d3X Tryz.f51 a51:=fun A=>by kernel_rfl
theorem d3i:FK d2J d1T Tryz.f52 a52:=fun A=>by kernel_rfl
theorem d3V:FK d4h d2S Tryz.f54 a54:=fun A=>by kernel_rfl
theorem d34:FK d15 d1K Tryz.f55 a55:=fun A=>by kernel_rfl
theorem d2Z:FK d4a d2i Tryz.f56 a56:=fun A=>by kernel_rfl
theorem d5o:FK d1x d4N Tryz.f57 a57:=fun A=>by kernel_rfl
theorem d3g:FK d39 d2F Tryz.f58 a58:=fun A=>by kernel_rfl
theorem d4u:FK d1B d5r Tryz.f59 a59:=fun A=>by kernel_rfl
theorem d5u:FK d4k d2y Tryz.f60 a60:=fun A=>by kernel_rfl
theorem d2R:FK d3f d3S Tryz.f61 a61:=fun A=>by kernel_rfl
theorem d3A:FK d1U d48 Tryz.f62 a62:=fun A=>by kernel_rfl
theorem d31:FK d3Y d3t Tryz.f63 a63:=fun A=>by kernel_rfl
theorem d2h:FK d3E d2N Tryz.f64 a64:=fun A=>by kernel_rfl
theorem d3k:FK d4O d1Y Tryz.f65 a65:=fun A=>by kernel_rfl
theorem d1O:FK d4o d1F Tryz.f66 a66:=fun A=>by kernel_rfl
theorem d5a:FK d3q d2f Tryz.f67 a67:=fun A=>by kernel_rfl
theorem d1E:FK d5e d2O Tryz.f68 a68:=fun A=>by kernel_rfl
theorem d4n:FK d2H d4H Tryz.f69 a69:=fun A=>by kernel_rfl
theorem d1L:FK d4w d2D Tryz.f70 a70:=fun A=>by kernel_rfl
theorem d36:FK d4M d3o Tryz.f71 a71:=fun A=>by kernel_rfl
theorem d42:FK d4Q d3h Tryz.f72 a72:=fun A=>by kernel_rfl
theorem d3F:FK d3T d5j Tryz.f73 a73:=fun A=>by kernel_rfl
theorem d4R:FK d44 d4r Tryz.f74 a74:=fun A=>by kernel_rfl
theorem d19:FK d1t d28 Tryz.f75 a75:=fun A=>by kernel_rfl
theorem d2Y:FK d4g d2w Tryz.f76 a76:=fun A=>by kernel_rfl
theorem d18:FK d4T d2I Tryz.f77 a77:=fun A=>by kernel_rfl
theorem d5k:FK d1S d2z Tryz.f78 a78:=fun A=>by kernel_rfl
theorem d4I:FK d4m d5b Tryz.f79 a79:=fun A=>by kernel_rfl
theorem d1R:FK d37 d27 Tryz.f80 a80:=fun A=>by kernel_rfl
theorem d16:FK d2u d3B Tryz.f81 a81:=fun A=>by kernel_rfl
theorem d3C:FK d4E d1M Tryz.f82 a82:=fun A=>by kernel_rfl
theorem d11:FK d1Z d2v Tryz.f83 a83:=fun A=>by kernel_rfl
theorem d2r:FK d3l d2l Tryz.f84 a84:=fun A=>by kernel_rfl
theorem d5p:FK d3M d2V Tryz.f85 a85:=fun A=>by kernel_rfl
theorem d4G:FK d3N d17 Tryz.f87 a87:=fun A=>by kernel_rfl
theorem d1y:FK d2c d5l Tryz.f89 a89:=fun A=>by kernel_rfl
theorem d13:FK d2M d29 Tryz.f90 a90:=fun A=>by kernel_rfl
theorem d3z:FK d4d d3a Tryz.f91 a91:=fun A=>by kernel_rfl
theorem d2k:FK d3w d4C Tryz.f92 a92:=fun A=>by kernel_rfl
theorem d2Q:FK d1X d2A Tryz.f93 a93:=fun A=>by kernel_rfl
theorem d1I:FK d2U d3D Tryz.f94 a94:=fun A=>by kernel_rfl
theorem d1u:FK d35 d1G Tryz.f95 a95:=fun A=>by kernel_rfl
theorem d4j:FK d3n d3K Tryz.f96 a96:=fun A=>by kernel_rfl
theorem d5h:FK d4D d2q Tryz.f97 a97:=fun A=>by kernel_rfl
theorem d24:FK d4f d2G Tryz.f98 a98:=fun A=>by kernel_rfl
theorem d5s:FK d2E d2X Tryz.f99 a99:=fun A=>by kernel_rfl
theorem c9p:FK c8T c76 Tryz.f100 a100:=fun A=>by kernel_rfl
theorem d07:FK c7E c9J Tryz.f101 c2n:=fun A=>by kernel_rfl
theorem c5M:FK c5D c6B Tryz.f102 a102:=fun A=>by kernel_rfl
theorem c9v:FK c7M c6a Tryz.f103 c4r:=fun A=>by kernel_rfl
theorem c7Z:FK d1h c8r Tryz.f104 c5u:=fun A=>by kernel_rfl
theorem c9a:FK c6j c7l Tryz.f105 c4U:=fun A=>by kernel_rfl
theorem c7G:FK c7j c51 Tryz.f106 c2U:=fun A=>by kernel_rfl
theorem c7y:FK c7L c55 Tryz.f107 c5t:=fun A=>by kernel_rfl
theorem d0P:FK c91 d0I Tryz.f108 c4p:=fun A=>by kernel_rfl
theorem c61:FK c8g d0y Tryz.f109 c3Y:=fun A=>by kernel_rfl
theorem c7c:FK c8H c67 Tryz.f110 c3m:=fun A=>by kernel_rfl
theorem c8b:FK d0s c9f Tryz.f111 c4C:=fun A=>by kernel_rfl
theorem c7I:FK c7B c7a Tryz.f112 c4h:=fun A=>by kernel_rfl
theorem c8C:FK c8B c71 Tryz.f113 c5e:=fun A=>by kernel_rfl
theorem c9x:FK c6c c94 Tryz.f114 c3e:=fun A=>by kernel_rfl
theorem c9q:FK c5Q c83 Tryz.f115 c4I:=fun A=>by kernel_rfl
theorem c9j:FK c7i c99 Tryz.f116 c3K:=fun A=>by kernel_rfl
theorem c8z:FK d0Y c6J Tryz.f117 c4x:=fun A=>by kernel_rfl
theorem c7x:FK d0i c8Y Tryz.f118 c5s:=fun A=>by kernel_rfl
theorem c9m:FK c84 c7o Tryz.f119 c2v:=fun A=>by kernel_rfl
theorem c9T:FK c7Y c97 Tryz.f120 c4P:=fun A=>by kernel_rfl
theorem c6U:FK c9r c6F Tryz.f121 c3u:=fun A=>by kernel_rfl
theorem c7r:FK c9D c5x Tryz.f122 c49:=fun A=>by kernel_rfl
theorem c6x:FK c6Z c9Y Tryz.f123 c5m:=fun A=>by kernel_rfl
theorem d08:FK c9O c7K Tryz.f124 c2H:=fun A=>by kernel_rfl
theorem d0k:FK c9M c8q Tryz.f125 c45:=fun A=>by kernel_rfl
theorem d0V:FK c74 c57 Tryz.f126 c4A:=fun A=>by kernel_rfl
theorem c8f:FK c6E c9g Tryz.f127 c3X:=fun A=>by kernel_rfl
theorem c65:FK d1o c8I Tryz.f128 c37:=fun A=>by kernel_rfl
theorem d0v:FK c8i c8W Tryz.f129 c5b:=fun A=>by kernel_rfl
theorem d0g:FK d0A c85 Tryz.f130 a130:=fun A=>by kernel_rfl
theorem c8a:FK d0B c9n Tryz.f131 a131:=fun A=>by kernel_rfl
theorem c63:FK c7w c8O Tryz.f132 a132:=fun A=>by kernel_rfl
theorem c7J:FK c8h d0a Tryz.f133 a133:=fun A=>by kernel_rfl
theorem c6u:FK c8M c7F Tryz.f134 a134:=fun A=>by kernel_rfl
theorem c6f:FK d0q c5I Tryz.f135 a135:=fun A=>by kernel_rfl
theorem d0D:FK c6d d1a Tryz.f136 a136:=fun A=>by kernel_rfl
theorem c8N:FK d0z d0X Tryz.f139 c2r:=fun A=>by kernel_rfl
theorem c9L:FK d0l c6m Tryz.f140 c4E:=fun A=>by kernel_rfl
theorem c8w:FK d0C c6L Tryz.f141 c3q:=fun A=>by kernel_rfl
theorem c6G:FK c68 c7S Tryz.f142 c4G:=fun A=>by kernel_rfl
theorem d00:FK c8D c5C Tryz.f143 a143:=fun A=>by kernel_rfl
theorem d0b:FK c9P c8v Tryz.f144 a144:=fun A=>by kernel_rfl
theorem c5H:FK c82 c64 Tryz.f145 c4W:=fun A=>by kernel_rfl
theorem c9K:FK c8F c7W Tryz.f146 a146:=fun A=>by kernel_rfl
theorem c6o:FK d0o d1e Tryz.f147 a147:=fun A=>by kernel_rfl
theorem c9k:FK c9t d0E Tryz.f148 c2C:=fun A=>by kernel_rfl
theorem c96:FK c8Q c9b Tryz.f149 c2F:=fun A=>by kernel_rfl
theorem c89:FK d1k d1l Tryz.f150 c5q:=fun A=>by kernel_rfl
theorem c9X:FK d0x c6r Tryz.f151 c2P:=fun A=>by kernel_rfl
theorem c9W:FK d0F c9N Tryz.f152 c4T:=fun A=>by kernel_rfl
theorem c9z:FK c88 c8c Tryz.f153 c4u:=fun A=>by kernel_rfl
theorem c9Q:FK c9s c5Z Tryz.f154 c4d:=fun A=>by kernel_rfl
theorem d0Q:FK c78 c7e Tryz.f155 c43:=fun A=>by kernel_rfl
theorem c7d:FK d0u c7n Tryz.f156 c3t:=fun A=>by kernel_rfl
theorem c59:FK c7D c7m Tryz.f157 c2y:=fun A=>by kernel_rfl
theorem c8l:FK c8S c6w Tryz.f158 c4V:=fun A=>by kernel_rfl
theorem d0M:FK c9d c7A Tryz.f159 c35:=fun A=>by kernel_rfl
theorem c7C:FK c8P d0j Tryz.f160 c5k:=fun A=>by kernel_rfl
theorem c5P:FK c7q c5K Tryz.f161 c3f:=fun A=>by kernel_rfl
theorem c6i:FK c5E c8s Tryz.f162 c33:=fun A=>by kernel_rfl
theorem c8d:FK d1g d0t Tryz.f163 c42:=fun A=>by kernel_rfl
theorem c7R:FK d04 c56 Tryz.f164 c5v:=fun A=>by kernel_rfl
theorem c6I:FK c7U d0U Tryz.f165 c34:=fun A=>by kernel_rfl
theorem c6t:FK c5J d1i Tryz.f166 a166:=fun A=>by kernel_rfl
theorem c6p:FK c73 c77 Tryz.f167 a167:=fun A=>by kernel_rfl
theorem d0J:FK c86 c90 Tryz.f168 a168:=fun A=>by kernel_rfl
theorem c8x:FK c62 d0f Tryz.f169 a169:=fun A=>by kernel_rfl
theorem c5z:FK c5A d1p Tryz.f170 a170:=fun A=>by kernel_rfl
theorem c58:FK d0w c6y Tryz.f171 a171:=fun A=>by kernel_rfl
theorem c54:FK c9I c87 Tryz.f172 a172:=fun A=>by kernel_rfl
theorem c7H:FK c8p c6Y Tryz.f173 a173:=fun A=>by kernel_rfl
theorem c98:FK d0c c5L Tryz.f174 a174:=fun A=>by kernel_rfl
theorem c9C:FK c69 c6k Tryz.f175 a175:=fun A=>by kernel_rfl
theorem d0S:FK c6C c7X Tryz.f177 c28:=fun A=>by kernel_rfl
theorem c93:FK c6S c6b Tryz.f178 c4z:=fun A=>by kernel_rfl
theorem d1b:FK c8m c75 Tryz.f179 c3n:=fun A=>by kernel_rfl
theorem c6X:FK c9Z c8G Tryz.f180 a180:=fun A=>by kernel_rfl
theorem c7t:FK c7Q c7N Tryz.f181 c3Q:=fun A=>by kernel_rfl
theorem c5X:FK c60 c5F Tryz.f182 c2A:=fun A=>by kernel_rfl
theorem c6v:FK c6n c8k Tryz.f183 c5d:=fun A=>by kernel_rfl
theorem c7z:FK c7T d0O Tryz.f184 c2Y:=fun A=>by kernel_rfl
theorem c5O:FK c6V c9A Tryz.f185 a185:=fun A=>by kernel_rfl
theorem d09:FK c52 c8A Tryz.f186 a186:=fun A=>by kernel_rfl
theorem c8o:FK d06 d0T Tryz.f187 a187:=fun A=>by kernel_rfl
theorem c92:FK c5R c7h Tryz.f188 a188:=fun A=>by kernel_rfl
theorem c9G:FK c9o c8Z Tryz.f189 a189:=fun A=>by kernel_rfl
theorem c7P:FK d0G c8K Tryz.f190 a190:=fun A=>by kernel_rfl
theorem c5V:FK c9B d0m Tryz.f191 a191:=fun A=>by kernel_rfl
theorem c8E:FK c6s d1m Tryz.f192 a192:=fun A=>by kernel_rfl
theorem d1f:FK d0H c6N Tryz.f193 a193:=fun A=>by kernel_rfl
theorem c50:FK c9U d0L Tryz.f194 a194:=fun A=>by kernel_rfl
theorem c6H:FK c5W c8u Tryz.f195 a195:=fun A=>by kernel_rfl
theorem d1n:FK d1j c9F Tryz.f197 c2L:=fun A=>by kernel_rfl
theorem c6l:FK c8U c8X Tryz.f198 c5p:=fun A=>by kernel_rfl
theorem c8L:FK c9V d0n Tryz.f199 c30:=fun A=>by kernel_rfl
theorem c7g:FK d01 d02 Tryz.f200 c3W:=fun A=>by kernel_rfl
theorem c7k:FK c5y c6e Tryz.f202 a202:=fun A=>by kernel_rfl
theorem d0W:FK c6W d0N Tryz.f203 a203:=fun A=>by kernel_rfl
theorem c9e:FK c7u c6M Tryz.f204 c4s:=fun A=>by kernel_rfl
theorem c0D:Q2 Go.Proofs.Tryz.prog gts 53 (X8 4 72):=b0V Go.Proofs.Tryz.func53 (t:=Go.Proofs.Tryz.f53.params.getD 0 0) ⟨_,_,_,_,_,_,_,_,_,_,_,_,_,rfl,rfl,rfl,⟨rfl,rfl,rfl⟩,⟨rfl,rfl,rfl⟩,⟨rfl,rfl,rfl⟩,⟨rfl,rfl,rfl⟩,⟨rfl,rfl,rfl⟩,⟨rfl,rfl,rfl⟩,⟨rfl,rfl,rfl⟩,⟨rfl,rfl,rfl⟩,by kernel_rfl⟩
theorem c0U:Q2 Go.Proofs.Tryz.prog gts 86 (X8 1 16):=b0V Go.Proofs.Tryz.func86 (t:=Go.Proofs.Tryz.f86.params.getD 0 0) ⟨_,_,_,_,_,_,_,_,_,_,_,_,_,rfl,rfl,rfl,⟨rfl,rfl,rfl⟩,⟨rfl,rfl,rfl⟩,⟨rfl,rfl,rfl⟩,⟨rfl,rfl,rfl⟩,⟨rfl,rfl,rfl⟩,⟨rfl,rfl,rfl⟩,⟨rfl,rfl,rfl⟩,⟨rfl,rfl,rfl⟩,by kernel_rfl⟩
theorem c1M:Q2 Go.Proofs.Tryz.prog gts 47 (a0i 4 80):=b5l gts
theorem c0J:Q2 Go.Proofs.Tryz.prog gts 88 (Q6 4 80):=b5F gts
theorem b7I:Q2 Go.Proofs.Tryz.prog gts 201 a6L:=c5o (gi:=1) (by kernel_rfl) (List.mem_cons_of_mem _ (List.mem_singleton.2 rfl)) fun n h0 h1 w ht=>b8C n h0 h1 w ht
theorem mixed:Go.Proofs.Tryz.prog.follows .mixedOrders=true:=by kernel_rfl
theorem c3J {f:Nat} {af:AFn} (h:tbl f=some af):f < 250:=by
  rcases Nat.lt_or_ge f 250 with h1|h1
  · exact h1
  · exfalso
    have e:tblL.getD (f / 10) []=[]:=by
      rw [List.getD_eq_getElem?_getD,List.getElem?_eq_none]
      · rfl
      · show 25≤f / 10
        omega
    have h:(tblL.getD (f / 10) []).getD (f % 10) none=some af:=h
    rw [e] at h
    cases h
theorem tK {f:Nat} {fn:Func} {v b:List Nat} {a af:AFn} (h1:Go.Proofs.Tryz.prog.funcs[f]?=some fn) (h2:FK v b fn a) (h3:a1n Go.Proofs.Tryz.prog f=true) (h:some a=some af):TK f af:=by cases h; exact ⟨h3,.inl ⟨v,b,fn,h1,h2⟩⟩
theorem nK {f:Nat} {af:AFn} (h:(none:Option AFn)=some af):TK f af:=by cases h
theorem t47 (af:AFn) (h:some a47=some af):TK 47 af:=by cases h; exact ⟨by kernel_rfl,.inr ⟨_,rfl,c1M⟩⟩
theorem t53 (af:AFn) (h:some a53=some af):TK 53 af:=by cases h; exact ⟨by kernel_rfl,.inr ⟨_,rfl,c0D⟩⟩
theorem t86 (af:AFn) (h:some a86=some af):TK 86 af:=by cases h; exact ⟨by kernel_rfl,.inr ⟨_,rfl,c0U⟩⟩
theorem t88 (af:AFn) (h:some a88=some af):TK 88 af:=by cases h; exact ⟨by kernel_rfl,.inr ⟨_,rfl,c0J⟩⟩
theorem d46 (af:AFn) (h:some a201=some af):TK 201 af:=by cases h; exact ⟨by kernel_rfl,.inr ⟨_,rfl,b7I⟩⟩
theorem c0G:∀ f af,f < 250→tbl f=some af→TK f af
 | 0,_,_,h=>nK h
 | 1,_,_,h=>nK h
 | 2,_,_,h=>nK h
 | 3,_,_,h=>nK h
 | 4,_,_,h=>nK h
 | 5,_,_,h=>nK h
 | 6,_,_,h=>tK Tryz.func6 ok6 (by kernel_rfl) h
 | 7,_,_,h=>nK h
 | 8,_,_,h=>nK h
 | 9,_,_,h=>nK h
 | 10,_,_,h=>nK h
 | 11,_,_,h=>tK Tryz.func11 d5m (by kernel_rfl) h
 | 12,_,_,h=>tK Tryz.func12 d41 (by kernel_rfl) h
 | 13,_,_,h=>tK Tryz.func13 d4y (by kernel_rfl) h
 | 14,_,_,h=>nK h
 | 15,_,_,h=>nK h
 | 16,_,_,h=>tK Tryz.func16 d12 (by kernel_rfl) h
 | 17,_,_,h=>tK Tryz.func17 d1z (by kernel_rfl) h
 | 18,_,_,h=>tK Tryz.func18 d1J (by kernel_rfl) h
 | 19,_,_,h=>tK Tryz.func19 d1C (by kernel_rfl) h
 | 20,_,_,h=>nK h
 | 21,_,_,h=>tK Tryz.func21 d4S (by kernel_rfl) h
 | 22,_,_,h=>tK Tryz.func22 d2g (by kernel_rfl) h
 | 23,_,_,h=>nK h
 | 24,_,_,h=>nK h
 | 25,_,_,h=>nK h
 | 26,_,_,h=>nK h
 | 27,_,_,h=>nK h
 | 28,_,_,h=>nK h
 | 29,_,_,h=>tK Tryz.func29 d4x (by kernel_rfl) h
 | 30,_,_,h=>nK h
 | 31,_,_,h=>tK Tryz.func31 d2m (by kernel_rfl) h
 | 32,_,_,h=>tK Tryz.func32 d2j (by kernel_rfl) h
 | 33,_,_,h=>tK Tryz.func33 d20 (by kernel_rfl) h
 | 34,_,_,h=>tK Tryz.func34 d3b (by kernel_rfl) h
 | 35,_,_,h=>tK Tryz.func35 d4J (by kernel_rfl) h
 | 36,_,_,h=>nK h
 | 37,_,_,h=>tK Tryz.func37 d5d (by kernel_rfl) h
 | 38,_,_,h=>tK Tryz.func38 d3x (by kernel_rfl) h
 | 39,_,_,h=>tK Tryz.func39 d2p (by kernel_rfl) h
 | 40,_,_,h=>tK Tryz.func40 d4L (by kernel_rfl) h
 | 41,_,_,h=>tK Tryz.func41 d2n (by kernel_rfl) h
 | 42,_,_,h=>tK Tryz.func42 d3H (by kernel_rfl) h
 | 43,_,_,h=>tK Tryz.func43 d5f (by kernel_rfl) h
 | 44,_,_,h=>tK Tryz.func44 d4i (by kernel_rfl) h
 | 45,_,_,h=>tK Tryz.func45 d1W (by kernel_rfl) h
 | 46,_,_,h=>tK Tryz.func46 d4U (by kernel_rfl) h
 | 47,_,_,h=>t47 _ h
 | 48,_,_,h=>tK Tryz.func48 d3I (by kernel_rfl) h
 | 49,_,_,h=>nK h
 | 50,_,_,h=>tK Tryz.func50 d4Y (by kernel_rfl) h
 | 51,_,_,h=>tK Tryz.func51 d3m (by kernel_rfl) h
 | 52,_,_,h=>tK Tryz.func52 d3i (by kernel_rfl) h
 | 53,_,_,h=>t53 _ h
 | 54,_,_,h=>tK Tryz.func54 d3V (by kernel_rfl) h
 | 55,_,_,h=>tK Tryz.func55 d34 (by kernel_rfl) h
 | 56,_,_,h=>tK Tryz.func56 d2Z (by kernel_rfl) h
 | 57,_,_,h=>tK Tryz.func57 d5o (by kernel_rfl) h
 | 58,_,_,h=>tK Tryz.func58 d3g (by kernel_rfl) h
 | 59,_,_,h=>tK Tryz.func59 d4u (by kernel_rfl) h
 | 60,_,_,h=>tK Tryz.func60 d5u (by kernel_rfl) h
 | 61,_,_,h=>tK Tryz.func61 d2R (by kernel_rfl) h
 | 62,_,_,h=>tK Tryz.func62 d3A (by kernel_rfl) h
 | 63,_,_,h=>tK Tryz.func63 d31 (by kernel_rfl) h
 | 64,_,_,h=>tK Tryz.func64 d2h (by kernel_rfl) h
 | 65,_,_,h=>tK Tryz.func65 d3k (by kernel_rfl) h
 | 66,_,_,h=>tK Tryz.func66 d1O (by kernel_rfl) h
 | 67,_,_,h=>tK Tryz.func67 d5a (by kernel_rfl) h
 | 68,_,_,h=>tK Tryz.func68 d1E (by kernel_rfl) h
 | 69,_,_,h=>tK Tryz.func69 d4n (by kernel_rfl) h
 | 70,_,_,h=>tK Tryz.func70 d1L (by kernel_rfl) h
 | 71,_,_,h=>tK Tryz.func71 d36 (by kernel_rfl) h
 | 72,_,_,h=>tK Tryz.func72 d42 (by kernel_rfl) h
 | 73,_,_,h=>tK Tryz.func73 d3F (by kernel_rfl) h
 | 74,_,_,h=>tK Tryz.func74 d4R (by kernel_rfl) h
 | 75,_,_,h=>tK Tryz.func75 d19 (by kernel_rfl) h
 | 76,_,_,h=>tK Tryz.func76 d2Y (by kernel_rfl) h
 | 77,_,_,h=>tK Tryz.func77 d18 (by kernel_rfl) h
 | 78,_,_,h=>tK Tryz.func78 d5k (by kernel_rfl) h
 | 79,_,_,h=>tK Tryz.func79 d4I (by kernel_rfl) h
 | 80,_,_,h=>tK Tryz.func80 d1R (by kernel_rfl) h
 | 81,_,_,h=>tK Tryz.func81 d16 (by kernel_rfl) h
 | 82,_,_,h=>tK Tryz.func82 d3C (by kernel_rfl) h
 | 83,_,_,h=>tK Tryz.func83 d11 (by kernel_rfl) h
 | 84,_,_,h=>tK Tryz.func84 d2r (by kernel_rfl) h
 | 85,_,_,h=>tK Tryz.func85 d5p (by kernel_rfl) h
 | 86,_,_,h=>t86 _ h
 | 87,_,_,h=>tK Tryz.func87 d4G (by kernel_rfl) h
 | 88,_,_,h=>t88 _ h
 | 89,_,_,h=>tK Tryz.func89 d1y (by kernel_rfl) h
 | 90,_,_,h=>tK Tryz.func90 d13 (by kernel_rfl) h
 | 91,_,_,h=>tK Tryz.func91 d3z (by kernel_rfl) h
 | 92,_,_,h=>tK Tryz.func92 d2k (by kernel_rfl) h
 | 93,_,_,h=>tK Tryz.func93 d2Q (by kernel_rfl) h
 | 94,_,_,h=>tK Tryz.func94 d1I (by kernel_rfl) h
 | 95,_,_,h=>tK Tryz.func95 d1u (by kernel_rfl) h
 | 96,_,_,h=>tK Tryz.func96 d4j (by kernel_rfl) h
 | 97,_,_,h=>tK Tryz.func97 d5h (by kernel_rfl) h
 | 98,_,_,h=>tK Tryz.func98 d24 (by kernel_rfl) h
 | 99,_,_,h=>tK Tryz.func99 d5s (by kernel_rfl) h
 | 100,_,_,h=>tK Tryz.func100 c9p (by kernel_rfl) h
 | 101,_,_,h=>tK Tryz.func101 d07 (by kernel_rfl) h
 | 102,_,_,h=>tK Tryz.func102 c5M (by kernel_rfl) h
 | 103,_,_,h=>tK Tryz.func103 c9v (by kernel_rfl) h
 | 104,_,_,h=>tK Tryz.func104 c7Z (by kernel_rfl) h
 | 105,_,_,h=>tK Tryz.func105 c9a (by kernel_rfl) h
 | 106,_,_,h=>tK Tryz.func106 c7G (by kernel_rfl) h
 | 107,_,_,h=>tK Tryz.func107 c7y (by kernel_rfl) h
 | 108,_,_,h=>tK Tryz.func108 d0P (by kernel_rfl) h
 | 109,_,_,h=>tK Tryz.func109 c61 (by kernel_rfl) h
 | 110,_,_,h=>tK Tryz.func110 c7c (by kernel_rfl) h
 | 111,_,_,h=>tK Tryz.func111 c8b (by kernel_rfl) h
 | 112,_,_,h=>tK Tryz.func112 c7I (by kernel_rfl) h
 | 113,_,_,h=>tK Tryz.func113 c8C (by kernel_rfl) h
 | 114,_,_,h=>tK Tryz.func114 c9x (by kernel_rfl) h
 | 115,_,_,h=>tK Tryz.func115 c9q (by kernel_rfl) h
 | 116,_,_,h=>tK Tryz.func116 c9j (by kernel_rfl) h
 | 117,_,_,h=>tK Tryz.func117 c8z (by kernel_rfl) h
 | 118,_,_,h=>tK Tryz.func118 c7x (by kernel_rfl) h
 | 119,_,_,h=>tK Tryz.func119 c9m (by kernel_rfl) h
 | 120,_,_,h=>tK Tryz.func120 c9T (by kernel_rfl) h
 | 121,_,_,h=>tK Tryz.func121 c6U (by kernel_rfl) h
 | 122,_,_,h=>tK Tryz.func122 c7r (by kernel_rfl) h
 | 123,_,_,h=>tK Tryz.func123 c6x (by kernel_rfl) h
 | 124,_,_,h=>tK Tryz.func124 d08 (by kernel_rfl) h
 | 125,_,_,h=>tK Tryz.func125 d0k (by kernel_rfl) h
 | 126,_,_,h=>tK Tryz.func126 d0V (by kernel_rfl) h
 | 127,_,_,h=>tK Tryz.func127 c8f (by kernel_rfl) h
 | 128,_,_,h=>tK Tryz.func128 c65 (by kernel_rfl) h
 | 129,_,_,h=>tK Tryz.func129 d0v (by kernel_rfl) h
 | 130,_,_,h=>tK Tryz.func130 d0g (by kernel_rfl) h
 | 131,_,_,h=>tK Tryz.func131 c8a (by kernel_rfl) h
 | 132,_,_,h=>tK Tryz.func132 c63 (by kernel_rfl) h
 | 133,_,_,h=>tK Tryz.func133 c7J (by kernel_rfl) h
 | 134,_,_,h=>tK Tryz.func134 c6u (by kernel_rfl) h
 | 135,_,_,h=>tK Tryz.func135 c6f (by kernel_rfl) h
 | 136,_,_,h=>tK Tryz.func136 d0D (by kernel_rfl) h
 | 137,_,_,h=>nK h
 | 138,_,_,h=>nK h
 | 139,_,_,h=>tK Tryz.func139 c8N (by kernel_rfl) h
 | 140,_,_,h=>tK Tryz.func140 c9L (by kernel_rfl) h
 | 141,_,_,h=>tK Tryz.func141 c8w (by kernel_rfl) h
 | 142,_,_,h=>tK Tryz.func142 c6G (by kernel_rfl) h
 | 143,_,_,h=>tK Tryz.func143 d00 (by kernel_rfl) h
 | 144,_,_,h=>tK Tryz.func144 d0b (by kernel_rfl) h
 | 145,_,_,h=>tK Tryz.func145 c5H (by kernel_rfl) h
 | 146,_,_,h=>tK Tryz.func146 c9K (by kernel_rfl) h
 | 147,_,_,h=>tK Tryz.func147 c6o (by kernel_rfl) h
 | 148,_,_,h=>tK Tryz.func148 c9k (by kernel_rfl) h
 | 149,_,_,h=>tK Tryz.func149 c96 (by kernel_rfl) h
 | 150,_,_,h=>tK Tryz.func150 c89 (by kernel_rfl) h
 | 151,_,_,h=>tK Tryz.func151 c9X (by kernel_rfl) h
 | 152,_,_,h=>tK Tryz.func152 c9W (by kernel_rfl) h
 | 153,_,_,h=>tK Tryz.func153 c9z (by kernel_rfl) h
 | 154,_,_,h=>tK Tryz.func154 c9Q (by kernel_rfl) h
 | 155,_,_,h=>tK Tryz.func155 d0Q (by kernel_rfl) h
 | 156,_,_,h=>tK Tryz.func156 c7d (by kernel_rfl) h
 | 157,_,_,h=>tK Tryz.func157 c59 (by kernel_rfl) h
 | 158,_,_,h=>tK Tryz.func158 c8l (by kernel_rfl) h
 | 159,_,_,h=>tK Tryz.func159 d0M (by kernel_rfl) h
 | 160,_,_,h=>tK Tryz.func160 c7C (by kernel_rfl) h
 | 161,_,_,h=>tK Tryz.func161 c5P (by kernel_rfl) h
 | 162,_,_,h=>tK Tryz.func162 c6i (by kernel_rfl) h
 | 163,_,_,h=>tK Tryz.func163 c8d (by kernel_rfl) h
 | 164,_,_,h=>tK Tryz.func164 c7R (by kernel_rfl) h
 | 165,_,_,h=>tK Tryz.func165 c6I (by kernel_rfl) h
 | 166,_,_,h=>tK Tryz.func166 c6t (by kernel_rfl) h
 | 167,_,_,h=>tK Tryz.func167 c6p (by kernel_rfl) h
 | 168,_,_,h=>tK Tryz.func168 d0J (by kernel_rfl) h
 | 169,_,_,h=>tK Tryz.func169 c8x (by kernel_rfl) h
 | 170,_,_,h=>tK Tryz.func170 c5z (by kernel_rfl) h
 | 171,_,_,h=>tK Tryz.func171 c58 (by kernel_rfl) h
 | 172,_,_,h=>tK Tryz.func172 c54 (by kernel_rfl) h
 | 173,_,_,h=>tK Tryz.func173 c7H (by kernel_rfl) h
 | 174,_,_,h=>tK Tryz.func174 c98 (by kernel_rfl) h
 | 175,_,_,h=>tK Tryz.func175 c9C (by kernel_rfl) h
 | 176,_,_,h=>nK h
 | 177,_,_,h=>tK Tryz.func177 d0S (by kernel_rfl) h
 | 178,_,_,h=>tK Tryz.func178 c93 (by kernel_rfl) h
 | 179,_,_,h=>tK Tryz.func179 d1b (by kernel_rfl) h
 | 180,_,_,h=>tK Tryz.func180 c6X (by kernel_rfl) h
 | 181,_,_,h=>tK Tryz.func181 c7t (by kernel_rfl) h
 | 182,_,_,h=>tK Tryz.func182 c5X (by kernel_rfl) h
 | 183,_,_,h=>tK Tryz.func183 c6v (by kernel_rfl) h
 | 184,_,_,h=>tK Tryz.func184 c7z (by kernel_rfl) h
 | 185,_,_,h=>tK Tryz.func185 c5O (by kernel_rfl) h
 | 186,_,_,h=>tK Tryz.func186 d09 (by kernel_rfl) h
 | 187,_,_,h=>tK Tryz.func187 c8o (by kernel_rfl) h
 | 188,_,_,h=>tK Tryz.func188 c92 (by kernel_rfl) h
 | 189,_,_,h=>tK Tryz.func189 c9G (by kernel_rfl) h
 | 190,_,_,h=>tK Tryz.func190 c7P (by kernel_rfl) h
 | 191,_,_,h=>tK Tryz.func191 c5V (by kernel_rfl) h
 | 192,_,_,h=>tK Tryz.func192 c8E (by kernel_rfl) h
 | 193,_,_,h=>tK Tryz.func193 d1f (by kernel_rfl) h
 | 194,_,_,h=>tK Tryz.func194 c50 (by kernel_rfl) h
 | 195,_,_,h=>tK Tryz.func195 c6H (by kernel_rfl) h
 | 196,_,_,h=>nK h
 | 197,_,_,h=>tK Tryz.func197 d1n (by kernel_rfl) h
 | 198,_,_,h=>tK Tryz.func198 c6l (by kernel_rfl) h
 | 199,_,_,h=>tK Tryz.func199 c8L (by kernel_rfl) h
 | 200,_,_,h=>tK Tryz.func200 c7g (by kernel_rfl) h
 | 201,_,_,h=>d46 _ h
 | 202,_,_,h=>tK Tryz.func202 c7k (by kernel_rfl) h
 | 203,_,_,h=>tK Tryz.func203 d0W (by kernel_rfl) h
 | 204,_,_,h=>tK Tryz.func204 c9e (by kernel_rfl) h
 | 205,_,_,h=>nK h
 | 206,_,_,h=>nK h
 | 207,_,_,h=>nK h
 | 208,_,_,h=>nK h
 | 209,_,_,h=>nK h
 | 210,_,_,h=>nK h
 | 211,_,_,h=>nK h
 | 212,_,_,h=>nK h
 | 213,_,_,h=>nK h
 | 214,_,_,h=>nK h
 | 215,_,_,h=>nK h
 | 216,_,_,h=>nK h
 | 217,_,_,h=>nK h
 | 218,_,_,h=>nK h
 | 219,_,_,h=>nK h
 | 220,_,_,h=>nK h
 | 221,_,_,h=>nK h
 | 222,_,_,h=>nK h
 | 223,_,_,h=>nK h
 | 224,_,_,h=>nK h
 | 225,_,_,h=>nK h
 | 226,_,_,h=>nK h
 | 227,_,_,h=>nK h
 | 228,_,_,h=>nK h
 | 229,_,_,h=>nK h
 | 230,_,_,h=>nK h
 | 231,_,_,h=>nK h
 | 232,_,_,h=>nK h
 | 233,_,_,h=>nK h
 | 234,_,_,h=>nK h
 | 235,_,_,h=>nK h
 | 236,_,_,h=>nK h
 | 237,_,_,h=>nK h
 | 238,_,_,h=>nK h
 | 239,_,_,h=>nK h
 | 240,_,_,h=>nK h
 | 241,_,_,h=>nK h
 | 242,_,_,h=>nK h
 | 243,_,_,h=>nK h
 | 244,_,_,h=>nK h
 | 245,_,_,h=>nK h
 | 246,_,_,h=>nK h
 | 247,_,_,h=>nK h
 | 248,_,_,h=>nK h
 | 249,_,_,h=>nK h
  | n+250,_,h,_=>absurd h (by omega)
theorem c1K:ProgOK Go.Proofs.Tryz.prog gts tbl:=⟨mixed,fun f af h=>c0G f af (c3J h) h⟩
end Go.Cb.CodeA
