import Derived.Test.YtbibkdncfclnbaaGreatDoorChecked
import Derived.KernelRfl
import Derived.Test.YtbibkdncfclnbaaGreatDoorCodeA
import Derived.Test.YtbibkdncfclnbaaGreatDoorFmL
import Derived.Test.YtbibkdncfclnbaaGreatDoorInsX
import Derived.Test.YtbibkdncfclnbaaGreatDoorDel
set_option maxRecDepth 100000
namespace Go.Cb.CodeA
open Go Go.Cb
open Go.Proofs
abbrev FK (v b:List Nat) (f:Func) (a:AFn):Prop:=∀ A,b6h Go.Proofs.Tryz.prog gts v b f a A=true
abbrev TK (f:Nat) (af:AFn):Prop:=a2v Go.Proofs.Tryz.prog f=true∧((∃ slots bxs fn,Go.Proofs.Tryz.prog.funcs[f]?=some fn∧∀ A,b6h Go.Proofs.Tryz.prog gts slots bxs fn af A=true)∨(∃ e,af.ext=some e∧T1 Go.Proofs.Tryz.prog gts f e))
theorem ok8:FK a8v a8b Tryz.f8 a8:=fun A=>by kernel_rfl
theorem d5h:FK d5N d76 Tryz.f11 a11:=fun A=>by kernel_rfl
theorem d5G:FK d4w d4G Tryz.f12 a12:=fun A=>by kernel_rfl
theorem d6j:FK d5H d5g Tryz.f13 a13:=fun A=>by kernel_rfl
theorem d8a:FK d7h d69 Tryz.f15 a15:=fun A=>by kernel_rfl
theorem d4n:FK d5O d7S Tryz.f16 a16:=fun A=>by kernel_rfl
theorem d7k:FK d41 d47 Tryz.f17 a17:=fun A=>by kernel_rfl
theorem d6v:FK d4e d8s Tryz.f18 a18:=fun A=>by kernel_rfl
theorem d73:FK d6w d5K Tryz.f19 a19:=fun A=>by kernel_rfl
theorem d6r:FK d74 d8h Tryz.f21 a21:=fun A=>by kernel_rfl
theorem d8m:FK d5T d5S Tryz.f22 a22:=fun A=>by kernel_rfl
theorem d6I:FK d5a d78 Tryz.f25 a25:=fun A=>by kernel_rfl
theorem d6G:FK d5v d5M Tryz.f29 a29:=fun A=>by kernel_rfl
theorem d5d:FK d65 d6a Tryz.f31 a31:=fun A=>by kernel_rfl
theorem d6L:FK d8i d6b Tryz.f32 a32:=fun A=>by kernel_rfl
theorem d7v:FK d4C d4D Tryz.f33 a33:=fun A=>by kernel_rfl
theorem d5s:FK d7w d5o Tryz.f34 a34:=fun A=>by kernel_rfl
theorem d5p:FK d5I d5J Tryz.f35 a35:=fun A=>by kernel_rfl
theorem d5Y:FK d6f d5z Tryz.f37 a37:=fun A=>by kernel_rfl
theorem d68:FK d4J d6x Tryz.f38 a38:=fun A=>by kernel_rfl
theorem d6o:FK d7A d6T Tryz.f39 a39:=fun A=>by kernel_rfl
theorem d4y:FK d5y d5f Tryz.f40 a40:=fun A=>by kernel_rfl
theorem d7Z:FK d7W d4q Tryz.f41 a41:=fun A=>by kernel_rfl
theorem d6i:FK d8j d43 Tryz.f42 a42:=fun A=>by kernel_rfl
theorem d5E:FK d6H d4S Tryz.f43 a43:=fun A=>by kernel_rfl
theorem d52:FK d5u d5B Tryz.f44 a44:=fun A=>by kernel_rfl
theorem d4l:FK d4T d75 Tryz.f45 a45:=fun A=>by kernel_rfl
theorem d5x:FK d6t d4f Tryz.f46 a46:=fun A=>by kernel_rfl
theorem d7P:FK d6F d4t Tryz.f48 a48:=fun A=>by kernel_rfl
theorem d5P:FK d42 d5V Tryz.f50 a50:=fun A=>by kernel_rfl
theorem d7t:FK d4U d4A Tryz.f51 a51:=fun A=>by kernel_rfl
theorem d4Q:FK d8p d7f Tryz.f52 a52:=fun A=>by kernel_rfl
theorem d7B:FK d7U d4s Tryz.f54 a54:=fun A=>by kernel_rfl
theorem d7p:FK d5L d7V Tryz.f55 a55:=fun A=>by kernel_rfl
theorem d4d:FK d7y d4g Tryz.f56 a56:=fun A=>by kernel_rfl
theorem d7R:FK d7g d4k Tryz.f57 a57:=fun A=>by kernel_rfl
theorem d7i:FK d7N d8w Tryz.f58 a58:=fun A=>by kernel_rfl
theorem d7K:FK d54 d60 Tryz.f59 a59:=fun A=>by kernel_rfl
theorem d61:FK d5t d8k Tryz.f60 a60:=fun A=>by kernel_rfl
theorem d6S:FK d59 d7M Tryz.f61 a61:=fun A=>by kernel_rfl
theorem d6c:FK d5W d4m Tryz.f62 a62:=fun A=>by kernel_rfl
theorem d7l:FK d6u d7T Tryz.f63 a63:=fun A=>by kernel_rfl
theorem d7d:FK d5A d4L Tryz.f64 a64:=fun A=>by kernel_rfl
theorem d7q:FK d7o d6d Tryz.f65 a65:=fun A=>by kernel_rfl
theorem d8e:FK d7x d6R Tryz.f66 a66:=fun A=>by kernel_rfl
theorem d6s:FK d8n d8d Tryz.f67 a67:=fun A=>by kernel_rfl
theorem d6X:FK d7D d8u Tryz.f68 a68:=fun A=>by kernel_rfl
theorem d6P:FK d8g d56 Tryz.f69 a69:=fun A=>by kernel_rfl
theorem d5e:FK d7s d7E Tryz.f70 a70:=fun A=>by kernel_rfl
theorem d4a:FK d64 d66 Tryz.f71 a71:=fun A=>by kernel_rfl
theorem d4H:FK d4K d48 Tryz.f72 a72:=fun A=>by kernel_rfl
theorem d4Y:FK d4p d4Z Tryz.f73 a73:=fun A=>by kernel_rfl
theorem d4P:FK d7b d7r Tryz.f74 a74:=fun A=>by kernel_rfl
theorem d6e:FK d72 d4N Tryz.f75 a75:=fun A=>by kernel_rfl
theorem d8l:FK d6C d6D Tryz.f76 a76:=fun A=>by kernel_rfl
theorem d6O:FK d6E d6K Tryz.f77 a77:=fun A=>by kernel_rfl
theorem d51:FK d5c d6h Tryz.f78 a78:=fun A=>by kernel_rfl
theorem d6Y:FK d5C d7u Tryz.f79 a79:=fun A=>by kernel_rfl
theorem d6m:FK d7j d7m Tryz.f80 a80:=fun A=>by kernel_rfl
theorem d4o:FK d5Z d5l Tryz.f81 a81:=fun A=>by kernel_rfl
theorem d4r:FK d4E d7X Tryz.f82 a82:=fun A=>by kernel_rfl
theorem d7Q:FK d7L d6N Tryz.f83 a83:=fun A=>by kernel_rfl
theorem d58:FK d7a d4b Tryz.f84 a84:=fun A=>by kernel_rfl
theorem d4z:FK d6l d4j Tryz.f85 a85:=fun A=>by kernel_rfl
theorem d4x:FK d8v d7z Tryz.f87 a87:=fun A=>by kernel_rfl
theorem d6Q:FK d8o d7Y Tryz.f89 a89:=fun A=>by kernel_rfl
theorem d8r:FK d4X d6n Tryz.f90 a90:=fun A=>by kernel_rfl
theorem d5R:FK d44 d8q Tryz.f91 a91:=fun A=>by kernel_rfl
theorem d71:FK d5F d5Q Tryz.f92 a92:=fun A=>by kernel_rfl
theorem d4c:FK d57 d7J Tryz.f93 a93:=fun A=>by kernel_rfl
theorem d4B:FK d6W d6V Tryz.f94 a94:=fun A=>by kernel_rfl
theorem d7n:FK d7C d5i Tryz.f95 a95:=fun A=>by kernel_rfl
theorem d7F:FK d79 d4W Tryz.f96 a96:=fun A=>by kernel_rfl
theorem d7O:FK d5b d6B Tryz.f97 a97:=fun A=>by kernel_rfl
theorem d5X:FK d6g d55 Tryz.f98 a98:=fun A=>by kernel_rfl
theorem d6Z:FK d8f d7I Tryz.f99 a99:=fun A=>by kernel_rfl
theorem d1Q:FK d2K d2p Tryz.f100 a100:=fun A=>by kernel_rfl
theorem d0H:FK d3M c9M Tryz.f101 c7h:=fun A=>by kernel_rfl
theorem d0j:FK d26 d3G Tryz.f102 a102:=fun A=>by kernel_rfl
theorem d3w:FK d3r d1h Tryz.f103 c5X:=fun A=>by kernel_rfl
theorem d0b:FK d0q c82 Tryz.f104 c8A:=fun A=>by kernel_rfl
theorem d1x:FK d2V d1t Tryz.f105 c8m:=fun A=>by kernel_rfl
theorem d0u:FK c9U c9N Tryz.f106 c7o:=fun A=>by kernel_rfl
theorem d2e:FK c9W d30 Tryz.f107 c7s:=fun A=>by kernel_rfl
theorem c9i:FK d1H d1I Tryz.f108 c5O:=fun A=>by kernel_rfl
theorem d3q:FK c8Z d3Z Tryz.f109 c5U:=fun A=>by kernel_rfl
theorem d3f:FK d06 c9C Tryz.f110 c6d:=fun A=>by kernel_rfl
theorem c9c:FK c9e d2A Tryz.f111 c59:=fun A=>by kernel_rfl
theorem d3J:FK d0I d1V Tryz.f112 c7L:=fun A=>by kernel_rfl
theorem d0P:FK d2o c90 Tryz.f113 c7x:=fun A=>by kernel_rfl
theorem c92:FK d3C c9J Tryz.f114 c6I:=fun A=>by kernel_rfl
theorem d1C:FK c88 c9D Tryz.f115 c7S:=fun A=>by kernel_rfl
theorem d2f:FK d3l d0D Tryz.f116 c7E:=fun A=>by kernel_rfl
theorem d3U:FK d2U c9x Tryz.f117 c8c:=fun A=>by kernel_rfl
theorem c94:FK d12 d0N Tryz.f118 c7f:=fun A=>by kernel_rfl
theorem d3v:FK c8S c9s Tryz.f119 c57:=fun A=>by kernel_rfl
theorem d0t:FK d3o c9q Tryz.f120 c7H:=fun A=>by kernel_rfl
theorem d1i:FK d27 d2x Tryz.f121 c6x:=fun A=>by kernel_rfl
theorem d1z:FK d1N d3E Tryz.f122 c6r:=fun A=>by kernel_rfl
theorem d1J:FK d1M d1B Tryz.f123 c8y:=fun A=>by kernel_rfl
theorem d1f:FK d2i d1l Tryz.f124 c7W:=fun A=>by kernel_rfl
theorem c9a:FK d3V d0p Tryz.f125 c7F:=fun A=>by kernel_rfl
theorem d3O:FK d34 c9G Tryz.f126 c7O:=fun A=>by kernel_rfl
theorem c9L:FK d0O d0M Tryz.f127 c6E:=fun A=>by kernel_rfl
theorem d0x:FK c8R d3H Tryz.f128 c8h:=fun A=>by kernel_rfl
theorem d3n:FK c9S d0y Tryz.f129 c5C:=fun A=>by kernel_rfl
theorem d1D:FK d0m d3p Tryz.f130 a130:=fun A=>by kernel_rfl
theorem d1s:FK d3P d0L Tryz.f131 a131:=fun A=>by kernel_rfl
theorem d2F:FK d2c d3h Tryz.f132 a132:=fun A=>by kernel_rfl
theorem d0B:FK d3B c9K Tryz.f133 a133:=fun A=>by kernel_rfl
theorem d20:FK c9p d1y Tryz.f134 a134:=fun A=>by kernel_rfl
theorem d3i:FK d0v c9k Tryz.f135 a135:=fun A=>by kernel_rfl
theorem d3Y:FK d2C c96 Tryz.f136 a136:=fun A=>by kernel_rfl
theorem d2B:FK d3z d1U Tryz.f139 c7Y:=fun A=>by kernel_rfl
theorem d2I:FK d2E c9Y Tryz.f140 c8n:=fun A=>by kernel_rfl
theorem d0J:FK d1k d1E Tryz.f141 c6u:=fun A=>by kernel_rfl
theorem d2Y:FK d1w d0U Tryz.f142 c6o:=fun A=>by kernel_rfl
theorem d02:FK c9A d3a Tryz.f143 a143:=fun A=>by kernel_rfl
theorem d0R:FK d2z c9P Tryz.f144 a144:=fun A=>by kernel_rfl
theorem d14:FK d0Q c83 Tryz.f145 c6n:=fun A=>by kernel_rfl
theorem d1u:FK c9h c9z Tryz.f146 a146:=fun A=>by kernel_rfl
theorem d2k:FK c9y d0g Tryz.f147 a147:=fun A=>by kernel_rfl
theorem d2u:FK d1T d3y Tryz.f148 c6X:=fun A=>by kernel_rfl
theorem d2Q:FK d0T d08 Tryz.f149 c6v:=fun A=>by kernel_rfl
theorem d05:FK d0w d0d Tryz.f150 c8B:=fun A=>by kernel_rfl
theorem d1m:FK d3F d2W Tryz.f151 c6C:=fun A=>by kernel_rfl
theorem d0a:FK d1q c86 Tryz.f152 c6N:=fun A=>by kernel_rfl
theorem d37:FK c8V d2d Tryz.f153 c8s:=fun A=>by kernel_rfl
theorem d3Q:FK d0c c9O Tryz.f154 c65:=fun A=>by kernel_rfl
theorem d0i:FK d36 d2H Tryz.f155 c74:=fun A=>by kernel_rfl
theorem d3X:FK d0o c9r Tryz.f156 c50:=fun A=>by kernel_rfl
theorem d2a:FK d09 c97 Tryz.f157 c71:=fun A=>by kernel_rfl
theorem d31:FK d3W c8X Tryz.f158 c8q:=fun A=>by kernel_rfl
theorem c9v:FK d3D c9u Tryz.f159 c7Z:=fun A=>by kernel_rfl
theorem d11:FK d32 c9f Tryz.f160 c6l:=fun A=>by kernel_rfl
theorem d1K:FK d35 d2s Tryz.f161 c6y:=fun A=>by kernel_rfl
theorem c9X:FK c80 d38 Tryz.f162 c6z:=fun A=>by kernel_rfl
theorem d1e:FK d1X d3c Tryz.f163 c5L:=fun A=>by kernel_rfl
theorem d2O:FK d1b d22 Tryz.f164 c8p:=fun A=>by kernel_rfl
theorem d1W:FK d01 c8Y Tryz.f165 c7i:=fun A=>by kernel_rfl
theorem d2y:FK d3d d24 Tryz.f166 a166:=fun A=>by kernel_rfl
theorem d2T:FK c85 d1Y Tryz.f167 a167:=fun A=>by kernel_rfl
theorem d2G:FK d2S d3L Tryz.f168 a168:=fun A=>by kernel_rfl
theorem d0W:FK d1o c9B Tryz.f169 a169:=fun A=>by kernel_rfl
theorem d2D:FK d28 d1g Tryz.f170 a170:=fun A=>by kernel_rfl
theorem d0z:FK d1Z d04 Tryz.f171 a171:=fun A=>by kernel_rfl
theorem c91:FK d1d d3e Tryz.f172 a172:=fun A=>by kernel_rfl
theorem d0k:FK d1a d2g Tryz.f173 a173:=fun A=>by kernel_rfl
theorem c9E:FK d2Z d2X Tryz.f174 a174:=fun A=>by kernel_rfl
theorem c99:FK d2M d19 Tryz.f175 a175:=fun A=>by kernel_rfl
theorem d3b:FK d3I d2N Tryz.f177 c5Y:=fun A=>by kernel_rfl
theorem d2l:FK d3K d18 Tryz.f178 c7R:=fun A=>by kernel_rfl
theorem d10:FK d2t c8U Tryz.f179 c8O:=fun A=>by kernel_rfl
theorem d0E:FK d1j d3s Tryz.f180 a180:=fun A=>by kernel_rfl
theorem d1n:FK d0e d3x Tryz.f181 c5F:=fun A=>by kernel_rfl
theorem d0X:FK c9I d33 Tryz.f182 c7G:=fun A=>by kernel_rfl
theorem d00:FK d2v d0r Tryz.f183 c6g:=fun A=>by kernel_rfl
theorem c9R:FK d3k d1P Tryz.f184 c5W:=fun A=>by kernel_rfl
theorem d1R:FK d15 d0s Tryz.f185 a185:=fun A=>by kernel_rfl
theorem d1F:FK d0l d1v Tryz.f186 a186:=fun A=>by kernel_rfl
theorem d0F:FK d2L c8P Tryz.f187 a187:=fun A=>by kernel_rfl
theorem d1G:FK c9w d3u Tryz.f188 a188:=fun A=>by kernel_rfl
theorem d13:FK d07 c8Q Tryz.f189 a189:=fun A=>by kernel_rfl
theorem c98:FK d3R c93 Tryz.f190 a190:=fun A=>by kernel_rfl
theorem d2R:FK d2r c87 Tryz.f191 a191:=fun A=>by kernel_rfl
theorem d2h:FK c9Q d0G Tryz.f192 a192:=fun A=>by kernel_rfl
theorem d21:FK d3S c9V Tryz.f193 a193:=fun A=>by kernel_rfl
theorem d2J:FK d2w d3j Tryz.f194 a194:=fun A=>by kernel_rfl
theorem d3T:FK d0h d1S Tryz.f195 a195:=fun A=>by kernel_rfl
theorem c9g:FK c9t c9F Tryz.f197 c58:=fun A=>by kernel_rfl
theorem d23:FK d0K c9o Tryz.f198 c7m:=fun A=>by kernel_rfl
theorem d2m:FK d3m c9b Tryz.f199 c8G:=fun A=>by kernel_rfl
theorem d1O:FK d16 d1A Tryz.f200 c5R:=fun A=>by kernel_rfl
theorem c9m:FK d0f c9d Tryz.f202 a202:=fun A=>by kernel_rfl
theorem d0S:FK d0A d29 Tryz.f203 a203:=fun A=>by kernel_rfl
theorem c81:FK d3N c84 Tryz.f204 c7N:=fun A=>by kernel_rfl
theorem c3s:T1 Go.Proofs.Tryz.prog gts 53 (a0j 4 72):=b1P Go.Proofs.Tryz.func53 (t:=Go.Proofs.Tryz.f53.params.getD 0 0) ⟨_,_,_,_,_,_,_,_,_,_,_,_,_,rfl,rfl,rfl,⟨rfl,rfl,rfl⟩,⟨rfl,rfl,rfl⟩,⟨rfl,rfl,rfl⟩,⟨rfl,rfl,rfl⟩,⟨rfl,rfl,rfl⟩,⟨rfl,rfl,rfl⟩,⟨rfl,rfl,rfl⟩,⟨rfl,rfl,rfl⟩,by kernel_rfl⟩
theorem c3E:T1 Go.Proofs.Tryz.prog gts 86 (a0j 1 16):=b1P Go.Proofs.Tryz.func86 (t:=Go.Proofs.Tryz.f86.params.getD 0 0) ⟨_,_,_,_,_,_,_,_,_,_,_,_,_,rfl,rfl,rfl,⟨rfl,rfl,rfl⟩,⟨rfl,rfl,rfl⟩,⟨rfl,rfl,rfl⟩,⟨rfl,rfl,rfl⟩,⟨rfl,rfl,rfl⟩,⟨rfl,rfl,rfl⟩,⟨rfl,rfl,rfl⟩,⟨rfl,rfl,rfl⟩,by kernel_rfl⟩
theorem c35:T1 Go.Proofs.Tryz.prog gts 47 (a0P 4 80):=b7Z gts
theorem c4p:T1 Go.Proofs.Tryz.prog gts 88 (U3 4 80):=b61 gts
theorem c0X:T1 Go.Proofs.Tryz.prog gts 201 a8Q:=c8o (gi:=1) (by kernel_rfl) (List.mem_cons_of_mem _ (List.mem_singleton.2 rfl)) fun n h0 h1 w ht=>c00 n h0 h1 w ht
theorem mixed:Go.Proofs.Tryz.prog.follows .mixedOrders=true:=by kernel_rfl
theorem c5N {f:Nat} {af:AFn} (h:tbl f=some af):f < 250:=by
  rcases Nat.lt_or_ge f 250 with h1|h1
  · exact h1
  · exfalso
    have e:tblL.getD (f / 10) []=[]:=by
      rw [List.getD_eq_getElem?_getD,List.getElem?_eq_none]
      · rfl
      · show 25≤f / 10
        omega
    have h:(tblL.getD (f / 10) []).getD (f % 10) none=some af:=h
    rw [e] at h
    cases h
theorem tK {f:Nat} {fn:Func} {v b:List Nat} {a af:AFn} (h1:Go.Proofs.Tryz.prog.funcs[f]?=some fn) (h2:FK v b fn a) (h3:a2v Go.Proofs.Tryz.prog f=true) (h:some a=some af):TK f af:=by cases h; exact ⟨h3,.inl ⟨v,b,fn,h1,h2⟩⟩
theorem nK {f:Nat} {af:AFn} (h:(none:Option AFn)=some af):TK f af:=by cases h
theorem t47 (af:AFn) (h:some a47=some af):TK 47 af:=by cases h; exact ⟨by kernel_rfl,.inr ⟨_,rfl,c35⟩⟩
theorem t53 (af:AFn) (h:some a53=some af):TK 53 af:=by cases h; exact ⟨by kernel_rfl,.inr ⟨_,rfl,c3s⟩⟩
theorem t86 (af:AFn) (h:some a86=some af):TK 86 af:=by cases h; exact ⟨by kernel_rfl,.inr ⟨_,rfl,c3E⟩⟩
theorem t88 (af:AFn) (h:some a88=some af):TK 88 af:=by cases h; exact ⟨by kernel_rfl,.inr ⟨_,rfl,c4p⟩⟩
theorem d70 (af:AFn) (h:some a201=some af):TK 201 af:=by cases h; exact ⟨by kernel_rfl,.inr ⟨_,rfl,c0X⟩⟩
theorem c3L:∀ f af,f < 250→tbl f=some af→TK f af
 | 0,_,_,h=>nK h
 | 1,_,_,h=>nK h
 | 2,_,_,h=>nK h
 | 3,_,_,h=>nK h
 | 4,_,_,h=>nK h
 | 5,_,_,h=>nK h
 | 6,_,_,h=>nK h
 | 7,_,_,h=>nK h
 | 8,_,_,h=>tK Tryz.func8 ok8 (by kernel_rfl) h
 | 9,_,_,h=>nK h
 | 10,_,_,h=>nK h
 | 11,_,_,h=>tK Tryz.func11 d5h (by kernel_rfl) h
 | 12,_,_,h=>tK Tryz.func12 d5G (by kernel_rfl) h
 | 13,_,_,h=>tK Tryz.func13 d6j (by kernel_rfl) h
 | 14,_,_,h=>nK h
 | 15,_,_,h=>tK Tryz.func15 d8a (by kernel_rfl) h
 | 16,_,_,h=>tK Tryz.func16 d4n (by kernel_rfl) h
 | 17,_,_,h=>tK Tryz.func17 d7k (by kernel_rfl) h
 | 18,_,_,h=>tK Tryz.func18 d6v (by kernel_rfl) h
 | 19,_,_,h=>tK Tryz.func19 d73 (by kernel_rfl) h
 | 20,_,_,h=>nK h
 | 21,_,_,h=>tK Tryz.func21 d6r (by kernel_rfl) h
 | 22,_,_,h=>tK Tryz.func22 d8m (by kernel_rfl) h
 | 23,_,_,h=>nK h
 | 24,_,_,h=>nK h
 | 25,_,_,h=>tK Tryz.func25 d6I (by kernel_rfl) h
 | 26,_,_,h=>nK h
 | 27,_,_,h=>nK h
 | 28,_,_,h=>nK h
 | 29,_,_,h=>tK Tryz.func29 d6G (by kernel_rfl) h
 | 30,_,_,h=>nK h
 | 31,_,_,h=>tK Tryz.func31 d5d (by kernel_rfl) h
 | 32,_,_,h=>tK Tryz.func32 d6L (by kernel_rfl) h
 | 33,_,_,h=>tK Tryz.func33 d7v (by kernel_rfl) h
 | 34,_,_,h=>tK Tryz.func34 d5s (by kernel_rfl) h
 | 35,_,_,h=>tK Tryz.func35 d5p (by kernel_rfl) h
 | 36,_,_,h=>nK h
 | 37,_,_,h=>tK Tryz.func37 d5Y (by kernel_rfl) h
 | 38,_,_,h=>tK Tryz.func38 d68 (by kernel_rfl) h
 | 39,_,_,h=>tK Tryz.func39 d6o (by kernel_rfl) h
 | 40,_,_,h=>tK Tryz.func40 d4y (by kernel_rfl) h
 | 41,_,_,h=>tK Tryz.func41 d7Z (by kernel_rfl) h
 | 42,_,_,h=>tK Tryz.func42 d6i (by kernel_rfl) h
 | 43,_,_,h=>tK Tryz.func43 d5E (by kernel_rfl) h
 | 44,_,_,h=>tK Tryz.func44 d52 (by kernel_rfl) h
 | 45,_,_,h=>tK Tryz.func45 d4l (by kernel_rfl) h
 | 46,_,_,h=>tK Tryz.func46 d5x (by kernel_rfl) h
 | 47,_,_,h=>t47 _ h
 | 48,_,_,h=>tK Tryz.func48 d7P (by kernel_rfl) h
 | 49,_,_,h=>nK h
 | 50,_,_,h=>tK Tryz.func50 d5P (by kernel_rfl) h
 | 51,_,_,h=>tK Tryz.func51 d7t (by kernel_rfl) h
 | 52,_,_,h=>tK Tryz.func52 d4Q (by kernel_rfl) h
 | 53,_,_,h=>t53 _ h
 | 54,_,_,h=>tK Tryz.func54 d7B (by kernel_rfl) h
 | 55,_,_,h=>tK Tryz.func55 d7p (by kernel_rfl) h
 | 56,_,_,h=>tK Tryz.func56 d4d (by kernel_rfl) h
 | 57,_,_,h=>tK Tryz.func57 d7R (by kernel_rfl) h
 | 58,_,_,h=>tK Tryz.func58 d7i (by kernel_rfl) h
 | 59,_,_,h=>tK Tryz.func59 d7K (by kernel_rfl) h
 | 60,_,_,h=>tK Tryz.func60 d61 (by kernel_rfl) h
 | 61,_,_,h=>tK Tryz.func61 d6S (by kernel_rfl) h
 | 62,_,_,h=>tK Tryz.func62 d6c (by kernel_rfl) h
 | 63,_,_,h=>tK Tryz.func63 d7l (by kernel_rfl) h
 | 64,_,_,h=>tK Tryz.func64 d7d (by kernel_rfl) h
 | 65,_,_,h=>tK Tryz.func65 d7q (by kernel_rfl) h
 | 66,_,_,h=>tK Tryz.func66 d8e (by kernel_rfl) h
 | 67,_,_,h=>tK Tryz.func67 d6s (by kernel_rfl) h
 | 68,_,_,h=>tK Tryz.func68 d6X (by kernel_rfl) h
 | 69,_,_,h=>tK Tryz.func69 d6P (by kernel_rfl) h
 | 70,_,_,h=>tK Tryz.func70 d5e (by kernel_rfl) h
 | 71,_,_,h=>tK Tryz.func71 d4a (by kernel_rfl) h
 | 72,_,_,h=>tK Tryz.func72 d4H (by kernel_rfl) h
 | 73,_,_,h=>tK Tryz.func73 d4Y (by kernel_rfl) h
 | 74,_,_,h=>tK Tryz.func74 d4P (by kernel_rfl) h
 | 75,_,_,h=>tK Tryz.func75 d6e (by kernel_rfl) h
 | 76,_,_,h=>tK Tryz.func76 d8l (by kernel_rfl) h
 | 77,_,_,h=>tK Tryz.func77 d6O (by kernel_rfl) h
 | 78,_,_,h=>tK Tryz.func78 d51 (by kernel_rfl) h
 | 79,_,_,h=>tK Tryz.func79 d6Y (by kernel_rfl) h
 | 80,_,_,h=>tK Tryz.func80 d6m (by kernel_rfl) h
 | 81,_,_,h=>tK Tryz.func81 d4o (by kernel_rfl) h
 | 82,_,_,h=>tK Tryz.func82 d4r (by kernel_rfl) h
 | 83,_,_,h=>tK Tryz.func83 d7Q (by kernel_rfl) h
 | 84,_,_,h=>tK Tryz.func84 d58 (by kernel_rfl) h
 | 85,_,_,h=>tK Tryz.func85 d4z (by kernel_rfl) h
 | 86,_,_,h=>t86 _ h
 | 87,_,_,h=>tK Tryz.func87 d4x (by kernel_rfl) h
 | 88,_,_,h=>t88 _ h
 | 89,_,_,h=>tK Tryz.func89 d6Q (by kernel_rfl) h
 | 90,_,_,h=>tK Tryz.func90 d8r (by kernel_rfl) h
 | 91,_,_,h=>tK Tryz.func91 d5R (by kernel_rfl) h
 | 92,_,_,h=>tK Tryz.func92 d71 (by kernel_rfl) h
 | 93,_,_,h=>tK Tryz.func93 d4c (by kernel_rfl) h
 | 94,_,_,h=>tK Tryz.func94 d4B (by kernel_rfl) h
 | 95,_,_,h=>tK Tryz.func95 d7n (by kernel_rfl) h
 | 96,_,_,h=>tK Tryz.func96 d7F (by kernel_rfl) h
 | 97,_,_,h=>tK Tryz.func97 d7O (by kernel_rfl) h
 | 98,_,_,h=>tK Tryz.func98 d5X (by kernel_rfl) h
 | 99,_,_,h=>tK Tryz.func99 d6Z (by kernel_rfl) h
 | 100,_,_,h=>tK Tryz.func100 d1Q (by kernel_rfl) h
 | 101,_,_,h=>tK Tryz.func101 d0H (by kernel_rfl) h
 | 102,_,_,h=>tK Tryz.func102 d0j (by kernel_rfl) h
 | 103,_,_,h=>tK Tryz.func103 d3w (by kernel_rfl) h
 | 104,_,_,h=>tK Tryz.func104 d0b (by kernel_rfl) h
 | 105,_,_,h=>tK Tryz.func105 d1x (by kernel_rfl) h
 | 106,_,_,h=>tK Tryz.func106 d0u (by kernel_rfl) h
 | 107,_,_,h=>tK Tryz.func107 d2e (by kernel_rfl) h
 | 108,_,_,h=>tK Tryz.func108 c9i (by kernel_rfl) h
 | 109,_,_,h=>tK Tryz.func109 d3q (by kernel_rfl) h
 | 110,_,_,h=>tK Tryz.func110 d3f (by kernel_rfl) h
 | 111,_,_,h=>tK Tryz.func111 c9c (by kernel_rfl) h
 | 112,_,_,h=>tK Tryz.func112 d3J (by kernel_rfl) h
 | 113,_,_,h=>tK Tryz.func113 d0P (by kernel_rfl) h
 | 114,_,_,h=>tK Tryz.func114 c92 (by kernel_rfl) h
 | 115,_,_,h=>tK Tryz.func115 d1C (by kernel_rfl) h
 | 116,_,_,h=>tK Tryz.func116 d2f (by kernel_rfl) h
 | 117,_,_,h=>tK Tryz.func117 d3U (by kernel_rfl) h
 | 118,_,_,h=>tK Tryz.func118 c94 (by kernel_rfl) h
 | 119,_,_,h=>tK Tryz.func119 d3v (by kernel_rfl) h
 | 120,_,_,h=>tK Tryz.func120 d0t (by kernel_rfl) h
 | 121,_,_,h=>tK Tryz.func121 d1i (by kernel_rfl) h
 | 122,_,_,h=>tK Tryz.func122 d1z (by kernel_rfl) h
 | 123,_,_,h=>tK Tryz.func123 d1J (by kernel_rfl) h
 | 124,_,_,h=>tK Tryz.func124 d1f (by kernel_rfl) h
 | 125,_,_,h=>tK Tryz.func125 c9a (by kernel_rfl) h
 | 126,_,_,h=>tK Tryz.func126 d3O (by kernel_rfl) h
 | 127,_,_,h=>tK Tryz.func127 c9L (by kernel_rfl) h
 | 128,_,_,h=>tK Tryz.func128 d0x (by kernel_rfl) h
 | 129,_,_,h=>tK Tryz.func129 d3n (by kernel_rfl) h
 | 130,_,_,h=>tK Tryz.func130 d1D (by kernel_rfl) h
 | 131,_,_,h=>tK Tryz.func131 d1s (by kernel_rfl) h
 | 132,_,_,h=>tK Tryz.func132 d2F (by kernel_rfl) h
 | 133,_,_,h=>tK Tryz.func133 d0B (by kernel_rfl) h
 | 134,_,_,h=>tK Tryz.func134 d20 (by kernel_rfl) h
 | 135,_,_,h=>tK Tryz.func135 d3i (by kernel_rfl) h
 | 136,_,_,h=>tK Tryz.func136 d3Y (by kernel_rfl) h
 | 137,_,_,h=>nK h
 | 138,_,_,h=>nK h
 | 139,_,_,h=>tK Tryz.func139 d2B (by kernel_rfl) h
 | 140,_,_,h=>tK Tryz.func140 d2I (by kernel_rfl) h
 | 141,_,_,h=>tK Tryz.func141 d0J (by kernel_rfl) h
 | 142,_,_,h=>tK Tryz.func142 d2Y (by kernel_rfl) h
 | 143,_,_,h=>tK Tryz.func143 d02 (by kernel_rfl) h
 | 144,_,_,h=>tK Tryz.func144 d0R (by kernel_rfl) h
 | 145,_,_,h=>tK Tryz.func145 d14 (by kernel_rfl) h
 | 146,_,_,h=>tK Tryz.func146 d1u (by kernel_rfl) h
 | 147,_,_,h=>tK Tryz.func147 d2k (by kernel_rfl) h
 | 148,_,_,h=>tK Tryz.func148 d2u (by kernel_rfl) h
 | 149,_,_,h=>tK Tryz.func149 d2Q (by kernel_rfl) h
 | 150,_,_,h=>tK Tryz.func150 d05 (by kernel_rfl) h
 | 151,_,_,h=>tK Tryz.func151 d1m (by kernel_rfl) h
 | 152,_,_,h=>tK Tryz.func152 d0a (by kernel_rfl) h
 | 153,_,_,h=>tK Tryz.func153 d37 (by kernel_rfl) h
 | 154,_,_,h=>tK Tryz.func154 d3Q (by kernel_rfl) h
 | 155,_,_,h=>tK Tryz.func155 d0i (by kernel_rfl) h
 | 156,_,_,h=>tK Tryz.func156 d3X (by kernel_rfl) h
 | 157,_,_,h=>tK Tryz.func157 d2a (by kernel_rfl) h
 | 158,_,_,h=>tK Tryz.func158 d31 (by kernel_rfl) h
 | 159,_,_,h=>tK Tryz.func159 c9v (by kernel_rfl) h
 | 160,_,_,h=>tK Tryz.func160 d11 (by kernel_rfl) h
 | 161,_,_,h=>tK Tryz.func161 d1K (by kernel_rfl) h
 | 162,_,_,h=>tK Tryz.func162 c9X (by kernel_rfl) h
 | 163,_,_,h=>tK Tryz.func163 d1e (by kernel_rfl) h
 | 164,_,_,h=>tK Tryz.func164 d2O (by kernel_rfl) h
 | 165,_,_,h=>tK Tryz.func165 d1W (by kernel_rfl) h
 | 166,_,_,h=>tK Tryz.func166 d2y (by kernel_rfl) h
 | 167,_,_,h=>tK Tryz.func167 d2T (by kernel_rfl) h
 | 168,_,_,h=>tK Tryz.func168 d2G (by kernel_rfl) h
 | 169,_,_,h=>tK Tryz.func169 d0W (by kernel_rfl) h
 | 170,_,_,h=>tK Tryz.func170 d2D (by kernel_rfl) h
 | 171,_,_,h=>tK Tryz.func171 d0z (by kernel_rfl) h
 | 172,_,_,h=>tK Tryz.func172 c91 (by kernel_rfl) h
 | 173,_,_,h=>tK Tryz.func173 d0k (by kernel_rfl) h
 | 174,_,_,h=>tK Tryz.func174 c9E (by kernel_rfl) h
 | 175,_,_,h=>tK Tryz.func175 c99 (by kernel_rfl) h
 | 176,_,_,h=>nK h
 | 177,_,_,h=>tK Tryz.func177 d3b (by kernel_rfl) h
 | 178,_,_,h=>tK Tryz.func178 d2l (by kernel_rfl) h
 | 179,_,_,h=>tK Tryz.func179 d10 (by kernel_rfl) h
 | 180,_,_,h=>tK Tryz.func180 d0E (by kernel_rfl) h
 | 181,_,_,h=>tK Tryz.func181 d1n (by kernel_rfl) h
 | 182,_,_,h=>tK Tryz.func182 d0X (by kernel_rfl) h
 | 183,_,_,h=>tK Tryz.func183 d00 (by kernel_rfl) h
 | 184,_,_,h=>tK Tryz.func184 c9R (by kernel_rfl) h
 | 185,_,_,h=>tK Tryz.func185 d1R (by kernel_rfl) h
 | 186,_,_,h=>tK Tryz.func186 d1F (by kernel_rfl) h
 | 187,_,_,h=>tK Tryz.func187 d0F (by kernel_rfl) h
 | 188,_,_,h=>tK Tryz.func188 d1G (by kernel_rfl) h
 | 189,_,_,h=>tK Tryz.func189 d13 (by kernel_rfl) h
 | 190,_,_,h=>tK Tryz.func190 c98 (by kernel_rfl) h
 | 191,_,_,h=>tK Tryz.func191 d2R (by kernel_rfl) h
 | 192,_,_,h=>tK Tryz.func192 d2h (by kernel_rfl) h
 | 193,_,_,h=>tK Tryz.func193 d21 (by kernel_rfl) h
 | 194,_,_,h=>tK Tryz.func194 d2J (by kernel_rfl) h
 | 195,_,_,h=>tK Tryz.func195 d3T (by kernel_rfl) h
 | 196,_,_,h=>nK h
 | 197,_,_,h=>tK Tryz.func197 c9g (by kernel_rfl) h
 | 198,_,_,h=>tK Tryz.func198 d23 (by kernel_rfl) h
 | 199,_,_,h=>tK Tryz.func199 d2m (by kernel_rfl) h
 | 200,_,_,h=>tK Tryz.func200 d1O (by kernel_rfl) h
 | 201,_,_,h=>d70 _ h
 | 202,_,_,h=>tK Tryz.func202 c9m (by kernel_rfl) h
 | 203,_,_,h=>tK Tryz.func203 d0S (by kernel_rfl) h
 | 204,_,_,h=>tK Tryz.func204 c81 (by kernel_rfl) h
 | 205,_,_,h=>nK h
 | 206,_,_,h=>nK h
 | 207,_,_,h=>nK h
 | 208,_,_,h=>nK h
 | 209,_,_,h=>nK h
 | 210,_,_,h=>nK h
 | 211,_,_,h=>nK h
 | 212,_,_,h=>nK h
 | 213,_,_,h=>nK h
 | 214,_,_,h=>nK h
 | 215,_,_,h=>nK h
 | 216,_,_,h=>nK h
 | 217,_,_,h=>nK h
 | 218,_,_,h=>nK h
 | 219,_,_,h=>nK h
 | 220,_,_,h=>nK h
 | 221,_,_,h=>nK h
 | 222,_,_,h=>nK h
 | 223,_,_,h=>nK h
 | 224,_,_,h=>nK h
 | 225,_,_,h=>nK h
 | 226,_,_,h=>nK h
 | 227,_,_,h=>nK h
 | 228,_,_,h=>nK h
 | 229,_,_,h=>nK h
 | 230,_,_,h=>nK h
 | 231,_,_,h=>nK h
 | 232,_,_,h=>nK h
 | 233,_,_,h=>nK h
 | 234,_,_,h=>nK h
 | 235,_,_,h=>nK h
 | 236,_,_,h=>nK h
 | 237,_,_,h=>nK h
 | 238,_,_,h=>nK h
 | 239,_,_,h=>nK h
 | 240,_,_,h=>nK h
 | 241,_,_,h=>nK h
 | 242,_,_,h=>nK h
 | 243,_,_,h=>nK h
 | 244,_,_,h=>nK h
 | 245,_,_,h=>nK h
 | 246,_,_,h=>nK h
 | 247,_,_,h=>nK h
 | 248,_,_,h=>nK h
 | 249,_,_,h=>nK h
  | n+250,_,h,_=>absurd h (by omega)
theorem c3Y:ProgOK Go.Proofs.Tryz.prog gts tbl:=⟨mixed,fun f af h=>c3L f af (c5N h) h⟩
end Go.Cb.CodeA
