/- That code tells the functions of the seat: the test of each function, and all of them together. No conditions. -/
import Derived.Test.YtbibkdncfclnbaaGreatDoorChecked
import Derived.KernelRfl
import Derived.Test.YtbibkdncfclnbaaGreatDoorCodeA
import Derived.Test.YtbibkdncfclnbaaGreatDoorFmL
import Derived.Test.YtbibkdncfclnbaaGreatDoorInsX
import Derived.Test.YtbibkdncfclnbaaGreatDoorDel
set_option maxRecDepth 100000
namespace Go.Cb.CodeA
open Go Go.Cb
open Go.Proofs
abbrev FK (v b:List Nat) (f:Func) (a:AFn):Prop:=∀ A,b4N Go.Proofs.Tryz.prog gts v b f a A=true
abbrev TK (f:Nat) (af:AFn):Prop:=a1C Go.Proofs.Tryz.prog f=true∧((∃ slots bxs fn,Go.Proofs.Tryz.prog.funcs[f]?=some fn∧∀ A,b4N Go.Proofs.Tryz.prog gts slots bxs fn af A=true)∨(∃ e,af.ext=some e∧Q8 Go.Proofs.Tryz.prog gts f e))
theorem ok4:FK a4v a4b Tryz.f4 a4:=fun A=>by kernel_rfl
theorem d5v:FK d2x d48 Tryz.f11 a11:=fun A=>by kernel_rfl
theorem d2R:FK d3M d4P Tryz.f12 a12:=fun A=>by kernel_rfl
theorem d2N:FK d2y d2d Tryz.f13 a13:=fun A=>by kernel_rfl
theorem d3f:FK d5p d4L Tryz.f15 a15:=fun A=>by kernel_rfl
theorem d37:FK d11 d15 Tryz.f16 a16:=fun A=>by kernel_rfl
theorem d2s:FK d5e d4J Tryz.f17 a17:=fun A=>by kernel_rfl
theorem d31:FK d4I d3g Tryz.f18 a18:=fun A=>by kernel_rfl
theorem d47:FK d4U d5C Tryz.f19 a19:=fun A=>by kernel_rfl
theorem d2Q:FK d4p d24 Tryz.f21 a21:=fun A=>by kernel_rfl
theorem d1I:FK d42 d2f Tryz.f22 a22:=fun A=>by kernel_rfl
theorem d3o:FK d2H d5f Tryz.f25 a25:=fun A=>by kernel_rfl
theorem d4M:FK d2E d10 Tryz.f29 a29:=fun A=>by kernel_rfl
theorem d2i:FK d2D d5g Tryz.f31 a31:=fun A=>by kernel_rfl
theorem d3n:FK d25 d5c Tryz.f32 a32:=fun A=>by kernel_rfl
theorem d2B:FK d2v d1U Tryz.f33 a33:=fun A=>by kernel_rfl
theorem d17:FK d1J d5G Tryz.f34 a34:=fun A=>by kernel_rfl
theorem d30:FK d1O d2A Tryz.f35 a35:=fun A=>by kernel_rfl
theorem d2C:FK d3q d3C Tryz.f37 a37:=fun A=>by kernel_rfl
theorem d4T:FK d5s d5A Tryz.f38 a38:=fun A=>by kernel_rfl
theorem d4W:FK d3Q d2a Tryz.f39 a39:=fun A=>by kernel_rfl
theorem d3D:FK d3a d2S Tryz.f40 a40:=fun A=>by kernel_rfl
theorem d1Y:FK d4H d3k Tryz.f41 a41:=fun A=>by kernel_rfl
theorem d1G:FK d12 d3P Tryz.f42 a42:=fun A=>by kernel_rfl
theorem d2e:FK d5B d3r Tryz.f43 a43:=fun A=>by kernel_rfl
theorem d3I:FK d3N d3U Tryz.f44 a44:=fun A=>by kernel_rfl
theorem d4C:FK d4q d3J Tryz.f45 a45:=fun A=>by kernel_rfl
theorem d4c:FK d3l d29 Tryz.f46 a46:=fun A=>by kernel_rfl
theorem d4F:FK d2L d4l Tryz.f48 a48:=fun A=>by kernel_rfl
theorem d3T:FK d2M d4x Tryz.f50 a50:=fun A=>by kernel_rfl
theorem d46:FK d4k d4O Tryz.f51 a51:=fun A=>by kernel_rfl
theorem d3V:FK d4m d1K Tryz.f52 a52:=fun A=>by kernel_rfl
theorem d3e:FK d5d d3y Tryz.f54 a54:=fun A=>by kernel_rfl
theorem d4A:FK d43 d3X Tryz.f55 a55:=fun A=>by kernel_rfl
theorem d5y:FK d3O d1T Tryz.f56 a56:=fun A=>by kernel_rfl
theorem d13:FK d3R d2q Tryz.f57 a57:=fun A=>by kernel_rfl
theorem d3E:FK d3i d1N Tryz.f58 a58:=fun A=>by kernel_rfl
theorem d4v:FK d23 d41 Tryz.f59 a59:=fun A=>by kernel_rfl
theorem d2r:FK d2k d3Y Tryz.f60 a60:=fun A=>by kernel_rfl
theorem d3p:FK d5E d2O Tryz.f61 a61:=fun A=>by kernel_rfl
theorem d49:FK d2o d1W Tryz.f62 a62:=fun A=>by kernel_rfl
theorem d3s:FK d4h d20 Tryz.f63 a63:=fun A=>by kernel_rfl
theorem d4f:FK d5l d5w Tryz.f64 a64:=fun A=>by kernel_rfl
theorem d4D:FK d2j d2T Tryz.f65 a65:=fun A=>by kernel_rfl
theorem d2I:FK d3H d45 Tryz.f66 a66:=fun A=>by kernel_rfl
theorem d4z:FK d27 d2G Tryz.f67 a67:=fun A=>by kernel_rfl
theorem d2h:FK d2Y d5j Tryz.f68 a68:=fun A=>by kernel_rfl
theorem d5D:FK d28 d2w Tryz.f69 a69:=fun A=>by kernel_rfl
theorem d3S:FK d21 d5h Tryz.f70 a70:=fun A=>by kernel_rfl
theorem d3B:FK d3w d3b Tryz.f71 a71:=fun A=>by kernel_rfl
theorem d2W:FK d2Z d1D Tryz.f72 a72:=fun A=>by kernel_rfl
theorem d4i:FK d3L d3d Tryz.f73 a73:=fun A=>by kernel_rfl
theorem d1X:FK d2U d44 Tryz.f74 a74:=fun A=>by kernel_rfl
theorem d2n:FK d1R d4R Tryz.f75 a75:=fun A=>by kernel_rfl
theorem d4w:FK d5t d5o Tryz.f76 a76:=fun A=>by kernel_rfl
theorem d5b:FK d16 d2z Tryz.f77 a77:=fun A=>by kernel_rfl
theorem d4j:FK d3v d4r Tryz.f78 a78:=fun A=>by kernel_rfl
theorem d2c:FK d3h d3F Tryz.f79 a79:=fun A=>by kernel_rfl
theorem d18:FK d4N d4Y Tryz.f80 a80:=fun A=>by kernel_rfl
theorem d4B:FK d5r d1S Tryz.f81 a81:=fun A=>by kernel_rfl
theorem d4E:FK d19 d5n Tryz.f82 a82:=fun A=>by kernel_rfl
theorem d3K:FK d1F d2u Tryz.f83 a83:=fun A=>by kernel_rfl
theorem d1E:FK d4e d5x Tryz.f84 a84:=fun A=>by kernel_rfl
theorem d4S:FK d5z d2p Tryz.f85 a85:=fun A=>by kernel_rfl
theorem d4s:FK d2F d3z Tryz.f87 a87:=fun A=>by kernel_rfl
theorem d4Q:FK d5a d3W Tryz.f89 a89:=fun A=>by kernel_rfl
theorem d4g:FK d1H d2J Tryz.f90 a90:=fun A=>by kernel_rfl
theorem d4K:FK d2l d2t Tryz.f91 a91:=fun A=>by kernel_rfl
theorem d1V:FK d2m d1Q Tryz.f92 a92:=fun A=>by kernel_rfl
theorem d2V:FK d2b d3u Tryz.f93 a93:=fun A=>by kernel_rfl
theorem d5i:FK d38 d5F Tryz.f94 a94:=fun A=>by kernel_rfl
theorem d4o:FK d1L d4b Tryz.f95 a95:=fun A=>by kernel_rfl
theorem d40:FK d4t d1B Tryz.f96 a96:=fun A=>by kernel_rfl
theorem d3c:FK d3A d2P Tryz.f97 a97:=fun A=>by kernel_rfl
theorem d4G:FK d22 d3G Tryz.f98 a98:=fun A=>by kernel_rfl
theorem d3j:FK d1C d3x Tryz.f99 a99:=fun A=>by kernel_rfl
theorem d0i:FK c6j d1d Tryz.f100 a100:=fun A=>by kernel_rfl
theorem d1z:FK c7S c61 Tryz.f101 c4F:=fun A=>by kernel_rfl
theorem c9D:FK c7J d0F Tryz.f102 a102:=fun A=>by kernel_rfl
theorem d1m:FK c8g c6O Tryz.f103 c4D:=fun A=>by kernel_rfl
theorem c9a:FK c7F c68 Tryz.f104 c5R:=fun A=>by kernel_rfl
theorem c9U:FK c8R c6F Tryz.f105 c5E:=fun A=>by kernel_rfl
theorem c9u:FK d0R d0J Tryz.f106 c4Q:=fun A=>by kernel_rfl
theorem d1u:FK c6R d1q Tryz.f107 c5u:=fun A=>by kernel_rfl
theorem c7Y:FK c8P c8U Tryz.f108 c53:=fun A=>by kernel_rfl
theorem c63:FK c8r d1y Tryz.f109 c3r:=fun A=>by kernel_rfl
theorem c6Z:FK c6G c8K Tryz.f110 c4j:=fun A=>by kernel_rfl
theorem d0H:FK c6H c9p Tryz.f111 c3L:=fun A=>by kernel_rfl
theorem c6z:FK d01 d0k Tryz.f112 c6d:=fun A=>by kernel_rfl
theorem d08:FK d03 c8v Tryz.f113 c49:=fun A=>by kernel_rfl
theorem c92:FK d0v c73 Tryz.f114 c5V:=fun A=>by kernel_rfl
theorem c7r:FK c7I c67 Tryz.f115 c37:=fun A=>by kernel_rfl
theorem c9b:FK d0G c9e Tryz.f116 c3A:=fun A=>by kernel_rfl
theorem d06:FK c6Q c60 Tryz.f117 c3S:=fun A=>by kernel_rfl
theorem c8j:FK c98 d0L Tryz.f118 c6f:=fun A=>by kernel_rfl
theorem d1e:FK c7q c93 Tryz.f119 c4E:=fun A=>by kernel_rfl
theorem c8p:FK c95 d1j Tryz.f120 c5n:=fun A=>by kernel_rfl
theorem c8m:FK c9n d05 Tryz.f121 c3R:=fun A=>by kernel_rfl
theorem d0T:FK c9S c8F Tryz.f122 c5v:=fun A=>by kernel_rfl
theorem c8C:FK d1f c8I Tryz.f123 c4n:=fun A=>by kernel_rfl
theorem d1h:FK d1v d0u Tryz.f124 c3X:=fun A=>by kernel_rfl
theorem d0Q:FK c7u c8l Tryz.f125 c32:=fun A=>by kernel_rfl
theorem d04:FK c8S c7s Tryz.f126 c5l:=fun A=>by kernel_rfl
theorem c7V:FK d0Z c6w Tryz.f127 c59:=fun A=>by kernel_rfl
theorem c6l:FK c8e c9P Tryz.f128 c30:=fun A=>by kernel_rfl
theorem c72:FK c9G c9R Tryz.f129 c5w:=fun A=>by kernel_rfl
theorem d00:FK d0W c6W Tryz.f130 a130:=fun A=>by kernel_rfl
theorem c9T:FK c7f c7Z Tryz.f131 a131:=fun A=>by kernel_rfl
theorem d0V:FK c9X c75 Tryz.f132 a132:=fun A=>by kernel_rfl
theorem c7L:FK c6D d0C Tryz.f133 a133:=fun A=>by kernel_rfl
theorem d0z:FK d1c d0g Tryz.f134 a134:=fun A=>by kernel_rfl
theorem c7Q:FK c71 c7g Tryz.f135 a135:=fun A=>by kernel_rfl
theorem c7M:FK c9w c77 Tryz.f136 a136:=fun A=>by kernel_rfl
theorem d0D:FK c9q c8J Tryz.f139 c5g:=fun A=>by kernel_rfl
theorem c6C:FK c8T c9J Tryz.f140 c5m:=fun A=>by kernel_rfl
theorem d1w:FK c8V c8E Tryz.f141 c3U:=fun A=>by kernel_rfl
theorem c6B:FK c9s c9Y Tryz.f142 c5D:=fun A=>by kernel_rfl
theorem c6y:FK c8W c7w Tryz.f143 a143:=fun A=>by kernel_rfl
theorem d0I:FK c7o c9Q Tryz.f144 a144:=fun A=>by kernel_rfl
theorem c91:FK c7K d0s Tryz.f145 c6a:=fun A=>by kernel_rfl
theorem d0h:FK c9I c8c Tryz.f146 a146:=fun A=>by kernel_rfl
theorem c9i:FK c7p c9L Tryz.f147 a147:=fun A=>by kernel_rfl
theorem d02:FK c6J c9F Tryz.f148 c5G:=fun A=>by kernel_rfl
theorem c7y:FK c94 c64 Tryz.f149 c5f:=fun A=>by kernel_rfl
theorem c9A:FK c6L c9B Tryz.f150 c4y:=fun A=>by kernel_rfl
theorem c87:FK c8n c6r Tryz.f151 c3l:=fun A=>by kernel_rfl
theorem c8N:FK c8B c8Z Tryz.f152 c43:=fun A=>by kernel_rfl
theorem c83:FK c6A d0t Tryz.f153 c3z:=fun A=>by kernel_rfl
theorem c9c:FK c9Z d0o Tryz.f154 c3B:=fun A=>by kernel_rfl
theorem c9o:FK c6q c7U Tryz.f155 c4B:=fun A=>by kernel_rfl
theorem c8k:FK c90 c9d Tryz.f156 c5H:=fun A=>by kernel_rfl
theorem d0e:FK c84 c7X Tryz.f157 c4e:=fun A=>by kernel_rfl
theorem d0K:FK c6n d0r Tryz.f158 c5Z:=fun A=>by kernel_rfl
theorem c8d:FK c8X c86 Tryz.f159 c4d:=fun A=>by kernel_rfl
theorem c7b:FK c74 c9j Tryz.f160 c4v:=fun A=>by kernel_rfl
theorem c8w:FK c6v c9O Tryz.f161 c4U:=fun A=>by kernel_rfl
theorem d0x:FK c8G c9l Tryz.f162 c4K:=fun A=>by kernel_rfl
theorem d1t:FK c6U c9V Tryz.f163 c40:=fun A=>by kernel_rfl
theorem d0y:FK c7W c6s Tryz.f164 c4l:=fun A=>by kernel_rfl
theorem c8o:FK c65 c8Q Tryz.f165 c3t:=fun A=>by kernel_rfl
theorem d0E:FK c8b c7G Tryz.f166 a166:=fun A=>by kernel_rfl
theorem d0p:FK c6Y d0b Tryz.f167 a167:=fun A=>by kernel_rfl
theorem c7D:FK c8u c8h Tryz.f168 a168:=fun A=>by kernel_rfl
theorem c7O:FK d0N c9K Tryz.f169 a169:=fun A=>by kernel_rfl
theorem c9C:FK c6E c7j Tryz.f170 a170:=fun A=>by kernel_rfl
theorem c6t:FK c79 c9x Tryz.f171 a171:=fun A=>by kernel_rfl
theorem c76:FK c8L c7H Tryz.f172 a172:=fun A=>by kernel_rfl
theorem c7A:FK c99 d1a Tryz.f173 a173:=fun A=>by kernel_rfl
theorem d0M:FK c7n c6T Tryz.f174 a174:=fun A=>by kernel_rfl
theorem c6S:FK c7l d0U Tryz.f175 a175:=fun A=>by kernel_rfl
theorem c82:FK c7N d1r Tryz.f177 c6e:=fun A=>by kernel_rfl
theorem d0m:FK c6m d1o Tryz.f178 c5z:=fun A=>by kernel_rfl
theorem c9f:FK c8D c69 Tryz.f179 c58:=fun A=>by kernel_rfl
theorem c7B:FK c8y c7P Tryz.f180 a180:=fun A=>by kernel_rfl
theorem d09:FK c6K c7T Tryz.f181 c3C:=fun A=>by kernel_rfl
theorem d1x:FK c6N c6p Tryz.f182 c3Q:=fun A=>by kernel_rfl
theorem c8t:FK c9k c9E Tryz.f183 c3q:=fun A=>by kernel_rfl
theorem c6X:FK c7z c8z Tryz.f184 c3Y:=fun A=>by kernel_rfl
theorem c97:FK c7k c7a Tryz.f185 a185:=fun A=>by kernel_rfl
theorem c78:FK c8H c9h Tryz.f186 a186:=fun A=>by kernel_rfl
theorem d07:FK c7i d0j Tryz.f187 a187:=fun A=>by kernel_rfl
theorem c7R:FK d1l c7v Tryz.f188 a188:=fun A=>by kernel_rfl
theorem d0a:FK c7m c96 Tryz.f189 a189:=fun A=>by kernel_rfl
theorem c8q:FK c9v d0c Tryz.f190 a190:=fun A=>by kernel_rfl
theorem c9N:FK c6V c6u Tryz.f191 a191:=fun A=>by kernel_rfl
theorem c9t:FK c89 c8f Tryz.f192 a192:=fun A=>by kernel_rfl
theorem c7h:FK c6x d0A Tryz.f193 a193:=fun A=>by kernel_rfl
theorem d0B:FK d0l c66 Tryz.f194 a194:=fun A=>by kernel_rfl
theorem c8O:FK d0q c8Y Tryz.f195 a195:=fun A=>by kernel_rfl
theorem c9H:FK d0n d1i Tryz.f197 c4s:=fun A=>by kernel_rfl
theorem c81:FK c9z c9y Tryz.f198 c35:=fun A=>by kernel_rfl
theorem d0O:FK c9W c8M Tryz.f199 c50:=fun A=>by kernel_rfl
theorem c7E:FK d0d d0P Tryz.f200 c5a:=fun A=>by kernel_rfl
theorem d1s:FK d0Y c6P Tryz.f202 a202:=fun A=>by kernel_rfl
theorem c6I:FK c7x c8s Tryz.f203 a203:=fun A=>by kernel_rfl
theorem d1k:FK c9r c8a Tryz.f204 c3m:=fun A=>by kernel_rfl
theorem c2H:Q8 Go.Proofs.Tryz.prog gts 53 (Y9 4 72):=b0q Go.Proofs.Tryz.func53 (t:=Go.Proofs.Tryz.f53.params.getD 0 0) ⟨_,_,_,_,_,_,_,_,_,_,_,_,_,rfl,rfl,rfl,⟨rfl,rfl,rfl⟩,⟨rfl,rfl,rfl⟩,⟨rfl,rfl,rfl⟩,⟨rfl,rfl,rfl⟩,⟨rfl,rfl,rfl⟩,⟨rfl,rfl,rfl⟩,⟨rfl,rfl,rfl⟩,⟨rfl,rfl,rfl⟩,by kernel_rfl⟩
theorem c1m:Q8 Go.Proofs.Tryz.prog gts 86 (Y9 1 16):=b0q Go.Proofs.Tryz.func86 (t:=Go.Proofs.Tryz.f86.params.getD 0 0) ⟨_,_,_,_,_,_,_,_,_,_,_,_,_,rfl,rfl,rfl,⟨rfl,rfl,rfl⟩,⟨rfl,rfl,rfl⟩,⟨rfl,rfl,rfl⟩,⟨rfl,rfl,rfl⟩,⟨rfl,rfl,rfl⟩,⟨rfl,rfl,rfl⟩,⟨rfl,rfl,rfl⟩,⟨rfl,rfl,rfl⟩,by kernel_rfl⟩
theorem c2r:Q8 Go.Proofs.Tryz.prog gts 47 (a0o 4 80):=b7B gts
theorem c2B:Q8 Go.Proofs.Tryz.prog gts 88 (R4 4 80):=b6J gts
theorem b8R:Q8 Go.Proofs.Tryz.prog gts 201 a7o:=c6h (gi:=1) (by kernel_rfl) (List.mem_cons_of_mem _ (List.mem_singleton.2 rfl)) fun n h0 h1 w ht=>b86 n h0 h1 w ht
theorem mixed:Go.Proofs.Tryz.prog.follows .mixedOrders=true:=by kernel_rfl
theorem c3N {f:Nat} {af:AFn} (h:tbl f=some af):f < 250:=by
  rcases Nat.lt_or_ge f 250 with h1|h1
  · exact h1
  · exfalso
    have e:tblL.getD (f / 10) []=[]:=by
      rw [List.getD_eq_getElem?_getD,List.getElem?_eq_none]
      · rfl
      · show 25≤f / 10
        omega
    have h:(tblL.getD (f / 10) []).getD (f % 10) none=some af:=h
    rw [e] at h
    cases h
theorem tK {f:Nat} {fn:Func} {v b:List Nat} {a af:AFn} (h1:Go.Proofs.Tryz.prog.funcs[f]?=some fn) (h2:FK v b fn a) (h3:a1C Go.Proofs.Tryz.prog f=true) (h:some a=some af):TK f af:=by cases h; exact ⟨h3,.inl ⟨v,b,fn,h1,h2⟩⟩
theorem nK {f:Nat} {af:AFn} (h:(none:Option AFn)=some af):TK f af:=by cases h
theorem t47 (af:AFn) (h:some a47=some af):TK 47 af:=by cases h; exact ⟨by kernel_rfl,.inr ⟨_,rfl,c2r⟩⟩
theorem t53 (af:AFn) (h:some a53=some af):TK 53 af:=by cases h; exact ⟨by kernel_rfl,.inr ⟨_,rfl,c2H⟩⟩
theorem t86 (af:AFn) (h:some a86=some af):TK 86 af:=by cases h; exact ⟨by kernel_rfl,.inr ⟨_,rfl,c1m⟩⟩
theorem t88 (af:AFn) (h:some a88=some af):TK 88 af:=by cases h; exact ⟨by kernel_rfl,.inr ⟨_,rfl,c2B⟩⟩
theorem d5m (af:AFn) (h:some a201=some af):TK 201 af:=by cases h; exact ⟨by kernel_rfl,.inr ⟨_,rfl,b8R⟩⟩
theorem c3f:∀ f af,f < 250→tbl f=some af→TK f af
 | 0,_,_,h=>nK h
 | 1,_,_,h=>nK h
 | 2,_,_,h=>nK h
 | 3,_,_,h=>nK h
 | 4,_,_,h=>tK Tryz.func4 ok4 (by kernel_rfl) h
 | 5,_,_,h=>nK h
 | 6,_,_,h=>nK h
 | 7,_,_,h=>nK h
 | 8,_,_,h=>nK h
 | 9,_,_,h=>nK h
 | 10,_,_,h=>nK h
 | 11,_,_,h=>tK Tryz.func11 d5v (by kernel_rfl) h
 | 12,_,_,h=>tK Tryz.func12 d2R (by kernel_rfl) h
 | 13,_,_,h=>tK Tryz.func13 d2N (by kernel_rfl) h
 | 14,_,_,h=>nK h
 | 15,_,_,h=>tK Tryz.func15 d3f (by kernel_rfl) h
 | 16,_,_,h=>tK Tryz.func16 d37 (by kernel_rfl) h
 | 17,_,_,h=>tK Tryz.func17 d2s (by kernel_rfl) h
 | 18,_,_,h=>tK Tryz.func18 d31 (by kernel_rfl) h
 | 19,_,_,h=>tK Tryz.func19 d47 (by kernel_rfl) h
 | 20,_,_,h=>nK h
 | 21,_,_,h=>tK Tryz.func21 d2Q (by kernel_rfl) h
 | 22,_,_,h=>tK Tryz.func22 d1I (by kernel_rfl) h
 | 23,_,_,h=>nK h
 | 24,_,_,h=>nK h
 | 25,_,_,h=>tK Tryz.func25 d3o (by kernel_rfl) h
 | 26,_,_,h=>nK h
 | 27,_,_,h=>nK h
 | 28,_,_,h=>nK h
 | 29,_,_,h=>tK Tryz.func29 d4M (by kernel_rfl) h
 | 30,_,_,h=>nK h
 | 31,_,_,h=>tK Tryz.func31 d2i (by kernel_rfl) h
 | 32,_,_,h=>tK Tryz.func32 d3n (by kernel_rfl) h
 | 33,_,_,h=>tK Tryz.func33 d2B (by kernel_rfl) h
 | 34,_,_,h=>tK Tryz.func34 d17 (by kernel_rfl) h
 | 35,_,_,h=>tK Tryz.func35 d30 (by kernel_rfl) h
 | 36,_,_,h=>nK h
 | 37,_,_,h=>tK Tryz.func37 d2C (by kernel_rfl) h
 | 38,_,_,h=>tK Tryz.func38 d4T (by kernel_rfl) h
 | 39,_,_,h=>tK Tryz.func39 d4W (by kernel_rfl) h
 | 40,_,_,h=>tK Tryz.func40 d3D (by kernel_rfl) h
 | 41,_,_,h=>tK Tryz.func41 d1Y (by kernel_rfl) h
 | 42,_,_,h=>tK Tryz.func42 d1G (by kernel_rfl) h
 | 43,_,_,h=>tK Tryz.func43 d2e (by kernel_rfl) h
 | 44,_,_,h=>tK Tryz.func44 d3I (by kernel_rfl) h
 | 45,_,_,h=>tK Tryz.func45 d4C (by kernel_rfl) h
 | 46,_,_,h=>tK Tryz.func46 d4c (by kernel_rfl) h
 | 47,_,_,h=>t47 _ h
 | 48,_,_,h=>tK Tryz.func48 d4F (by kernel_rfl) h
 | 49,_,_,h=>nK h
 | 50,_,_,h=>tK Tryz.func50 d3T (by kernel_rfl) h
 | 51,_,_,h=>tK Tryz.func51 d46 (by kernel_rfl) h
 | 52,_,_,h=>tK Tryz.func52 d3V (by kernel_rfl) h
 | 53,_,_,h=>t53 _ h
 | 54,_,_,h=>tK Tryz.func54 d3e (by kernel_rfl) h
 | 55,_,_,h=>tK Tryz.func55 d4A (by kernel_rfl) h
 | 56,_,_,h=>tK Tryz.func56 d5y (by kernel_rfl) h
 | 57,_,_,h=>tK Tryz.func57 d13 (by kernel_rfl) h
 | 58,_,_,h=>tK Tryz.func58 d3E (by kernel_rfl) h
 | 59,_,_,h=>tK Tryz.func59 d4v (by kernel_rfl) h
 | 60,_,_,h=>tK Tryz.func60 d2r (by kernel_rfl) h
 | 61,_,_,h=>tK Tryz.func61 d3p (by kernel_rfl) h
 | 62,_,_,h=>tK Tryz.func62 d49 (by kernel_rfl) h
 | 63,_,_,h=>tK Tryz.func63 d3s (by kernel_rfl) h
 | 64,_,_,h=>tK Tryz.func64 d4f (by kernel_rfl) h
 | 65,_,_,h=>tK Tryz.func65 d4D (by kernel_rfl) h
 | 66,_,_,h=>tK Tryz.func66 d2I (by kernel_rfl) h
 | 67,_,_,h=>tK Tryz.func67 d4z (by kernel_rfl) h
 | 68,_,_,h=>tK Tryz.func68 d2h (by kernel_rfl) h
 | 69,_,_,h=>tK Tryz.func69 d5D (by kernel_rfl) h
 | 70,_,_,h=>tK Tryz.func70 d3S (by kernel_rfl) h
 | 71,_,_,h=>tK Tryz.func71 d3B (by kernel_rfl) h
 | 72,_,_,h=>tK Tryz.func72 d2W (by kernel_rfl) h
 | 73,_,_,h=>tK Tryz.func73 d4i (by kernel_rfl) h
 | 74,_,_,h=>tK Tryz.func74 d1X (by kernel_rfl) h
 | 75,_,_,h=>tK Tryz.func75 d2n (by kernel_rfl) h
 | 76,_,_,h=>tK Tryz.func76 d4w (by kernel_rfl) h
 | 77,_,_,h=>tK Tryz.func77 d5b (by kernel_rfl) h
 | 78,_,_,h=>tK Tryz.func78 d4j (by kernel_rfl) h
 | 79,_,_,h=>tK Tryz.func79 d2c (by kernel_rfl) h
 | 80,_,_,h=>tK Tryz.func80 d18 (by kernel_rfl) h
 | 81,_,_,h=>tK Tryz.func81 d4B (by kernel_rfl) h
 | 82,_,_,h=>tK Tryz.func82 d4E (by kernel_rfl) h
 | 83,_,_,h=>tK Tryz.func83 d3K (by kernel_rfl) h
 | 84,_,_,h=>tK Tryz.func84 d1E (by kernel_rfl) h
 | 85,_,_,h=>tK Tryz.func85 d4S (by kernel_rfl) h
 | 86,_,_,h=>t86 _ h
 | 87,_,_,h=>tK Tryz.func87 d4s (by kernel_rfl) h
 | 88,_,_,h=>t88 _ h
 | 89,_,_,h=>tK Tryz.func89 d4Q (by kernel_rfl) h
 | 90,_,_,h=>tK Tryz.func90 d4g (by kernel_rfl) h
 | 91,_,_,h=>tK Tryz.func91 d4K (by kernel_rfl) h
 | 92,_,_,h=>tK Tryz.func92 d1V (by kernel_rfl) h
 | 93,_,_,h=>tK Tryz.func93 d2V (by kernel_rfl) h
 | 94,_,_,h=>tK Tryz.func94 d5i (by kernel_rfl) h
 | 95,_,_,h=>tK Tryz.func95 d4o (by kernel_rfl) h
 | 96,_,_,h=>tK Tryz.func96 d40 (by kernel_rfl) h
 | 97,_,_,h=>tK Tryz.func97 d3c (by kernel_rfl) h
 | 98,_,_,h=>tK Tryz.func98 d4G (by kernel_rfl) h
 | 99,_,_,h=>tK Tryz.func99 d3j (by kernel_rfl) h
 | 100,_,_,h=>tK Tryz.func100 d0i (by kernel_rfl) h
 | 101,_,_,h=>tK Tryz.func101 d1z (by kernel_rfl) h
 | 102,_,_,h=>tK Tryz.func102 c9D (by kernel_rfl) h
 | 103,_,_,h=>tK Tryz.func103 d1m (by kernel_rfl) h
 | 104,_,_,h=>tK Tryz.func104 c9a (by kernel_rfl) h
 | 105,_,_,h=>tK Tryz.func105 c9U (by kernel_rfl) h
 | 106,_,_,h=>tK Tryz.func106 c9u (by kernel_rfl) h
 | 107,_,_,h=>tK Tryz.func107 d1u (by kernel_rfl) h
 | 108,_,_,h=>tK Tryz.func108 c7Y (by kernel_rfl) h
 | 109,_,_,h=>tK Tryz.func109 c63 (by kernel_rfl) h
 | 110,_,_,h=>tK Tryz.func110 c6Z (by kernel_rfl) h
 | 111,_,_,h=>tK Tryz.func111 d0H (by kernel_rfl) h
 | 112,_,_,h=>tK Tryz.func112 c6z (by kernel_rfl) h
 | 113,_,_,h=>tK Tryz.func113 d08 (by kernel_rfl) h
 | 114,_,_,h=>tK Tryz.func114 c92 (by kernel_rfl) h
 | 115,_,_,h=>tK Tryz.func115 c7r (by kernel_rfl) h
 | 116,_,_,h=>tK Tryz.func116 c9b (by kernel_rfl) h
 | 117,_,_,h=>tK Tryz.func117 d06 (by kernel_rfl) h
 | 118,_,_,h=>tK Tryz.func118 c8j (by kernel_rfl) h
 | 119,_,_,h=>tK Tryz.func119 d1e (by kernel_rfl) h
 | 120,_,_,h=>tK Tryz.func120 c8p (by kernel_rfl) h
 | 121,_,_,h=>tK Tryz.func121 c8m (by kernel_rfl) h
 | 122,_,_,h=>tK Tryz.func122 d0T (by kernel_rfl) h
 | 123,_,_,h=>tK Tryz.func123 c8C (by kernel_rfl) h
 | 124,_,_,h=>tK Tryz.func124 d1h (by kernel_rfl) h
 | 125,_,_,h=>tK Tryz.func125 d0Q (by kernel_rfl) h
 | 126,_,_,h=>tK Tryz.func126 d04 (by kernel_rfl) h
 | 127,_,_,h=>tK Tryz.func127 c7V (by kernel_rfl) h
 | 128,_,_,h=>tK Tryz.func128 c6l (by kernel_rfl) h
 | 129,_,_,h=>tK Tryz.func129 c72 (by kernel_rfl) h
 | 130,_,_,h=>tK Tryz.func130 d00 (by kernel_rfl) h
 | 131,_,_,h=>tK Tryz.func131 c9T (by kernel_rfl) h
 | 132,_,_,h=>tK Tryz.func132 d0V (by kernel_rfl) h
 | 133,_,_,h=>tK Tryz.func133 c7L (by kernel_rfl) h
 | 134,_,_,h=>tK Tryz.func134 d0z (by kernel_rfl) h
 | 135,_,_,h=>tK Tryz.func135 c7Q (by kernel_rfl) h
 | 136,_,_,h=>tK Tryz.func136 c7M (by kernel_rfl) h
 | 137,_,_,h=>nK h
 | 138,_,_,h=>nK h
 | 139,_,_,h=>tK Tryz.func139 d0D (by kernel_rfl) h
 | 140,_,_,h=>tK Tryz.func140 c6C (by kernel_rfl) h
 | 141,_,_,h=>tK Tryz.func141 d1w (by kernel_rfl) h
 | 142,_,_,h=>tK Tryz.func142 c6B (by kernel_rfl) h
 | 143,_,_,h=>tK Tryz.func143 c6y (by kernel_rfl) h
 | 144,_,_,h=>tK Tryz.func144 d0I (by kernel_rfl) h
 | 145,_,_,h=>tK Tryz.func145 c91 (by kernel_rfl) h
 | 146,_,_,h=>tK Tryz.func146 d0h (by kernel_rfl) h
 | 147,_,_,h=>tK Tryz.func147 c9i (by kernel_rfl) h
 | 148,_,_,h=>tK Tryz.func148 d02 (by kernel_rfl) h
 | 149,_,_,h=>tK Tryz.func149 c7y (by kernel_rfl) h
 | 150,_,_,h=>tK Tryz.func150 c9A (by kernel_rfl) h
 | 151,_,_,h=>tK Tryz.func151 c87 (by kernel_rfl) h
 | 152,_,_,h=>tK Tryz.func152 c8N (by kernel_rfl) h
 | 153,_,_,h=>tK Tryz.func153 c83 (by kernel_rfl) h
 | 154,_,_,h=>tK Tryz.func154 c9c (by kernel_rfl) h
 | 155,_,_,h=>tK Tryz.func155 c9o (by kernel_rfl) h
 | 156,_,_,h=>tK Tryz.func156 c8k (by kernel_rfl) h
 | 157,_,_,h=>tK Tryz.func157 d0e (by kernel_rfl) h
 | 158,_,_,h=>tK Tryz.func158 d0K (by kernel_rfl) h
 | 159,_,_,h=>tK Tryz.func159 c8d (by kernel_rfl) h
 | 160,_,_,h=>tK Tryz.func160 c7b (by kernel_rfl) h
 | 161,_,_,h=>tK Tryz.func161 c8w (by kernel_rfl) h
 | 162,_,_,h=>tK Tryz.func162 d0x (by kernel_rfl) h
 | 163,_,_,h=>tK Tryz.func163 d1t (by kernel_rfl) h
 | 164,_,_,h=>tK Tryz.func164 d0y (by kernel_rfl) h
 | 165,_,_,h=>tK Tryz.func165 c8o (by kernel_rfl) h
 | 166,_,_,h=>tK Tryz.func166 d0E (by kernel_rfl) h
 | 167,_,_,h=>tK Tryz.func167 d0p (by kernel_rfl) h
 | 168,_,_,h=>tK Tryz.func168 c7D (by kernel_rfl) h
 | 169,_,_,h=>tK Tryz.func169 c7O (by kernel_rfl) h
 | 170,_,_,h=>tK Tryz.func170 c9C (by kernel_rfl) h
 | 171,_,_,h=>tK Tryz.func171 c6t (by kernel_rfl) h
 | 172,_,_,h=>tK Tryz.func172 c76 (by kernel_rfl) h
 | 173,_,_,h=>tK Tryz.func173 c7A (by kernel_rfl) h
 | 174,_,_,h=>tK Tryz.func174 d0M (by kernel_rfl) h
 | 175,_,_,h=>tK Tryz.func175 c6S (by kernel_rfl) h
 | 176,_,_,h=>nK h
 | 177,_,_,h=>tK Tryz.func177 c82 (by kernel_rfl) h
 | 178,_,_,h=>tK Tryz.func178 d0m (by kernel_rfl) h
 | 179,_,_,h=>tK Tryz.func179 c9f (by kernel_rfl) h
 | 180,_,_,h=>tK Tryz.func180 c7B (by kernel_rfl) h
 | 181,_,_,h=>tK Tryz.func181 d09 (by kernel_rfl) h
 | 182,_,_,h=>tK Tryz.func182 d1x (by kernel_rfl) h
 | 183,_,_,h=>tK Tryz.func183 c8t (by kernel_rfl) h
 | 184,_,_,h=>tK Tryz.func184 c6X (by kernel_rfl) h
 | 185,_,_,h=>tK Tryz.func185 c97 (by kernel_rfl) h
 | 186,_,_,h=>tK Tryz.func186 c78 (by kernel_rfl) h
 | 187,_,_,h=>tK Tryz.func187 d07 (by kernel_rfl) h
 | 188,_,_,h=>tK Tryz.func188 c7R (by kernel_rfl) h
 | 189,_,_,h=>tK Tryz.func189 d0a (by kernel_rfl) h
 | 190,_,_,h=>tK Tryz.func190 c8q (by kernel_rfl) h
 | 191,_,_,h=>tK Tryz.func191 c9N (by kernel_rfl) h
 | 192,_,_,h=>tK Tryz.func192 c9t (by kernel_rfl) h
 | 193,_,_,h=>tK Tryz.func193 c7h (by kernel_rfl) h
 | 194,_,_,h=>tK Tryz.func194 d0B (by kernel_rfl) h
 | 195,_,_,h=>tK Tryz.func195 c8O (by kernel_rfl) h
 | 196,_,_,h=>nK h
 | 197,_,_,h=>tK Tryz.func197 c9H (by kernel_rfl) h
 | 198,_,_,h=>tK Tryz.func198 c81 (by kernel_rfl) h
 | 199,_,_,h=>tK Tryz.func199 d0O (by kernel_rfl) h
 | 200,_,_,h=>tK Tryz.func200 c7E (by kernel_rfl) h
 | 201,_,_,h=>d5m _ h
 | 202,_,_,h=>tK Tryz.func202 d1s (by kernel_rfl) h
 | 203,_,_,h=>tK Tryz.func203 c6I (by kernel_rfl) h
 | 204,_,_,h=>tK Tryz.func204 d1k (by kernel_rfl) h
 | 205,_,_,h=>nK h
 | 206,_,_,h=>nK h
 | 207,_,_,h=>nK h
 | 208,_,_,h=>nK h
 | 209,_,_,h=>nK h
 | 210,_,_,h=>nK h
 | 211,_,_,h=>nK h
 | 212,_,_,h=>nK h
 | 213,_,_,h=>nK h
 | 214,_,_,h=>nK h
 | 215,_,_,h=>nK h
 | 216,_,_,h=>nK h
 | 217,_,_,h=>nK h
 | 218,_,_,h=>nK h
 | 219,_,_,h=>nK h
 | 220,_,_,h=>nK h
 | 221,_,_,h=>nK h
 | 222,_,_,h=>nK h
 | 223,_,_,h=>nK h
 | 224,_,_,h=>nK h
 | 225,_,_,h=>nK h
 | 226,_,_,h=>nK h
 | 227,_,_,h=>nK h
 | 228,_,_,h=>nK h
 | 229,_,_,h=>nK h
 | 230,_,_,h=>nK h
 | 231,_,_,h=>nK h
 | 232,_,_,h=>nK h
 | 233,_,_,h=>nK h
 | 234,_,_,h=>nK h
 | 235,_,_,h=>nK h
 | 236,_,_,h=>nK h
 | 237,_,_,h=>nK h
 | 238,_,_,h=>nK h
 | 239,_,_,h=>nK h
 | 240,_,_,h=>nK h
 | 241,_,_,h=>nK h
 | 242,_,_,h=>nK h
 | 243,_,_,h=>nK h
 | 244,_,_,h=>nK h
 | 245,_,_,h=>nK h
 | 246,_,_,h=>nK h
 | 247,_,_,h=>nK h
 | 248,_,_,h=>nK h
 | 249,_,_,h=>nK h
  | n+250,_,h,_=>absurd h (by omega)
theorem c1C:ProgOK Go.Proofs.Tryz.prog gts tbl:=⟨mixed,fun f af h=>c3f f af (c3N h) h⟩
end Go.Cb.CodeA
