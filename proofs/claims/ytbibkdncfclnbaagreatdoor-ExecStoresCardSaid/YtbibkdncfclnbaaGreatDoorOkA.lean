/- That code tells the functions of the seat: the test of each function, and all of them together. No conditions. -/
import Derived.Test.YtbibkdncfclnbaaGreatDoorChecked
import Derived.KernelRfl
import Derived.Test.YtbibkdncfclnbaaGreatDoorCodeA
import Derived.Test.YtbibkdncfclnbaaGreatDoorFmL
import Derived.Test.YtbibkdncfclnbaaGreatDoorInsX
import Derived.Test.YtbibkdncfclnbaaGreatDoorDel
set_option maxRecDepth 100000
namespace Go.Cb.CodeA
open Go Go.Cb
open Go.Proofs
abbrev FK (v b:List Nat) (f:Func) (a:AFn):Prop:=∀ A,b1I Go.Proofs.Tryz.prog gts v b f a A=true
abbrev TK (f:Nat) (af:AFn):Prop:=Z5 Go.Proofs.Tryz.prog f=true∧((∃ slots bxs fn,Go.Proofs.Tryz.prog.funcs[f]?=some fn∧∀ A,b1I Go.Proofs.Tryz.prog gts slots bxs fn af A=true)∨(∃ e,af.ext=some e∧K7 Go.Proofs.Tryz.prog gts f e))
theorem d1g:FK d0i c8T Tryz.f10 a10:=fun A=>by kernel_rfl
theorem c9y:FK c72 d0Q Tryz.f11 a11:=fun A=>by kernel_rfl
theorem d0D:FK c8M c84 Tryz.f12 a12:=fun A=>by kernel_rfl
theorem d01:FK c8P d1z Tryz.f13 a13:=fun A=>by kernel_rfl
theorem c9S:FK c9r c8u Tryz.f14 a14:=fun A=>by kernel_rfl
theorem c9G:FK c9H c9C Tryz.f15 a15:=fun A=>by kernel_rfl
theorem c8K:FK d0p d0x Tryz.f16 a16:=fun A=>by kernel_rfl
theorem c7Q:FK d06 c9Q Tryz.f17 a17:=fun A=>by kernel_rfl
theorem c9L:FK d0l c9N Tryz.f18 a18:=fun A=>by kernel_rfl
theorem d0w:FK c8g c7t Tryz.f19 a19:=fun A=>by kernel_rfl
theorem c91:FK d1c c9X Tryz.f21 a21:=fun A=>by kernel_rfl
theorem d0E:FK c7K c82 Tryz.f22 a22:=fun A=>by kernel_rfl
theorem c86:FK d1p c8r Tryz.f23 a23:=fun A=>by kernel_rfl
theorem d0O:FK c9c c9t Tryz.f24 a24:=fun A=>by kernel_rfl
theorem c9M:FK c74 d0J Tryz.f25 a25:=fun A=>by kernel_rfl
theorem d02:FK c9b c9V Tryz.f26 a26:=fun A=>by kernel_rfl
theorem d0k:FK c7z d0r Tryz.f27 a27:=fun A=>by kernel_rfl
theorem c9x:FK c7E c7Y Tryz.f28 a28:=fun A=>by kernel_rfl
theorem c9q:FK c8R c7l Tryz.f29 a29:=fun A=>by kernel_rfl
theorem c7W:FK c90 c8C Tryz.f30 a30:=fun A=>by kernel_rfl
theorem c7n:FK d0g c7B Tryz.f31 a31:=fun A=>by kernel_rfl
theorem c8l:FK c9A d1j Tryz.f32 a32:=fun A=>by kernel_rfl
theorem c8k:FK d1f d0n Tryz.f33 a33:=fun A=>by kernel_rfl
theorem c9u:FK c7j c7r Tryz.f34 a34:=fun A=>by kernel_rfl
theorem c9K:FK d0f d1h Tryz.f35 a35:=fun A=>by kernel_rfl
theorem d1E:FK c8j c80 Tryz.f36 a36:=fun A=>by kernel_rfl
theorem c9n:FK d0T c87 Tryz.f37 a37:=fun A=>by kernel_rfl
theorem c7V:FK c8N c9s Tryz.f38 a38:=fun A=>by kernel_rfl
theorem d03:FK c7D c7M Tryz.f39 a39:=fun A=>by kernel_rfl
theorem c7h:FK c8O c9f Tryz.f40 a40:=fun A=>by kernel_rfl
theorem d1G:FK c7S c8J Tryz.f41 a41:=fun A=>by kernel_rfl
theorem c9W:FK d0B c9d Tryz.f42 a42:=fun A=>by kernel_rfl
theorem c9U:FK c8E d1u Tryz.f43 a43:=fun A=>by kernel_rfl
theorem c7U:FK d1l c7p Tryz.f44 a44:=fun A=>by kernel_rfl
theorem d1o:FK d0K d1m Tryz.f45 a45:=fun A=>by kernel_rfl
theorem d0d:FK c97 d1s Tryz.f46 a46:=fun A=>by kernel_rfl
theorem c8p:FK c7X c78 Tryz.f48 a48:=fun A=>by kernel_rfl
theorem d09:FK c7i c8A Tryz.f50 a50:=fun A=>by kernel_rfl
theorem c8b:FK d0R c8H Tryz.f51 a51:=fun A=>by kernel_rfl
theorem d0b:FK d04 c8e Tryz.f52 a52:=fun A=>by kernel_rfl
theorem c9D:FK c9e d07 Tryz.f54 a54:=fun A=>by kernel_rfl
theorem c7u:FK d0e d0I Tryz.f55 a55:=fun A=>by kernel_rfl
theorem c9h:FK c8d c7s Tryz.f56 a56:=fun A=>by kernel_rfl
theorem d1r:FK c94 c95 Tryz.f57 a57:=fun A=>by kernel_rfl
theorem c8a:FK c83 d0N Tryz.f58 a58:=fun A=>by kernel_rfl
theorem c7F:FK c8y d1a Tryz.f59 a59:=fun A=>by kernel_rfl
theorem d0c:FK d0u d0h Tryz.f60 a60:=fun A=>by kernel_rfl
theorem c71:FK c75 c9o Tryz.f61 a61:=fun A=>by kernel_rfl
theorem c7o:FK c7C d1e Tryz.f62 a62:=fun A=>by kernel_rfl
theorem c8m:FK d0L d1D Tryz.f63 a63:=fun A=>by kernel_rfl
theorem c8S:FK c7P c8G Tryz.f64 a64:=fun A=>by kernel_rfl
theorem d1A:FK d0V d1B Tryz.f65 a65:=fun A=>by kernel_rfl
theorem d1q:FK c8Y d0G Tryz.f66 a66:=fun A=>by kernel_rfl
theorem c7A:FK c9B c99 Tryz.f67 a67:=fun A=>by kernel_rfl
theorem d0A:FK c9Y c73 Tryz.f68 a68:=fun A=>by kernel_rfl
theorem c89:FK c79 d1t Tryz.f69 a69:=fun A=>by kernel_rfl
theorem c8x:FK d0X d0S Tryz.f70 a70:=fun A=>by kernel_rfl
theorem c8i:FK c8h c93 Tryz.f71 a71:=fun A=>by kernel_rfl
theorem c9g:FK c9T d0F Tryz.f72 a72:=fun A=>by kernel_rfl
theorem c9I:FK c76 d00 Tryz.f73 a73:=fun A=>by kernel_rfl
theorem c7J:FK c7m c7v Tryz.f74 a74:=fun A=>by kernel_rfl
theorem c9R:FK c7H d1d Tryz.f75 a75:=fun A=>by kernel_rfl
theorem d0j:FK c9E c9l Tryz.f76 a76:=fun A=>by kernel_rfl
theorem c85:FK c96 d0Y Tryz.f77 a77:=fun A=>by kernel_rfl
theorem c8q:FK c8s d1y Tryz.f78 a78:=fun A=>by kernel_rfl
theorem d0t:FK d1C c8Q Tryz.f79 a79:=fun A=>by kernel_rfl
theorem c8U:FK c9w d1F Tryz.f80 a80:=fun A=>by kernel_rfl
theorem c7G:FK c7Z c9O Tryz.f81 a81:=fun A=>by kernel_rfl
theorem c8I:FK d0o c7q Tryz.f82 a82:=fun A=>by kernel_rfl
theorem d0s:FK c7R c8V Tryz.f83 a83:=fun A=>by kernel_rfl
theorem c77:FK d08 d0P Tryz.f84 a84:=fun A=>by kernel_rfl
theorem d0W:FK c81 d1v Tryz.f85 a85:=fun A=>by kernel_rfl
theorem c92:FK c8w c98 Tryz.f87 a87:=fun A=>by kernel_rfl
theorem d0m:FK d0C c9z Tryz.f89 a89:=fun A=>by kernel_rfl
theorem c8v:FK d1b c7w Tryz.f90 a90:=fun A=>by kernel_rfl
theorem c7y:FK c8L c7O Tryz.f91 a91:=fun A=>by kernel_rfl
theorem c8X:FK c8t c8F Tryz.f92 a92:=fun A=>by kernel_rfl
theorem d1w:FK c9v c7L Tryz.f93 a93:=fun A=>by kernel_rfl
theorem c9a:FK c9P d0z Tryz.f94 a94:=fun A=>by kernel_rfl
theorem c9F:FK c8Z c8n Tryz.f95 a95:=fun A=>by kernel_rfl
theorem d0a:FK c9m d05 Tryz.f96 a96:=fun A=>by kernel_rfl
theorem c9i:FK c9J c9k Tryz.f97 a97:=fun A=>by kernel_rfl
theorem d1n:FK d0M c8o Tryz.f98 a98:=fun A=>by kernel_rfl
theorem c88:FK c8f d0H Tryz.f99 a99:=fun A=>by kernel_rfl
theorem c6C:FK c2j c3r Tryz.f100 c1I:=fun A=>by kernel_rfl
theorem c49:FK c3z c4n Tryz.f101 c0n:=fun A=>by kernel_rfl
theorem c3A:FK c3n c5b Tryz.f102 b83:=fun A=>by kernel_rfl
theorem c4V:FK c1Y c7b Tryz.f103 b9e:=fun A=>by kernel_rfl
theorem c4Z:FK c2l c4W Tryz.f104 b8X:=fun A=>by kernel_rfl
theorem c6h:FK c48 c5Q Tryz.f105 c1O:=fun A=>by kernel_rfl
theorem c2W:FK c5y c69 Tryz.f106 c0B:=fun A=>by kernel_rfl
theorem c5J:FK c5r c5K Tryz.f107 c1l:=fun A=>by kernel_rfl
theorem c3U:FK c6Q c4I Tryz.f108 b9f:=fun A=>by kernel_rfl
theorem c5t:FK c4B c3E Tryz.f109 b9k:=fun A=>by kernel_rfl
theorem c40:FK c6l c6M Tryz.f110 c1D:=fun A=>by kernel_rfl
theorem c4i:FK c4r c5Y Tryz.f111 b8Q:=fun A=>by kernel_rfl
theorem c6H:FK c3b c5C Tryz.f112 b9T:=fun A=>by kernel_rfl
theorem c6t:FK c4A c6J Tryz.f113 c1u:=fun A=>by kernel_rfl
theorem c3i:FK c4H c5L Tryz.f114 c0g:=fun A=>by kernel_rfl
theorem c5z:FK c4F c6E Tryz.f115 c1P:=fun A=>by kernel_rfl
theorem c2V:FK c50 c1V Tryz.f116 c1L:=fun A=>by kernel_rfl
theorem c2g:FK c31 c2z Tryz.f117 b9I:=fun A=>by kernel_rfl
theorem c4T:FK c6F c5h Tryz.f118 c0c:=fun A=>by kernel_rfl
theorem c2R:FK c3G c6e Tryz.f119 c0A:=fun A=>by kernel_rfl
theorem c3O:FK c5q c5F Tryz.f120 c0q:=fun A=>by kernel_rfl
theorem c2a:FK c68 c6d Tryz.f121 c0l:=fun A=>by kernel_rfl
theorem c6L:FK c3d c6n Tryz.f122 b9O:=fun A=>by kernel_rfl
theorem c4S:FK c46 c6y Tryz.f123 c0G:=fun A=>by kernel_rfl
theorem c4Q:FK c5W c3Z Tryz.f124 c1x:=fun A=>by kernel_rfl
theorem c4v:FK c2u c3D Tryz.f125 b9o:=fun A=>by kernel_rfl
theorem c3y:FK c2P c36 Tryz.f126 b9K:=fun A=>by kernel_rfl
theorem c4e:FK c2q c5R Tryz.f127 b9G:=fun A=>by kernel_rfl
theorem c59:FK c6q c2X Tryz.f128 b90:=fun A=>by kernel_rfl
theorem c6V:FK c5j c4d Tryz.f129 c1o:=fun A=>by kernel_rfl
theorem c65:FK c4g c3o Tryz.f130 c07:=fun A=>by kernel_rfl
theorem c2f:FK c2S c7g Tryz.f131 c05:=fun A=>by kernel_rfl
theorem c4C:FK c5d c5E Tryz.f132 b8N:=fun A=>by kernel_rfl
theorem c4E:FK c4M c4z Tryz.f133 c0E:=fun A=>by kernel_rfl
theorem c5m:FK c6Z c61 Tryz.f134 b93:=fun A=>by kernel_rfl
theorem c3B:FK c2N c2x Tryz.f135 c0x:=fun A=>by kernel_rfl
theorem c7e:FK c4y c3f Tryz.f136 c1c:=fun A=>by kernel_rfl
theorem c3N:FK c4U c4u Tryz.f139 c1B:=fun A=>by kernel_rfl
theorem c4Y:FK c3s c4G Tryz.f140 c1j:=fun A=>by kernel_rfl
theorem c2s:FK c3V c5g Tryz.f141 b9m:=fun A=>by kernel_rfl
theorem c6w:FK c5N c5O Tryz.f142 b8T:=fun A=>by kernel_rfl
theorem c2v:FK c54 c3J Tryz.f143 c0i:=fun A=>by kernel_rfl
theorem c38:FK c2G c6I Tryz.f144 b95:=fun A=>by kernel_rfl
theorem c6O:FK c47 c2t Tryz.f145 c0e:=fun A=>by kernel_rfl
theorem c6i:FK c3c c2C Tryz.f146 b91:=fun A=>by kernel_rfl
theorem c30:FK c6X c6S Tryz.f147 b9B:=fun A=>by kernel_rfl
theorem c43:FK c55 c1S Tryz.f148 b9P:=fun A=>by kernel_rfl
theorem c6D:FK c2d c4K Tryz.f149 c1h:=fun A=>by kernel_rfl
theorem c6s:FK c6z c5S Tryz.f150 b8Y:=fun A=>by kernel_rfl
theorem c64:FK c6K c2O Tryz.f151 c1M:=fun A=>by kernel_rfl
theorem c3j:FK c6A c4R Tryz.f152 b9X:=fun A=>by kernel_rfl
theorem c6j:FK c3w c5x Tryz.f153 b9F:=fun A=>by kernel_rfl
theorem c63:FK c3h c6k Tryz.f154 c1Q:=fun A=>by kernel_rfl
theorem c5Z:FK c4j c4p Tryz.f155 b9u:=fun A=>by kernel_rfl
theorem c5B:FK c3P c1U Tryz.f156 b8Z:=fun A=>by kernel_rfl
theorem c2m:FK c5i c4f Tryz.f157 b9t:=fun A=>by kernel_rfl
theorem c2e:FK c5u c4l Tryz.f158 c1s:=fun A=>by kernel_rfl
theorem c5k:FK c5c c2p Tryz.f159 c1E:=fun A=>by kernel_rfl
theorem c2k:FK c4k c3W Tryz.f160 c0Y:=fun A=>by kernel_rfl
theorem c60:FK c5H c6x Tryz.f161 b9y:=fun A=>by kernel_rfl
theorem c3a:FK c2M c5D Tryz.f162 c1G:=fun A=>by kernel_rfl
theorem c42:FK c2y c29 Tryz.f163 c0H:=fun A=>by kernel_rfl
theorem c2c:FK c6b c6v Tryz.f164 b85:=fun A=>by kernel_rfl
theorem c4m:FK c5T c51 Tryz.f165 c0P:=fun A=>by kernel_rfl
theorem c4x:FK c5I c3e Tryz.f166 c09:=fun A=>by kernel_rfl
theorem c45:FK c3p c5p Tryz.f167 c0M:=fun A=>by kernel_rfl
theorem c37:FK c2H c5v Tryz.f168 b89:=fun A=>by kernel_rfl
theorem c4L:FK c2w c4J Tryz.f169 a169:=fun A=>by kernel_rfl
theorem c7f:FK c6W c2B Tryz.f170 b9J:=fun A=>by kernel_rfl
theorem c27:FK c6U c3q Tryz.f171 a171:=fun A=>by kernel_rfl
theorem c3R:FK c3H c6u Tryz.f172 b9U:=fun A=>by kernel_rfl
theorem c5X:FK c2Q c2E Tryz.f173 a173:=fun A=>by kernel_rfl
theorem c4w:FK c5M c2I Tryz.f174 c06:=fun A=>by kernel_rfl
theorem c32:FK c3K c44 Tryz.f175 c1K:=fun A=>by kernel_rfl
theorem c3x:FK c3I c3Y Tryz.f177 c1t:=fun A=>by kernel_rfl
theorem c5e:FK c41 c56 Tryz.f178 c0F:=fun A=>by kernel_rfl
theorem c34:FK c53 c6a Tryz.f179 c0V:=fun A=>by kernel_rfl
theorem c3M:FK c4N c5s Tryz.f180 b9r:=fun A=>by kernel_rfl
theorem c3S:FK c5l c2n Tryz.f181 c0j:=fun A=>by kernel_rfl
theorem c58:FK c5n c3k Tryz.f182 b8W:=fun A=>by kernel_rfl
theorem c6f:FK c4b c2o Tryz.f183 b9M:=fun A=>by kernel_rfl
theorem c6p:FK c6o c4c Tryz.f184 c0W:=fun A=>by kernel_rfl
theorem c2T:FK c6N c1T Tryz.f185 c00:=fun A=>by kernel_rfl
theorem c2F:FK c2J c33 Tryz.f186 b96:=fun A=>by kernel_rfl
theorem c5V:FK c1X c2r Tryz.f187 c1q:=fun A=>by kernel_rfl
theorem c4D:FK c4h c7a Tryz.f188 c1d:=fun A=>by kernel_rfl
theorem c35:FK c4o c6c Tryz.f189 a189:=fun A=>by kernel_rfl
theorem c3u:FK c6m c3C Tryz.f190 a190:=fun A=>by kernel_rfl
theorem c2Z:FK c6G c3t Tryz.f191 b98:=fun A=>by kernel_rfl
theorem c4X:FK c5a c5f Tryz.f192 b84:=fun A=>by kernel_rfl
theorem c66:FK c3X c4O Tryz.f193 b8V:=fun A=>by kernel_rfl
theorem c3l:FK c4a c2D Tryz.f194 c0K:=fun A=>by kernel_rfl
theorem c4s:FK c39 c1W Tryz.f195 b9i:=fun A=>by kernel_rfl
theorem c5A:FK c6r c4P Tryz.f197 c1p:=fun A=>by kernel_rfl
theorem c2h:FK c5U c67 Tryz.f198 b87:=fun A=>by kernel_rfl
theorem c2i:FK c4t c2b Tryz.f199 c0v:=fun A=>by kernel_rfl
theorem c52:FK c3v c6P Tryz.f200 b88:=fun A=>by kernel_rfl
theorem c2A:FK c2U c6B Tryz.f202 c0p:=fun A=>by kernel_rfl
theorem c28:FK c3F c6Y Tryz.f203 b92:=fun A=>by kernel_rfl
theorem c4q:FK c3L c7d Tryz.f204 b9Q:=fun A=>by kernel_rfl
theorem b8F:K7 Go.Proofs.Tryz.prog gts 53 (Z1 4 72):=a7M Go.Proofs.Tryz.func53 (t:=Go.Proofs.Tryz.f53.params.getD 0 0) ⟨_,_,_,_,_,_,_,_,_,_,_,_,_,rfl,rfl,rfl,⟨rfl,rfl,rfl⟩,⟨rfl,rfl,rfl⟩,⟨rfl,rfl,rfl⟩,⟨rfl,rfl,rfl⟩,⟨rfl,rfl,rfl⟩,⟨rfl,rfl,rfl⟩,⟨rfl,rfl,rfl⟩,⟨rfl,rfl,rfl⟩,by kernel_rfl⟩
theorem b7Q:K7 Go.Proofs.Tryz.prog gts 86 (Z1 1 16):=a7M Go.Proofs.Tryz.func86 (t:=Go.Proofs.Tryz.f86.params.getD 0 0) ⟨_,_,_,_,_,_,_,_,_,_,_,_,_,rfl,rfl,rfl,⟨rfl,rfl,rfl⟩,⟨rfl,rfl,rfl⟩,⟨rfl,rfl,rfl⟩,⟨rfl,rfl,rfl⟩,⟨rfl,rfl,rfl⟩,⟨rfl,rfl,rfl⟩,⟨rfl,rfl,rfl⟩,⟨rfl,rfl,rfl⟩,by kernel_rfl⟩
theorem b8l:K7 Go.Proofs.Tryz.prog gts 47 (T3 4 80):=b4h gts
theorem b8D:K7 Go.Proofs.Tryz.prog gts 49 (T7 4 80):=b38 gts
theorem b71:K7 Go.Proofs.Tryz.prog gts 88 (M3 4 80):=b2r gts
theorem b5r:K7 Go.Proofs.Tryz.prog gts 201 b1c:=b8S (gi:=1) (by kernel_rfl) (List.mem_cons_of_mem _ (List.mem_singleton.2 rfl)) fun n h0 h1 w ht=>b4W n h0 h1 w ht
theorem mixed:Go.Proofs.Tryz.prog.follows .mixedOrders=true:=by kernel_rfl
theorem c1n {f:Nat} {af:AFn} (h:tbl f=some af):f < 250:=by
  rcases Nat.lt_or_ge f 250 with h1|h1
  · exact h1
  · exfalso
    have e:tblL.getD (f / 10) []=[]:=by
      rw [List.getD_eq_getElem?_getD,List.getElem?_eq_none]
      · rfl
      · show 25≤f / 10
        omega
    have h:(tblL.getD (f / 10) []).getD (f % 10) none=some af:=h
    rw [e] at h
    cases h
theorem tK {f:Nat} {fn:Func} {v b:List Nat} {a af:AFn} (h1:Go.Proofs.Tryz.prog.funcs[f]?=some fn) (h2:FK v b fn a) (h3:Z5 Go.Proofs.Tryz.prog f=true) (h:some a=some af):TK f af:=by cases h; exact ⟨h3,.inl ⟨v,b,fn,h1,h2⟩⟩
theorem nK {f:Nat} {af:AFn} (h:(none:Option AFn)=some af):TK f af:=by cases h
theorem t47 (af:AFn) (h:some a47=some af):TK 47 af:=by cases h; exact ⟨by kernel_rfl,.inr ⟨_,rfl,b8l⟩⟩
theorem t49 (af:AFn) (h:some a49=some af):TK 49 af:=by cases h; exact ⟨by kernel_rfl,.inr ⟨_,rfl,b8D⟩⟩
theorem t53 (af:AFn) (h:some a53=some af):TK 53 af:=by cases h; exact ⟨by kernel_rfl,.inr ⟨_,rfl,b8F⟩⟩
theorem t86 (af:AFn) (h:some a86=some af):TK 86 af:=by cases h; exact ⟨by kernel_rfl,.inr ⟨_,rfl,b7Q⟩⟩
theorem t88 (af:AFn) (h:some a88=some af):TK 88 af:=by cases h; exact ⟨by kernel_rfl,.inr ⟨_,rfl,b71⟩⟩
theorem c8W (af:AFn) (h:some c08=some af):TK 201 af:=by cases h; exact ⟨by kernel_rfl,.inr ⟨_,rfl,b5r⟩⟩
theorem b7R:∀ f af,f < 250→tbl f=some af→TK f af
 | 0,_,_,h=>nK h
 | 1,_,_,h=>nK h
 | 2,_,_,h=>nK h
 | 3,_,_,h=>nK h
 | 4,_,_,h=>nK h
 | 5,_,_,h=>nK h
 | 6,_,_,h=>nK h
 | 7,_,_,h=>nK h
 | 8,_,_,h=>nK h
 | 9,_,_,h=>nK h
 | 10,_,_,h=>tK Tryz.func10 d1g (by kernel_rfl) h
 | 11,_,_,h=>tK Tryz.func11 c9y (by kernel_rfl) h
 | 12,_,_,h=>tK Tryz.func12 d0D (by kernel_rfl) h
 | 13,_,_,h=>tK Tryz.func13 d01 (by kernel_rfl) h
 | 14,_,_,h=>tK Tryz.func14 c9S (by kernel_rfl) h
 | 15,_,_,h=>tK Tryz.func15 c9G (by kernel_rfl) h
 | 16,_,_,h=>tK Tryz.func16 c8K (by kernel_rfl) h
 | 17,_,_,h=>tK Tryz.func17 c7Q (by kernel_rfl) h
 | 18,_,_,h=>tK Tryz.func18 c9L (by kernel_rfl) h
 | 19,_,_,h=>tK Tryz.func19 d0w (by kernel_rfl) h
 | 20,_,_,h=>nK h
 | 21,_,_,h=>tK Tryz.func21 c91 (by kernel_rfl) h
 | 22,_,_,h=>tK Tryz.func22 d0E (by kernel_rfl) h
 | 23,_,_,h=>tK Tryz.func23 c86 (by kernel_rfl) h
 | 24,_,_,h=>tK Tryz.func24 d0O (by kernel_rfl) h
 | 25,_,_,h=>tK Tryz.func25 c9M (by kernel_rfl) h
 | 26,_,_,h=>tK Tryz.func26 d02 (by kernel_rfl) h
 | 27,_,_,h=>tK Tryz.func27 d0k (by kernel_rfl) h
 | 28,_,_,h=>tK Tryz.func28 c9x (by kernel_rfl) h
 | 29,_,_,h=>tK Tryz.func29 c9q (by kernel_rfl) h
 | 30,_,_,h=>tK Tryz.func30 c7W (by kernel_rfl) h
 | 31,_,_,h=>tK Tryz.func31 c7n (by kernel_rfl) h
 | 32,_,_,h=>tK Tryz.func32 c8l (by kernel_rfl) h
 | 33,_,_,h=>tK Tryz.func33 c8k (by kernel_rfl) h
 | 34,_,_,h=>tK Tryz.func34 c9u (by kernel_rfl) h
 | 35,_,_,h=>tK Tryz.func35 c9K (by kernel_rfl) h
 | 36,_,_,h=>tK Tryz.func36 d1E (by kernel_rfl) h
 | 37,_,_,h=>tK Tryz.func37 c9n (by kernel_rfl) h
 | 38,_,_,h=>tK Tryz.func38 c7V (by kernel_rfl) h
 | 39,_,_,h=>tK Tryz.func39 d03 (by kernel_rfl) h
 | 40,_,_,h=>tK Tryz.func40 c7h (by kernel_rfl) h
 | 41,_,_,h=>tK Tryz.func41 d1G (by kernel_rfl) h
 | 42,_,_,h=>tK Tryz.func42 c9W (by kernel_rfl) h
 | 43,_,_,h=>tK Tryz.func43 c9U (by kernel_rfl) h
 | 44,_,_,h=>tK Tryz.func44 c7U (by kernel_rfl) h
 | 45,_,_,h=>tK Tryz.func45 d1o (by kernel_rfl) h
 | 46,_,_,h=>tK Tryz.func46 d0d (by kernel_rfl) h
 | 47,_,_,h=>t47 _ h
 | 48,_,_,h=>tK Tryz.func48 c8p (by kernel_rfl) h
 | 49,_,_,h=>t49 _ h
 | 50,_,_,h=>tK Tryz.func50 d09 (by kernel_rfl) h
 | 51,_,_,h=>tK Tryz.func51 c8b (by kernel_rfl) h
 | 52,_,_,h=>tK Tryz.func52 d0b (by kernel_rfl) h
 | 53,_,_,h=>t53 _ h
 | 54,_,_,h=>tK Tryz.func54 c9D (by kernel_rfl) h
 | 55,_,_,h=>tK Tryz.func55 c7u (by kernel_rfl) h
 | 56,_,_,h=>tK Tryz.func56 c9h (by kernel_rfl) h
 | 57,_,_,h=>tK Tryz.func57 d1r (by kernel_rfl) h
 | 58,_,_,h=>tK Tryz.func58 c8a (by kernel_rfl) h
 | 59,_,_,h=>tK Tryz.func59 c7F (by kernel_rfl) h
 | 60,_,_,h=>tK Tryz.func60 d0c (by kernel_rfl) h
 | 61,_,_,h=>tK Tryz.func61 c71 (by kernel_rfl) h
 | 62,_,_,h=>tK Tryz.func62 c7o (by kernel_rfl) h
 | 63,_,_,h=>tK Tryz.func63 c8m (by kernel_rfl) h
 | 64,_,_,h=>tK Tryz.func64 c8S (by kernel_rfl) h
 | 65,_,_,h=>tK Tryz.func65 d1A (by kernel_rfl) h
 | 66,_,_,h=>tK Tryz.func66 d1q (by kernel_rfl) h
 | 67,_,_,h=>tK Tryz.func67 c7A (by kernel_rfl) h
 | 68,_,_,h=>tK Tryz.func68 d0A (by kernel_rfl) h
 | 69,_,_,h=>tK Tryz.func69 c89 (by kernel_rfl) h
 | 70,_,_,h=>tK Tryz.func70 c8x (by kernel_rfl) h
 | 71,_,_,h=>tK Tryz.func71 c8i (by kernel_rfl) h
 | 72,_,_,h=>tK Tryz.func72 c9g (by kernel_rfl) h
 | 73,_,_,h=>tK Tryz.func73 c9I (by kernel_rfl) h
 | 74,_,_,h=>tK Tryz.func74 c7J (by kernel_rfl) h
 | 75,_,_,h=>tK Tryz.func75 c9R (by kernel_rfl) h
 | 76,_,_,h=>tK Tryz.func76 d0j (by kernel_rfl) h
 | 77,_,_,h=>tK Tryz.func77 c85 (by kernel_rfl) h
 | 78,_,_,h=>tK Tryz.func78 c8q (by kernel_rfl) h
 | 79,_,_,h=>tK Tryz.func79 d0t (by kernel_rfl) h
 | 80,_,_,h=>tK Tryz.func80 c8U (by kernel_rfl) h
 | 81,_,_,h=>tK Tryz.func81 c7G (by kernel_rfl) h
 | 82,_,_,h=>tK Tryz.func82 c8I (by kernel_rfl) h
 | 83,_,_,h=>tK Tryz.func83 d0s (by kernel_rfl) h
 | 84,_,_,h=>tK Tryz.func84 c77 (by kernel_rfl) h
 | 85,_,_,h=>tK Tryz.func85 d0W (by kernel_rfl) h
 | 86,_,_,h=>t86 _ h
 | 87,_,_,h=>tK Tryz.func87 c92 (by kernel_rfl) h
 | 88,_,_,h=>t88 _ h
 | 89,_,_,h=>tK Tryz.func89 d0m (by kernel_rfl) h
 | 90,_,_,h=>tK Tryz.func90 c8v (by kernel_rfl) h
 | 91,_,_,h=>tK Tryz.func91 c7y (by kernel_rfl) h
 | 92,_,_,h=>tK Tryz.func92 c8X (by kernel_rfl) h
 | 93,_,_,h=>tK Tryz.func93 d1w (by kernel_rfl) h
 | 94,_,_,h=>tK Tryz.func94 c9a (by kernel_rfl) h
 | 95,_,_,h=>tK Tryz.func95 c9F (by kernel_rfl) h
 | 96,_,_,h=>tK Tryz.func96 d0a (by kernel_rfl) h
 | 97,_,_,h=>tK Tryz.func97 c9i (by kernel_rfl) h
 | 98,_,_,h=>tK Tryz.func98 d1n (by kernel_rfl) h
 | 99,_,_,h=>tK Tryz.func99 c88 (by kernel_rfl) h
 | 100,_,_,h=>tK Tryz.func100 c6C (by kernel_rfl) h
 | 101,_,_,h=>tK Tryz.func101 c49 (by kernel_rfl) h
 | 102,_,_,h=>tK Tryz.func102 c3A (by kernel_rfl) h
 | 103,_,_,h=>tK Tryz.func103 c4V (by kernel_rfl) h
 | 104,_,_,h=>tK Tryz.func104 c4Z (by kernel_rfl) h
 | 105,_,_,h=>tK Tryz.func105 c6h (by kernel_rfl) h
 | 106,_,_,h=>tK Tryz.func106 c2W (by kernel_rfl) h
 | 107,_,_,h=>tK Tryz.func107 c5J (by kernel_rfl) h
 | 108,_,_,h=>tK Tryz.func108 c3U (by kernel_rfl) h
 | 109,_,_,h=>tK Tryz.func109 c5t (by kernel_rfl) h
 | 110,_,_,h=>tK Tryz.func110 c40 (by kernel_rfl) h
 | 111,_,_,h=>tK Tryz.func111 c4i (by kernel_rfl) h
 | 112,_,_,h=>tK Tryz.func112 c6H (by kernel_rfl) h
 | 113,_,_,h=>tK Tryz.func113 c6t (by kernel_rfl) h
 | 114,_,_,h=>tK Tryz.func114 c3i (by kernel_rfl) h
 | 115,_,_,h=>tK Tryz.func115 c5z (by kernel_rfl) h
 | 116,_,_,h=>tK Tryz.func116 c2V (by kernel_rfl) h
 | 117,_,_,h=>tK Tryz.func117 c2g (by kernel_rfl) h
 | 118,_,_,h=>tK Tryz.func118 c4T (by kernel_rfl) h
 | 119,_,_,h=>tK Tryz.func119 c2R (by kernel_rfl) h
 | 120,_,_,h=>tK Tryz.func120 c3O (by kernel_rfl) h
 | 121,_,_,h=>tK Tryz.func121 c2a (by kernel_rfl) h
 | 122,_,_,h=>tK Tryz.func122 c6L (by kernel_rfl) h
 | 123,_,_,h=>tK Tryz.func123 c4S (by kernel_rfl) h
 | 124,_,_,h=>tK Tryz.func124 c4Q (by kernel_rfl) h
 | 125,_,_,h=>tK Tryz.func125 c4v (by kernel_rfl) h
 | 126,_,_,h=>tK Tryz.func126 c3y (by kernel_rfl) h
 | 127,_,_,h=>tK Tryz.func127 c4e (by kernel_rfl) h
 | 128,_,_,h=>tK Tryz.func128 c59 (by kernel_rfl) h
 | 129,_,_,h=>tK Tryz.func129 c6V (by kernel_rfl) h
 | 130,_,_,h=>tK Tryz.func130 c65 (by kernel_rfl) h
 | 131,_,_,h=>tK Tryz.func131 c2f (by kernel_rfl) h
 | 132,_,_,h=>tK Tryz.func132 c4C (by kernel_rfl) h
 | 133,_,_,h=>tK Tryz.func133 c4E (by kernel_rfl) h
 | 134,_,_,h=>tK Tryz.func134 c5m (by kernel_rfl) h
 | 135,_,_,h=>tK Tryz.func135 c3B (by kernel_rfl) h
 | 136,_,_,h=>tK Tryz.func136 c7e (by kernel_rfl) h
 | 137,_,_,h=>nK h
 | 138,_,_,h=>nK h
 | 139,_,_,h=>tK Tryz.func139 c3N (by kernel_rfl) h
 | 140,_,_,h=>tK Tryz.func140 c4Y (by kernel_rfl) h
 | 141,_,_,h=>tK Tryz.func141 c2s (by kernel_rfl) h
 | 142,_,_,h=>tK Tryz.func142 c6w (by kernel_rfl) h
 | 143,_,_,h=>tK Tryz.func143 c2v (by kernel_rfl) h
 | 144,_,_,h=>tK Tryz.func144 c38 (by kernel_rfl) h
 | 145,_,_,h=>tK Tryz.func145 c6O (by kernel_rfl) h
 | 146,_,_,h=>tK Tryz.func146 c6i (by kernel_rfl) h
 | 147,_,_,h=>tK Tryz.func147 c30 (by kernel_rfl) h
 | 148,_,_,h=>tK Tryz.func148 c43 (by kernel_rfl) h
 | 149,_,_,h=>tK Tryz.func149 c6D (by kernel_rfl) h
 | 150,_,_,h=>tK Tryz.func150 c6s (by kernel_rfl) h
 | 151,_,_,h=>tK Tryz.func151 c64 (by kernel_rfl) h
 | 152,_,_,h=>tK Tryz.func152 c3j (by kernel_rfl) h
 | 153,_,_,h=>tK Tryz.func153 c6j (by kernel_rfl) h
 | 154,_,_,h=>tK Tryz.func154 c63 (by kernel_rfl) h
 | 155,_,_,h=>tK Tryz.func155 c5Z (by kernel_rfl) h
 | 156,_,_,h=>tK Tryz.func156 c5B (by kernel_rfl) h
 | 157,_,_,h=>tK Tryz.func157 c2m (by kernel_rfl) h
 | 158,_,_,h=>tK Tryz.func158 c2e (by kernel_rfl) h
 | 159,_,_,h=>tK Tryz.func159 c5k (by kernel_rfl) h
 | 160,_,_,h=>tK Tryz.func160 c2k (by kernel_rfl) h
 | 161,_,_,h=>tK Tryz.func161 c60 (by kernel_rfl) h
 | 162,_,_,h=>tK Tryz.func162 c3a (by kernel_rfl) h
 | 163,_,_,h=>tK Tryz.func163 c42 (by kernel_rfl) h
 | 164,_,_,h=>tK Tryz.func164 c2c (by kernel_rfl) h
 | 165,_,_,h=>tK Tryz.func165 c4m (by kernel_rfl) h
 | 166,_,_,h=>tK Tryz.func166 c4x (by kernel_rfl) h
 | 167,_,_,h=>tK Tryz.func167 c45 (by kernel_rfl) h
 | 168,_,_,h=>tK Tryz.func168 c37 (by kernel_rfl) h
 | 169,_,_,h=>tK Tryz.func169 c4L (by kernel_rfl) h
 | 170,_,_,h=>tK Tryz.func170 c7f (by kernel_rfl) h
 | 171,_,_,h=>tK Tryz.func171 c27 (by kernel_rfl) h
 | 172,_,_,h=>tK Tryz.func172 c3R (by kernel_rfl) h
 | 173,_,_,h=>tK Tryz.func173 c5X (by kernel_rfl) h
 | 174,_,_,h=>tK Tryz.func174 c4w (by kernel_rfl) h
 | 175,_,_,h=>tK Tryz.func175 c32 (by kernel_rfl) h
 | 176,_,_,h=>nK h
 | 177,_,_,h=>tK Tryz.func177 c3x (by kernel_rfl) h
 | 178,_,_,h=>tK Tryz.func178 c5e (by kernel_rfl) h
 | 179,_,_,h=>tK Tryz.func179 c34 (by kernel_rfl) h
 | 180,_,_,h=>tK Tryz.func180 c3M (by kernel_rfl) h
 | 181,_,_,h=>tK Tryz.func181 c3S (by kernel_rfl) h
 | 182,_,_,h=>tK Tryz.func182 c58 (by kernel_rfl) h
 | 183,_,_,h=>tK Tryz.func183 c6f (by kernel_rfl) h
 | 184,_,_,h=>tK Tryz.func184 c6p (by kernel_rfl) h
 | 185,_,_,h=>tK Tryz.func185 c2T (by kernel_rfl) h
 | 186,_,_,h=>tK Tryz.func186 c2F (by kernel_rfl) h
 | 187,_,_,h=>tK Tryz.func187 c5V (by kernel_rfl) h
 | 188,_,_,h=>tK Tryz.func188 c4D (by kernel_rfl) h
 | 189,_,_,h=>tK Tryz.func189 c35 (by kernel_rfl) h
 | 190,_,_,h=>tK Tryz.func190 c3u (by kernel_rfl) h
 | 191,_,_,h=>tK Tryz.func191 c2Z (by kernel_rfl) h
 | 192,_,_,h=>tK Tryz.func192 c4X (by kernel_rfl) h
 | 193,_,_,h=>tK Tryz.func193 c66 (by kernel_rfl) h
 | 194,_,_,h=>tK Tryz.func194 c3l (by kernel_rfl) h
 | 195,_,_,h=>tK Tryz.func195 c4s (by kernel_rfl) h
 | 196,_,_,h=>nK h
 | 197,_,_,h=>tK Tryz.func197 c5A (by kernel_rfl) h
 | 198,_,_,h=>tK Tryz.func198 c2h (by kernel_rfl) h
 | 199,_,_,h=>tK Tryz.func199 c2i (by kernel_rfl) h
 | 200,_,_,h=>tK Tryz.func200 c52 (by kernel_rfl) h
 | 201,_,_,h=>c8W _ h
 | 202,_,_,h=>tK Tryz.func202 c2A (by kernel_rfl) h
 | 203,_,_,h=>tK Tryz.func203 c28 (by kernel_rfl) h
 | 204,_,_,h=>tK Tryz.func204 c4q (by kernel_rfl) h
 | 205,_,_,h=>nK h
 | 206,_,_,h=>nK h
 | 207,_,_,h=>nK h
 | 208,_,_,h=>nK h
 | 209,_,_,h=>nK h
 | 210,_,_,h=>nK h
 | 211,_,_,h=>nK h
 | 212,_,_,h=>nK h
 | 213,_,_,h=>nK h
 | 214,_,_,h=>nK h
 | 215,_,_,h=>nK h
 | 216,_,_,h=>nK h
 | 217,_,_,h=>nK h
 | 218,_,_,h=>nK h
 | 219,_,_,h=>nK h
 | 220,_,_,h=>nK h
 | 221,_,_,h=>nK h
 | 222,_,_,h=>nK h
 | 223,_,_,h=>nK h
 | 224,_,_,h=>nK h
 | 225,_,_,h=>nK h
 | 226,_,_,h=>nK h
 | 227,_,_,h=>nK h
 | 228,_,_,h=>nK h
 | 229,_,_,h=>nK h
 | 230,_,_,h=>nK h
 | 231,_,_,h=>nK h
 | 232,_,_,h=>nK h
 | 233,_,_,h=>nK h
 | 234,_,_,h=>nK h
 | 235,_,_,h=>nK h
 | 236,_,_,h=>nK h
 | 237,_,_,h=>nK h
 | 238,_,_,h=>nK h
 | 239,_,_,h=>nK h
 | 240,_,_,h=>nK h
 | 241,_,_,h=>nK h
 | 242,_,_,h=>nK h
 | 243,_,_,h=>nK h
 | 244,_,_,h=>nK h
 | 245,_,_,h=>nK h
 | 246,_,_,h=>nK h
 | 247,_,_,h=>nK h
 | 248,_,_,h=>nK h
 | 249,_,_,h=>nK h
  | n+250,_,h,_=>absurd h (by omega)
theorem b7A:ProgOK Go.Proofs.Tryz.prog gts tbl:=⟨mixed,fun f af h=>b7R f af (c1n h) h⟩
end Go.Cb.CodeA
