/- That code tells the functions of the seat: the test of each function, and all of them together. No conditions. -/
import Derived.Test.YthnliekianmljaaGreatDoorChecked
import Derived.KernelRfl
import Derived.Test.YthnliekianmljaaGreatDoorCodeA
import Derived.Test.YthnliekianmljaaGreatDoorXAms3
set_option maxRecDepth 100000
namespace Go.Cb.CodeA
open Go Go.Cb
open Go.Proofs
abbrev FK (v b:List Nat) (f:Func) (a:AFn):Prop:=∀ A,b3k Go.Proofs.Tryz.prog gts v b f a A=true
abbrev TK (f:Nat) (af:AFn):Prop:=a1b Go.Proofs.Tryz.prog f=true∧((∃ slots bxs fn,Go.Proofs.Tryz.prog.funcs[f]?=some fn∧∀ A,b3k Go.Proofs.Tryz.prog gts slots bxs fn af A=true)∨(∃ e,af.ext=some e∧a5c Go.Proofs.Tryz.prog gts f e))
theorem ok8:FK a8v a8b Tryz.f8 a8:=fun A=>by kernel_rfl
theorem ok9:FK a9v a9b Tryz.f9 a9:=fun A=>by kernel_rfl
theorem d84:FK d93 d6W Tryz.f10 a10:=fun A=>by kernel_rfl
theorem d9c:FK d7O d75 Tryz.f11 a11:=fun A=>by kernel_rfl
theorem d9r:FK d8f d8a Tryz.f12 a12:=fun A=>by kernel_rfl
theorem d5Y:FK d7c d8o Tryz.f13 a13:=fun A=>by kernel_rfl
theorem e0z:FK d7T d6D Tryz.f14 a14:=fun A=>by kernel_rfl
theorem d7g:FK d7J d8m Tryz.f15 a15:=fun A=>by kernel_rfl
theorem d64:FK d7R d9e Tryz.f16 a16:=fun A=>by kernel_rfl
theorem d8L:FK e0o d7z Tryz.f17 a17:=fun A=>by kernel_rfl
theorem e0V:FK d8F d6o Tryz.f18 a18:=fun A=>by kernel_rfl
theorem d8J:FK d9P d9H Tryz.f19 a19:=fun A=>by kernel_rfl
theorem d52:FK d8h d8i Tryz.f20 a20:=fun A=>by kernel_rfl
theorem d9K:FK d6M d9q Tryz.f21 a21:=fun A=>by kernel_rfl
theorem d8N:FK e0P d8C Tryz.f22 a22:=fun A=>by kernel_rfl
theorem d8q:FK e0u e0g Tryz.f23 a23:=fun A=>by kernel_rfl
theorem d9u:FK d6w d5O Tryz.f24 a24:=fun A=>by kernel_rfl
theorem e0W:FK d8A e00 Tryz.f25 a25:=fun A=>by kernel_rfl
theorem d6v:FK d7u d9j Tryz.f26 a26:=fun A=>by kernel_rfl
theorem d6e:FK d7H d97 Tryz.f27 a27:=fun A=>by kernel_rfl
theorem e0Y:FK d71 d8O Tryz.f28 a28:=fun A=>by kernel_rfl
theorem e0B:FK d51 d8n Tryz.f29 a29:=fun A=>by kernel_rfl
theorem e0c:FK d7V d7M Tryz.f30 a30:=fun A=>by kernel_rfl
theorem d6p:FK d7K d5Q Tryz.f31 a31:=fun A=>by kernel_rfl
theorem d9a:FK d6H d7E Tryz.f32 a32:=fun A=>by kernel_rfl
theorem d54:FK d9l d9z Tryz.f33 a33:=fun A=>by kernel_rfl
theorem d9f:FK d66 d78 Tryz.f34 a34:=fun A=>by kernel_rfl
theorem e0I:FK d8c d8U Tryz.f35 a35:=fun A=>by kernel_rfl
theorem d7S:FK d88 d5R Tryz.f36 a36:=fun A=>by kernel_rfl
theorem d6Y:FK d9W d8R Tryz.f37 a37:=fun A=>by kernel_rfl
theorem d6d:FK d8w d9d Tryz.f38 a38:=fun A=>by kernel_rfl
theorem e0r:FK e0x d59 Tryz.f39 a39:=fun A=>by kernel_rfl
theorem d73:FK d9I d9Q Tryz.f40 a40:=fun A=>by kernel_rfl
theorem d8B:FK e0M e0h Tryz.f41 a41:=fun A=>by kernel_rfl
theorem d7w:FK d9B d99 Tryz.f42 a42:=fun A=>by kernel_rfl
theorem d7o:FK d9Y e0w Tryz.f43 a43:=fun A=>by kernel_rfl
theorem d8Q:FK d5V d5P Tryz.f45 a45:=fun A=>by kernel_rfl
theorem d56:FK d8I d8e Tryz.f46 a46:=fun A=>by kernel_rfl
theorem d6P:FK e0H d74 Tryz.f47 a47:=fun A=>by kernel_rfl
theorem d8z:FK d9i d89 Tryz.f48 a48:=fun A=>by kernel_rfl
theorem d6E:FK d7x d7r Tryz.f49 a49:=fun A=>by kernel_rfl
theorem d6u:FK d9V d67 Tryz.f50 a50:=fun A=>by kernel_rfl
theorem d57:FK d8k d7h Tryz.f51 a51:=fun A=>by kernel_rfl
theorem d86:FK d9E d6L Tryz.f52 a52:=fun A=>by kernel_rfl
theorem e0Z:FK d6z d8b Tryz.f53 a53:=fun A=>by kernel_rfl
theorem d9p:FK d7Z d7f Tryz.f54 a54:=fun A=>by kernel_rfl
theorem d9X:FK d9T e0G Tryz.f55 a55:=fun A=>by kernel_rfl
theorem d5U:FK d7b d9A Tryz.f56 a56:=fun A=>by kernel_rfl
theorem d85:FK d7B e0O Tryz.f57 a57:=fun A=>by kernel_rfl
theorem d6y:FK d53 d5S Tryz.f58 a58:=fun A=>by kernel_rfl
theorem d9v:FK d6A d6C Tryz.f59 a59:=fun A=>by kernel_rfl
theorem d9y:FK e0t d95 Tryz.f60 a60:=fun A=>by kernel_rfl
theorem d7A:FK d9R d9s Tryz.f61 a61:=fun A=>by kernel_rfl
theorem d79:FK d76 d6J Tryz.f62 a62:=fun A=>by kernel_rfl
theorem d9G:FK d87 d9b Tryz.f63 a63:=fun A=>by kernel_rfl
theorem d5N:FK d6I e0q Tryz.f64 a64:=fun A=>by kernel_rfl
theorem d8M:FK d7e d8P Tryz.f65 a65:=fun A=>by kernel_rfl
theorem d90:FK e0X d69 Tryz.f66 a66:=fun A=>by kernel_rfl
theorem d7i:FK d9g d5J Tryz.f67 a67:=fun A=>by kernel_rfl
theorem d68:FK d8H d6r Tryz.f68 a68:=fun A=>by kernel_rfl
theorem d8G:FK d6m d7I Tryz.f69 a69:=fun A=>by kernel_rfl
theorem d7j:FK d7v e0C Tryz.f70 a70:=fun A=>by kernel_rfl
theorem e0T:FK d8d d58 Tryz.f71 a71:=fun A=>by kernel_rfl
theorem d7k:FK d5I d8W Tryz.f72 a72:=fun A=>by kernel_rfl
theorem d9M:FK d8Y d60 Tryz.f73 a73:=fun A=>by kernel_rfl
theorem d6F:FK d5X d8T Tryz.f74 a74:=fun A=>by kernel_rfl
theorem d6N:FK d8j d9D Tryz.f75 a75:=fun A=>by kernel_rfl
theorem d7d:FK d8K d9J Tryz.f76 a76:=fun A=>by kernel_rfl
theorem d6s:FK e0b d94 Tryz.f77 a77:=fun A=>by kernel_rfl
theorem d92:FK d9m d7n Tryz.f78 a78:=fun A=>by kernel_rfl
theorem d8V:FK d9S d9F Tryz.f79 a79:=fun A=>by kernel_rfl
theorem e0L:FK d6G d82 Tryz.f80 a80:=fun A=>by kernel_rfl
theorem d77:FK d7W d8r Tryz.f81 a81:=fun A=>by kernel_rfl
theorem d9k:FK d9U d7C Tryz.f82 a82:=fun A=>by kernel_rfl
theorem e0i:FK d6V d6n Tryz.f83 a83:=fun A=>by kernel_rfl
theorem d7a:FK d9C d9h Tryz.f84 a84:=fun A=>by kernel_rfl
theorem d9Z:FK d6t d6a Tryz.f85 a85:=fun A=>by kernel_rfl
theorem d6l:FK d8x d7Y Tryz.f86 a86:=fun A=>by kernel_rfl
theorem d63:FK e0v d9n Tryz.f87 a87:=fun A=>by kernel_rfl
theorem d7s:FK d9t d7G Tryz.f88 a88:=fun A=>by kernel_rfl
theorem d72:FK d8p d5T Tryz.f89 a89:=fun A=>by kernel_rfl
theorem d7D:FK e0D d7q Tryz.f90 a90:=fun A=>by kernel_rfl
theorem d5Z:FK d8D e0f Tryz.f91 a91:=fun A=>by kernel_rfl
theorem e0U:FK e0K d7p Tryz.f92 a92:=fun A=>by kernel_rfl
theorem d6k:FK d6j d7m Tryz.f93 a93:=fun A=>by kernel_rfl
theorem d6f:FK d5W d8s Tryz.f94 a94:=fun A=>by kernel_rfl
theorem d70:FK d8X d6g Tryz.f95 a95:=fun A=>by kernel_rfl
theorem e0Q:FK d55 e0k Tryz.f96 a96:=fun A=>by kernel_rfl
theorem d6R:FK d9o e0S Tryz.f97 a97:=fun A=>by kernel_rfl
theorem d62:FK d7l d98 Tryz.f98 a98:=fun A=>by kernel_rfl
theorem d6x:FK d8t e0p Tryz.f99 a99:=fun A=>by kernel_rfl
theorem d4I:FK d31 d2t Tryz.f100 a100:=fun A=>by kernel_rfl
theorem d3w:FK d19 d1O Tryz.f101 a101:=fun A=>by kernel_rfl
theorem d4J:FK d4N d2o Tryz.f102 c9W:=fun A=>by kernel_rfl
theorem d2s:FK d1F d14 Tryz.f103 c7A:=fun A=>by kernel_rfl
theorem d1E:FK d3h d2T Tryz.f104 c52:=fun A=>by kernel_rfl
theorem d27:FK d4X d5p Tryz.f105 c5t:=fun A=>by kernel_rfl
theorem d1T:FK d4t d3g Tryz.f106 c67:=fun A=>by kernel_rfl
theorem d4x:FK d3i d3e Tryz.f107 c9T:=fun A=>by kernel_rfl
theorem d2e:FK d2R d4L Tryz.f108 c8R:=fun A=>by kernel_rfl
theorem d12:FK d4p d4e Tryz.f109 c6x:=fun A=>by kernel_rfl
theorem d4W:FK d3m d2Q Tryz.f110 c3k:=fun A=>by kernel_rfl
theorem d2f:FK d4V d1L Tryz.f111 c6S:=fun A=>by kernel_rfl
theorem d4a:FK d41 d24 Tryz.f112 c7x:=fun A=>by kernel_rfl
theorem d13:FK d2Y d5q Tryz.f113 c9b:=fun A=>by kernel_rfl
theorem d4T:FK d5g d5H Tryz.f114 c9J:=fun A=>by kernel_rfl
theorem d44:FK d4D d2U Tryz.f115 d0E:=fun A=>by kernel_rfl
theorem d25:FK d1N d3X Tryz.f116 c9f:=fun A=>by kernel_rfl
theorem d3k:FK d3F d5l Tryz.f117 c8Y:=fun A=>by kernel_rfl
theorem d1x:FK d3u d2F Tryz.f118 d0T:=fun A=>by kernel_rfl
theorem d3r:FK d3T d4m Tryz.f119 a119:=fun A=>by kernel_rfl
theorem d5y:FK d5f d2z Tryz.f120 a120:=fun A=>by kernel_rfl
theorem d4M:FK d2v d26 Tryz.f122 a122:=fun A=>by kernel_rfl
theorem d3E:FK d4O d2l Tryz.f123 c81:=fun A=>by kernel_rfl
theorem d1y:FK d1q d46 Tryz.f124 c7l:=fun A=>by kernel_rfl
theorem d5A:FK d1V d4B Tryz.f125 c8D:=fun A=>by kernel_rfl
theorem d1B:FK d4u d3b Tryz.f126 c5l:=fun A=>by kernel_rfl
theorem d3M:FK d1o d4z Tryz.f127 c51:=fun A=>by kernel_rfl
theorem d3D:FK d2C d5a Tryz.f128 c5k:=fun A=>by kernel_rfl
theorem d5r:FK d16 d36 Tryz.f129 c3A:=fun A=>by kernel_rfl
theorem d1X:FK d3L d3O Tryz.f130 a130:=fun A=>by kernel_rfl
theorem d28:FK d2K d38 Tryz.f131 a131:=fun A=>by kernel_rfl
theorem d4y:FK d3K d5u Tryz.f132 d0M:=fun A=>by kernel_rfl
theorem d20:FK d17 d1Y Tryz.f133 c46:=fun A=>by kernel_rfl
theorem d1U:FK d3B d4o Tryz.f134 c35:=fun A=>by kernel_rfl
theorem d29:FK d2h d1H Tryz.f135 a135:=fun A=>by kernel_rfl
theorem c2H:a5c Go.Proofs.Tryz.prog gts 44 (a0B 4 72):=b08 Go.Proofs.Tryz.func44 (t:=Go.Proofs.Tryz.f44.params.getD 0 0) ⟨_,_,_,_,_,_,_,_,_,_,_,_,_,rfl,rfl,rfl,⟨rfl,rfl,rfl⟩,⟨rfl,rfl,rfl⟩,⟨rfl,rfl,rfl⟩,⟨rfl,rfl,rfl⟩,⟨rfl,rfl,rfl⟩,⟨rfl,rfl,rfl⟩,⟨rfl,rfl,rfl⟩,⟨rfl,rfl,rfl⟩,by kernel_rfl⟩
theorem b8i:a5c Go.Proofs.Tryz.prog gts 121 (a0B 1 16):=b08 Go.Proofs.Tryz.func121 (t:=Go.Proofs.Tryz.f121.params.getD 0 0) ⟨_,_,_,_,_,_,_,_,_,_,_,_,_,rfl,rfl,rfl,⟨rfl,rfl,rfl⟩,⟨rfl,rfl,rfl⟩,⟨rfl,rfl,rfl⟩,⟨rfl,rfl,rfl⟩,⟨rfl,rfl,rfl⟩,⟨rfl,rfl,rfl⟩,⟨rfl,rfl,rfl⟩,⟨rfl,rfl,rfl⟩,by kernel_rfl⟩
theorem mixed:Go.Proofs.Tryz.prog.follows .mixedOrders=true:=by kernel_rfl
theorem c5s {f:Nat} {af:AFn} (h:tbl f=some af):f < 160:=by
  rcases Nat.lt_or_ge f 160 with h1|h1
  · exact h1
  · exfalso
    have e:tblL.getD (f / 10) []=[]:=by
      rw [List.getD_eq_getElem?_getD,List.getElem?_eq_none]
      · rfl
      · show 16≤f / 10
        omega
    have h:(tblL.getD (f / 10) []).getD (f % 10) none=some af:=h
    rw [e] at h
    cases h
theorem tK {f:Nat} {fn:Func} {v b:List Nat} {a af:AFn} (h1:Go.Proofs.Tryz.prog.funcs[f]?=some fn) (h2:FK v b fn a) (h3:a1b Go.Proofs.Tryz.prog f=true) (h:some a=some af):TK f af:=by cases h; exact ⟨h3,.inl ⟨v,b,fn,h1,h2⟩⟩
theorem nK {f:Nat} {af:AFn} (h:(none:Option AFn)=some af):TK f af:=by cases h
theorem t44 (af:AFn) (h:some a44=some af):TK 44 af:=by cases h; exact ⟨by kernel_rfl,.inr ⟨_,rfl,c2H⟩⟩
theorem d6O (af:AFn) (h:some a121=some af):TK 121 af:=by cases h; exact ⟨by kernel_rfl,.inr ⟨_,rfl,b8i⟩⟩
theorem c0i:∀ f af,f < 160→tbl f=some af→TK f af
 | 0,_,_,h=>nK h
 | 1,_,_,h=>nK h
 | 2,_,_,h=>nK h
 | 3,_,_,h=>nK h
 | 4,_,_,h=>nK h
 | 5,_,_,h=>nK h
 | 6,_,_,h=>nK h
 | 7,_,_,h=>nK h
 | 8,_,_,h=>tK Tryz.func8 ok8 (by kernel_rfl) h
 | 9,_,_,h=>tK Tryz.func9 ok9 (by kernel_rfl) h
 | 10,_,_,h=>tK Tryz.func10 d84 (by kernel_rfl) h
 | 11,_,_,h=>tK Tryz.func11 d9c (by kernel_rfl) h
 | 12,_,_,h=>tK Tryz.func12 d9r (by kernel_rfl) h
 | 13,_,_,h=>tK Tryz.func13 d5Y (by kernel_rfl) h
 | 14,_,_,h=>tK Tryz.func14 e0z (by kernel_rfl) h
 | 15,_,_,h=>tK Tryz.func15 d7g (by kernel_rfl) h
 | 16,_,_,h=>tK Tryz.func16 d64 (by kernel_rfl) h
 | 17,_,_,h=>tK Tryz.func17 d8L (by kernel_rfl) h
 | 18,_,_,h=>tK Tryz.func18 e0V (by kernel_rfl) h
 | 19,_,_,h=>tK Tryz.func19 d8J (by kernel_rfl) h
 | 20,_,_,h=>tK Tryz.func20 d52 (by kernel_rfl) h
 | 21,_,_,h=>tK Tryz.func21 d9K (by kernel_rfl) h
 | 22,_,_,h=>tK Tryz.func22 d8N (by kernel_rfl) h
 | 23,_,_,h=>tK Tryz.func23 d8q (by kernel_rfl) h
 | 24,_,_,h=>tK Tryz.func24 d9u (by kernel_rfl) h
 | 25,_,_,h=>tK Tryz.func25 e0W (by kernel_rfl) h
 | 26,_,_,h=>tK Tryz.func26 d6v (by kernel_rfl) h
 | 27,_,_,h=>tK Tryz.func27 d6e (by kernel_rfl) h
 | 28,_,_,h=>tK Tryz.func28 e0Y (by kernel_rfl) h
 | 29,_,_,h=>tK Tryz.func29 e0B (by kernel_rfl) h
 | 30,_,_,h=>tK Tryz.func30 e0c (by kernel_rfl) h
 | 31,_,_,h=>tK Tryz.func31 d6p (by kernel_rfl) h
 | 32,_,_,h=>tK Tryz.func32 d9a (by kernel_rfl) h
 | 33,_,_,h=>tK Tryz.func33 d54 (by kernel_rfl) h
 | 34,_,_,h=>tK Tryz.func34 d9f (by kernel_rfl) h
 | 35,_,_,h=>tK Tryz.func35 e0I (by kernel_rfl) h
 | 36,_,_,h=>tK Tryz.func36 d7S (by kernel_rfl) h
 | 37,_,_,h=>tK Tryz.func37 d6Y (by kernel_rfl) h
 | 38,_,_,h=>tK Tryz.func38 d6d (by kernel_rfl) h
 | 39,_,_,h=>tK Tryz.func39 e0r (by kernel_rfl) h
 | 40,_,_,h=>tK Tryz.func40 d73 (by kernel_rfl) h
 | 41,_,_,h=>tK Tryz.func41 d8B (by kernel_rfl) h
 | 42,_,_,h=>tK Tryz.func42 d7w (by kernel_rfl) h
 | 43,_,_,h=>tK Tryz.func43 d7o (by kernel_rfl) h
 | 44,_,_,h=>t44 _ h
 | 45,_,_,h=>tK Tryz.func45 d8Q (by kernel_rfl) h
 | 46,_,_,h=>tK Tryz.func46 d56 (by kernel_rfl) h
 | 47,_,_,h=>tK Tryz.func47 d6P (by kernel_rfl) h
 | 48,_,_,h=>tK Tryz.func48 d8z (by kernel_rfl) h
 | 49,_,_,h=>tK Tryz.func49 d6E (by kernel_rfl) h
 | 50,_,_,h=>tK Tryz.func50 d6u (by kernel_rfl) h
 | 51,_,_,h=>tK Tryz.func51 d57 (by kernel_rfl) h
 | 52,_,_,h=>tK Tryz.func52 d86 (by kernel_rfl) h
 | 53,_,_,h=>tK Tryz.func53 e0Z (by kernel_rfl) h
 | 54,_,_,h=>tK Tryz.func54 d9p (by kernel_rfl) h
 | 55,_,_,h=>tK Tryz.func55 d9X (by kernel_rfl) h
 | 56,_,_,h=>tK Tryz.func56 d5U (by kernel_rfl) h
 | 57,_,_,h=>tK Tryz.func57 d85 (by kernel_rfl) h
 | 58,_,_,h=>tK Tryz.func58 d6y (by kernel_rfl) h
 | 59,_,_,h=>tK Tryz.func59 d9v (by kernel_rfl) h
 | 60,_,_,h=>tK Tryz.func60 d9y (by kernel_rfl) h
 | 61,_,_,h=>tK Tryz.func61 d7A (by kernel_rfl) h
 | 62,_,_,h=>tK Tryz.func62 d79 (by kernel_rfl) h
 | 63,_,_,h=>tK Tryz.func63 d9G (by kernel_rfl) h
 | 64,_,_,h=>tK Tryz.func64 d5N (by kernel_rfl) h
 | 65,_,_,h=>tK Tryz.func65 d8M (by kernel_rfl) h
 | 66,_,_,h=>tK Tryz.func66 d90 (by kernel_rfl) h
 | 67,_,_,h=>tK Tryz.func67 d7i (by kernel_rfl) h
 | 68,_,_,h=>tK Tryz.func68 d68 (by kernel_rfl) h
 | 69,_,_,h=>tK Tryz.func69 d8G (by kernel_rfl) h
 | 70,_,_,h=>tK Tryz.func70 d7j (by kernel_rfl) h
 | 71,_,_,h=>tK Tryz.func71 e0T (by kernel_rfl) h
 | 72,_,_,h=>tK Tryz.func72 d7k (by kernel_rfl) h
 | 73,_,_,h=>tK Tryz.func73 d9M (by kernel_rfl) h
 | 74,_,_,h=>tK Tryz.func74 d6F (by kernel_rfl) h
 | 75,_,_,h=>tK Tryz.func75 d6N (by kernel_rfl) h
 | 76,_,_,h=>tK Tryz.func76 d7d (by kernel_rfl) h
 | 77,_,_,h=>tK Tryz.func77 d6s (by kernel_rfl) h
 | 78,_,_,h=>tK Tryz.func78 d92 (by kernel_rfl) h
 | 79,_,_,h=>tK Tryz.func79 d8V (by kernel_rfl) h
 | 80,_,_,h=>tK Tryz.func80 e0L (by kernel_rfl) h
 | 81,_,_,h=>tK Tryz.func81 d77 (by kernel_rfl) h
 | 82,_,_,h=>tK Tryz.func82 d9k (by kernel_rfl) h
 | 83,_,_,h=>tK Tryz.func83 e0i (by kernel_rfl) h
 | 84,_,_,h=>tK Tryz.func84 d7a (by kernel_rfl) h
 | 85,_,_,h=>tK Tryz.func85 d9Z (by kernel_rfl) h
 | 86,_,_,h=>tK Tryz.func86 d6l (by kernel_rfl) h
 | 87,_,_,h=>tK Tryz.func87 d63 (by kernel_rfl) h
 | 88,_,_,h=>tK Tryz.func88 d7s (by kernel_rfl) h
 | 89,_,_,h=>tK Tryz.func89 d72 (by kernel_rfl) h
 | 90,_,_,h=>tK Tryz.func90 d7D (by kernel_rfl) h
 | 91,_,_,h=>tK Tryz.func91 d5Z (by kernel_rfl) h
 | 92,_,_,h=>tK Tryz.func92 e0U (by kernel_rfl) h
 | 93,_,_,h=>tK Tryz.func93 d6k (by kernel_rfl) h
 | 94,_,_,h=>tK Tryz.func94 d6f (by kernel_rfl) h
 | 95,_,_,h=>tK Tryz.func95 d70 (by kernel_rfl) h
 | 96,_,_,h=>tK Tryz.func96 e0Q (by kernel_rfl) h
 | 97,_,_,h=>tK Tryz.func97 d6R (by kernel_rfl) h
 | 98,_,_,h=>tK Tryz.func98 d62 (by kernel_rfl) h
 | 99,_,_,h=>tK Tryz.func99 d6x (by kernel_rfl) h
 | 100,_,_,h=>tK Tryz.func100 d4I (by kernel_rfl) h
 | 101,_,_,h=>tK Tryz.func101 d3w (by kernel_rfl) h
 | 102,_,_,h=>tK Tryz.func102 d4J (by kernel_rfl) h
 | 103,_,_,h=>tK Tryz.func103 d2s (by kernel_rfl) h
 | 104,_,_,h=>tK Tryz.func104 d1E (by kernel_rfl) h
 | 105,_,_,h=>tK Tryz.func105 d27 (by kernel_rfl) h
 | 106,_,_,h=>tK Tryz.func106 d1T (by kernel_rfl) h
 | 107,_,_,h=>tK Tryz.func107 d4x (by kernel_rfl) h
 | 108,_,_,h=>tK Tryz.func108 d2e (by kernel_rfl) h
 | 109,_,_,h=>tK Tryz.func109 d12 (by kernel_rfl) h
 | 110,_,_,h=>tK Tryz.func110 d4W (by kernel_rfl) h
 | 111,_,_,h=>tK Tryz.func111 d2f (by kernel_rfl) h
 | 112,_,_,h=>tK Tryz.func112 d4a (by kernel_rfl) h
 | 113,_,_,h=>tK Tryz.func113 d13 (by kernel_rfl) h
 | 114,_,_,h=>tK Tryz.func114 d4T (by kernel_rfl) h
 | 115,_,_,h=>tK Tryz.func115 d44 (by kernel_rfl) h
 | 116,_,_,h=>tK Tryz.func116 d25 (by kernel_rfl) h
 | 117,_,_,h=>tK Tryz.func117 d3k (by kernel_rfl) h
 | 118,_,_,h=>tK Tryz.func118 d1x (by kernel_rfl) h
 | 119,_,_,h=>tK Tryz.func119 d3r (by kernel_rfl) h
 | 120,_,_,h=>tK Tryz.func120 d5y (by kernel_rfl) h
 | 121,_,_,h=>d6O _ h
 | 122,_,_,h=>tK Tryz.func122 d4M (by kernel_rfl) h
 | 123,_,_,h=>tK Tryz.func123 d3E (by kernel_rfl) h
 | 124,_,_,h=>tK Tryz.func124 d1y (by kernel_rfl) h
 | 125,_,_,h=>tK Tryz.func125 d5A (by kernel_rfl) h
 | 126,_,_,h=>tK Tryz.func126 d1B (by kernel_rfl) h
 | 127,_,_,h=>tK Tryz.func127 d3M (by kernel_rfl) h
 | 128,_,_,h=>tK Tryz.func128 d3D (by kernel_rfl) h
 | 129,_,_,h=>tK Tryz.func129 d5r (by kernel_rfl) h
 | 130,_,_,h=>tK Tryz.func130 d1X (by kernel_rfl) h
 | 131,_,_,h=>tK Tryz.func131 d28 (by kernel_rfl) h
 | 132,_,_,h=>tK Tryz.func132 d4y (by kernel_rfl) h
 | 133,_,_,h=>tK Tryz.func133 d20 (by kernel_rfl) h
 | 134,_,_,h=>tK Tryz.func134 d1U (by kernel_rfl) h
 | 135,_,_,h=>tK Tryz.func135 d29 (by kernel_rfl) h
 | 136,_,_,h=>nK h
 | 137,_,_,h=>nK h
 | 138,_,_,h=>nK h
 | 139,_,_,h=>nK h
 | 140,_,_,h=>nK h
 | 141,_,_,h=>nK h
 | 142,_,_,h=>nK h
 | 143,_,_,h=>nK h
 | 144,_,_,h=>nK h
 | 145,_,_,h=>nK h
 | 146,_,_,h=>nK h
 | 147,_,_,h=>nK h
 | 148,_,_,h=>nK h
 | 149,_,_,h=>nK h
 | 150,_,_,h=>nK h
 | 151,_,_,h=>nK h
 | 152,_,_,h=>nK h
 | 153,_,_,h=>nK h
 | 154,_,_,h=>nK h
 | 155,_,_,h=>nK h
 | 156,_,_,h=>nK h
 | 157,_,_,h=>nK h
 | 158,_,_,h=>nK h
 | 159,_,_,h=>nK h
  | n+160,_,h,_=>absurd h (by omega)
theorem c2Y:ProgOK Go.Proofs.Tryz.prog gts tbl:=⟨mixed,fun f af h=>c0i f af (c5s h) h⟩
end Go.Cb.CodeA
