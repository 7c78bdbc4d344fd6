import Derived.Test.YtbibkdncfclnbaaGreatDoorCodeA
import Derived.Test.YtbibkdncfclnbaaGreatDoorXAms3
import Derived.KernelRfl
set_option maxRecDepth 100000
set_option linter.unusedVariables false
set_option linter.defProp false
namespace Go.Cb.CodeA
open Go Go.Cb
open Go.Cb.V (VV)
theorem A2 {a b:Prop} (xa:a) (xb:b):a∧b:=⟨xa,xb⟩
theorem A3 {a b c:Prop} (xa:a) (xb:b) (xc:c):a∧b∧c:=⟨xa,xb,xc⟩
theorem A4 {a b c d:Prop} (xa:a) (xb:b) (xc:c) (xd:d):a∧b∧c∧d:=⟨xa,xb,xc,xd⟩
theorem A5 {a b c d e:Prop} (xa:a) (xb:b) (xc:c) (xd:d) (xe:e):a∧b∧c∧d∧e:=⟨xa,xb,xc,xd,xe⟩
theorem A6 {a b c d e f:Prop} (xa:a) (xb:b) (xc:c) (xd:d) (xe:e) (xf:f):a∧b∧c∧d∧e∧f:=⟨xa,xb,xc,xd,xe,xf⟩
theorem A7 {a b c d e f g:Prop} (xa:a) (xb:b) (xc:c) (xd:d) (xe:e) (xf:f) (xg:g):a∧b∧c∧d∧e∧f∧g:=⟨xa,xb,xc,xd,xe,xf,xg⟩
theorem A8 {a b c d e f g h:Prop} (xa:a) (xb:b) (xc:c) (xd:d) (xe:e) (xf:f) (xg:g) (xh:h):a∧b∧c∧d∧e∧f∧g∧h:=⟨xa,xb,xc,xd,xe,xf,xg,xh⟩
def K8b:=A3 (A8 @a8.eq_1 @a8s1.eq_1 @a8s4.eq_1 @a8s6.eq_1 @a8s8.eq_1 @a8s10.eq_1 @a8s12.eq_1 @a8s15.eq_1) (A8 @a8s17.eq_1 @a8s19.eq_1 @a8s21.eq_1 @a8s23.eq_1 @a8s25.eq_1 @a8s27.eq_1 @a8s29.eq_1 @a8s31.eq_1) (A8 @a8s33.eq_1 @a8s36.eq_1 @a8s38.eq_1 @a8s41.eq_1 @a8s43.eq_1 @a8s45.eq_1 @a8c.eq_1 VV)
def K8:=A3 K8b @a8s51.eq_1 @a8s56.eq_1
def K15:=A2 (A8 @a15.eq_1 @a15s1.eq_1 @a15s3.eq_1 @a15s5.eq_1 @a15s7.eq_1 @a15s9.eq_1 @a15s12.eq_1 @a15s19.eq_1) (A2 @a15c.eq_1 VV)
def K17:=A3 (A8 @a17.eq_1 @a17s1.eq_1 @a17s3.eq_1 @a17s6.eq_1 @a17s8.eq_1 @a17s11.eq_1 @a17s13.eq_1 @a17s15.eq_1) (A8 @a17s18.eq_1 @a17s20.eq_1 @a17s22.eq_1 @a17s24.eq_1 @a17s27.eq_1 @a17s31.eq_1 @a17s33.eq_1 @a17s34.eq_1) (A3 @a17s37.eq_1 @a17c.eq_1 VV)
def K18:=A2 (A8 @a18.eq_1 @a18s1.eq_1 @a18s3.eq_1 @a18s5.eq_1 @a18s7.eq_1 @a18s9.eq_1 @a18s11.eq_1 @a18s15.eq_1) (A3 @a18s22.eq_1 @a18c.eq_1 VV)
def K19:=A5 @a19.eq_1 @a19s1.eq_1 @a19s3.eq_1 @a19c.eq_1 VV
def K22:=A5 (A8 @a22.eq_1 @a22s1.eq_1 @a22s3.eq_1 @a22s5.eq_1 @a22s7.eq_1 @a22s10.eq_1 @a22s11.eq_1 @a22s14.eq_1) (A8 @a22s15.eq_1 @a22s17.eq_1 @a22s22.eq_1 @a22s29.eq_1 @a22s32.eq_1 @a22s36.eq_1 @a22s37.eq_1 @a22s39.eq_1) (A8 @a22s44.eq_1 @a22s46.eq_1 @a22s48.eq_1 @a22s53.eq_1 @a22s57.eq_1 @a22s61.eq_1 @a22s65.eq_1 @a22s67.eq_1) (A8 @a22s68.eq_1 @a22s69.eq_1 @a22s70.eq_1 @a22s71.eq_1 @a22s72.eq_1 @a22s74.eq_1 @a22s78.eq_1 @a22c.eq_1) VV
def Q1:=A6 (A8 @a25.eq_1 @a25s1.eq_1 @a25s3.eq_1 @a25s5.eq_1 @a25s7.eq_1 @a25s9.eq_1 @a25s11.eq_1 @a25s13.eq_1) (A8 @a25s15.eq_1 @a25s17.eq_1 @a25s19.eq_1 @a25s21.eq_1 @a25s23.eq_1 @a25s27.eq_1 @a25s35.eq_1 @a25s36.eq_1) (A8 @a25s38.eq_1 @a25s41.eq_1 @a25s42.eq_1 @a25s44.eq_1 @a25s46.eq_1 @a25s48.eq_1 @a25s51.eq_1 @a25s52.eq_1) (A8 @a25s54.eq_1 @a25s61.eq_1 @a25s63.eq_1 @a25s65.eq_1 @a25s69.eq_1 @a25s71.eq_1 @a25s73.eq_1 @a25s76.eq_1) (A8 @a25s77.eq_1 @a25s83.eq_1 @a25s85.eq_1 @a25s87.eq_1 @a25s89.eq_1 @a25s91.eq_1 @a25s94.eq_1 @a25s96.eq_1) (A8 @a25s98.eq_1 @a25s101.eq_1 @a25s108.eq_1 @a25s110.eq_1 @a25s116.eq_1 @a25s118.eq_1 @a25c.eq_1 VV)
def K25:=A3 Q1 @a25s120.eq_1 @a25s121.eq_1
def K29:=A8 @a29.eq_1 @a29s1.eq_1 @a29s3.eq_1 @a29s6.eq_1 @a29s8.eq_1 @a29s10.eq_1 @a29c.eq_1 VV
def K37:=A2 (A8 @a37.eq_1 @a37s1.eq_1 @a37s4.eq_1 @a37s6.eq_1 @a37s8.eq_1 @a37s11.eq_1 @a37s13.eq_1 @a37s15.eq_1) (A2 @a37c.eq_1 VV)
def K38:=A3 (A8 @a38.eq_1 @a38s1.eq_1 @a38s3.eq_1 @a38s5.eq_1 @a38s7.eq_1 @a38s9.eq_1 @a38s11.eq_1 @a38s13.eq_1) (A8 @a38s16.eq_1 @a38s19.eq_1 @a38s22.eq_1 @a38s23.eq_1 @a38s24.eq_1 @a38s25.eq_1 @a38s29.eq_1 @a38s31.eq_1) (A6 @a38s34.eq_1 @a38s35.eq_1 @a38s43.eq_1 @a38s50.eq_1 @a38c.eq_1 VV)
def K39:=A3 (A8 @a39.eq_1 @a39s1.eq_1 @a39s3.eq_1 @a39s5.eq_1 @a39s7.eq_1 @a39s9.eq_1 @a39s11.eq_1 @a39s13.eq_1) (A8 @a39s16.eq_1 @a39s18.eq_1 @a39s20.eq_1 @a39s22.eq_1 @a39s25.eq_1 @a39s27.eq_1 @a39s29.eq_1 @a39s39.eq_1) (A3 @a39s46.eq_1 @a39c.eq_1 VV)
def K40:=A2 (A8 @a40.eq_1 @a40s1.eq_1 @a40s3.eq_1 @a40s5.eq_1 @a40s8.eq_1 @a40s10.eq_1 @a40s11.eq_1 @a40s13.eq_1) (A2 @a40c.eq_1 VV)
def K42:=A3 (A8 @a42.eq_1 @a42s1.eq_1 @a42s3.eq_1 @a42s6.eq_1 @a42s10.eq_1 @a42s14.eq_1 @a42s18.eq_1 @a42s20.eq_1) (A8 @a42s21.eq_1 @a42s22.eq_1 @a42s23.eq_1 @a42s26.eq_1 @a42s28.eq_1 @a42s30.eq_1 @a42s32.eq_1 @a42s35.eq_1) (A5 @a42s36.eq_1 @a42s40.eq_1 @a42s47.eq_1 @a42c.eq_1 VV)
def K44:=A5 @a44.eq_1 @a44s1.eq_1 @a44s3.eq_1 @a44c.eq_1 VV
def K45:=A7 @a45.eq_1 @a45s1.eq_1 @a45s4.eq_1 @a45s6.eq_1 @a45s8.eq_1 @a45c.eq_1 VV
def K46:=A3 (A8 @a46.eq_1 @a46s1.eq_1 @a46s3.eq_1 @a46s5.eq_1 @a46s7.eq_1 @a46s9.eq_1 @a46s12.eq_1 @a46s15.eq_1) (A8 @a46s18.eq_1 @a46s21.eq_1 @a46s23.eq_1 @a46s24.eq_1 @a46s25.eq_1 @a46s26.eq_1 @a46s27.eq_1 @a46s32.eq_1) (A3 @a46s39.eq_1 @a46c.eq_1 VV)
def K47:=A2 @a47.eq_1 VV
def K48:=A5 @a48.eq_1 @a48s1.eq_1 @a48s3.eq_1 @a48c.eq_1 VV
def K56:=A2 (A8 @a56.eq_1 @a56s1.eq_1 @a56s4.eq_1 @a56s6.eq_1 @a56s8.eq_1 @a56s11.eq_1 @a56s13.eq_1 @a56s15.eq_1) (A2 @a56c.eq_1 VV)
def K79:=A8 @a79.eq_1 @a79s1.eq_1 @a79s3.eq_1 @a79s6.eq_1 @a79s8.eq_1 @a79s10.eq_1 @a79c.eq_1 VV
def K82:=A5 @a82.eq_1 @a82s1.eq_1 @a82s3.eq_1 @a82c.eq_1 VV
def K83:=A7 @a83.eq_1 @a83s1.eq_1 @a83s3.eq_1 @a83s5.eq_1 @a83s7.eq_1 @a83c.eq_1 VV
def K84:=A2 (A8 @a84.eq_1 @a84s1.eq_1 @a84s3.eq_1 @a84s6.eq_1 @a84s8.eq_1 @a84s10.eq_1 @a84s13.eq_1 @a84s15.eq_1) (A3 @a84s18.eq_1 @a84c.eq_1 VV)
def K85:=A7 @a85.eq_1 @a85s1.eq_1 @a85s4.eq_1 @a85s5.eq_1 @a85s7.eq_1 @a85c.eq_1 VV
def K86:=A2 @a86.eq_1 VV
def K87:=A4 (A8 @a87.eq_1 @a87s1.eq_1 @a87s4.eq_1 @a87s6.eq_1 @a87s9.eq_1 @a87s11.eq_1 @a87s14.eq_1 @a87s16.eq_1) (A8 @a87s19.eq_1 @a87s20.eq_1 @a87s23.eq_1 @a87s25.eq_1 @a87s27.eq_1 @a87s29.eq_1 @a87s32.eq_1 @a87s33.eq_1) (A8 @a87s37.eq_1 @a87s44.eq_1 @a87s48.eq_1 @a87s50.eq_1 @a87s53.eq_1 @a87s55.eq_1 @a87s58.eq_1 @a87s60.eq_1) (A3 @a87s62.eq_1 @a87c.eq_1 VV)
def K88:=A2 @a88.eq_1 VV
def K90:=A2 (A8 @a90.eq_1 @a90s1.eq_1 @a90s3.eq_1 @a90s5.eq_1 @a90s7.eq_1 @a90s10.eq_1 @a90s12.eq_1 @a90s16.eq_1) (A3 @a90s23.eq_1 @a90c.eq_1 VV)
def K91:=A7 @a91.eq_1 @a91s1.eq_1 @a91s4.eq_1 @a91s6.eq_1 @a91s8.eq_1 @a91c.eq_1 VV
def K92:=A2 (A8 @a92.eq_1 @a92s1.eq_1 @a92s3.eq_1 @a92s5.eq_1 @a92s7.eq_1 @a92s9.eq_1 @a92s12.eq_1 @a92s14.eq_1) (A4 @a92s15.eq_1 @a92s22.eq_1 @a92c.eq_1 VV)
def K93:=A2 (A8 @a93.eq_1 @a93s1.eq_1 @a93s4.eq_1 @a93s8.eq_1 @a93s10.eq_1 @a93s11.eq_1 @a93s14.eq_1 @a93c.eq_1) VV
def b1f:=A2 (A8 @a100.eq_1 @a100s1.eq_1 @a100s3.eq_1 @a100s5.eq_1 @a100s7.eq_1 @a100s9.eq_1 @a100s11.eq_1 @a100s15.eq_1) (A3 @a100s22.eq_1 @a100c.eq_1 VV)
def c0Y:=A5 @a102.eq_1 @a102s1.eq_1 @a102s3.eq_1 @a102c.eq_1 VV
def H8:=A2 (A8 @a130.eq_1 @a130s1.eq_1 @a130s4.eq_1 @a130s7.eq_1 @a130s9.eq_1 @a130s11.eq_1 @a130s15.eq_1 @a130s19.eq_1) (A8 @a130s21.eq_1 @a130s23.eq_1 @a130s26.eq_1 @a130s29.eq_1 @a130s31.eq_1 @a130s33.eq_1 @a130c.eq_1 VV)
def F6:=A3 (A8 @a131.eq_1 @a131s1.eq_1 @a131s3.eq_1 @a131s5.eq_1 @a131s7.eq_1 @a131s9.eq_1 @a131s12.eq_1 @a131s15.eq_1) (A8 @a131s17.eq_1 @a131s19.eq_1 @a131s22.eq_1 @a131s23.eq_1 @a131s29.eq_1 @a131s30.eq_1 @a131s31.eq_1 @a131s32.eq_1) (A3 @a131s39.eq_1 @a131c.eq_1 VV)
def a3j:=A5 @a132.eq_1 @a132s1.eq_1 @a132s3.eq_1 @a132c.eq_1 VV
def a5R:=A2 (A8 @a133.eq_1 @a133s1.eq_1 @a133s3.eq_1 @a133s5.eq_1 @a133s9.eq_1 @a133s10.eq_1 @a133s12.eq_1 @a133s15.eq_1) (A3 @a133s17.eq_1 @a133c.eq_1 VV)
def b5i:=A7 @a134.eq_1 @a134s1.eq_1 @a134s3.eq_1 @a134s5.eq_1 @a134s11.eq_1 @a134c.eq_1 VV
def a5U:=A2 (A8 @a135.eq_1 @a135s1.eq_1 @a135s3.eq_1 @a135s5.eq_1 @a135s7.eq_1 @a135s9.eq_1 @a135s11.eq_1 @a135s15.eq_1) (A3 @a135s22.eq_1 @a135c.eq_1 VV)
def b9G:=A4 @a136.eq_1 @a136s1.eq_1 @a136c.eq_1 VV
def c61:=A5 @a143.eq_1 @a143s1.eq_1 @a143s3.eq_1 @a143c.eq_1 VV
def c5Q:=A5 @a144.eq_1 @a144s1.eq_1 @a144s3.eq_1 @a144c.eq_1 VV
def N4:=A4 (A8 @a146.eq_1 @a146s1.eq_1 @a146s4.eq_1 @a146s6.eq_1 @a146s10.eq_1 @a146s12.eq_1 @a146s14.eq_1 @a146s17.eq_1) (A8 @a146s19.eq_1 @a146s22.eq_1 @a146s26.eq_1 @a146s30.eq_1 @a146s34.eq_1 @a146s36.eq_1 @a146s37.eq_1 @a146s38.eq_1) (A8 @a146s39.eq_1 @a146s43.eq_1 @a146s45.eq_1 @a146s48.eq_1 @a146s52.eq_1 @a146s54.eq_1 @a146s55.eq_1 @a146s59.eq_1) (A2 @a146c.eq_1 VV)
def c6A:=A5 @a147.eq_1 @a147s1.eq_1 @a147s3.eq_1 @a147c.eq_1 VV
def X9:=A3 (A8 @a166.eq_1 @a166s1.eq_1 @a166s3.eq_1 @a166s6.eq_1 @a166s7.eq_1 @a166s9.eq_1 @a166s11.eq_1 @a166s13.eq_1) (A8 @a166s15.eq_1 @a166s17.eq_1 @a166s20.eq_1 @a166s24.eq_1 @a166s28.eq_1 @a166s29.eq_1 @a166s30.eq_1 @a166s31.eq_1) (A5 @a166s34.eq_1 @a166s40.eq_1 @a166s47.eq_1 @a166c.eq_1 VV)
def L1:=A3 (A8 @a167.eq_1 @a167s1.eq_1 @a167s3.eq_1 @a167s8.eq_1 @a167s9.eq_1 @a167s10.eq_1 @a167s11.eq_1 @a167s13.eq_1) (A8 @a167s17.eq_1 @a167s21.eq_1 @a167s25.eq_1 @a167s27.eq_1 @a167s30.eq_1 @a167s31.eq_1 @a167s32.eq_1 @a167s33.eq_1) (A3 @a167s37.eq_1 @a167c.eq_1 VV)
def c8w:=A5 @a168.eq_1 @a168s1.eq_1 @a168s3.eq_1 @a168c.eq_1 VV
def W6:=A2 (A8 @a169.eq_1 @a169s1.eq_1 @a169s3.eq_1 @a169s6.eq_1 @a169s7.eq_1 @a169s9.eq_1 @a169s12.eq_1 @a169s14.eq_1) (A8 @a169s16.eq_1 @a169s18.eq_1 @a169s20.eq_1 @a169s21.eq_1 @a169s23.eq_1 @a169s24.eq_1 @a169c.eq_1 VV)
def a2K:=A2 (A8 @a170.eq_1 @a170s1.eq_1 @a170s3.eq_1 @a170s5.eq_1 @a170s7.eq_1 @a170s10.eq_1 @a170s12.eq_1 @a170s16.eq_1) (A3 @a170s23.eq_1 @a170c.eq_1 VV)
def d4V:=A5 @a171.eq_1 @a171s1.eq_1 @a171s3.eq_1 @a171c.eq_1 VV
def b5F:=A5 @a172.eq_1 @a172s1.eq_1 @a172s3.eq_1 @a172c.eq_1 VV
def b9q:=A6 @a173.eq_1 @a173s1.eq_1 @a173s3.eq_1 @a173s5.eq_1 @a173c.eq_1 VV
def A0:=A5 (A8 @a174.eq_1 @a174s1.eq_1 @a174s4.eq_1 @a174s9.eq_1 @a174s11.eq_1 @a174s14.eq_1 @a174s16.eq_1 @a174s18.eq_1) (A8 @a174s20.eq_1 @a174s22.eq_1 @a174s25.eq_1 @a174s27.eq_1 @a174s29.eq_1 @a174s32.eq_1 @a174s34.eq_1 @a174s36.eq_1) (A8 @a174s43.eq_1 @a174s50.eq_1 @a174s58.eq_1 @a174s60.eq_1 @a174s63.eq_1 @a174s65.eq_1 @a174s70.eq_1 @a174s72.eq_1) (A8 @a174s75.eq_1 @a174s76.eq_1 @a174s77.eq_1 @a174s78.eq_1 @a174s82.eq_1 @a174s83.eq_1 @a174s85.eq_1 @a174s88.eq_1) (A5 @a174s90.eq_1 @a174s92.eq_1 @a174s94.eq_1 @a174c.eq_1 VV)
def n7:=A4 (A8 @a175.eq_1 @a175s1.eq_1 @a175s3.eq_1 @a175s5.eq_1 @a175s7.eq_1 @a175s10.eq_1 @a175s14.eq_1 @a175s16.eq_1) (A8 @a175s17.eq_1 @a175s22.eq_1 @a175s29.eq_1 @a175s31.eq_1 @a175s33.eq_1 @a175s35.eq_1 @a175s37.eq_1 @a175s39.eq_1) (A8 @a175s42.eq_1 @a175s43.eq_1 @a175s46.eq_1 @a175s47.eq_1 @a175s50.eq_1 @a175s54.eq_1 @a175s57.eq_1 @a175s59.eq_1) (A6 @a175s60.eq_1 @a175s61.eq_1 @a175s70.eq_1 @a175s77.eq_1 @a175c.eq_1 VV)
def a3Y:=A2 (A8 @a180.eq_1 @a180s1.eq_1 @a180s3.eq_1 @a180s5.eq_1 @a180s7.eq_1 @a180s10.eq_1 @a180s12.eq_1 @a180s16.eq_1) (A3 @a180s23.eq_1 @a180c.eq_1 VV)
def c55:=A5 @a185.eq_1 @a185s1.eq_1 @a185s3.eq_1 @a185c.eq_1 VV
def c8i:=A5 @a186.eq_1 @a186s1.eq_1 @a186s3.eq_1 @a186c.eq_1 VV
def a1N:=A5 @a187.eq_1 @a187s1.eq_1 @a187s3.eq_1 @a187c.eq_1 VV
def Y4:=A2 (A8 @a188.eq_1 @a188s1.eq_1 @a188s3.eq_1 @a188s5.eq_1 @a188s7.eq_1 @a188s9.eq_1 @a188s12.eq_1 @a188s13.eq_1) (A6 @a188s16.eq_1 @a188s18.eq_1 @a188s24.eq_1 @a188s31.eq_1 @a188c.eq_1 VV)
def a0u:=A2 (A8 @a189.eq_1 @a189s1.eq_1 @a189s3.eq_1 @a189s5.eq_1 @a189s7.eq_1 @a189s10.eq_1 @a189s12.eq_1 @a189s16.eq_1) (A3 @a189s23.eq_1 @a189c.eq_1 VV)
def d4O:=A5 @a190.eq_1 @a190s1.eq_1 @a190s3.eq_1 @a190c.eq_1 VV
def c7D:=A5 @a191.eq_1 @a191s1.eq_1 @a191s3.eq_1 @a191c.eq_1 VV
def b5q:=A5 @a192.eq_1 @a192s1.eq_1 @a192s3.eq_1 @a192c.eq_1 VV
def b5l:=A7 @a193.eq_1 @a193s1.eq_1 @a193s4.eq_1 @a193s6.eq_1 @a193s8.eq_1 @a193c.eq_1 VV
def b1u:=A2 (A8 @a194.eq_1 @a194s1.eq_1 @a194s3.eq_1 @a194s5.eq_1 @a194s7.eq_1 @a194s9.eq_1 @a194s11.eq_1 @a194s15.eq_1) (A3 @a194s22.eq_1 @a194c.eq_1 VV)
def d6U:=A5 @a195.eq_1 @a195s1.eq_1 @a195s3.eq_1 @a195c.eq_1 VV
def d8y:=A2 @a201.eq_1 VV
def a2D:=A2 (A8 @a202.eq_1 @a202s1.eq_1 @a202s3.eq_1 @a202s5.eq_1 @a202s7.eq_1 @a202s10.eq_1 @a202s12.eq_1 @a202s16.eq_1) (A3 @a202s23.eq_1 @a202c.eq_1 VV)
def c7z:=A5 @a203.eq_1 @a203s1.eq_1 @a203s3.eq_1 @a203c.eq_1 VV
end Go.Cb.CodeA
