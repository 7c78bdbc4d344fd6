/- What the pieces of that code are, function by function, and the rules by which they run. No conditions. -/
import Derived.Test.YtcmfklfjebaeoaaGreatDoorCodeA
import Derived.Test.YtcmfklfjebaeoaaGreatDoorXAms4
import Derived.KernelRfl
set_option maxRecDepth 100000
set_option linter.unusedVariables false
set_option linter.defProp false
namespace Go.Cb.CodeA
open Go Go.Cb
open Go.Cb.V (VV)
theorem A2 {a b:Prop} (xa:a) (xb:b):a∧b:=⟨xa,xb⟩
theorem A3 {a b c:Prop} (xa:a) (xb:b) (xc:c):a∧b∧c:=⟨xa,xb,xc⟩
theorem A4 {a b c d:Prop} (xa:a) (xb:b) (xc:c) (xd:d):a∧b∧c∧d:=⟨xa,xb,xc,xd⟩
theorem A5 {a b c d e:Prop} (xa:a) (xb:b) (xc:c) (xd:d) (xe:e):a∧b∧c∧d∧e:=⟨xa,xb,xc,xd,xe⟩
theorem A6 {a b c d e f:Prop} (xa:a) (xb:b) (xc:c) (xd:d) (xe:e) (xf:f):a∧b∧c∧d∧e∧f:=⟨xa,xb,xc,xd,xe,xf⟩
theorem A7 {a b c d e f g:Prop} (xa:a) (xb:b) (xc:c) (xd:d) (xe:e) (xf:f) (xg:g):a∧b∧c∧d∧e∧f∧g:=⟨xa,xb,xc,xd,xe,xf,xg⟩
theorem A8 {a b c d e f g h:Prop} (xa:a) (xb:b) (xc:c) (xd:d) (xe:e) (xf:f) (xg:g) (xh:h):a∧b∧c∧d∧e∧f∧g∧h:=⟨xa,xb,xc,xd,xe,xf,xg,xh⟩
def K3:=A2 (A8 @a3.eq_1 @a3s1.eq_1 @a3s4.eq_1 @a3s6.eq_1 @a3s8.eq_1 @a3s10.eq_1 @a3s13.eq_1 @a3s15.eq_1) (A4 @a3s17.eq_1 @a3s19.eq_1 @a3c.eq_1 VV)
def K6b:=A5 (A8 @a6.eq_1 @a6s1.eq_1 @a6s3.eq_1 @a6s6.eq_1 @a6s8.eq_1 @a6s10.eq_1 @a6s12.eq_1 @a6s14.eq_1) (A8 @a6s16.eq_1 @a6s18.eq_1 @a6s20.eq_1 @a6s22.eq_1 @a6s24.eq_1 @a6s27.eq_1 @a6s29.eq_1 @a6s31.eq_1) (A8 @a6s33.eq_1 @a6s40.eq_1 @a6s47.eq_1 @a6s49.eq_1 @a6s51.eq_1 @a6s54.eq_1 @a6s61.eq_1 @a6s63.eq_1) (A8 @a6s65.eq_1 @a6s67.eq_1 @a6s69.eq_1 @a6s71.eq_1 @a6s77.eq_1 @a6s84.eq_1 @a6s87.eq_1 @a6s89.eq_1) (A3 @a6s91.eq_1 @a6c.eq_1 VV)
def K6:=A5 K6b @a6s94.eq_1 @a6s95.eq_1 @a6s96.eq_1 @a6s97.eq_1
def K7b:=A4 (A8 @a7.eq_1 @a7s1.eq_1 @a7s4.eq_1 @a7s6.eq_1 @a7s8.eq_1 @a7s10.eq_1 @a7s12.eq_1 @a7s14.eq_1) (A8 @a7s16.eq_1 @a7s18.eq_1 @a7s22.eq_1 @a7s29.eq_1 @a7s31.eq_1 @a7s33.eq_1 @a7s35.eq_1 @a7s37.eq_1) (A8 @a7s41.eq_1 @a7s48.eq_1 @a7s50.eq_1 @a7s52.eq_1 @a7s54.eq_1 @a7s57.eq_1 @a7s59.eq_1 @a7s60.eq_1) (A4 @a7s65.eq_1 @a7s72.eq_1 @a7c.eq_1 VV)
def K7:=A5 K7b @a7s73.eq_1 @a7s74.eq_1 @a7s76.eq_1 @a7s77.eq_1
def K8:=A7 @a8.eq_1 @a8s1.eq_1 @a8s4.eq_1 @a8s6.eq_1 @a8s8.eq_1 @a8c.eq_1 VV
def K15:=A5 @a15.eq_1 @a15s1.eq_1 @a15s3.eq_1 @a15c.eq_1 VV
def K16:=A3 (A8 @a16.eq_1 @a16s1.eq_1 @a16s4.eq_1 @a16s6.eq_1 @a16s8.eq_1 @a16s10.eq_1 @a16s12.eq_1 @a16s14.eq_1) (A8 @a16s16.eq_1 @a16s18.eq_1 @a16s21.eq_1 @a16s23.eq_1 @a16s25.eq_1 @a16s29.eq_1 @a16s35.eq_1 @a16s42.eq_1) (A3 @a16s44.eq_1 @a16c.eq_1 VV)
def K17:=A5 @a17.eq_1 @a17s1.eq_1 @a17s3.eq_1 @a17c.eq_1 VV
def P3:=A2 (A8 @a18.eq_1 @a18s1.eq_1 @a18s3.eq_1 @a18s5.eq_1 @a18s8.eq_1 @a18s9.eq_1 @a18s12.eq_1 @a18s14.eq_1) (A4 @a18s16.eq_1 @a18s18.eq_1 @a18c.eq_1 VV)
def K18:=A2 P3 @a18s21.eq_1
def K19:=A5 @a19.eq_1 @a19s1.eq_1 @a19s3.eq_1 @a19c.eq_1 VV
def K20:=A2 (A8 @a20.eq_1 @a20s1.eq_1 @a20s3.eq_1 @a20s5.eq_1 @a20s8.eq_1 @a20s10.eq_1 @a20s11.eq_1 @a20s13.eq_1) (A2 @a20c.eq_1 VV)
def K21:=A2 (A8 @a21.eq_1 @a21s1.eq_1 @a21s3.eq_1 @a21s6.eq_1 @a21s8.eq_1 @a21s11.eq_1 @a21s13.eq_1 @a21s15.eq_1) (A3 @a21s17.eq_1 @a21c.eq_1 VV)
def K22:=A6 @a22.eq_1 @a22s1.eq_1 @a22s3.eq_1 @a22s5.eq_1 @a22c.eq_1 VV
def K23:=A2 (A8 @a23.eq_1 @a23s1.eq_1 @a23s3.eq_1 @a23s5.eq_1 @a23s8.eq_1 @a23s10.eq_1 @a23s13.eq_1 @a23s20.eq_1) (A2 @a23c.eq_1 VV)
def K24:=A5 @a24.eq_1 @a24s1.eq_1 @a24s3.eq_1 @a24c.eq_1 VV
def K25:=A3 (A8 @a25.eq_1 @a25s1.eq_1 @a25s3.eq_1 @a25s5.eq_1 @a25s9.eq_1 @a25s11.eq_1 @a25s13.eq_1 @a25s16.eq_1) (A8 @a25s19.eq_1 @a25s21.eq_1 @a25s24.eq_1 @a25s26.eq_1 @a25s29.eq_1 @a25s31.eq_1 @a25s33.eq_1 @a25c.eq_1) VV
def K26:=A5 @a26.eq_1 @a26s1.eq_1 @a26s3.eq_1 @a26c.eq_1 VV
def K27:=A2 (A8 @a27.eq_1 @a27s1.eq_1 @a27s3.eq_1 @a27s5.eq_1 @a27s7.eq_1 @a27s14.eq_1 @a27s16.eq_1 @a27c.eq_1) VV
def K28:=A5 @a28.eq_1 @a28s1.eq_1 @a28s3.eq_1 @a28c.eq_1 VV
def K29:=A5 @a29.eq_1 @a29s1.eq_1 @a29s3.eq_1 @a29c.eq_1 VV
def K30:=A7 @a30.eq_1 @a30s1.eq_1 @a30s3.eq_1 @a30s5.eq_1 @a30s7.eq_1 @a30c.eq_1 VV
def K31:=A5 @a31.eq_1 @a31s1.eq_1 @a31s3.eq_1 @a31c.eq_1 VV
def K32:=A5 @a32.eq_1 @a32s1.eq_1 @a32s3.eq_1 @a32c.eq_1 VV
def K53:=A8 @a53.eq_1 @a53s1.eq_1 @a53s3.eq_1 @a53s6.eq_1 @a53s8.eq_1 @a53s10.eq_1 @a53c.eq_1 VV
def K54:=A2 (A8 @a54.eq_1 @a54s1.eq_1 @a54s3.eq_1 @a54s5.eq_1 @a54s8.eq_1 @a54s10.eq_1 @a54s13.eq_1 @a54s20.eq_1) (A2 @a54c.eq_1 VV)
def K55:=A3 (A8 @a55.eq_1 @a55s1.eq_1 @a55s4.eq_1 @a55s6.eq_1 @a55s8.eq_1 @a55s10.eq_1 @a55s13.eq_1 @a55s15.eq_1) (A8 @a55s17.eq_1 @a55s20.eq_1 @a55s22.eq_1 @a55s24.eq_1 @a55s27.eq_1 @a55s34.eq_1 @a55s36.eq_1 @a55s41.eq_1) (A4 @a55s44.eq_1 @a55s51.eq_1 @a55c.eq_1 VV)
def K56:=A5 @a56.eq_1 @a56s2.eq_1 @a56s3.eq_1 @a56c.eq_1 VV
def K57:=A2 @a57.eq_1 VV
def K58:=A5 @a58.eq_1 @a58s1.eq_1 @a58s3.eq_1 @a58c.eq_1 VV
def K59:=A2 @a59.eq_1 VV
def K60:=A5 @a60.eq_1 @a60s1.eq_1 @a60s3.eq_1 @a60c.eq_1 VV
def K61:=A4 (A8 @a61.eq_1 @a61s1.eq_1 @a61s3.eq_1 @a61s5.eq_1 @a61s8.eq_1 @a61s9.eq_1 @a61s11.eq_1 @a61s16.eq_1) (A8 @a61s17.eq_1 @a61s18.eq_1 @a61s19.eq_1 @a61s21.eq_1 @a61s24.eq_1 @a61s25.eq_1 @a61s27.eq_1 @a61s29.eq_1) (A8 @a61s31.eq_1 @a61s33.eq_1 @a61s36.eq_1 @a61s37.eq_1 @a61s39.eq_1 @a61s44.eq_1 @a61s51.eq_1 @a61s53.eq_1) (A4 @a61s55.eq_1 @a61s60.eq_1 @a61c.eq_1 VV)
def K62:=A2 @a62.eq_1 VV
def a5E:=A4 (A8 @a98.eq_1 @a98s1.eq_1 @a98s3.eq_1 @a98s6.eq_1 @a98s7.eq_1 @a98s9.eq_1 @a98s12.eq_1 @a98s15.eq_1) (A8 @a98s18.eq_1 @a98s19.eq_1 @a98s25.eq_1 @a98s26.eq_1 @a98s27.eq_1 @a98s28.eq_1 @a98s30.eq_1 @a98s33.eq_1) (A8 @a98s34.eq_1 @a98s36.eq_1 @a98s38.eq_1 @a98s41.eq_1 @a98s42.eq_1 @a98s44.eq_1 @a98s48.eq_1 @a98s54.eq_1) (A6 @a98s56.eq_1 @a98s58.eq_1 @a98s59.eq_1 @a98s63.eq_1 @a98c.eq_1 VV)
def K98:=A2 a5E @a98s65.eq_1
def K99:=A5 @a99.eq_1 @a99s1.eq_1 @a99s3.eq_1 @a99c.eq_1 VV
def a0g:=A2 (A8 @a100.eq_1 @a100s1.eq_1 @a100s3.eq_1 @a100s5.eq_1 @a100s7.eq_1 @a100s9.eq_1 @a100s12.eq_1 @a100s14.eq_1) (A4 @a100s15.eq_1 @a100s22.eq_1 @a100c.eq_1 VV)
def b08:=A2 (A8 @a101.eq_1 @a101s1.eq_1 @a101s4.eq_1 @a101s8.eq_1 @a101s10.eq_1 @a101s11.eq_1 @a101s14.eq_1 @a101c.eq_1) VV
def c7A:=A5 @a148.eq_1 @a148s1.eq_1 @a148s3.eq_1 @a148c.eq_1 VV
def d08:=A2 @a1036.eq_1 VV
end Go.Cb.CodeA
