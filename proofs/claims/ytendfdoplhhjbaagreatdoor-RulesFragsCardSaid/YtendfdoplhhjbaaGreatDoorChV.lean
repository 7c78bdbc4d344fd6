/- What the pieces of that code are, function by function, and the rules by which they run. No conditions. -/
import Derived.Test.YtendfdoplhhjbaaGreatDoorCodeA
import Derived.Test.YtendfdoplhhjbaaGreatDoorXAms3
import Derived.KernelRfl
set_option maxRecDepth 100000
set_option linter.unusedVariables false
set_option linter.defProp false
namespace Go.Cb.CodeA
open Go Go.Cb
open Go.Cb.V (VV)
theorem A2 {a b:Prop} (xa:a) (xb:b):a∧b:=⟨xa,xb⟩
theorem A3 {a b c:Prop} (xa:a) (xb:b) (xc:c):a∧b∧c:=⟨xa,xb,xc⟩
theorem A4 {a b c d:Prop} (xa:a) (xb:b) (xc:c) (xd:d):a∧b∧c∧d:=⟨xa,xb,xc,xd⟩
theorem A5 {a b c d e:Prop} (xa:a) (xb:b) (xc:c) (xd:d) (xe:e):a∧b∧c∧d∧e:=⟨xa,xb,xc,xd,xe⟩
theorem A6 {a b c d e f:Prop} (xa:a) (xb:b) (xc:c) (xd:d) (xe:e) (xf:f):a∧b∧c∧d∧e∧f:=⟨xa,xb,xc,xd,xe,xf⟩
theorem A7 {a b c d e f g:Prop} (xa:a) (xb:b) (xc:c) (xd:d) (xe:e) (xf:f) (xg:g):a∧b∧c∧d∧e∧f∧g:=⟨xa,xb,xc,xd,xe,xf,xg⟩
theorem A8 {a b c d e f g h:Prop} (xa:a) (xb:b) (xc:c) (xd:d) (xe:e) (xf:f) (xg:g) (xh:h):a∧b∧c∧d∧e∧f∧g∧h:=⟨xa,xb,xc,xd,xe,xf,xg,xh⟩
def K4:=A6 (A8 @a4.eq_1 @a4s1.eq_1 @a4s4.eq_1 @a4s6.eq_1 @a4s8.eq_1 @a4s10.eq_1 @a4s12.eq_1 @a4s14.eq_1) (A8 @a4s16.eq_1 @a4s18.eq_1 @a4s20.eq_1 @a4s23.eq_1 @a4s26.eq_1 @a4s27.eq_1 @a4s28.eq_1 @a4s30.eq_1) (A8 @a4s36.eq_1 @a4s41.eq_1 @a4s44.eq_1 @a4s46.eq_1 @a4s48.eq_1 @a4s50.eq_1 @a4s52.eq_1 @a4s54.eq_1) (A8 @a4s57.eq_1 @a4s62.eq_1 @a4r63.eq_1 @a4s64.eq_1 @a4r65.eq_1 @a4s66.eq_1 @a4s68.eq_1 @a4s69.eq_1) (A8 @a4s70.eq_1 @a4s71.eq_1 @a4s72.eq_1 @a4s73.eq_1 @a4s74.eq_1 @a4s75.eq_1 @a4s76.eq_1 @a4s77.eq_1) (A4 @a4s78.eq_1 @a4s79.eq_1 @a4c.eq_1 VV)
def K9:=A7 @a9.eq_1 @a9s1.eq_1 @a9s4.eq_1 @a9s6.eq_1 @a9s8.eq_1 @a9c.eq_1 VV
def K30:=A2 (A8 @a30.eq_1 @a30s1.eq_1 @a30s3.eq_1 @a30s5.eq_1 @a30s7.eq_1 @a30s9.eq_1 @a30s12.eq_1 @a30s13.eq_1) (A6 @a30s17.eq_1 @a30s18.eq_1 @a30s23.eq_1 @a30s30.eq_1 @a30c.eq_1 VV)
def K32:=A5 @a32.eq_1 @a32s1.eq_1 @a32s3.eq_1 @a32c.eq_1 VV
def K58:=A2 (A8 @a58.eq_1 @a58s1.eq_1 @a58s3.eq_1 @a58s5.eq_1 @a58s7.eq_1 @a58s10.eq_1 @a58s12.eq_1 @a58s16.eq_1) (A3 @a58s23.eq_1 @a58c.eq_1 VV)
def K67:=A2 (A8 @a67.eq_1 @a67s1.eq_1 @a67s3.eq_1 @a67s5.eq_1 @a67s7.eq_1 @a67s10.eq_1 @a67s12.eq_1 @a67s16.eq_1) (A3 @a67s23.eq_1 @a67c.eq_1 VV)
def K68:=A2 (A8 @a68.eq_1 @a68s1.eq_1 @a68s3.eq_1 @a68s5.eq_1 @a68s7.eq_1 @a68s9.eq_1 @a68s11.eq_1 @a68s14.eq_1) (A4 @a68s15.eq_1 @a68s20.eq_1 @a68c.eq_1 VV)
def N3:=A3 (A8 @a112.eq_1 @a112s1.eq_1 @a112s3.eq_1 @a112s5.eq_1 @a112s7.eq_1 @a112s9.eq_1 @a112s11.eq_1 @a112s14.eq_1) (A8 @a112s17.eq_1 @a112s20.eq_1 @a112s22.eq_1 @a112s24.eq_1 @a112s27.eq_1 @a112s28.eq_1 @a112s29.eq_1 @a112s35.eq_1) (A3 @a112s42.eq_1 @a112c.eq_1 VV)
def b0J:=A2 (A8 @a113.eq_1 @a113s1.eq_1 @a113s3.eq_1 @a113s5.eq_1 @a113s7.eq_1 @a113s10.eq_1 @a113s12.eq_1 @a113s16.eq_1) (A3 @a113s23.eq_1 @a113c.eq_1 VV)
def b5s:=A5 @a114.eq_1 @a114s1.eq_1 @a114s3.eq_1 @a114c.eq_1 VV
def b5e:=A5 @a115.eq_1 @a115s1.eq_1 @a115s3.eq_1 @a115c.eq_1 VV
def d2d:=A5 @a149.eq_1 @a149s1.eq_1 @a149s3.eq_1 @a149c.eq_1 VV
def b4j:=A2 (A8 @a150.eq_1 @a150s1.eq_1 @a150s4.eq_1 @a150s6.eq_1 @a150s8.eq_1 @a150s10.eq_1 @a150s12.eq_1 @a150s14.eq_1) (A6 @a150s17.eq_1 @a150s19.eq_1 @a150s24.eq_1 @a150s31.eq_1 @a150c.eq_1 VV)
def d7K:=A5 @a167.eq_1 @a167s1.eq_1 @a167s3.eq_1 @a167c.eq_1 VV
def b4u:=A2 (A8 @a182.eq_1 @a182s1.eq_1 @a182s3.eq_1 @a182s5.eq_1 @a182s7.eq_1 @a182s10.eq_1 @a182s12.eq_1 @a182s16.eq_1) (A3 @a182s23.eq_1 @a182c.eq_1 VV)
end Go.Cb.CodeA
