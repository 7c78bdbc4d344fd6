/- What the pieces of that code are, function by function, and the rules by which they run. No conditions. -/
import Derived.Test.YthbikoodicigeaaGreatDoorCodeA
import Derived.Test.YthbikoodicigeaaGreatDoorXAms4
import Derived.KernelRfl
set_option maxRecDepth 100000
set_option linter.unusedVariables false
set_option linter.defProp false
namespace Go.Cb.CodeA
open Go Go.Cb
open Go.Cb.V (VV)
theorem A2 {a b:Prop} (xa:a) (xb:b):a∧b:=⟨xa,xb⟩
theorem A3 {a b c:Prop} (xa:a) (xb:b) (xc:c):a∧b∧c:=⟨xa,xb,xc⟩
theorem A4 {a b c d:Prop} (xa:a) (xb:b) (xc:c) (xd:d):a∧b∧c∧d:=⟨xa,xb,xc,xd⟩
theorem A5 {a b c d e:Prop} (xa:a) (xb:b) (xc:c) (xd:d) (xe:e):a∧b∧c∧d∧e:=⟨xa,xb,xc,xd,xe⟩
theorem A6 {a b c d e f:Prop} (xa:a) (xb:b) (xc:c) (xd:d) (xe:e) (xf:f):a∧b∧c∧d∧e∧f:=⟨xa,xb,xc,xd,xe,xf⟩
theorem A7 {a b c d e f g:Prop} (xa:a) (xb:b) (xc:c) (xd:d) (xe:e) (xf:f) (xg:g):a∧b∧c∧d∧e∧f∧g:=⟨xa,xb,xc,xd,xe,xf,xg⟩
theorem A8 {a b c d e f g h:Prop} (xa:a) (xb:b) (xc:c) (xd:d) (xe:e) (xf:f) (xg:g) (xh:h):a∧b∧c∧d∧e∧f∧g∧h:=⟨xa,xb,xc,xd,xe,xf,xg,xh⟩
def K3b:=A4 (A8 @a3.eq_1 @a3s1.eq_1 @a3s4.eq_1 @a3s6.eq_1 @a3s8.eq_1 @a3s10.eq_1 @a3s12.eq_1 @a3s14.eq_1) (A8 @a3s17.eq_1 @a3s19.eq_1 @a3s21.eq_1 @a3s23.eq_1 @a3s25.eq_1 @a3s28.eq_1 @a3s30.eq_1 @a3s33.eq_1) (A8 @a3s35.eq_1 @a3s37.eq_1 @a3s40.eq_1 @a3s42.eq_1 @a3s44.eq_1 @a3s46.eq_1 @a3s48.eq_1 @a3s50.eq_1) (A4 @a3s53.eq_1 @a3s60.eq_1 @a3c.eq_1 VV)
def K3:=A5 K3b @a3s65.eq_1 @a3s66.eq_1 @a3s67.eq_1 @a3s69.eq_1
def K4:=A2 @a4.eq_1 VV
def K6:=A2 (A8 @a6.eq_1 @a6s1.eq_1 @a6s4.eq_1 @a6s6.eq_1 @a6s8.eq_1 @a6s11.eq_1 @a6s13.eq_1 @a6s15.eq_1) (A2 @a6c.eq_1 VV)
def K7:=A2 (A8 @a7.eq_1 @a7s1.eq_1 @a7s4.eq_1 @a7s6.eq_1 @a7s8.eq_1 @a7s11.eq_1 @a7s13.eq_1 @a7s15.eq_1) (A2 @a7c.eq_1 VV)
def K8:=A5 @a8.eq_1 @a8s1.eq_1 @a8s3.eq_1 @a8c.eq_1 VV
def K9:=A7 @a9.eq_1 @a9s1.eq_1 @a9s4.eq_1 @a9s6.eq_1 @a9s8.eq_1 @a9c.eq_1 VV
def K10:=A2 @a10.eq_1 VV
def K11:=A2 (A8 @a11.eq_1 @a11s1.eq_1 @a11s4.eq_1 @a11s8.eq_1 @a11s10.eq_1 @a11s11.eq_1 @a11s14.eq_1 @a11s16.eq_1) (A3 @a11s18.eq_1 @a11c.eq_1 VV)
def K12:=A5 @a12.eq_1 @a12s1.eq_1 @a12s3.eq_1 @a12c.eq_1 VV
def K13:=A7 @a13.eq_1 @a13s1.eq_1 @a13s4.eq_1 @a13s6.eq_1 @a13s8.eq_1 @a13c.eq_1 VV
def K14:=A7 @a14.eq_1 @a14s1.eq_1 @a14s4.eq_1 @a14s6.eq_1 @a14s8.eq_1 @a14c.eq_1 VV
def K15:=A7 @a15.eq_1 @a15s1.eq_1 @a15s4.eq_1 @a15s6.eq_1 @a15s8.eq_1 @a15c.eq_1 VV
def K16:=A7 @a16.eq_1 @a16s1.eq_1 @a16s4.eq_1 @a16s6.eq_1 @a16s8.eq_1 @a16c.eq_1 VV
def K17:=A2 (A8 @a17.eq_1 @a17s1.eq_1 @a17s4.eq_1 @a17s6.eq_1 @a17s8.eq_1 @a17s10.eq_1 @a17s12.eq_1 @a17s14.eq_1) (A5 @a17s16.eq_1 @a17s20.eq_1 @a17s27.eq_1 @a17c.eq_1 VV)
def K18:=A7 @a18.eq_1 @a18s1.eq_1 @a18s4.eq_1 @a18s6.eq_1 @a18s8.eq_1 @a18c.eq_1 VV
def K19:=A7 @a19.eq_1 @a19s1.eq_1 @a19s4.eq_1 @a19s6.eq_1 @a19s8.eq_1 @a19c.eq_1 VV
def K20:=A7 @a20.eq_1 @a20s1.eq_1 @a20s4.eq_1 @a20s6.eq_1 @a20s8.eq_1 @a20c.eq_1 VV
def K21:=A5 @a21.eq_1 @a21s1.eq_1 @a21s3.eq_1 @a21c.eq_1 VV
def K22:=A2 (A8 @a22.eq_1 @a22s1.eq_1 @a22s4.eq_1 @a22s6.eq_1 @a22s8.eq_1 @a22s10.eq_1 @a22s12.eq_1 @a22s14.eq_1) (A5 @a22s16.eq_1 @a22s20.eq_1 @a22s27.eq_1 @a22c.eq_1 VV)
def K23:=A2 (A8 @a23.eq_1 @a23s1.eq_1 @a23s3.eq_1 @a23s5.eq_1 @a23s8.eq_1 @a23s10.eq_1 @a23s13.eq_1 @a23s20.eq_1) (A2 @a23c.eq_1 VV)
def K24:=A5 @a24.eq_1 @a24s1.eq_1 @a24s3.eq_1 @a24c.eq_1 VV
def K28:=A2 @a28.eq_1 VV
def K34:=A2 (A8 @a34.eq_1 @a34s1.eq_1 @a34s4.eq_1 @a34s6.eq_1 @a34s8.eq_1 @a34s11.eq_1 @a34s13.eq_1 @a34s15.eq_1) (A2 @a34c.eq_1 VV)
end Go.Cb.CodeA
