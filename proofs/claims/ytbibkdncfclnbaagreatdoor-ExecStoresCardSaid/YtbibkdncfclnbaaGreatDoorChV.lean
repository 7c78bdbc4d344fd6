/- What the pieces of that code are, function by function, and the rules by which they run. No conditions. -/
import Derived.Test.YtbibkdncfclnbaaGreatDoorCodeA
import Derived.Test.YtbibkdncfclnbaaGreatDoorXAms3
import Derived.KernelRfl
set_option maxRecDepth 100000
set_option linter.unusedVariables false
set_option linter.defProp false
namespace Go.Cb.CodeA
open Go Go.Cb
open Go.Cb.V (VV)
theorem A2 {a b:Prop} (xa:a) (xb:b):a∧b:=⟨xa,xb⟩
theorem A3 {a b c:Prop} (xa:a) (xb:b) (xc:c):a∧b∧c:=⟨xa,xb,xc⟩
theorem A4 {a b c d:Prop} (xa:a) (xb:b) (xc:c) (xd:d):a∧b∧c∧d:=⟨xa,xb,xc,xd⟩
theorem A5 {a b c d e:Prop} (xa:a) (xb:b) (xc:c) (xd:d) (xe:e):a∧b∧c∧d∧e:=⟨xa,xb,xc,xd,xe⟩
theorem A6 {a b c d e f:Prop} (xa:a) (xb:b) (xc:c) (xd:d) (xe:e) (xf:f):a∧b∧c∧d∧e∧f:=⟨xa,xb,xc,xd,xe,xf⟩
theorem A7 {a b c d e f g:Prop} (xa:a) (xb:b) (xc:c) (xd:d) (xe:e) (xf:f) (xg:g):a∧b∧c∧d∧e∧f∧g:=⟨xa,xb,xc,xd,xe,xf,xg⟩
theorem A8 {a b c d e f g h:Prop} (xa:a) (xb:b) (xc:c) (xd:d) (xe:e) (xf:f) (xg:g) (xh:h):a∧b∧c∧d∧e∧f∧g∧h:=⟨xa,xb,xc,xd,xe,xf,xg,xh⟩
def K10:=A4 (A8 @a10.eq_1 @a10s1.eq_1 @a10s4.eq_1 @a10s6.eq_1 @a10s8.eq_1 @a10s10.eq_1 @a10s12.eq_1 @a10s14.eq_1) (A8 @a10s16.eq_1 @a10s18.eq_1 @a10s20.eq_1 @a10s22.eq_1 @a10s24.eq_1 @a10s27.eq_1 @a10s29.eq_1 @a10s31.eq_1) (A8 @a10s34.eq_1 @a10s36.eq_1 @a10s44.eq_1 @a10s51.eq_1 @a10s53.eq_1 @a10s55.eq_1 @a10s58.eq_1 @a10s60.eq_1) (A4 @a10s64.eq_1 @a10s71.eq_1 @a10c.eq_1 VV)
def K14:=A2 (A8 @a14.eq_1 @a14s1.eq_1 @a14s3.eq_1 @a14s5.eq_1 @a14s7.eq_1 @a14s9.eq_1 @a14s12.eq_1 @a14s19.eq_1) (A2 @a14c.eq_1 VV)
def K15:=A2 (A8 @a15.eq_1 @a15s1.eq_1 @a15s3.eq_1 @a15s5.eq_1 @a15s7.eq_1 @a15s9.eq_1 @a15s12.eq_1 @a15s19.eq_1) (A2 @a15c.eq_1 VV)
def K18:=A2 (A8 @a18.eq_1 @a18s1.eq_1 @a18s3.eq_1 @a18s5.eq_1 @a18s7.eq_1 @a18s9.eq_1 @a18s11.eq_1 @a18s15.eq_1) (A3 @a18s22.eq_1 @a18c.eq_1 VV)
def K21:=A3 (A8 @a21.eq_1 @a21s1.eq_1 @a21s4.eq_1 @a21s6.eq_1 @a21s8.eq_1 @a21s10.eq_1 @a21s13.eq_1 @a21s15.eq_1) (A8 @a21s18.eq_1 @a21s25.eq_1 @a21s27.eq_1 @a21s30.eq_1 @a21s32.eq_1 @a21s35.eq_1 @a21s42.eq_1 @a21c.eq_1) VV
def K23:=A5 @a23.eq_1 @a23s1.eq_1 @a23s3.eq_1 @a23c.eq_1 VV
def K24:=A2 (A8 @a24.eq_1 @a24s1.eq_1 @a24s4.eq_1 @a24s6.eq_1 @a24s8.eq_1 @a24s10.eq_1 @a24s13.eq_1 @a24s15.eq_1) (A4 @a24s18.eq_1 @a24s25.eq_1 @a24c.eq_1 VV)
def I7:=A6 (A8 @a25.eq_1 @a25s1.eq_1 @a25s3.eq_1 @a25s5.eq_1 @a25s7.eq_1 @a25s9.eq_1 @a25s11.eq_1 @a25s13.eq_1) (A8 @a25s15.eq_1 @a25s17.eq_1 @a25s19.eq_1 @a25s21.eq_1 @a25s23.eq_1 @a25s27.eq_1 @a25s35.eq_1 @a25s36.eq_1) (A8 @a25s38.eq_1 @a25s41.eq_1 @a25s42.eq_1 @a25s44.eq_1 @a25s46.eq_1 @a25s48.eq_1 @a25s51.eq_1 @a25s52.eq_1) (A8 @a25s54.eq_1 @a25s61.eq_1 @a25s63.eq_1 @a25s65.eq_1 @a25s69.eq_1 @a25s71.eq_1 @a25s73.eq_1 @a25s76.eq_1) (A8 @a25s77.eq_1 @a25s83.eq_1 @a25s85.eq_1 @a25s87.eq_1 @a25s89.eq_1 @a25s91.eq_1 @a25s94.eq_1 @a25s96.eq_1) (A8 @a25s98.eq_1 @a25s101.eq_1 @a25s108.eq_1 @a25s110.eq_1 @a25s116.eq_1 @a25s118.eq_1 @a25c.eq_1 VV)
def K25:=A3 I7 @a25s120.eq_1 @a25s121.eq_1
def K26:=A8 @a26.eq_1 @a26s1.eq_1 @a26s3.eq_1 @a26s6.eq_1 @a26s8.eq_1 @a26s10.eq_1 @a26c.eq_1 VV
def K27:=A2 (A8 @a27.eq_1 @a27s1.eq_1 @a27s3.eq_1 @a27s5.eq_1 @a27s7.eq_1 @a27s10.eq_1 @a27s11.eq_1 @a27s14.eq_1) (A3 @a27s21.eq_1 @a27c.eq_1 VV)
def K28:=A5 @a28.eq_1 @a28s1.eq_1 @a28s3.eq_1 @a28c.eq_1 VV
def K29:=A8 @a29.eq_1 @a29s1.eq_1 @a29s3.eq_1 @a29s6.eq_1 @a29s8.eq_1 @a29s10.eq_1 @a29c.eq_1 VV
def K30:=A5 @a30.eq_1 @a30s1.eq_1 @a30s3.eq_1 @a30c.eq_1 VV
def K36:=A3 (A8 @a36.eq_1 @a36s1.eq_1 @a36s3.eq_1 @a36s5.eq_1 @a36s7.eq_1 @a36s9.eq_1 @a36s12.eq_1 @a36s14.eq_1) (A8 @a36s16.eq_1 @a36s19.eq_1 @a36s20.eq_1 @a36s24.eq_1 @a36s32.eq_1 @a36s33.eq_1 @a36s35.eq_1 @a36c.eq_1) VV
def K40:=A2 (A8 @a40.eq_1 @a40s1.eq_1 @a40s3.eq_1 @a40s5.eq_1 @a40s8.eq_1 @a40s10.eq_1 @a40s11.eq_1 @a40s13.eq_1) (A2 @a40c.eq_1 VV)
def K47:=A2 @a47.eq_1 VV
def K48:=A5 @a48.eq_1 @a48s1.eq_1 @a48s3.eq_1 @a48c.eq_1 VV
def K49:=A2 @a49.eq_1 VV
def K88:=A2 @a88.eq_1 VV
def K92:=A2 (A8 @a92.eq_1 @a92s1.eq_1 @a92s3.eq_1 @a92s5.eq_1 @a92s7.eq_1 @a92s9.eq_1 @a92s12.eq_1 @a92s14.eq_1) (A4 @a92s15.eq_1 @a92s22.eq_1 @a92c.eq_1 VV)
def K93:=A2 (A8 @a93.eq_1 @a93s1.eq_1 @a93s4.eq_1 @a93s8.eq_1 @a93s10.eq_1 @a93s11.eq_1 @a93s14.eq_1 @a93c.eq_1) VV
def N1:=A2 (A8 @a169.eq_1 @a169s1.eq_1 @a169s3.eq_1 @a169s6.eq_1 @a169s7.eq_1 @a169s9.eq_1 @a169s12.eq_1 @a169s14.eq_1) (A8 @a169s16.eq_1 @a169s18.eq_1 @a169s20.eq_1 @a169s21.eq_1 @a169s23.eq_1 @a169s24.eq_1 @a169c.eq_1 VV)
def S5:=A2 (A8 @a189.eq_1 @a189s1.eq_1 @a189s3.eq_1 @a189s5.eq_1 @a189s7.eq_1 @a189s10.eq_1 @a189s12.eq_1 @a189s16.eq_1) (A3 @a189s23.eq_1 @a189c.eq_1 VV)
def c8B:=A5 @a190.eq_1 @a190s1.eq_1 @a190s3.eq_1 @a190c.eq_1 VV
end Go.Cb.CodeA
