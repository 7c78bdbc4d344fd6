import Derived.Test.YtdlgfdncpemcnaaGreatDoorCodeA
import Derived.Test.YtdlgfdncpemcnaaGreatDoorXAms4
import Derived.KernelRfl
set_option maxRecDepth 100000
set_option linter.all false
namespace Go.Cb.CodeA
open Go Go.Cb
open Go.Cb.V (VV)
theorem A2 {a b:Prop} (xa:a) (xb:b):a∧b:=⟨xa,xb⟩
theorem A3 {a b c:Prop} (xa:a) (xb:b) (xc:c):a∧b∧c:=⟨xa,xb,xc⟩
theorem A4 {a b c d:Prop} (xa:a) (xb:b) (xc:c) (xd:d):a∧b∧c∧d:=⟨xa,xb,xc,xd⟩
theorem A5 {a b c d e:Prop} (xa:a) (xb:b) (xc:c) (xd:d) (xe:e):a∧b∧c∧d∧e:=⟨xa,xb,xc,xd,xe⟩
theorem A6 {a b c d e f:Prop} (xa:a) (xb:b) (xc:c) (xd:d) (xe:e) (xf:f):a∧b∧c∧d∧e∧f:=⟨xa,xb,xc,xd,xe,xf⟩
theorem A7 {a b c d e f g:Prop} (xa:a) (xb:b) (xc:c) (xd:d) (xe:e) (xf:f) (xg:g):a∧b∧c∧d∧e∧f∧g:=⟨xa,xb,xc,xd,xe,xf,xg⟩
theorem A8 {a b c d e f g h:Prop} (xa:a) (xb:b) (xc:c) (xd:d) (xe:e) (xf:f) (xg:g) (xh:h):a∧b∧c∧d∧e∧f∧g∧h:=⟨xa,xb,xc,xd,xe,xf,xg,xh⟩
def K4:=A2 (A8 @a4.eq_1 @a4s1.eq_1 @a4s4.eq_1 @a4s6.eq_1 @a4s8.eq_1 @a4s10.eq_1 @a4s12.eq_1 @a4s14.eq_1) (A7 @a4s16.eq_1 @a4s18.eq_1 @a4s20.eq_1 @a4s22.eq_1 @a4s24.eq_1 @a4c.eq_1 VV)
def K7:=A2 (A8 @a7.eq_1 @a7s1.eq_1 @a7s3.eq_1 @a7s5.eq_1 @a7s7.eq_1 @a7s9.eq_1 @a7s11.eq_1 @a7s15.eq_1) (A3 @a7s22.eq_1 @a7c.eq_1 VV)
def K8:=A8 @a8.eq_1 @a8s1.eq_1 @a8s3.eq_1 @a8s6.eq_1 @a8s8.eq_1 @a8s10.eq_1 @a8c.eq_1 VV
def K11:=A2 (A8 @a11.eq_1 @a11s1.eq_1 @a11s3.eq_1 @a11s5.eq_1 @a11s7.eq_1 @a11s9.eq_1 @a11s12.eq_1 @a11s19.eq_1) (A2 @a11c.eq_1 VV)
def S3:=A6 (A8 @a12.eq_1 @a12s1.eq_1 @a12s3.eq_1 @a12s5.eq_1 @a12s7.eq_1 @a12s9.eq_1 @a12s11.eq_1 @a12s13.eq_1) (A8 @a12s15.eq_1 @a12s17.eq_1 @a12s19.eq_1 @a12s21.eq_1 @a12s23.eq_1 @a12s27.eq_1 @a12s35.eq_1 @a12s36.eq_1) (A8 @a12s38.eq_1 @a12s41.eq_1 @a12s42.eq_1 @a12s44.eq_1 @a12s46.eq_1 @a12s48.eq_1 @a12s51.eq_1 @a12s52.eq_1) (A8 @a12s54.eq_1 @a12s61.eq_1 @a12s63.eq_1 @a12s65.eq_1 @a12s69.eq_1 @a12s71.eq_1 @a12s73.eq_1 @a12s76.eq_1) (A8 @a12s77.eq_1 @a12s83.eq_1 @a12s85.eq_1 @a12s87.eq_1 @a12s89.eq_1 @a12s91.eq_1 @a12s94.eq_1 @a12s96.eq_1) (A8 @a12s98.eq_1 @a12s101.eq_1 @a12s108.eq_1 @a12s110.eq_1 @a12s116.eq_1 @a12s118.eq_1 @a12c.eq_1 VV)
def K12:=A3 S3 @a12s120.eq_1 @a12s121.eq_1
def K13:=A2 (A8 @a13.eq_1 @a13s1.eq_1 @a13s4.eq_1 @a13s6.eq_1 @a13s8.eq_1 @a13s10.eq_1 @a13s13.eq_1 @a13s15.eq_1) (A4 @a13s18.eq_1 @a13s25.eq_1 @a13c.eq_1 VV)
def K14:=A5 @a14.eq_1 @a14s1.eq_1 @a14s3.eq_1 @a14c.eq_1 VV
def K18:=A2 (A8 @a18.eq_1 @a18s1.eq_1 @a18s3.eq_1 @a18s5.eq_1 @a18s8.eq_1 @a18s10.eq_1 @a18s11.eq_1 @a18s13.eq_1) (A2 @a18c.eq_1 VV)
def K20:=A4 (A8 @a20.eq_1 @a20s1.eq_1 @a20s3.eq_1 @a20s6.eq_1 @a20s8.eq_1 @a20s11.eq_1 @a20s13.eq_1 @a20s15.eq_1) (A8 @a20s18.eq_1 @a20s20.eq_1 @a20s22.eq_1 @a20s24.eq_1 @a20s26.eq_1 @a20s28.eq_1 @a20s30.eq_1 @a20s32.eq_1) (A8 @a20s34.eq_1 @a20s36.eq_1 @a20s38.eq_1 @a20s41.eq_1 @a20s43.eq_1 @a20s45.eq_1 @a20s54.eq_1 @a20s62.eq_1) (A4 @a20s64.eq_1 @a20s66.eq_1 @a20c.eq_1 VV)
def K21:=A5 @a21.eq_1 @a21s1.eq_1 @a21s3.eq_1 @a21c.eq_1 VV
def K22:=A2 @a22.eq_1 VV
def K38:=A5 @a38.eq_1 @a38s1.eq_1 @a38s3.eq_1 @a38c.eq_1 VV
def K39:=A2 @a39.eq_1 VV
def K43:=A3 (A8 @a43.eq_1 @a43s1.eq_1 @a43s3.eq_1 @a43s5.eq_1 @a43s7.eq_1 @a43s9.eq_1 @a43s11.eq_1 @a43s13.eq_1) (A8 @a43s16.eq_1 @a43s19.eq_1 @a43s22.eq_1 @a43s23.eq_1 @a43s24.eq_1 @a43s25.eq_1 @a43s29.eq_1 @a43s31.eq_1) (A6 @a43s34.eq_1 @a43s35.eq_1 @a43s43.eq_1 @a43s50.eq_1 @a43c.eq_1 VV)
def K44:=A7 @a44.eq_1 @a44s1.eq_1 @a44s3.eq_1 @a44s5.eq_1 @a44s7.eq_1 @a44c.eq_1 VV
def K46:=A3 (A8 @a46.eq_1 @a46s1.eq_1 @a46s4.eq_1 @a46s6.eq_1 @a46s8.eq_1 @a46s10.eq_1 @a46s13.eq_1 @a46s15.eq_1) (A8 @a46s17.eq_1 @a46s20.eq_1 @a46s23.eq_1 @a46s25.eq_1 @a46s28.eq_1 @a46s30.eq_1 @a46s32.eq_1 @a46s34.eq_1) (A5 @a46s37.eq_1 @a46s38.eq_1 @a46s41.eq_1 @a46c.eq_1 VV)
def K47:=A3 (A8 @a47.eq_1 @a47s1.eq_1 @a47s4.eq_1 @a47s6.eq_1 @a47s8.eq_1 @a47s10.eq_1 @a47s13.eq_1 @a47s15.eq_1) (A8 @a47s18.eq_1 @a47s25.eq_1 @a47s27.eq_1 @a47s30.eq_1 @a47s32.eq_1 @a47s35.eq_1 @a47s42.eq_1 @a47c.eq_1) VV
def K77:=A2 (A8 @a77.eq_1 @a77s1.eq_1 @a77s3.eq_1 @a77s5.eq_1 @a77s7.eq_1 @a77s9.eq_1 @a77s12.eq_1 @a77s14.eq_1) (A4 @a77s15.eq_1 @a77s22.eq_1 @a77c.eq_1 VV)
def K78:=A2 (A8 @a78.eq_1 @a78s1.eq_1 @a78s4.eq_1 @a78s8.eq_1 @a78s10.eq_1 @a78s11.eq_1 @a78s14.eq_1 @a78c.eq_1) VV
def g9w:=A7 @a107.eq_1 @a107s1.eq_1 @a107s3.eq_1 @a107s5.eq_1 @a107s7.eq_1 @a107c.eq_1 VV
def g9F:=A3 (A8 @a110.eq_1 @a110s1.eq_1 @a110s3.eq_1 @a110s5.eq_1 @a110s7.eq_1 @a110s9.eq_1 @a110s12.eq_1 @a110s15.eq_1) (A8 @a110s17.eq_1 @a110s19.eq_1 @a110s22.eq_1 @a110s23.eq_1 @a110s29.eq_1 @a110s30.eq_1 @a110s31.eq_1 @a110s32.eq_1) (A3 @a110s39.eq_1 @a110c.eq_1 VV)
def g9y:=A4 (A8 @a113.eq_1 @a113s1.eq_1 @a113s3.eq_1 @a113s5.eq_1 @a113s8.eq_1 @a113r10.eq_1 @a113s12.eq_1 @a113s16.eq_1) (A8 @a113s19.eq_1 @a113s21.eq_1 @a113s22.eq_1 @a113s23.eq_1 @a113s24.eq_1 @a113s28.eq_1 @a113s30.eq_1 @a113s32.eq_1) (A8 @a113s34.eq_1 @a113s36.eq_1 @a113s38.eq_1 @a113s40.eq_1 @a113s42.eq_1 @a113s45.eq_1 @a113s46.eq_1 @a113s51.eq_1) (A4 @a113s58.eq_1 @a113s60.eq_1 @a113c.eq_1 VV)
def g9G:=A7 @a114.eq_1 @a114s1.eq_1 @a114s3.eq_1 @a114s5.eq_1 @a114s7.eq_1 @a114c.eq_1 VV
def g5L:=A4 (A8 @a128.eq_1 @a128s1.eq_1 @a128s4.eq_1 @a128s6.eq_1 @a128s10.eq_1 @a128s12.eq_1 @a128s14.eq_1 @a128s17.eq_1) (A8 @a128s19.eq_1 @a128s22.eq_1 @a128s26.eq_1 @a128s30.eq_1 @a128s34.eq_1 @a128s36.eq_1 @a128s37.eq_1 @a128s38.eq_1) (A8 @a128s39.eq_1 @a128s43.eq_1 @a128s45.eq_1 @a128s48.eq_1 @a128s52.eq_1 @a128s54.eq_1 @a128s55.eq_1 @a128s59.eq_1) (A2 @a128c.eq_1 VV)
def g9z:=A2 (A8 @a169.eq_1 @a169s1.eq_1 @a169s4.eq_1 @a169s7.eq_1 @a169s9.eq_1 @a169s11.eq_1 @a169s15.eq_1 @a169s19.eq_1) (A8 @a169s21.eq_1 @a169s23.eq_1 @a169s26.eq_1 @a169s29.eq_1 @a169s31.eq_1 @a169s33.eq_1 @a169c.eq_1 VV)
def g9x:=A2 (A8 @a171.eq_1 @a171s1.eq_1 @a171s3.eq_1 @a171s6.eq_1 @a171s7.eq_1 @a171s9.eq_1 @a171s12.eq_1 @a171s14.eq_1) (A7 @a171s16.eq_1 @a171s18.eq_1 @a171s20.eq_1 @a171s23.eq_1 @a171s24.eq_1 @a171c.eq_1 VV)
def a9N:=A8 @a177.eq_1 @a177s1.eq_1 @a177s3.eq_1 @a177s6.eq_1 @a177s8.eq_1 @a177s10.eq_1 @a177c.eq_1 VV
def g9E:=A2 (A8 @a182.eq_1 @a182s1.eq_1 @a182s3.eq_1 @a182s5.eq_1 @a182s9.eq_1 @a182s10.eq_1 @a182s12.eq_1 @a182s15.eq_1) (A3 @a182s17.eq_1 @a182c.eq_1 VV)
def d5y:=A3 (A8 @a224.eq_1 @a224s1.eq_1 @a224s3.eq_1 @a224s8.eq_1 @a224s9.eq_1 @a224s10.eq_1 @a224s11.eq_1 @a224s13.eq_1) (A8 @a224s17.eq_1 @a224s21.eq_1 @a224s25.eq_1 @a224s27.eq_1 @a224s30.eq_1 @a224s31.eq_1 @a224s32.eq_1 @a224s33.eq_1) (A3 @a224s37.eq_1 @a224c.eq_1 VV)
def g9D:=A5 (A8 @a233.eq_1 @a233s1.eq_1 @a233s4.eq_1 @a233s9.eq_1 @a233s11.eq_1 @a233s14.eq_1 @a233s16.eq_1 @a233s18.eq_1) (A8 @a233s20.eq_1 @a233s22.eq_1 @a233s25.eq_1 @a233s27.eq_1 @a233s29.eq_1 @a233s32.eq_1 @a233s34.eq_1 @a233s36.eq_1) (A8 @a233s43.eq_1 @a233s50.eq_1 @a233s58.eq_1 @a233s60.eq_1 @a233s63.eq_1 @a233s65.eq_1 @a233s70.eq_1 @a233s72.eq_1) (A8 @a233s75.eq_1 @a233s76.eq_1 @a233s77.eq_1 @a233s78.eq_1 @a233s82.eq_1 @a233s83.eq_1 @a233s85.eq_1 @a233s88.eq_1) (A5 @a233s90.eq_1 @a233s92.eq_1 @a233s94.eq_1 @a233c.eq_1 VV)
def g9C:=A7 @a267.eq_1 @a267s1.eq_1 @a267s4.eq_1 @a267s6.eq_1 @a267s8.eq_1 @a267c.eq_1 VV
def g9A:=A3 (A8 @a269.eq_1 @a269s1.eq_1 @a269s3.eq_1 @a269s5.eq_1 @a269s7.eq_1 @a269s9.eq_1 @a269s11.eq_1 @a269s13.eq_1) (A8 @a269s16.eq_1 @a269s18.eq_1 @a269s20.eq_1 @a269s22.eq_1 @a269s25.eq_1 @a269s27.eq_1 @a269s29.eq_1 @a269s39.eq_1) (A3 @a269s46.eq_1 @a269c.eq_1 VV)
def g9B:=A4 (A8 @a289.eq_1 @a289s1.eq_1 @a289s4.eq_1 @a289s6.eq_1 @a289s9.eq_1 @a289s11.eq_1 @a289s14.eq_1 @a289s16.eq_1) (A8 @a289s19.eq_1 @a289s20.eq_1 @a289s23.eq_1 @a289s25.eq_1 @a289s27.eq_1 @a289s29.eq_1 @a289s32.eq_1 @a289s33.eq_1) (A8 @a289s37.eq_1 @a289s44.eq_1 @a289s48.eq_1 @a289s50.eq_1 @a289s53.eq_1 @a289s55.eq_1 @a289s58.eq_1 @a289s60.eq_1) (A3 @a289s62.eq_1 @a289c.eq_1 VV)
end Go.Cb.CodeA
