import Derived.Test.YtlegecilkicppaaGreatDoorCodeA
import Derived.Test.YtlegecilkicppaaGreatDoorXAms4
import Derived.KernelRfl
set_option maxRecDepth 100000
set_option linter.all false
namespace Go.Cb.CodeA
open Go Go.Cb
open Go.Cb.V (VV)
theorem A2 {a b:Prop} (xa:a) (xb:b):a∧b:=⟨xa,xb⟩
theorem A3 {a b c:Prop} (xa:a) (xb:b) (xc:c):a∧b∧c:=⟨xa,xb,xc⟩
theorem A4 {a b c d:Prop} (xa:a) (xb:b) (xc:c) (xd:d):a∧b∧c∧d:=⟨xa,xb,xc,xd⟩
theorem A5 {a b c d e:Prop} (xa:a) (xb:b) (xc:c) (xd:d) (xe:e):a∧b∧c∧d∧e:=⟨xa,xb,xc,xd,xe⟩
theorem A6 {a b c d e f:Prop} (xa:a) (xb:b) (xc:c) (xd:d) (xe:e) (xf:f):a∧b∧c∧d∧e∧f:=⟨xa,xb,xc,xd,xe,xf⟩
theorem A7 {a b c d e f g:Prop} (xa:a) (xb:b) (xc:c) (xd:d) (xe:e) (xf:f) (xg:g):a∧b∧c∧d∧e∧f∧g:=⟨xa,xb,xc,xd,xe,xf,xg⟩
theorem A8 {a b c d e f g h:Prop} (xa:a) (xb:b) (xc:c) (xd:d) (xe:e) (xf:f) (xg:g) (xh:h):a∧b∧c∧d∧e∧f∧g∧h:=⟨xa,xb,xc,xd,xe,xf,xg,xh⟩
def K3:=A3 (A8 @a3.eq_1 @a3s1.eq_1 @a3s4.eq_1 @a3s6.eq_1 @a3s8.eq_1 @a3s10.eq_1 @a3s12.eq_1 @a3s14.eq_1) (A8 @a3s16.eq_1 @a3s18.eq_1 @a3s21.eq_1 @a3s23.eq_1 @a3s25.eq_1 @a3s28.eq_1 @a3s30.eq_1 @a3s32.eq_1) (A3 @a3s34.eq_1 @a3c.eq_1 VV)
def K6:=A2 (A8 @a6.eq_1 @a6s1.eq_1 @a6s3.eq_1 @a6s5.eq_1 @a6s7.eq_1 @a6s9.eq_1 @a6s11.eq_1 @a6s15.eq_1) (A3 @a6s22.eq_1 @a6c.eq_1 VV)
def K7:=A2 (A8 @a7.eq_1 @a7s1.eq_1 @a7s3.eq_1 @a7s5.eq_1 @a7s7.eq_1 @a7s9.eq_1 @a7s12.eq_1 @a7s19.eq_1) (A2 @a7c.eq_1 VV)
def K9:=A8 @a9.eq_1 @a9s1.eq_1 @a9s3.eq_1 @a9s6.eq_1 @a9s8.eq_1 @a9s10.eq_1 @a9c.eq_1 VV
def K10:=A2 (A8 @a10.eq_1 @a10s1.eq_1 @a10s4.eq_1 @a10s6.eq_1 @a10s8.eq_1 @a10s10.eq_1 @a10s13.eq_1 @a10s15.eq_1) (A4 @a10s18.eq_1 @a10s25.eq_1 @a10c.eq_1 VV)
def K11:=A5 @a11.eq_1 @a11s1.eq_1 @a11s3.eq_1 @a11c.eq_1 VV
def K12:=A8 @a12.eq_1 @a12s1.eq_1 @a12s3.eq_1 @a12s6.eq_1 @a12s8.eq_1 @a12s10.eq_1 @a12c.eq_1 VV
def K17:=A2 (A8 @a17.eq_1 @a17s1.eq_1 @a17s3.eq_1 @a17s5.eq_1 @a17s8.eq_1 @a17s10.eq_1 @a17s11.eq_1 @a17s13.eq_1) (A2 @a17c.eq_1 VV)
def S5:=A6 (A8 @a18.eq_1 @a18s1.eq_1 @a18s3.eq_1 @a18s5.eq_1 @a18s7.eq_1 @a18s9.eq_1 @a18s11.eq_1 @a18s13.eq_1) (A8 @a18s15.eq_1 @a18s17.eq_1 @a18s19.eq_1 @a18s21.eq_1 @a18s23.eq_1 @a18s27.eq_1 @a18s35.eq_1 @a18s36.eq_1) (A8 @a18s38.eq_1 @a18s41.eq_1 @a18s42.eq_1 @a18s44.eq_1 @a18s46.eq_1 @a18s48.eq_1 @a18s51.eq_1 @a18s52.eq_1) (A8 @a18s54.eq_1 @a18s61.eq_1 @a18s63.eq_1 @a18s65.eq_1 @a18s69.eq_1 @a18s71.eq_1 @a18s73.eq_1 @a18s76.eq_1) (A8 @a18s77.eq_1 @a18s83.eq_1 @a18s85.eq_1 @a18s87.eq_1 @a18s89.eq_1 @a18s91.eq_1 @a18s94.eq_1 @a18s96.eq_1) (A8 @a18s98.eq_1 @a18s101.eq_1 @a18s108.eq_1 @a18s110.eq_1 @a18s116.eq_1 @a18s118.eq_1 @a18c.eq_1 VV)
def K18:=A3 S5 @a18s120.eq_1 @a18s121.eq_1
def K20:=A4 (A8 @a20.eq_1 @a20s1.eq_1 @a20s3.eq_1 @a20s6.eq_1 @a20s8.eq_1 @a20s11.eq_1 @a20s13.eq_1 @a20s15.eq_1) (A8 @a20s18.eq_1 @a20s20.eq_1 @a20s22.eq_1 @a20s24.eq_1 @a20s26.eq_1 @a20s28.eq_1 @a20s30.eq_1 @a20s32.eq_1) (A8 @a20s34.eq_1 @a20s36.eq_1 @a20s38.eq_1 @a20s41.eq_1 @a20s43.eq_1 @a20s45.eq_1 @a20s54.eq_1 @a20s62.eq_1) (A4 @a20s64.eq_1 @a20s66.eq_1 @a20c.eq_1 VV)
def K21:=A5 @a21.eq_1 @a21s1.eq_1 @a21s3.eq_1 @a21c.eq_1 VV
def K22:=A2 @a22.eq_1 VV
def K23:=A5 @a23.eq_1 @a23s1.eq_1 @a23s3.eq_1 @a23c.eq_1 VV
def K24:=A2 @a24.eq_1 VV
def K40:=A2 @a40.eq_1 VV
def K44:=A3 (A8 @a44.eq_1 @a44s1.eq_1 @a44s3.eq_1 @a44s5.eq_1 @a44s7.eq_1 @a44s9.eq_1 @a44s11.eq_1 @a44s13.eq_1) (A8 @a44s16.eq_1 @a44s19.eq_1 @a44s22.eq_1 @a44s23.eq_1 @a44s24.eq_1 @a44s25.eq_1 @a44s29.eq_1 @a44s31.eq_1) (A6 @a44s34.eq_1 @a44s35.eq_1 @a44s43.eq_1 @a44s50.eq_1 @a44c.eq_1 VV)
def K45:=A7 @a45.eq_1 @a45s1.eq_1 @a45s3.eq_1 @a45s5.eq_1 @a45s7.eq_1 @a45c.eq_1 VV
def K47:=A3 (A8 @a47.eq_1 @a47s1.eq_1 @a47s4.eq_1 @a47s6.eq_1 @a47s8.eq_1 @a47s10.eq_1 @a47s13.eq_1 @a47s15.eq_1) (A8 @a47s17.eq_1 @a47s20.eq_1 @a47s23.eq_1 @a47s25.eq_1 @a47s28.eq_1 @a47s30.eq_1 @a47s32.eq_1 @a47s34.eq_1) (A5 @a47s37.eq_1 @a47s38.eq_1 @a47s41.eq_1 @a47c.eq_1 VV)
def K48:=A3 (A8 @a48.eq_1 @a48s1.eq_1 @a48s4.eq_1 @a48s6.eq_1 @a48s8.eq_1 @a48s10.eq_1 @a48s13.eq_1 @a48s15.eq_1) (A8 @a48s18.eq_1 @a48s25.eq_1 @a48s27.eq_1 @a48s30.eq_1 @a48s32.eq_1 @a48s35.eq_1 @a48s42.eq_1 @a48c.eq_1) VV
def K49:=A2 (A8 @a49.eq_1 @a49s1.eq_1 @a49s3.eq_1 @a49s5.eq_1 @a49s7.eq_1 @a49s9.eq_1 @a49s12.eq_1 @a49s14.eq_1) (A4 @a49s15.eq_1 @a49s22.eq_1 @a49c.eq_1 VV)
def K50:=A2 (A8 @a50.eq_1 @a50s1.eq_1 @a50s4.eq_1 @a50s8.eq_1 @a50s10.eq_1 @a50s11.eq_1 @a50s14.eq_1 @a50c.eq_1) VV
def e1w:=A7 @a108.eq_1 @a108s1.eq_1 @a108s3.eq_1 @a108s5.eq_1 @a108s7.eq_1 @a108c.eq_1 VV
def e1D:=A3 (A8 @a111.eq_1 @a111s1.eq_1 @a111s3.eq_1 @a111s5.eq_1 @a111s7.eq_1 @a111s9.eq_1 @a111s12.eq_1 @a111s15.eq_1) (A8 @a111s17.eq_1 @a111s19.eq_1 @a111s22.eq_1 @a111s23.eq_1 @a111s29.eq_1 @a111s30.eq_1 @a111s31.eq_1 @a111s32.eq_1) (A3 @a111s39.eq_1 @a111c.eq_1 VV)
def e1E:=A4 (A8 @a114.eq_1 @a114s1.eq_1 @a114s3.eq_1 @a114s5.eq_1 @a114s8.eq_1 @a114r10.eq_1 @a114s12.eq_1 @a114s16.eq_1) (A8 @a114s19.eq_1 @a114s21.eq_1 @a114s22.eq_1 @a114s23.eq_1 @a114s24.eq_1 @a114s28.eq_1 @a114s30.eq_1 @a114s32.eq_1) (A8 @a114s34.eq_1 @a114s36.eq_1 @a114s38.eq_1 @a114s40.eq_1 @a114s42.eq_1 @a114s45.eq_1 @a114s46.eq_1 @a114s51.eq_1) (A4 @a114s58.eq_1 @a114s60.eq_1 @a114c.eq_1 VV)
def e1B:=A7 @a115.eq_1 @a115s1.eq_1 @a115s3.eq_1 @a115s5.eq_1 @a115s7.eq_1 @a115c.eq_1 VV
def d9s:=A4 (A8 @a128.eq_1 @a128s1.eq_1 @a128s4.eq_1 @a128s6.eq_1 @a128s10.eq_1 @a128s12.eq_1 @a128s14.eq_1 @a128s17.eq_1) (A8 @a128s19.eq_1 @a128s22.eq_1 @a128s26.eq_1 @a128s30.eq_1 @a128s34.eq_1 @a128s36.eq_1 @a128s37.eq_1 @a128s38.eq_1) (A8 @a128s39.eq_1 @a128s43.eq_1 @a128s45.eq_1 @a128s48.eq_1 @a128s52.eq_1 @a128s54.eq_1 @a128s55.eq_1 @a128s59.eq_1) (A2 @a128c.eq_1 VV)
def e1v:=A2 (A8 @a169.eq_1 @a169s1.eq_1 @a169s4.eq_1 @a169s7.eq_1 @a169s9.eq_1 @a169s11.eq_1 @a169s15.eq_1 @a169s19.eq_1) (A8 @a169s21.eq_1 @a169s23.eq_1 @a169s26.eq_1 @a169s29.eq_1 @a169s31.eq_1 @a169s33.eq_1 @a169c.eq_1 VV)
def e1F:=A2 (A8 @a171.eq_1 @a171s1.eq_1 @a171s3.eq_1 @a171s6.eq_1 @a171s7.eq_1 @a171s9.eq_1 @a171s12.eq_1 @a171s14.eq_1) (A7 @a171s16.eq_1 @a171s18.eq_1 @a171s20.eq_1 @a171s23.eq_1 @a171s24.eq_1 @a171c.eq_1 VV)
def a8u:=A8 @a177.eq_1 @a177s1.eq_1 @a177s3.eq_1 @a177s6.eq_1 @a177s8.eq_1 @a177s10.eq_1 @a177c.eq_1 VV
def e1A:=A2 (A8 @a182.eq_1 @a182s1.eq_1 @a182s3.eq_1 @a182s5.eq_1 @a182s9.eq_1 @a182s10.eq_1 @a182s12.eq_1 @a182s15.eq_1) (A3 @a182s17.eq_1 @a182c.eq_1 VV)
def c9E:=A3 (A8 @a223.eq_1 @a223s1.eq_1 @a223s3.eq_1 @a223s8.eq_1 @a223s9.eq_1 @a223s10.eq_1 @a223s11.eq_1 @a223s13.eq_1) (A8 @a223s17.eq_1 @a223s21.eq_1 @a223s25.eq_1 @a223s27.eq_1 @a223s30.eq_1 @a223s31.eq_1 @a223s32.eq_1 @a223s33.eq_1) (A3 @a223s37.eq_1 @a223c.eq_1 VV)
def e1x:=A5 (A8 @a232.eq_1 @a232s1.eq_1 @a232s4.eq_1 @a232s9.eq_1 @a232s11.eq_1 @a232s14.eq_1 @a232s16.eq_1 @a232s18.eq_1) (A8 @a232s20.eq_1 @a232s22.eq_1 @a232s25.eq_1 @a232s27.eq_1 @a232s29.eq_1 @a232s32.eq_1 @a232s34.eq_1 @a232s36.eq_1) (A8 @a232s43.eq_1 @a232s50.eq_1 @a232s58.eq_1 @a232s60.eq_1 @a232s63.eq_1 @a232s65.eq_1 @a232s70.eq_1 @a232s72.eq_1) (A8 @a232s75.eq_1 @a232s76.eq_1 @a232s77.eq_1 @a232s78.eq_1 @a232s82.eq_1 @a232s83.eq_1 @a232s85.eq_1 @a232s88.eq_1) (A5 @a232s90.eq_1 @a232s92.eq_1 @a232s94.eq_1 @a232c.eq_1 VV)
def e1z:=A7 @a266.eq_1 @a266s1.eq_1 @a266s4.eq_1 @a266s6.eq_1 @a266s8.eq_1 @a266c.eq_1 VV
def e1y:=A3 (A8 @a268.eq_1 @a268s1.eq_1 @a268s3.eq_1 @a268s5.eq_1 @a268s7.eq_1 @a268s9.eq_1 @a268s11.eq_1 @a268s13.eq_1) (A8 @a268s16.eq_1 @a268s18.eq_1 @a268s20.eq_1 @a268s22.eq_1 @a268s25.eq_1 @a268s27.eq_1 @a268s29.eq_1 @a268s39.eq_1) (A3 @a268s46.eq_1 @a268c.eq_1 VV)
def e1C:=A4 (A8 @a288.eq_1 @a288s1.eq_1 @a288s4.eq_1 @a288s6.eq_1 @a288s9.eq_1 @a288s11.eq_1 @a288s14.eq_1 @a288s16.eq_1) (A8 @a288s19.eq_1 @a288s20.eq_1 @a288s23.eq_1 @a288s25.eq_1 @a288s27.eq_1 @a288s29.eq_1 @a288s32.eq_1 @a288s33.eq_1) (A8 @a288s37.eq_1 @a288s44.eq_1 @a288s48.eq_1 @a288s50.eq_1 @a288s53.eq_1 @a288s55.eq_1 @a288s58.eq_1 @a288s60.eq_1) (A3 @a288s62.eq_1 @a288c.eq_1 VV)
end Go.Cb.CodeA
