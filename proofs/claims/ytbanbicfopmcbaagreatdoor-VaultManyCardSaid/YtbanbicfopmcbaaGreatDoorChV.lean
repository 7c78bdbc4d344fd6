/- What the pieces of that code are, function by function, and the rules by which they run. No conditions. -/
import Derived.Test.YtbanbicfopmcbaaGreatDoorCodeA
import Derived.Test.YtbanbicfopmcbaaGreatDoorXAms4
import Derived.KernelRfl
set_option maxRecDepth 100000
set_option linter.unusedVariables false
set_option linter.defProp false
namespace Go.Cb.CodeA
open Go Go.Cb
open Go.Cb.V (VV)
theorem A2 {a b:Prop} (xa:a) (xb:b):a∧b:=⟨xa,xb⟩
theorem A3 {a b c:Prop} (xa:a) (xb:b) (xc:c):a∧b∧c:=⟨xa,xb,xc⟩
theorem A4 {a b c d:Prop} (xa:a) (xb:b) (xc:c) (xd:d):a∧b∧c∧d:=⟨xa,xb,xc,xd⟩
theorem A5 {a b c d e:Prop} (xa:a) (xb:b) (xc:c) (xd:d) (xe:e):a∧b∧c∧d∧e:=⟨xa,xb,xc,xd,xe⟩
theorem A6 {a b c d e f:Prop} (xa:a) (xb:b) (xc:c) (xd:d) (xe:e) (xf:f):a∧b∧c∧d∧e∧f:=⟨xa,xb,xc,xd,xe,xf⟩
theorem A7 {a b c d e f g:Prop} (xa:a) (xb:b) (xc:c) (xd:d) (xe:e) (xf:f) (xg:g):a∧b∧c∧d∧e∧f∧g:=⟨xa,xb,xc,xd,xe,xf,xg⟩
theorem A8 {a b c d e f g h:Prop} (xa:a) (xb:b) (xc:c) (xd:d) (xe:e) (xf:f) (xg:g) (xh:h):a∧b∧c∧d∧e∧f∧g∧h:=⟨xa,xb,xc,xd,xe,xf,xg,xh⟩
def K3:=A5 (A8 @a3.eq_1 @a3s1.eq_1 @a3s4.eq_1 @a3s6.eq_1 @a3s8.eq_1 @a3s10.eq_1 @a3s12.eq_1 @a3s14.eq_1) (A8 @a3s16.eq_1 @a3s18.eq_1 @a3s21.eq_1 @a3s22.eq_1 @a3s24.eq_1 @a3s27.eq_1 @a3s29.eq_1 @a3s35.eq_1) (A8 @a3s42.eq_1 @a3s44.eq_1 @a3s46.eq_1 @a3s48.eq_1 @a3s51.eq_1 @a3s53.eq_1 @a3s58.eq_1 @a3s65.eq_1) (A8 @a3s67.eq_1 @a3s69.eq_1 @a3s72.eq_1 @a3s73.eq_1 @a3s75.eq_1 @a3s78.eq_1 @a3s80.eq_1 @a3s82.eq_1) (A2 @a3c.eq_1 VV)
def K7:=A7 @a7.eq_1 @a7s1.eq_1 @a7s4.eq_1 @a7s6.eq_1 @a7s8.eq_1 @a7c.eq_1 VV
def K8:=A2 (A8 @a8.eq_1 @a8s1.eq_1 @a8s3.eq_1 @a8s6.eq_1 @a8s8.eq_1 @a8s11.eq_1 @a8s13.eq_1 @a8s15.eq_1) (A4 @a8s17.eq_1 @a8s19.eq_1 @a8c.eq_1 VV)
def K9:=A3 (A8 @a9.eq_1 @a9s1.eq_1 @a9s4.eq_1 @a9s6.eq_1 @a9s9.eq_1 @a9s10.eq_1 @a9s12.eq_1 @a9s14.eq_1) (A8 @a9s16.eq_1 @a9s18.eq_1 @a9s21.eq_1 @a9s22.eq_1 @a9s26.eq_1 @a9s33.eq_1 @a9s35.eq_1 @a9s37.eq_1) (A7 @a9s40.eq_1 @a9s41.eq_1 @a9s45.eq_1 @a9s52.eq_1 @a9s54.eq_1 @a9c.eq_1 VV)
def K16:=A2 (A8 @a16.eq_1 @a16s1.eq_1 @a16s4.eq_1 @a16s8.eq_1 @a16s12.eq_1 @a16s16.eq_1 @a16s18.eq_1 @a16s19.eq_1) (A5 @a16s20.eq_1 @a16s21.eq_1 @a16s24.eq_1 @a16c.eq_1 VV)
def K18:=A3 (A8 @a18.eq_1 @a18s1.eq_1 @a18s3.eq_1 @a18s5.eq_1 @a18s7.eq_1 @a18s9.eq_1 @a18s11.eq_1 @a18s13.eq_1) (A8 @a18s16.eq_1 @a18s17.eq_1 @a18s24.eq_1 @a18s31.eq_1 @a18s33.eq_1 @a18s35.eq_1 @a18s37.eq_1 @a18s40.eq_1) (A8 @a18s41.eq_1 @a18s46.eq_1 @a18s53.eq_1 @a18s55.eq_1 @a18s57.eq_1 @a18s64.eq_1 @a18c.eq_1 VV)
def K19:=A2 @a19.eq_1 VV
end Go.Cb.CodeA
