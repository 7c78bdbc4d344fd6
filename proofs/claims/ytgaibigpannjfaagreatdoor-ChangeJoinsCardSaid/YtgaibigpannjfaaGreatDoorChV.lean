import Derived.Test.YtgaibigpannjfaaGreatDoorCodeA
import Derived.Test.YtgaibigpannjfaaGreatDoorXAms4
import Derived.KernelRfl
set_option maxRecDepth 100000
set_option linter.all false
namespace Go.Cb.CodeA
open Go Go.Cb
open Go.Cb.V (VV)
theorem A2 {a b:Prop} (xa:a) (xb:b):a∧b:=⟨xa,xb⟩
theorem A3 {a b c:Prop} (xa:a) (xb:b) (xc:c):a∧b∧c:=⟨xa,xb,xc⟩
theorem A4 {a b c d:Prop} (xa:a) (xb:b) (xc:c) (xd:d):a∧b∧c∧d:=⟨xa,xb,xc,xd⟩
theorem A5 {a b c d e:Prop} (xa:a) (xb:b) (xc:c) (xd:d) (xe:e):a∧b∧c∧d∧e:=⟨xa,xb,xc,xd,xe⟩
theorem A6 {a b c d e f:Prop} (xa:a) (xb:b) (xc:c) (xd:d) (xe:e) (xf:f):a∧b∧c∧d∧e∧f:=⟨xa,xb,xc,xd,xe,xf⟩
theorem A7 {a b c d e f g:Prop} (xa:a) (xb:b) (xc:c) (xd:d) (xe:e) (xf:f) (xg:g):a∧b∧c∧d∧e∧f∧g:=⟨xa,xb,xc,xd,xe,xf,xg⟩
theorem A8 {a b c d e f g h:Prop} (xa:a) (xb:b) (xc:c) (xd:d) (xe:e) (xf:f) (xg:g) (xh:h):a∧b∧c∧d∧e∧f∧g∧h:=⟨xa,xb,xc,xd,xe,xf,xg,xh⟩
def K3:=A3 (A8 @a3.eq_1 @a3s1.eq_1 @a3s4.eq_1 @a3s6.eq_1 @a3s8.eq_1 @a3s10.eq_1 @a3s12.eq_1 @a3s14.eq_1) (A8 @a3s16.eq_1 @a3s18.eq_1 @a3s20.eq_1 @a3s22.eq_1 @a3s25.eq_1 @a3s27.eq_1 @a3s30.eq_1 @a3s32.eq_1) (A3 @a3s34.eq_1 @a3c.eq_1 VV)
def K6:=A2 (A8 @a6.eq_1 @a6s1.eq_1 @a6s3.eq_1 @a6s5.eq_1 @a6s7.eq_1 @a6s9.eq_1 @a6s11.eq_1 @a6s15.eq_1) (A3 @a6s22.eq_1 @a6c.eq_1 VV)
def K7:=A2 (A8 @a7.eq_1 @a7s1.eq_1 @a7s3.eq_1 @a7s5.eq_1 @a7s7.eq_1 @a7s9.eq_1 @a7s12.eq_1 @a7s19.eq_1) (A2 @a7c.eq_1 VV)
def K8:=A8 @a8.eq_1 @a8s1.eq_1 @a8s3.eq_1 @a8s6.eq_1 @a8s8.eq_1 @a8s10.eq_1 @a8c.eq_1 VV
def K10:=A2 (A8 @a10.eq_1 @a10s1.eq_1 @a10s4.eq_1 @a10s6.eq_1 @a10s8.eq_1 @a10s10.eq_1 @a10s13.eq_1 @a10s15.eq_1) (A4 @a10s18.eq_1 @a10s25.eq_1 @a10c.eq_1 VV)
def K11:=A5 @a11.eq_1 @a11s1.eq_1 @a11s3.eq_1 @a11c.eq_1 VV
def K16:=A2 (A8 @a16.eq_1 @a16s1.eq_1 @a16s3.eq_1 @a16s5.eq_1 @a16s8.eq_1 @a16s10.eq_1 @a16s11.eq_1 @a16s13.eq_1) (A2 @a16c.eq_1 VV)
def Y0:=A6 (A8 @a17.eq_1 @a17s1.eq_1 @a17s3.eq_1 @a17s5.eq_1 @a17s7.eq_1 @a17s9.eq_1 @a17s11.eq_1 @a17s13.eq_1) (A8 @a17s15.eq_1 @a17s17.eq_1 @a17s19.eq_1 @a17s21.eq_1 @a17s23.eq_1 @a17s27.eq_1 @a17s35.eq_1 @a17s36.eq_1) (A8 @a17s38.eq_1 @a17s41.eq_1 @a17s42.eq_1 @a17s44.eq_1 @a17s46.eq_1 @a17s48.eq_1 @a17s51.eq_1 @a17s52.eq_1) (A8 @a17s54.eq_1 @a17s61.eq_1 @a17s63.eq_1 @a17s65.eq_1 @a17s69.eq_1 @a17s71.eq_1 @a17s73.eq_1 @a17s76.eq_1) (A8 @a17s77.eq_1 @a17s83.eq_1 @a17s85.eq_1 @a17s87.eq_1 @a17s89.eq_1 @a17s91.eq_1 @a17s94.eq_1 @a17s96.eq_1) (A8 @a17s98.eq_1 @a17s101.eq_1 @a17s108.eq_1 @a17s110.eq_1 @a17s116.eq_1 @a17s118.eq_1 @a17c.eq_1 VV)
def K17:=A3 Y0 @a17s120.eq_1 @a17s121.eq_1
def K19:=A4 (A8 @a19.eq_1 @a19s1.eq_1 @a19s3.eq_1 @a19s6.eq_1 @a19s8.eq_1 @a19s11.eq_1 @a19s13.eq_1 @a19s15.eq_1) (A8 @a19s18.eq_1 @a19s20.eq_1 @a19s22.eq_1 @a19s24.eq_1 @a19s26.eq_1 @a19s28.eq_1 @a19s30.eq_1 @a19s32.eq_1) (A8 @a19s34.eq_1 @a19s36.eq_1 @a19s38.eq_1 @a19s41.eq_1 @a19s43.eq_1 @a19s45.eq_1 @a19s54.eq_1 @a19s62.eq_1) (A4 @a19s64.eq_1 @a19s66.eq_1 @a19c.eq_1 VV)
def K20:=A5 @a20.eq_1 @a20s1.eq_1 @a20s3.eq_1 @a20c.eq_1 VV
def K21:=A2 @a21.eq_1 VV
def K37:=A5 @a37.eq_1 @a37s1.eq_1 @a37s3.eq_1 @a37c.eq_1 VV
def K38:=A2 @a38.eq_1 VV
def K43:=A7 @a43.eq_1 @a43s1.eq_1 @a43s3.eq_1 @a43s5.eq_1 @a43s7.eq_1 @a43c.eq_1 VV
def K45:=A3 (A8 @a45.eq_1 @a45s1.eq_1 @a45s4.eq_1 @a45s6.eq_1 @a45s8.eq_1 @a45s10.eq_1 @a45s13.eq_1 @a45s15.eq_1) (A8 @a45s17.eq_1 @a45s20.eq_1 @a45s23.eq_1 @a45s25.eq_1 @a45s28.eq_1 @a45s30.eq_1 @a45s32.eq_1 @a45s34.eq_1) (A5 @a45s37.eq_1 @a45s38.eq_1 @a45s41.eq_1 @a45c.eq_1 VV)
def K46:=A3 (A8 @a46.eq_1 @a46s1.eq_1 @a46s4.eq_1 @a46s6.eq_1 @a46s8.eq_1 @a46s10.eq_1 @a46s13.eq_1 @a46s15.eq_1) (A8 @a46s18.eq_1 @a46s25.eq_1 @a46s27.eq_1 @a46s30.eq_1 @a46s32.eq_1 @a46s35.eq_1 @a46s42.eq_1 @a46c.eq_1) VV
def K76:=A2 (A8 @a76.eq_1 @a76s1.eq_1 @a76s3.eq_1 @a76s5.eq_1 @a76s7.eq_1 @a76s9.eq_1 @a76s12.eq_1 @a76s14.eq_1) (A4 @a76s15.eq_1 @a76s22.eq_1 @a76c.eq_1 VV)
def K77:=A2 (A8 @a77.eq_1 @a77s1.eq_1 @a77s4.eq_1 @a77s8.eq_1 @a77s10.eq_1 @a77s11.eq_1 @a77s14.eq_1 @a77c.eq_1) VV
def e9K:=A3 (A8 @a109.eq_1 @a109s1.eq_1 @a109s3.eq_1 @a109s5.eq_1 @a109s7.eq_1 @a109s9.eq_1 @a109s12.eq_1 @a109s15.eq_1) (A8 @a109s17.eq_1 @a109s19.eq_1 @a109s22.eq_1 @a109s23.eq_1 @a109s29.eq_1 @a109s30.eq_1 @a109s31.eq_1 @a109s32.eq_1) (A3 @a109s39.eq_1 @a109c.eq_1 VV)
def e9M:=A4 (A8 @a112.eq_1 @a112s1.eq_1 @a112s3.eq_1 @a112s5.eq_1 @a112s8.eq_1 @a112r10.eq_1 @a112s12.eq_1 @a112s16.eq_1) (A8 @a112s19.eq_1 @a112s21.eq_1 @a112s22.eq_1 @a112s23.eq_1 @a112s24.eq_1 @a112s28.eq_1 @a112s30.eq_1 @a112s32.eq_1) (A8 @a112s34.eq_1 @a112s36.eq_1 @a112s38.eq_1 @a112s40.eq_1 @a112s42.eq_1 @a112s45.eq_1 @a112s46.eq_1 @a112s51.eq_1) (A4 @a112s58.eq_1 @a112s60.eq_1 @a112c.eq_1 VV)
def e9I:=A7 @a113.eq_1 @a113s1.eq_1 @a113s3.eq_1 @a113s5.eq_1 @a113s7.eq_1 @a113c.eq_1 VV
def b3B:=A8 @a115.eq_1 @a115s1.eq_1 @a115s3.eq_1 @a115s6.eq_1 @a115s8.eq_1 @a115s10.eq_1 @a115c.eq_1 VV
def e3A:=A4 (A8 @a127.eq_1 @a127s1.eq_1 @a127s4.eq_1 @a127s6.eq_1 @a127s10.eq_1 @a127s12.eq_1 @a127s14.eq_1 @a127s17.eq_1) (A8 @a127s19.eq_1 @a127s22.eq_1 @a127s26.eq_1 @a127s30.eq_1 @a127s34.eq_1 @a127s36.eq_1 @a127s37.eq_1 @a127s38.eq_1) (A8 @a127s39.eq_1 @a127s43.eq_1 @a127s45.eq_1 @a127s48.eq_1 @a127s52.eq_1 @a127s54.eq_1 @a127s55.eq_1 @a127s59.eq_1) (A2 @a127c.eq_1 VV)
def e9P:=A2 (A8 @a170.eq_1 @a170s1.eq_1 @a170s3.eq_1 @a170s6.eq_1 @a170s7.eq_1 @a170s9.eq_1 @a170s12.eq_1 @a170s14.eq_1) (A7 @a170s16.eq_1 @a170s18.eq_1 @a170s20.eq_1 @a170s23.eq_1 @a170s24.eq_1 @a170c.eq_1 VV)
def b1g:=A8 @a176.eq_1 @a176s1.eq_1 @a176s3.eq_1 @a176s6.eq_1 @a176s8.eq_1 @a176s10.eq_1 @a176c.eq_1 VV
def e9N:=A2 (A8 @a181.eq_1 @a181s1.eq_1 @a181s3.eq_1 @a181s5.eq_1 @a181s9.eq_1 @a181s10.eq_1 @a181s12.eq_1 @a181s15.eq_1) (A3 @a181s17.eq_1 @a181c.eq_1 VV)
def e9L:=A2 @a183.eq_1 VV
def e9R:=A5 (A8 @a232.eq_1 @a232s1.eq_1 @a232s4.eq_1 @a232s9.eq_1 @a232s11.eq_1 @a232s14.eq_1 @a232s16.eq_1 @a232s18.eq_1) (A8 @a232s20.eq_1 @a232s22.eq_1 @a232s25.eq_1 @a232s27.eq_1 @a232s29.eq_1 @a232s32.eq_1 @a232s34.eq_1 @a232s36.eq_1) (A8 @a232s43.eq_1 @a232s50.eq_1 @a232s58.eq_1 @a232s60.eq_1 @a232s63.eq_1 @a232s65.eq_1 @a232s70.eq_1 @a232s72.eq_1) (A8 @a232s75.eq_1 @a232s76.eq_1 @a232s77.eq_1 @a232s78.eq_1 @a232s82.eq_1 @a232s83.eq_1 @a232s85.eq_1 @a232s88.eq_1) (A5 @a232s90.eq_1 @a232s92.eq_1 @a232s94.eq_1 @a232c.eq_1 VV)
def e9Q:=A7 @a266.eq_1 @a266s1.eq_1 @a266s4.eq_1 @a266s6.eq_1 @a266s8.eq_1 @a266c.eq_1 VV
def e9O:=A3 (A8 @a268.eq_1 @a268s1.eq_1 @a268s3.eq_1 @a268s5.eq_1 @a268s7.eq_1 @a268s9.eq_1 @a268s11.eq_1 @a268s13.eq_1) (A8 @a268s16.eq_1 @a268s18.eq_1 @a268s20.eq_1 @a268s22.eq_1 @a268s25.eq_1 @a268s27.eq_1 @a268s29.eq_1 @a268s39.eq_1) (A3 @a268s46.eq_1 @a268c.eq_1 VV)
def e9J:=A4 (A8 @a288.eq_1 @a288s1.eq_1 @a288s4.eq_1 @a288s6.eq_1 @a288s9.eq_1 @a288s11.eq_1 @a288s14.eq_1 @a288s16.eq_1) (A8 @a288s19.eq_1 @a288s20.eq_1 @a288s23.eq_1 @a288s25.eq_1 @a288s27.eq_1 @a288s29.eq_1 @a288s32.eq_1 @a288s33.eq_1) (A8 @a288s37.eq_1 @a288s44.eq_1 @a288s48.eq_1 @a288s50.eq_1 @a288s53.eq_1 @a288s55.eq_1 @a288s58.eq_1 @a288s60.eq_1) (A3 @a288s62.eq_1 @a288c.eq_1 VV)
end Go.Cb.CodeA
