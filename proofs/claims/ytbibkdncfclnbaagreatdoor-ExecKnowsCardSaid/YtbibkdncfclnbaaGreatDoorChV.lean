import Derived.Test.YtbibkdncfclnbaaGreatDoorCodeA
import Derived.Test.YtbibkdncfclnbaaGreatDoorXAms3
import Derived.KernelRfl
set_option maxRecDepth 100000
set_option linter.all false
namespace Go.Cb.CodeA
open Go Go.Cb
open Go.Cb.V (VV)
open Nat renaming reduceSucc→rU
noncomputable section
theorem A2 {a b:Prop} (xa:a) (xb:b):a∧b:=⟨xa,xb⟩
theorem A3 {a b c:Prop} (xa:a) (xb:b) (xc:c):a∧b∧c:=⟨xa,xb,xc⟩
theorem A4 {a b c d:Prop} (xa:a) (xb:b) (xc:c) (xd:d):a∧b∧c∧d:=⟨xa,xb,xc,xd⟩
theorem A5 {a b c d e:Prop} (xa:a) (xb:b) (xc:c) (xd:d) (xe:e):a∧b∧c∧d∧e:=⟨xa,xb,xc,xd,xe⟩
theorem A6 {a b c d e f:Prop} (xa:a) (xb:b) (xc:c) (xd:d) (xe:e) (xf:f):a∧b∧c∧d∧e∧f:=⟨xa,xb,xc,xd,xe,xf⟩
theorem A7 {a b c d e f g:Prop} (xa:a) (xb:b) (xc:c) (xd:d) (xe:e) (xf:f) (xg:g):a∧b∧c∧d∧e∧f∧g:=⟨xa,xb,xc,xd,xe,xf,xg⟩
theorem A8 {a b c d e f g h:Prop} (xa:a) (xb:b) (xc:c) (xd:d) (xe:e) (xf:f) (xg:g) (xh:h):a∧b∧c∧d∧e∧f∧g∧h:=⟨xa,xb,xc,xd,xe,xf,xg,xh⟩
def c5n:=(by conv=>lhs;whnf;simp only[rU]
 :a8Y=_)
def a118s13_k0 (call:d8) (n:Nat) (v0 v1 v2 v3:AV) (x1:AV×St):Option Out :=
    obind (p1 (O0 4 call [(a5Z 2 v2)] .undef x1.2)) fun x2 =>
    obind (L5 2 1 call [(W x2),(AV.stripB x1.1)] v2 x1.2) fun x3 =>
    some (Ex.normal,[v0,v1,x3.2.1,v3],x3.2.2)
theorem b8J (call:d8) (n:Nat) (v0 v1 v2 v3:AV) (st:St):j1 call n a8Y [v0,v1,v2,v3] st =
    m1 (AV.weak v0) fun x0 =>
    obind (p2 (p8 156 call [(W x0)] .undef st)) (a118s13_k0 call n v0 v1 v2 v3) :=
  by rw[c5n];exact(a2x ..).trans (by kernel_rfl)
def c5Y:=(by conv=>lhs;whnf;simp only[rU]
 :a118s50=_)
def a118s50_k0 (call:d8) (n:Nat) (v0 v1 v2 v3:AV) (x1:AV×St):Option Out :=
    obind (p1 (O0 5 call [(a5Z 3 v3)] .undef x1.2)) fun x2 =>
    obind (L5 3 1 call [(W x2),(AV.stripB x1.1)] v3 x1.2) fun x3 =>
    some (Ex.normal,[v0,v1,v2,x3.2.1],x3.2.2)
theorem b8V (call:d8) (n:Nat) (v0 v1 v2 v3:AV) (st:St):j1 call n a118s50 [v0,v1,v2,v3] st =
    m1 (AV.weak v0) fun x0 =>
    obind (p2 (p8 157 call [(W x0)] .undef st)) (a118s50_k0 call n v0 v1 v2 v3) :=
  by rw[c5Y];exact(a2x ..).trans (by kernel_rfl)
def c8g:=(by conv=>lhs;whnf;simp only[rU]
 :a34s73=_)
def a34s73_k0 (call:d8) (n:Nat) (v0 v1 v2 v3 v4 v5 v6 v7 v8 v9 v10 v11:AV) (x1:AV×St):Option Out :=
    obind (p1 (O0 3 call [(a5Z 11 v11)] .undef x1.2)) fun x2 =>
    obind (L5 11 1 call [(W x2),(AV.stripB x1.1)] v11 x1.2) fun x3 =>
    some (Ex.normal,[v0,v1,v2,v3,v4,v5,v6,v7,v8,v9,v10,x3.2.1],x3.2.2)
theorem b9u (call:d8) (n:Nat) (v0 v1 v2 v3 v4 v5 v6 v7 v8 v9 v10 v11:AV) (st:St):j1 call n a34s73 [v0,v1,v2,v3,v4,v5,v6,v7,v8,v9,v10,v11] st =
    m1 (AV.weak v7) fun x0 =>
    obind (p2 (p8 67 call [(W x0)] .undef st)) (a34s73_k0 call n v0 v1 v2 v3 v4 v5 v6 v7 v8 v9 v10 v11) :=
  by rw[c8g];exact(a2x ..).trans (by kernel_rfl)
def d0e:=(by conv=>lhs;whnf;simp only[rU]
 :a7N=_)
def a34s67_k0 (call:d8) (n:Nat) (v0 v1 v2 v3 v4 v5 v6 v7 v8 v9 v10 v11:AV) (x1:AV×St):Option Out :=
    brE (W x1.1) call n b2a .skip [v0,v1,v2,v3,v4,v5,v6,v7,v8,v9,v10,v11] x1.2
theorem c1m (call:d8) (n:Nat) (v0 v1 v2 v3 v4 v5 v6 v7 v8 v9 v10 v11:AV) (st:St):j1 call n a7N [v0,v1,v2,v3,v4,v5,v6,v7,v8,v9,v10,v11] st =
    m1 (AV.weak v7) fun x0 =>
    obind (p2 (p8 69 call [(W x0),(.str [40])] .undef st)) (a34s67_k0 call n v0 v1 v2 v3 v4 v5 v6 v7 v8 v9 v10 v11) :=
  by rw[d0e];exact(a1Q ..).trans (by kernel_rfl)
def c8m:=(by conv=>lhs;whnf;simp only[rU]
 :b1R=_)
def a34s54_k0 (call:d8) (n:Nat) (v0 v1 v2 v3 v4 v5 v6 v7 v8 v9 v10 v11:AV) (x1:AV×St):Option Out :=
    brE (W x1.1) call n b2w .skip [v0,v1,v2,v3,v4,v5,v6,v7,v8,v9,v10,v11] x1.2
theorem c2k (call:d8) (n:Nat) (v0 v1 v2 v3 v4 v5 v6 v7 v8 v9 v10 v11:AV) (st:St):j1 call n b1R [v0,v1,v2,v3,v4,v5,v6,v7,v8,v9,v10,v11] st =
    m1 (AV.weak v7) fun x0 =>
    obind (p2 (p8 51 call [(W x0),(.int .u8 1)] .undef st)) (a34s54_k0 call n v0 v1 v2 v3 v4 v5 v6 v7 v8 v9 v10 v11) :=
  by rw[c8m];exact(a1Q ..).trans (by kernel_rfl)
def c7J:=(by conv=>lhs;whnf;simp only[rU]
 :b1F=_)
def a34s41_k0 (call:d8) (n:Nat) (v0 v1 v2 v3 v4 v5 v6 v7 v8 v9 v10 v11:AV) (x1:AV×St):Option Out :=
    brE (W x1.1) call n b1x .skip [v0,v1,v2,v3,v4,v5,v6,v7,v8,v9,v10,v11] x1.2
theorem c1K (call:d8) (n:Nat) (v0 v1 v2 v3 v4 v5 v6 v7 v8 v9 v10 v11:AV) (st:St):j1 call n b1F [v0,v1,v2,v3,v4,v5,v6,v7,v8,v9,v10,v11] st =
    m1 (AV.weak v7) fun x0 =>
    obind (p2 (p8 63 call [(W x0),(.str [102,114,97,103,109,101,110,116])] .undef st)) (a34s41_k0 call n v0 v1 v2 v3 v4 v5 v6 v7 v8 v9 v10 v11) :=
  by rw[c7J];exact(a1Q ..).trans (by kernel_rfl)
def c8p:=(by conv=>lhs;whnf;simp only[rU]
 :b0Y=_)
def a34s25_k0 (call:d8) (n:Nat) (v0 v1 v2 v3 v4 v5 v6 v7 v8 v9 v11:AV) (x1:AV×St):Option Out :=
    obind (p1 (O5 [.str [],.str [],.list true []] [(0,1)] call [(W x1.1)] .undef x1.2)) fun x2 =>
    obind (V5 [.str [],.str [],.list true []] call [] AV.undef x1.2) fun x3 =>
    obind (L5 10 3 call [(a5Z 10 x3.2.1),(AV.stripB x2)] x3.2.1 x3.2.2) fun x4 =>
    some (Ex.normal,[v0,v1,v2,v3,v4,v5,v6,v7,v8,v9,x4.2.1,v11],x4.2.2)
theorem b9o (call:d8) (n:Nat) (v0 v1 v2 v3 v4 v5 v6 v7 v8 v9 v10 v11:AV) (st:St):j1 call n b0Y [v0,v1,v2,v3,v4,v5,v6,v7,v8,v9,v10,v11] st =
    m1 (AV.weak v7) fun x0 =>
    obind (p2 (p8 65 call [(W x0)] .undef st)) (a34s25_k0 call n v0 v1 v2 v3 v4 v5 v6 v7 v8 v9 v11) :=
  by rw[c8p];exact(a2x ..).trans (by kernel_rfl)
def K3:=A4 @a3.eq_1 ((by conv=>lhs;whnf;simp only[rU]
 :a3c=_)) VV SS
def K13:=A4 @a13.eq_1 ((by conv=>lhs;whnf;simp only[rU]
 :c8z=_)) VV SS
def K14:=A4 @a14.eq_1 ((by conv=>lhs;whnf;simp only[rU]
 :c78=_)) VV SS
def K15:=A4 @a15.eq_1 ((by conv=>lhs;whnf;simp only[rU]
 :d0m=_)) VV SS
def K16:=A4 @a16.eq_1 ((by conv=>lhs;whnf;simp only[rU]
 :c87=_)) VV SS
def K17:=A4 @a17.eq_1 ((by conv=>lhs;whnf;simp only[rU]
 :c9c=_)) VV SS
def K18:=A4 @a18.eq_1 ((by conv=>lhs;whnf;simp only[rU]
 :c6P=_)) VV SS
def K19:=A4 @a19.eq_1 ((by conv=>lhs;whnf;simp only[rU]
 :c8e=_)) VV SS
def K20:=A4 @a20.eq_1 ((by conv=>lhs;whnf;simp only[rU]
 :c8W=_)) VV SS
def K21:=A4 @a21.eq_1 ((by conv=>lhs;whnf;simp only[rU]
 :c9x=_)) VV SS
def c48:=(by conv=>lhs;whnf;simp only[rU]
 :a3A=_)
def b3R:=(by conv=>lhs;whnf;simp only[rU]
 :a8I=_)
def a0d:=A4 @a25.eq_1 ((by conv=>lhs;whnf;simp only[rU]
 :c73=_)) VV SS
def K25:=A3 a0d c48 b3R
def K29:=A4 @a29.eq_1 ((by conv=>lhs;whnf;simp only[rU]
 :c85=_)) VV SS
def K34:=A2 (A7 @a34.eq_1 ((by and_intros<;>conv=>lhs;whnf;simp only[rU]
 :d0X=_∧a34s27=_∧a34s29=_∧a34s31=_∧a34s33=_∧b1x=_∧a34s43=_∧b2w=_∧b2a=_∧a34s71=_∧a2C=_∧a2G=_∧a34s92=_∧a34s94=_)) @b9o @a34s25_k0.eq_1 @c1K @a34s41_k0.eq_1 @c2k) (A7 @a34s54_k0.eq_1 @c1m @a34s67_k0.eq_1 @b9u @a34s73_k0.eq_1 VV SS)
def b3S:=(by conv=>lhs;whnf;simp only[rU]
 :a9d=_)
def C9:=A4 @a35.eq_1 ((by conv=>lhs;whnf;simp only[rU]
 :c7Y=_)) VV SS
def K35:=A2 C9 b3S
def K36:=A4 @a36.eq_1 ((by conv=>lhs;whnf;simp only[rU]
 :c7S=_)) VV SS
def K37:=A4 @a37.eq_1 ((by conv=>lhs;whnf;simp only[rU]
 :c7z=_)) VV SS
def K38:=A4 @a38.eq_1 ((by conv=>lhs;whnf;simp only[rU]
 :c9N=_)) VV SS
def K39:=A4 @a39.eq_1 ((by conv=>lhs;whnf;simp only[rU]
 :c83=_)) VV SS
def K40:=A4 @a40.eq_1 ((by conv=>lhs;whnf;simp only[rU]
 :c6N=_)) VV SS
def K41:=A4 @a41.eq_1 ((by conv=>lhs;whnf;simp only[rU]
 :c7j=_)) VV SS
def K42:=A4 @a42.eq_1 ((by conv=>lhs;whnf;simp only[rU]
 :c71=_)) VV SS
def K43:=A4 @a43.eq_1 ((by conv=>lhs;whnf;simp only[rU]
 :c9C=_)) VV SS
def K44:=A4 @a44.eq_1 ((by conv=>lhs;whnf;simp only[rU]
 :c7v=_)) VV SS
def K47:=A3 @a47.eq_1 VV SS
def K48:=A4 @a48.eq_1 ((by conv=>lhs;whnf;simp only[rU]
 :c7b=_)) VV SS
def K50:=A4 @a50.eq_1 ((by conv=>lhs;whnf;simp only[rU]
 :c7Z=_)) VV SS
def K51:=A4 @a51.eq_1 ((by conv=>lhs;whnf;simp only[rU]
 :c7h=_)) VV SS
def K56:=A4 @a56.eq_1 ((by conv=>lhs;whnf;simp only[rU]
 :d0g=_)) VV SS
def K58:=A4 @a58.eq_1 ((by conv=>lhs;whnf;simp only[rU]
 :c88=_)) VV SS
def K61:=A4 @a61.eq_1 ((by conv=>lhs;whnf;simp only[rU]
 :c7D=_)) VV SS
def K63:=A4 @a63.eq_1 ((by conv=>lhs;whnf;simp only[rU]
 :d0E=_)) VV SS
def K64:=A4 @a64.eq_1 ((by conv=>lhs;whnf;simp only[rU]
 :d0Y=_)) VV SS
def K65:=A4 @a65.eq_1 ((by conv=>lhs;whnf;simp only[rU]
 :c7P=_)) VV SS
def K66:=A4 @a66.eq_1 ((by conv=>lhs;whnf;simp only[rU]
 :c8h=_)) VV SS
def K67:=A4 @a67.eq_1 ((by conv=>lhs;whnf;simp only[rU]
 :c6Z=_)) VV SS
def K68:=A4 @a68.eq_1 ((by conv=>lhs;whnf;simp only[rU]
 :c97=_)) VV SS
def K69:=A4 @a69.eq_1 ((by conv=>lhs;whnf;simp only[rU]
 :c9h=_)) VV SS
def K70:=A4 @a70.eq_1 ((by conv=>lhs;whnf;simp only[rU]
 :c8d=_)) VV SS
def K71:=A4 @a71.eq_1 ((by conv=>lhs;whnf;simp only[rU]
 :c8c=_)) VV SS
def K72:=A4 @a72.eq_1 ((by conv=>lhs;whnf;simp only[rU]
 :c9u=_)) VV SS
def K73:=A4 @a73.eq_1 ((by conv=>lhs;whnf;simp only[rU]
 :d0o=_)) VV SS
def c8k:=(by conv=>lhs;whnf;simp only[rU]
 :b01=_)
def b8r:=(by conv=>lhs;whnf;simp only[rU]
 :b14=_)
def F7:=A4 @a74.eq_1 ((by conv=>lhs;whnf;simp only[rU]
 :c9m=_)) VV SS
def K74:=A3 F7 c8k b8r
def K75:=A4 @a75.eq_1 ((by conv=>lhs;whnf;simp only[rU]
 :c8u=_)) VV SS
def K76:=A4 @a76.eq_1 ((by conv=>lhs;whnf;simp only[rU]
 :d0b=_)) VV SS
def K77:=A4 @a77.eq_1 ((by conv=>lhs;whnf;simp only[rU]
 :c9Q=_)) VV SS
def K78:=A4 @a78.eq_1 ((by conv=>lhs;whnf;simp only[rU]
 :c6V=_)) VV SS
def K79:=A4 @a79.eq_1 ((by conv=>lhs;whnf;simp only[rU]
 :c84=_)) VV SS
def K81:=A4 @a81.eq_1 ((by conv=>lhs;whnf;simp only[rU]
 :c9o=_)) VV SS
def K82:=A4 @a82.eq_1 ((by conv=>lhs;whnf;simp only[rU]
 :c7F=_)) VV SS
def K83:=A4 @a83.eq_1 ((by conv=>lhs;whnf;simp only[rU]
 :c9X=_)) VV SS
def K84:=A4 @a84.eq_1 ((by conv=>lhs;whnf;simp only[rU]
 :c6Y=_)) VV SS
def K85:=A4 @a85.eq_1 ((by conv=>lhs;whnf;simp only[rU]
 :d0O=_)) VV SS
def K86:=A3 @a86.eq_1 VV SS
def K87:=A4 @a87.eq_1 ((by conv=>lhs;whnf;simp only[rU]
 :c7e=_)) VV SS
def K88:=A3 @a88.eq_1 VV SS
def K89:=A4 @a89.eq_1 ((by conv=>lhs;whnf;simp only[rU]
 :d0f=_)) VV SS
def K90:=A4 @a90.eq_1 ((by conv=>lhs;whnf;simp only[rU]
 :c9V=_)) VV SS
def K92:=A4 @a92.eq_1 ((by conv=>lhs;whnf;simp only[rU]
 :c80=_)) VV SS
def K93:=A4 @a93.eq_1 ((by conv=>lhs;whnf;simp only[rU]
 :d0G=_)) VV SS
def K94:=A4 @a94.eq_1 ((by and_intros<;>conv=>lhs;whnf;simp only[rU]
 :d0n=_∧a94s19=_∧a94s21=_∧b1W=_∧a94s54=_)) VV SS
def K97:=A4 @a97.eq_1 ((by and_intros<;>conv=>lhs;whnf;simp only[rU]
 :d0M=_∧a97s22=_∧a97s24=_)) VV SS
def b55:=A4 @a100.eq_1 ((by conv=>lhs;whnf;simp only[rU]
 :c3m=_)) VV SS
def d49:=A4 @a102.eq_1 ((by conv=>lhs;whnf;simp only[rU]
 :c3w=_)) VV SS
def d4C:=A4 @a110.eq_1 ((by conv=>lhs;whnf;simp only[rU]
 :c2G=_)) VV SS
def a9m:=A4 @a111.eq_1 ((by conv=>lhs;whnf;simp only[rU]
 :c3c=_)) VV SS
def c7U:=A4 @a113.eq_1 ((by conv=>lhs;whnf;simp only[rU]
 :c2I=_)) VV SS
def c8r:=A4 @a114.eq_1 ((by conv=>lhs;whnf;simp only[rU]
 :c3J=_)) VV SS
def b5B:=A4 @a117.eq_1 ((by conv=>lhs;whnf;simp only[rU]
 :c2M=_)) VV SS
def O1:=A8 @a118.eq_1 ((by and_intros<;>conv=>lhs;whnf;simp only[rU]
 :c2P=_∧a118s15=_∧a118s19=_∧a118s21=_∧a118s30=_∧a118s48=_∧a118s52=_∧a118s54=_)) @b8J @a118s13_k0.eq_1 @b8V @a118s50_k0.eq_1 VV SS
def a5z:=A4 @a119.eq_1 ((by and_intros<;>conv=>lhs;whnf;simp only[rU]
 :c3j=_∧a119s11=_∧a119s9=_)) VV SS
def a8J:=A4 @a120.eq_1 ((by conv=>lhs;whnf;simp only[rU]
 :c2B=_)) VV SS
def c1w:=A4 @a121.eq_1 ((by conv=>lhs;whnf;simp only[rU]
 :c3Y=_)) VV SS
def d3s:=A4 @a122.eq_1 ((by conv=>lhs;whnf;simp only[rU]
 :c3x=_)) VV SS
def s9:=A4 @a123.eq_1 ((by conv=>lhs;whnf;simp only[rU]
 :c3a=_)) VV SS
def a0e:=A4 @a124.eq_1 ((by conv=>lhs;whnf;simp only[rU]
 :c3n=_)) VV SS
def Y8:=A4 @a125.eq_1 ((by conv=>lhs;whnf;simp only[rU]
 :c3r=_)) VV SS
def T6:=A4 @a126.eq_1 ((by conv=>lhs;whnf;simp only[rU]
 :c2Z=_)) VV SS
def d3p:=A4 @a127.eq_1 ((by conv=>lhs;whnf;simp only[rU]
 :c3N=_)) VV SS
def c4h:=(by conv=>lhs;whnf;simp only[rU]
 :a8G=_)
def a1T:=A4 @a128.eq_1 ((by conv=>lhs;whnf;simp only[rU]
 :c36=_)) VV SS
def c65:=A2 a1T c4h
def a2J:=A4 @a129.eq_1 ((by conv=>lhs;whnf;simp only[rU]
 :c3P=_)) VV SS
def K8:=A4 @a130.eq_1 ((by conv=>lhs;whnf;simp only[rU]
 :c3q=_)) VV SS
def M7:=A4 @a131.eq_1 ((by conv=>lhs;whnf;simp only[rU]
 :c3k=_)) VV SS
def d33:=A4 @a132.eq_1 ((by conv=>lhs;whnf;simp only[rU]
 :c3p=_)) VV SS
def a6P:=A4 @a133.eq_1 ((by conv=>lhs;whnf;simp only[rU]
 :c3V=_)) VV SS
def b5i:=A4 @a134.eq_1 ((by conv=>lhs;whnf;simp only[rU]
 :c2X=_)) VV SS
def b2t:=A4 @a135.eq_1 ((by conv=>lhs;whnf;simp only[rU]
 :c2O=_)) VV SS
def d4q:=A4 @a136.eq_1 ((by conv=>lhs;whnf;simp only[rU]
 :c27=_)) VV SS
def d4n:=A4 @a139.eq_1 ((by conv=>lhs;whnf;simp only[rU]
 :c3M=_)) VV SS
def d4o:=A4 @a140.eq_1 ((by conv=>lhs;whnf;simp only[rU]
 :c2L=_)) VV SS
def M9:=A4 @a141.eq_1 ((by and_intros<;>conv=>lhs;whnf;simp only[rU]
 :c35=_∧a141s15=_∧a141s19=_∧a8W=_∧a8S=_∧a8U=_∧a141s51=_∧a141s53=_)) VV SS
def M0:=A4 @a142.eq_1 ((by conv=>lhs;whnf;simp only[rU]
 :c2y=_)) VV SS
def d4S:=A4 @a143.eq_1 ((by conv=>lhs;whnf;simp only[rU]
 :c3e=_)) VV SS
def d4P:=A4 @a144.eq_1 ((by conv=>lhs;whnf;simp only[rU]
 :c3R=_)) VV SS
def T4:=A4 @a146.eq_1 ((by conv=>lhs;whnf;simp only[rU]
 :c30=_)) VV SS
def d4R:=A4 @a147.eq_1 ((by conv=>lhs;whnf;simp only[rU]
 :c3W=_)) VV SS
def a01:=A4 @a156.eq_1 ((by and_intros<;>conv=>lhs;whnf;simp only[rU]
 :c3T=_∧a156s14=_∧a156s16=_∧a156s18=_∧a9g=_∧a9D=_∧a156s33=_)) VV SS
def a8L:=A4 @a157.eq_1 ((by conv=>lhs;whnf;simp only[rU]
 :c2V=_)) VV SS
def E7:=A4 @a158.eq_1 ((by and_intros<;>conv=>lhs;whnf;simp only[rU]
 :c37=_∧a158s101=_∧a158s59=_∧a158s84=_∧a158s99=_)) VV SS
def a4Z:=A4 @a159.eq_1 ((by conv=>lhs;whnf;simp only[rU]
 :c2W=_)) VV SS
def c5Z:=(by conv=>lhs;whnf;simp only[rU]
 :a9z=_)
def a4g:=A4 @a160.eq_1 ((by conv=>lhs;whnf;simp only[rU]
 :c3O=_)) VV SS
def b61:=A2 a4g c5Z
def a0w:=A4 @a161.eq_1 ((by conv=>lhs;whnf;simp only[rU]
 :c34=_)) VV SS
def b9z:=A4 @a162.eq_1 ((by conv=>lhs;whnf;simp only[rU]
 :c3b=_)) VV SS
def P2:=A4 @a163.eq_1 ((by conv=>lhs;whnf;simp only[rU]
 :c3s=_)) VV SS
def a8V:=A4 @a164.eq_1 ((by conv=>lhs;whnf;simp only[rU]
 :c3v=_)) VV SS
def a0c:=A4 @a165.eq_1 ((by conv=>lhs;whnf;simp only[rU]
 :c2Y=_)) VV SS
def a3g:=A4 @a166.eq_1 ((by and_intros<;>conv=>lhs;whnf;simp only[rU]
 :c2J=_∧a166s13=_∧a166s15=_∧a166s17=_∧a8X=_∧a8Z=_∧a9s=_∧a166s47=_)) VV SS
def T3:=A4 @a167.eq_1 ((by conv=>lhs;whnf;simp only[rU]
 :c2R=_)) VV SS
def d3o:=A4 @a168.eq_1 ((by conv=>lhs;whnf;simp only[rU]
 :c2Q=_)) VV SS
def a0J:=A4 @a169.eq_1 ((by and_intros<;>conv=>lhs;whnf;simp only[rU]
 :c28=_∧a169s16=_∧a169s18=_∧a6p=_∧a2d=_∧a0o=_∧a9o=_∧a169s9=_)) VV SS
def a9b:=A4 @a170.eq_1 ((by conv=>lhs;whnf;simp only[rU]
 :c2F=_)) VV SS
def d4u:=A4 @a171.eq_1 ((by conv=>lhs;whnf;simp only[rU]
 :c2K=_)) VV SS
def c7T:=A4 @a172.eq_1 ((by conv=>lhs;whnf;simp only[rU]
 :c31=_)) VV SS
def c04:=A4 @a173.eq_1 ((by conv=>lhs;whnf;simp only[rU]
 :c3t=_)) VV SS
def H0:=A4 @a174.eq_1 ((by conv=>lhs;whnf;simp only[rU]
 :c32=_)) VV SS
def B9:=A4 @a175.eq_1 ((by conv=>lhs;whnf;simp only[rU]
 :c3L=_)) VV SS
def a9k:=A4 @a180.eq_1 ((by conv=>lhs;whnf;simp only[rU]
 :c2S=_)) VV SS
def c4n:=(by conv=>lhs;whnf;simp only[rU]
 :a9p=_)
def b6r:=A4 @a183.eq_1 ((by conv=>lhs;whnf;simp only[rU]
 :c29=_)) VV SS
def P6:=A2 b6r c4n
def a0H:=A4 @a184.eq_1 ((by conv=>lhs;whnf;simp only[rU]
 :c3i=_)) VV SS
def d3W:=A4 @a185.eq_1 ((by conv=>lhs;whnf;simp only[rU]
 :c2z=_)) VV SS
def d4w:=A4 @a186.eq_1 ((by conv=>lhs;whnf;simp only[rU]
 :c3E=_)) VV SS
def b5b:=A4 @a187.eq_1 ((by conv=>lhs;whnf;simp only[rU]
 :c3u=_)) VV SS
def a2t:=A4 @a188.eq_1 ((by and_intros<;>conv=>lhs;whnf;simp only[rU]
 :c2D=_∧a9G=_∧a9K=_∧a188s31=_)) VV SS
def a4N:=A4 @a189.eq_1 ((by conv=>lhs;whnf;simp only[rU]
 :c3o=_)) VV SS
def d5e:=A4 @a190.eq_1 ((by conv=>lhs;whnf;simp only[rU]
 :c2E=_)) VV SS
def d3y:=A4 @a191.eq_1 ((by conv=>lhs;whnf;simp only[rU]
 :c3S=_)) VV SS
def d4D:=A4 @a192.eq_1 ((by conv=>lhs;whnf;simp only[rU]
 :c3I=_)) VV SS
def b9I:=A4 @a193.eq_1 ((by conv=>lhs;whnf;simp only[rU]
 :c3d=_)) VV SS
def b6S:=A4 @a194.eq_1 ((by conv=>lhs;whnf;simp only[rU]
 :c2U=_)) VV SS
def d45:=A4 @a195.eq_1 ((by conv=>lhs;whnf;simp only[rU]
 :c33=_)) VV SS
def a3r:=A4 @a200.eq_1 ((by conv=>lhs;whnf;simp only[rU]
 :c3z=_)) VV SS
def d5t:=A3 @a201.eq_1 VV SS
def a8Q:=A4 @a202.eq_1 ((by conv=>lhs;whnf;simp only[rU]
 :c3X=_)) VV SS
def d4L:=A4 @a203.eq_1 ((by conv=>lhs;whnf;simp only[rU]
 :c3F=_)) VV SS
def a3j:=A4 @a204.eq_1 ((by conv=>lhs;whnf;simp only[rU]
 :c3f=_)) VV SS
end
end Go.Cb.CodeA
