import Derived.Test.YtbibkdncfclnbaaGreatDoorCodeA
import Derived.Test.YtbibkdncfclnbaaGreatDoorXAms3
import Derived.KernelRfl
set_option maxRecDepth 100000
set_option linter.all false
namespace Go.Cb.CodeA
open Go Go.Cb
open Go.Cb.V (VV)
open Nat renaming reduceSucc→rU
noncomputable section
theorem A2 {a b:Prop} (xa:a) (xb:b):a∧b:=⟨xa,xb⟩
theorem A3 {a b c:Prop} (xa:a) (xb:b) (xc:c):a∧b∧c:=⟨xa,xb,xc⟩
theorem A4 {a b c d:Prop} (xa:a) (xb:b) (xc:c) (xd:d):a∧b∧c∧d:=⟨xa,xb,xc,xd⟩
theorem A5 {a b c d e:Prop} (xa:a) (xb:b) (xc:c) (xd:d) (xe:e):a∧b∧c∧d∧e:=⟨xa,xb,xc,xd,xe⟩
theorem A6 {a b c d e f:Prop} (xa:a) (xb:b) (xc:c) (xd:d) (xe:e) (xf:f):a∧b∧c∧d∧e∧f:=⟨xa,xb,xc,xd,xe,xf⟩
theorem A7 {a b c d e f g:Prop} (xa:a) (xb:b) (xc:c) (xd:d) (xe:e) (xf:f) (xg:g):a∧b∧c∧d∧e∧f∧g:=⟨xa,xb,xc,xd,xe,xf,xg⟩
theorem A8 {a b c d e f g h:Prop} (xa:a) (xb:b) (xc:c) (xd:d) (xe:e) (xf:f) (xg:g) (xh:h):a∧b∧c∧d∧e∧f∧g∧h:=⟨xa,xb,xc,xd,xe,xf,xg,xh⟩
def c5R:=(by conv=>lhs;whnf;simp only[rU]
 :a8x=_)
def a118s13_k0 (call:b9) (n:Nat) (v0 v1 v2 v3:AV) (x1:AV×St):Option Out :=
    obind (p1 (M7 4 call [(a5q 2 v2)] .undef x1.2)) fun x2 =>
    obind (K5 2 1 call [(W x2),(AV.stripB x1.1)] v2 x1.2) fun x3 =>
    some (Ex.normal,[v0,v1,x3.2.1,v3],x3.2.2)
theorem b6H (call:b9) (n:Nat) (v0 v1 v2 v3:AV) (st:St):j1 call n a8x [v0,v1,v2,v3] st =
    m1 (AV.weak v0) fun x0 =>
    obind (p2 (p7 156 call [(W x0)] .undef st)) (a118s13_k0 call n v0 v1 v2 v3) :=
  by rw[c5R];exact(a2c ..).trans (by kernel_rfl)
def c5f:=(by conv=>lhs;whnf;simp only[rU]
 :a118s50=_)
def a118s50_k0 (call:b9) (n:Nat) (v0 v1 v2 v3:AV) (x1:AV×St):Option Out :=
    obind (p1 (M7 5 call [(a5q 3 v3)] .undef x1.2)) fun x2 =>
    obind (K5 3 1 call [(W x2),(AV.stripB x1.1)] v3 x1.2) fun x3 =>
    some (Ex.normal,[v0,v1,v2,x3.2.1],x3.2.2)
theorem b8z (call:b9) (n:Nat) (v0 v1 v2 v3:AV) (st:St):j1 call n a118s50 [v0,v1,v2,v3] st =
    m1 (AV.weak v0) fun x0 =>
    obind (p2 (p7 157 call [(W x0)] .undef st)) (a118s50_k0 call n v0 v1 v2 v3) :=
  by rw[c5f];exact(a2c ..).trans (by kernel_rfl)
def c9X:=(by conv=>lhs;whnf;simp only[rU]
 :a34s73=_)
def a34s73_k0 (call:b9) (n:Nat) (v0 v1 v2 v3 v4 v5 v6 v7 v8 v9 v10 v11:AV) (x1:AV×St):Option Out :=
    obind (p1 (M7 3 call [(a5q 11 v11)] .undef x1.2)) fun x2 =>
    obind (K5 11 1 call [(W x2),(AV.stripB x1.1)] v11 x1.2) fun x3 =>
    some (Ex.normal,[v0,v1,v2,v3,v4,v5,v6,v7,v8,v9,v10,x3.2.1],x3.2.2)
theorem c0z (call:b9) (n:Nat) (v0 v1 v2 v3 v4 v5 v6 v7 v8 v9 v10 v11:AV) (st:St):j1 call n a34s73 [v0,v1,v2,v3,v4,v5,v6,v7,v8,v9,v10,v11] st =
    m1 (AV.weak v7) fun x0 =>
    obind (p2 (p7 67 call [(W x0)] .undef st)) (a34s73_k0 call n v0 v1 v2 v3 v4 v5 v6 v7 v8 v9 v10 v11) :=
  by rw[c9X];exact(a2c ..).trans (by kernel_rfl)
def c6F:=(by conv=>lhs;whnf;simp only[rU]
 :a7R=_)
def a34s67_k0 (call:b9) (n:Nat) (v0 v1 v2 v3 v4 v5 v6 v7 v8 v9 v10 v11:AV) (x1:AV×St):Option Out :=
    brE (W x1.1) call n b1V .skip [v0,v1,v2,v3,v4,v5,v6,v7,v8,v9,v10,v11] x1.2
theorem b9c (call:b9) (n:Nat) (v0 v1 v2 v3 v4 v5 v6 v7 v8 v9 v10 v11:AV) (st:St):j1 call n a7R [v0,v1,v2,v3,v4,v5,v6,v7,v8,v9,v10,v11] st =
    m1 (AV.weak v7) fun x0 =>
    obind (p2 (p7 69 call [(W x0),(.str [40])] .undef st)) (a34s67_k0 call n v0 v1 v2 v3 v4 v5 v6 v7 v8 v9 v10 v11) :=
  by rw[c6F];exact(a1D ..).trans (by kernel_rfl)
def c7d:=(by conv=>lhs;whnf;simp only[rU]
 :b1c=_)
def a34s54_k0 (call:b9) (n:Nat) (v0 v1 v2 v3 v4 v5 v6 v7 v8 v9 v10 v11:AV) (x1:AV×St):Option Out :=
    brE (W x1.1) call n b08 .skip [v0,v1,v2,v3,v4,v5,v6,v7,v8,v9,v10,v11] x1.2
theorem c1K (call:b9) (n:Nat) (v0 v1 v2 v3 v4 v5 v6 v7 v8 v9 v10 v11:AV) (st:St):j1 call n b1c [v0,v1,v2,v3,v4,v5,v6,v7,v8,v9,v10,v11] st =
    m1 (AV.weak v7) fun x0 =>
    obind (p2 (p7 51 call [(W x0),(.int .u8 1)] .undef st)) (a34s54_k0 call n v0 v1 v2 v3 v4 v5 v6 v7 v8 v9 v10 v11) :=
  by rw[c7d];exact(a1D ..).trans (by kernel_rfl)
def c8L:=(by conv=>lhs;whnf;simp only[rU]
 :b1p=_)
def a34s41_k0 (call:b9) (n:Nat) (v0 v1 v2 v3 v4 v5 v6 v7 v8 v9 v10 v11:AV) (x1:AV×St):Option Out :=
    brE (W x1.1) call n b1T .skip [v0,v1,v2,v3,v4,v5,v6,v7,v8,v9,v10,v11] x1.2
theorem c0o (call:b9) (n:Nat) (v0 v1 v2 v3 v4 v5 v6 v7 v8 v9 v10 v11:AV) (st:St):j1 call n b1p [v0,v1,v2,v3,v4,v5,v6,v7,v8,v9,v10,v11] st =
    m1 (AV.weak v7) fun x0 =>
    obind (p2 (p7 63 call [(W x0),(.str [102,114,97,103,109,101,110,116])] .undef st)) (a34s41_k0 call n v0 v1 v2 v3 v4 v5 v6 v7 v8 v9 v10 v11) :=
  by rw[c8L];exact(a1D ..).trans (by kernel_rfl)
def c9f:=(by conv=>lhs;whnf;simp only[rU]
 :b1i=_)
def a34s25_k0 (call:b9) (n:Nat) (v0 v1 v2 v3 v4 v5 v6 v7 v8 v9 v11:AV) (x1:AV×St):Option Out :=
    obind (p1 (N0 [.str [],.str [],.list true []] [(0,1)] call [(W x1.1)] .undef x1.2)) fun x2 =>
    obind (U0 [.str [],.str [],.list true []] call [] AV.undef x1.2) fun x3 =>
    obind (K5 10 3 call [(a5q 10 x3.2.1),(AV.stripB x2)] x3.2.1 x3.2.2) fun x4 =>
    some (Ex.normal,[v0,v1,v2,v3,v4,v5,v6,v7,v8,v9,x4.2.1,v11],x4.2.2)
theorem c0r (call:b9) (n:Nat) (v0 v1 v2 v3 v4 v5 v6 v7 v8 v9 v10 v11:AV) (st:St):j1 call n b1i [v0,v1,v2,v3,v4,v5,v6,v7,v8,v9,v10,v11] st =
    m1 (AV.weak v7) fun x0 =>
    obind (p2 (p7 65 call [(W x0)] .undef st)) (a34s25_k0 call n v0 v1 v2 v3 v4 v5 v6 v7 v8 v9 v11) :=
  by rw[c9f];exact(a2c ..).trans (by kernel_rfl)
def K9:=A4 @a9.eq_1 ((by conv=>lhs;whnf;simp only[rU]
 :a9c=_)) VV SS
def K13:=A4 @a13.eq_1 ((by conv=>lhs;whnf;simp only[rU]
 :c9q=_)) VV SS
def K15:=A4 @a15.eq_1 ((by conv=>lhs;whnf;simp only[rU]
 :c6G=_)) VV SS
def K16:=A4 @a16.eq_1 ((by conv=>lhs;whnf;simp only[rU]
 :c67=_)) VV SS
def K17:=A4 @a17.eq_1 ((by conv=>lhs;whnf;simp only[rU]
 :c8d=_)) VV SS
def K18:=A4 @a18.eq_1 ((by conv=>lhs;whnf;simp only[rU]
 :c93=_)) VV SS
def K19:=A4 @a19.eq_1 ((by conv=>lhs;whnf;simp only[rU]
 :c7O=_)) VV SS
def K20:=A4 @a20.eq_1 ((by conv=>lhs;whnf;simp only[rU]
 :c66=_)) VV SS
def K21:=A4 @a21.eq_1 ((by conv=>lhs;whnf;simp only[rU]
 :c6n=_)) VV SS
def K23:=A4 @a23.eq_1 ((by conv=>lhs;whnf;simp only[rU]
 :c8h=_)) VV SS
def K24:=A4 @a24.eq_1 ((by conv=>lhs;whnf;simp only[rU]
 :c9h=_)) VV SS
def c5m:=(by conv=>lhs;whnf;simp only[rU]
 :a3D=_)
def b3m:=(by conv=>lhs;whnf;simp only[rU]
 :a8D=_)
def Z4:=A4 @a25.eq_1 ((by conv=>lhs;whnf;simp only[rU]
 :c80=_)) VV SS
def K25:=A3 Z4 c5m b3m
def K29:=A4 @a29.eq_1 ((by conv=>lhs;whnf;simp only[rU]
 :c6N=_)) VV SS
def K30:=A4 @a30.eq_1 ((by conv=>lhs;whnf;simp only[rU]
 :c9p=_)) VV SS
def K34:=A2 (A7 @a34.eq_1 ((by and_intros<;>conv=>lhs;whnf;simp only[rU]
 :c7P=_∧a34s27=_∧a34s29=_∧a34s31=_∧a34s33=_∧b1T=_∧a34s43=_∧b08=_∧b1V=_∧a34s71=_∧a2q=_∧a2A=_∧a34s92=_∧a34s94=_)) @c0r @a34s25_k0.eq_1 @c0o @a34s41_k0.eq_1 @c1K) (A7 @a34s54_k0.eq_1 @b9c @a34s67_k0.eq_1 @c0z @a34s73_k0.eq_1 VV SS)
def b3t:=(by conv=>lhs;whnf;simp only[rU]
 :a8u=_)
def C6:=A4 @a35.eq_1 ((by conv=>lhs;whnf;simp only[rU]
 :c6t=_)) VV SS
def K35:=A2 C6 b3t
def K37:=A4 @a37.eq_1 ((by conv=>lhs;whnf;simp only[rU]
 :c7I=_)) VV SS
def K38:=A4 @a38.eq_1 ((by conv=>lhs;whnf;simp only[rU]
 :d0a=_)) VV SS
def K39:=A4 @a39.eq_1 ((by conv=>lhs;whnf;simp only[rU]
 :c6r=_)) VV SS
def K40:=A4 @a40.eq_1 ((by conv=>lhs;whnf;simp only[rU]
 :c86=_)) VV SS
def K42:=A4 @a42.eq_1 ((by conv=>lhs;whnf;simp only[rU]
 :c9T=_)) VV SS
def K44:=A4 @a44.eq_1 ((by conv=>lhs;whnf;simp only[rU]
 :c96=_)) VV SS
def K47:=A3 @a47.eq_1 VV SS
def K48:=A4 @a48.eq_1 ((by conv=>lhs;whnf;simp only[rU]
 :c7v=_)) VV SS
def K50:=A4 @a50.eq_1 ((by conv=>lhs;whnf;simp only[rU]
 :c6m=_)) VV SS
def K51:=A4 @a51.eq_1 ((by conv=>lhs;whnf;simp only[rU]
 :c8A=_)) VV SS
def K56:=A4 @a56.eq_1 ((by conv=>lhs;whnf;simp only[rU]
 :c9e=_)) VV SS
def K58:=A4 @a58.eq_1 ((by conv=>lhs;whnf;simp only[rU]
 :c7J=_)) VV SS
def K61:=A4 @a61.eq_1 ((by conv=>lhs;whnf;simp only[rU]
 :c6s=_)) VV SS
def K63:=A4 @a63.eq_1 ((by conv=>lhs;whnf;simp only[rU]
 :c97=_)) VV SS
def K64:=A4 @a64.eq_1 ((by conv=>lhs;whnf;simp only[rU]
 :c6x=_)) VV SS
def K65:=A4 @a65.eq_1 ((by conv=>lhs;whnf;simp only[rU]
 :c64=_)) VV SS
def K66:=A4 @a66.eq_1 ((by conv=>lhs;whnf;simp only[rU]
 :c8x=_)) VV SS
def K67:=A4 @a67.eq_1 ((by conv=>lhs;whnf;simp only[rU]
 :c9x=_)) VV SS
def K68:=A4 @a68.eq_1 ((by conv=>lhs;whnf;simp only[rU]
 :c8M=_)) VV SS
def K69:=A4 @a69.eq_1 ((by conv=>lhs;whnf;simp only[rU]
 :c8n=_)) VV SS
def K70:=A4 @a70.eq_1 ((by conv=>lhs;whnf;simp only[rU]
 :c7o=_)) VV SS
def K71:=A4 @a71.eq_1 ((by conv=>lhs;whnf;simp only[rU]
 :c9u=_)) VV SS
def K72:=A4 @a72.eq_1 ((by conv=>lhs;whnf;simp only[rU]
 :c8W=_)) VV SS
def K73:=A4 @a73.eq_1 ((by conv=>lhs;whnf;simp only[rU]
 :c6L=_)) VV SS
def c9c:=(by conv=>lhs;whnf;simp only[rU]
 :b00=_)
def b8q:=(by conv=>lhs;whnf;simp only[rU]
 :b01=_)
def E8:=A4 @a74.eq_1 ((by conv=>lhs;whnf;simp only[rU]
 :c89=_)) VV SS
def K74:=A3 E8 c9c b8q
def K75:=A4 @a75.eq_1 ((by conv=>lhs;whnf;simp only[rU]
 :c9J=_)) VV SS
def K76:=A4 @a76.eq_1 ((by conv=>lhs;whnf;simp only[rU]
 :d0t=_)) VV SS
def K77:=A4 @a77.eq_1 ((by conv=>lhs;whnf;simp only[rU]
 :c6U=_)) VV SS
def K78:=A4 @a78.eq_1 ((by conv=>lhs;whnf;simp only[rU]
 :c6w=_)) VV SS
def K79:=A4 @a79.eq_1 ((by conv=>lhs;whnf;simp only[rU]
 :c7h=_)) VV SS
def K81:=A4 @a81.eq_1 ((by conv=>lhs;whnf;simp only[rU]
 :c9V=_)) VV SS
def K82:=A4 @a82.eq_1 ((by conv=>lhs;whnf;simp only[rU]
 :c9Q=_)) VV SS
def K83:=A4 @a83.eq_1 ((by conv=>lhs;whnf;simp only[rU]
 :c9t=_)) VV SS
def K84:=A4 @a84.eq_1 ((by conv=>lhs;whnf;simp only[rU]
 :c81=_)) VV SS
def K85:=A4 @a85.eq_1 ((by conv=>lhs;whnf;simp only[rU]
 :c6E=_)) VV SS
def K86:=A3 @a86.eq_1 VV SS
def K87:=A4 @a87.eq_1 ((by conv=>lhs;whnf;simp only[rU]
 :c7u=_)) VV SS
def K88:=A3 @a88.eq_1 VV SS
def K90:=A4 @a90.eq_1 ((by conv=>lhs;whnf;simp only[rU]
 :c9U=_)) VV SS
def K92:=A4 @a92.eq_1 ((by conv=>lhs;whnf;simp only[rU]
 :d0g=_)) VV SS
def K93:=A4 @a93.eq_1 ((by conv=>lhs;whnf;simp only[rU]
 :c6z=_)) VV SS
def K94:=A4 @a94.eq_1 ((by and_intros<;>conv=>lhs;whnf;simp only[rU]
 :c7W=_∧a94s19=_∧a94s21=_∧b2g=_∧a94s54=_)) VV SS
def K97:=A4 @a97.eq_1 ((by and_intros<;>conv=>lhs;whnf;simp only[rU]
 :c9I=_∧a97s22=_∧a97s24=_)) VV SS
def b5y:=A4 @a100.eq_1 ((by conv=>lhs;whnf;simp only[rU]
 :c28=_)) VV SS
def d3U:=A4 @a102.eq_1 ((by conv=>lhs;whnf;simp only[rU]
 :c3r=_)) VV SS
def d3h:=A4 @a110.eq_1 ((by conv=>lhs;whnf;simp only[rU]
 :c2T=_)) VV SS
def a9j:=A4 @a111.eq_1 ((by conv=>lhs;whnf;simp only[rU]
 :c3u=_)) VV SS
def c7K:=A4 @a113.eq_1 ((by conv=>lhs;whnf;simp only[rU]
 :c2n=_)) VV SS
def c7k:=A4 @a114.eq_1 ((by conv=>lhs;whnf;simp only[rU]
 :c1Z=_)) VV SS
def b57:=A4 @a117.eq_1 ((by conv=>lhs;whnf;simp only[rU]
 :c3x=_)) VV SS
def N4:=A8 @a118.eq_1 ((by and_intros<;>conv=>lhs;whnf;simp only[rU]
 :c3s=_∧a118s15=_∧a118s19=_∧a118s21=_∧a118s30=_∧a118s48=_∧a118s52=_∧a118s54=_)) @b6H @a118s13_k0.eq_1 @b8z @a118s50_k0.eq_1 VV SS
def a4N:=A4 @a119.eq_1 ((by and_intros<;>conv=>lhs;whnf;simp only[rU]
 :c2V=_∧a119s11=_∧a119s9=_)) VV SS
def a9a:=A4 @a120.eq_1 ((by conv=>lhs;whnf;simp only[rU]
 :c3k=_)) VV SS
def c0L:=A4 @a121.eq_1 ((by conv=>lhs;whnf;simp only[rU]
 :c3f=_)) VV SS
def d3q:=A4 @a122.eq_1 ((by conv=>lhs;whnf;simp only[rU]
 :c2Q=_)) VV SS
def s9:=A4 @a123.eq_1 ((by conv=>lhs;whnf;simp only[rU]
 :c3d=_)) VV SS
def Z5:=A4 @a124.eq_1 ((by conv=>lhs;whnf;simp only[rU]
 :c3i=_)) VV SS
def X9:=A4 @a125.eq_1 ((by conv=>lhs;whnf;simp only[rU]
 :c2t=_)) VV SS
def S4:=A4 @a126.eq_1 ((by conv=>lhs;whnf;simp only[rU]
 :c3m=_)) VV SS
def d20:=A4 @a127.eq_1 ((by conv=>lhs;whnf;simp only[rU]
 :c2B=_)) VV SS
def c6f:=(by conv=>lhs;whnf;simp only[rU]
 :a9o=_)
def a1E:=A4 @a128.eq_1 ((by conv=>lhs;whnf;simp only[rU]
 :c3p=_)) VV SS
def c74:=A2 a1E c6f
def a2m:=A4 @a129.eq_1 ((by conv=>lhs;whnf;simp only[rU]
 :c2X=_)) VV SS
def J9:=A4 @a130.eq_1 ((by conv=>lhs;whnf;simp only[rU]
 :c2P=_)) VV SS
def L7:=A4 @a131.eq_1 ((by conv=>lhs;whnf;simp only[rU]
 :c2x=_)) VV SS
def d31:=A4 @a132.eq_1 ((by conv=>lhs;whnf;simp only[rU]
 :c2H=_)) VV SS
def a6H:=A4 @a133.eq_1 ((by conv=>lhs;whnf;simp only[rU]
 :c29=_)) VV SS
def b6u:=A4 @a134.eq_1 ((by conv=>lhs;whnf;simp only[rU]
 :c2C=_)) VV SS
def b0K:=A4 @a135.eq_1 ((by conv=>lhs;whnf;simp only[rU]
 :c3h=_)) VV SS
def d30:=A4 @a136.eq_1 ((by conv=>lhs;whnf;simp only[rU]
 :c3w=_)) VV SS
def d4S:=A4 @a139.eq_1 ((by conv=>lhs;whnf;simp only[rU]
 :c2F=_)) VV SS
def d3M:=A4 @a140.eq_1 ((by conv=>lhs;whnf;simp only[rU]
 :c3b=_)) VV SS
def L6:=A4 @a141.eq_1 ((by and_intros<;>conv=>lhs;whnf;simp only[rU]
 :c3B=_∧a141s15=_∧a141s19=_∧a8g=_∧a8H=_∧a8A=_∧a141s51=_∧a141s53=_)) VV SS
def L3:=A4 @a142.eq_1 ((by conv=>lhs;whnf;simp only[rU]
 :c2k=_)) VV SS
def d4b:=A4 @a143.eq_1 ((by conv=>lhs;whnf;simp only[rU]
 :c2z=_)) VV SS
def d3e:=A4 @a144.eq_1 ((by conv=>lhs;whnf;simp only[rU]
 :c2Z=_)) VV SS
def S3:=A4 @a146.eq_1 ((by conv=>lhs;whnf;simp only[rU]
 :c3v=_)) VV SS
def d3s:=A4 @a147.eq_1 ((by conv=>lhs;whnf;simp only[rU]
 :c3c=_)) VV SS
def a0S:=A4 @a156.eq_1 ((by and_intros<;>conv=>lhs;whnf;simp only[rU]
 :c2d=_∧a156s14=_∧a156s16=_∧a156s18=_∧a8v=_∧a9b=_∧a156s33=_)) VV SS
def a8G:=A4 @a157.eq_1 ((by conv=>lhs;whnf;simp only[rU]
 :c1X=_)) VV SS
def E5:=A4 @a158.eq_1 ((by and_intros<;>conv=>lhs;whnf;simp only[rU]
 :c2A=_∧a158s101=_∧a158s59=_∧a158s84=_∧a158s99=_)) VV SS
def a4W:=A4 @a159.eq_1 ((by conv=>lhs;whnf;simp only[rU]
 :c2q=_)) VV SS
def c49:=(by conv=>lhs;whnf;simp only[rU]
 :a8M=_)
def a4g:=A4 @a160.eq_1 ((by conv=>lhs;whnf;simp only[rU]
 :c2e=_)) VV SS
def b6x:=A2 a4g c49
def a0g:=A4 @a161.eq_1 ((by conv=>lhs;whnf;simp only[rU]
 :c2J=_)) VV SS
def c1h:=A4 @a162.eq_1 ((by conv=>lhs;whnf;simp only[rU]
 :c2i=_)) VV SS
def O3:=A4 @a163.eq_1 ((by conv=>lhs;whnf;simp only[rU]
 :c3g=_)) VV SS
def a9i:=A4 @a164.eq_1 ((by conv=>lhs;whnf;simp only[rU]
 :c3E=_)) VV SS
def Z3:=A4 @a165.eq_1 ((by conv=>lhs;whnf;simp only[rU]
 :c2o=_)) VV SS
def a2V:=A4 @a166.eq_1 ((by and_intros<;>conv=>lhs;whnf;simp only[rU]
 :c2j=_∧a166s13=_∧a166s15=_∧a166s17=_∧a8X=_∧a8e=_∧a8T=_∧a166s47=_)) VV SS
def S1:=A4 @a167.eq_1 ((by conv=>lhs;whnf;simp only[rU]
 :c3A=_)) VV SS
def d4Q:=A4 @a168.eq_1 ((by conv=>lhs;whnf;simp only[rU]
 :c2L=_)) VV SS
def a0A:=A4 @a169.eq_1 ((by and_intros<;>conv=>lhs;whnf;simp only[rU]
 :c3o=_∧a169s16=_∧a169s18=_∧a5R=_∧a1W=_∧Z9=_∧a8N=_∧a169s9=_)) VV SS
def a8w:=A4 @a170.eq_1 ((by conv=>lhs;whnf;simp only[rU]
 :c2U=_)) VV SS
def d4t:=A4 @a171.eq_1 ((by conv=>lhs;whnf;simp only[rU]
 :c3C=_)) VV SS
def c77:=A4 @a172.eq_1 ((by conv=>lhs;whnf;simp only[rU]
 :c2h=_)) VV SS
def b9v:=A4 @a173.eq_1 ((by conv=>lhs;whnf;simp only[rU]
 :c3q=_)) VV SS
def G6:=A4 @a174.eq_1 ((by conv=>lhs;whnf;simp only[rU]
 :c2M=_)) VV SS
def B3:=A4 @a175.eq_1 ((by conv=>lhs;whnf;simp only[rU]
 :c2I=_)) VV SS
def a8o:=A4 @a180.eq_1 ((by conv=>lhs;whnf;simp only[rU]
 :c2g=_)) VV SS
def c3K:=(by conv=>lhs;whnf;simp only[rU]
 :a8r=_)
def b6m:=A4 @a183.eq_1 ((by conv=>lhs;whnf;simp only[rU]
 :c3n=_)) VV SS
def O0:=A2 b6m c3K
def a0o:=A4 @a184.eq_1 ((by conv=>lhs;whnf;simp only[rU]
 :c2D=_)) VV SS
def d3t:=A4 @a185.eq_1 ((by conv=>lhs;whnf;simp only[rU]
 :c27=_)) VV SS
def d3b:=A4 @a186.eq_1 ((by conv=>lhs;whnf;simp only[rU]
 :c2s=_)) VV SS
def b5v:=A4 @a187.eq_1 ((by conv=>lhs;whnf;simp only[rU]
 :c2N=_)) VV SS
def a2h:=A4 @a188.eq_1 ((by and_intros<;>conv=>lhs;whnf;simp only[rU]
 :c3G=_∧a9l=_∧a9g=_∧a188s31=_)) VV SS
def a4o:=A4 @a189.eq_1 ((by conv=>lhs;whnf;simp only[rU]
 :c2c=_)) VV SS
def d3T:=A4 @a190.eq_1 ((by conv=>lhs;whnf;simp only[rU]
 :c2v=_)) VV SS
def d39:=A4 @a191.eq_1 ((by conv=>lhs;whnf;simp only[rU]
 :c2r=_)) VV SS
def d33:=A4 @a192.eq_1 ((by conv=>lhs;whnf;simp only[rU]
 :c2Y=_)) VV SS
def c0P:=A4 @a193.eq_1 ((by conv=>lhs;whnf;simp only[rU]
 :c2p=_)) VV SS
def b4n:=A4 @a194.eq_1 ((by conv=>lhs;whnf;simp only[rU]
 :c3l=_)) VV SS
def d3V:=A4 @a195.eq_1 ((by conv=>lhs;whnf;simp only[rU]
 :c2m=_)) VV SS
def a28:=A4 @a200.eq_1 ((by conv=>lhs;whnf;simp only[rU]
 :c2E=_)) VV SS
def d4W:=A3 @a201.eq_1 VV SS
def a8z:=A4 @a202.eq_1 ((by conv=>lhs;whnf;simp only[rU]
 :c2l=_)) VV SS
def d4D:=A4 @a203.eq_1 ((by conv=>lhs;whnf;simp only[rU]
 :c3e=_)) VV SS
def a2Y:=A4 @a204.eq_1 ((by conv=>lhs;whnf;simp only[rU]
 :c3a=_)) VV SS
end
end Go.Cb.CodeA
