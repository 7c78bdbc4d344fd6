/- The functions of the seat, told as code of the abstract machine. No conditions. -/
import Derived.Test.YtdlgfdncpemcnaaGreatDoorStrD
namespace Go.Cb.CodeA
open Go Go.Cb
open Go.Cb.ACode renaming seq→Sq,reg→Rg,test→Ts,blk→Bk,loop→Lp

abbrev op (d:Dst) (k:Kind) (a:List Opd):AOper:=⟨d,k,a,none,none⟩
abbrev oP (t:Nat) (k:Kind) (a:List Opd):AOper:=⟨.t t,k,a,none,none⟩
abbrev mP (t:Nat) (a:Opd):AOper:=⟨.t t,.mv,[a],none,none⟩
abbrev nP (t v:Nat):AOper:=⟨.t t,.mv,[.v v],none,none⟩
abbrev gP (t:Nat) (k:Kind) (a:List Opd) (x:Nat) (b:Bool):AOper:=⟨.t t,k,a,none,some (.t x,b)⟩
abbrev xP (k:Kind) (a:List Opd) (v:Nat):AOper:=⟨.none,k,a,some v,none⟩
abbrev vP (v:Nat) (a:Opd):AOper:=⟨.v v,.mv,[a],none,none⟩
abbrev lP (t v:Nat) (b:Bool) (n:Nat) (a:Opd):AOper:=⟨.t t,.ldLc v b n,[a],some v,none⟩
abbrev bP (t:Nat) (o:BinOp) (a b:Opd):AOper:=⟨.t t,.bin o,[a,b],none,none⟩
abbrev fP (t n:Nat) (a:Opd):AOper:=⟨.t t,.fad n,[a],none,none⟩
def h7w:=Rg [] [vP 1 (.c (.bool false))]
def j9o:=Rg [] [vP 1 (.c (.bool false))]
def k1I:=Sq j9o .ret
def i8i:=Ts [] [oP 12 (.call 5) [],oP 13 (.un .not) [.t 12]] (.t 13) k1I .skip
def g2c:=Rg [] [oP 15 (.call 6) [],mP 14 (.t 15),oP 16 (.ext 0) [.t 14],oP 17 (.ext 1) [.t 14],vP 2 (.t 16),mP 4 (.t 17)]
def b5D:=Rg [] [op (.v 3) .mv [.c (.list true [])]]
def j1J:=Rg [] [vP 4 (.c (.int .i64 0))]
def j9b:=Ts [] [nP 18 4,bP 19 .lss (.t 18) (.c (.int .i64 200))] (.t 19) .skip (.exit 0)
def i8H:=Rg [] [mP 22 (.vs 3),nP 23 4,bP 24 .quo (.t 23) (.c (.int .i64 100)),bP 25 .add (.c (.int .i64 48)) (.t 24),oP 26 (.conv .u8) [.t 25],nP 27 4,bP 28 .quo (.t 27) (.c (.int .i64 10)),bP 29 .rem (.t 28) (.c (.int .i64 10)),bP 30 .add (.c (.int .i64 48)) (.t 29),oP 31 (.conv .u8) [.t 30],nP 32 4,bP 33 .rem (.t 32) (.c (.int .i64 10)),bP 34 .add (.c (.int .i64 48)) (.t 33),oP 35 (.conv .u8) [.t 34],oP 36 (.bslice 1 [[.int .u8 0],[.int .u8 0],[.int .u8 0],[.int .u8 0]] [0,1,2,3]) [.c (.int .u8 107),.t 26,.t 31,.t 35],oP 37 .b2s [.t 36],oP 38 (.bslice 1 [[.str []],[.str []]] [0,1]) [.c (.str [108,105,118,101,115]),.c (.str [110,97,109,101])],oP 39 (.build [.int .u8 0,.int .i64 0,.str [],.list true [],.list true []] [(0,1),(1,1)]) [.c (.int .u8 1),.c (.int .i64 1)],oP 40 (.build [.int .u8 0,.int .i64 0,.str [],.list true [],.list true []] [(0,1),(2,1)]) [.c (.int .u8 2),.c (.str [120])],oP 41 (.bslice 5 [[.int .u8 0,.int .i64 0,.str [],.list true [],.list true []],[.int .u8 0,.int .i64 0,.str [],.list true [],.list true []]] [0,1]) [.t 39,.t 40],oP 42 (.build [.str [],.str [],.list true [],.list true []] [(0,1),(1,1),(2,1),(3,1)]) [.c (.str [67,97,116]),.t 37,.t 38,.t 41],oP 43 (.bslice 4 [[.str [],.str [],.list true [],.list true []]] [0]) [.t 42],oP 44 (.app 4 80) [.ts 22,.t 43],vP 3 (.ts 44)]
def j80:=Bk 1 i8H
def i9Q:=Rg [] [nP 20 4,bP 21 .add (.t 20) (.c (.int .i64 1)),vP 4 (.t 21)]
def j1M:=Sq j80 i9Q
def j9d:=Sq j9b j1M
def j7m:=Lp j9d
def j24:=Bk 0 j7m
def b0U:=Sq j1J j24
def b41:=Rg [5] [nP 45 3,oP 46 (.call 7) [.t 45],⟨.bx,.alloc [.nils],[],some 5,none⟩,xP (.stLc 5 1) [.l 5,.ts 46] 5]
def j5F:=Rg [6,7] [nP 48 2,lP 49 5 true 1 (.l 5),oP 50 (.call 9) [],oP 51 (.call 8) [.t 48,.t 49,.c (.str [109,117,116,97,116,105,111,110,32,123,99,114,101,97,116,101,68,111,103,40,105,100,58,32,34,100,34,44,32,105,110,112,117,116,58,32,123,125,41,32,123,98,97,114,107,115,125,125]),.t 50],mP 47 (.t 51),oP 52 (.ext 0) [.t 47],oP 53 (.ext 1) [.t 47],⟨.bx,.alloc [.nils],[],some 6,none⟩,⟨.bx,.alloc [.int .i64 0,.int .u8 0,.int .i64 0,.str [],.list true [],.list true [],.list true []],[],some 7,none⟩,xP (.stLc 6 1) [.l 6,.ts 52] 6,xP (.stLc 7 7) [.l 7,.ts 53] 7]
def j2u:=Rg [] [vP 1 (.c (.bool false))]
def j2e:=Sq j2u .ret
def j84:=Ts [] [fP 54 6 (.l 7),lP 55 7 false 1 (.t 54),oP 56 .lenL [.t 55],bP 57 .neq (.t 56) (.c (.int .i64 1)),mP 58 (.t 57),gP 59 (.fad 6) [.l 7] 58 false,⟨.t 60,.ldLc 7 false 1,[.t 59],some 7,some (.t 58,false)⟩,gP 61 (.iad 2) [.t 60,.c (.int .i64 0)] 58 false,gP 62 (.fad 1) [.t 61] 58 false,gP 63 (.ldSt false 1) [.t 62] 58 false,gP 64 (.bin .neq) [.t 63,.c (.int .i64 13)] 58 false,oP 65 .pick [.t 58,.c (.bool true),.t 64],mP 66 (.t 65),⟨.t 67,.ldLc 6 true 1,[.l 6],some 6,some (.t 66,false)⟩,gP 68 (.call 10) [.t 67] 66 false,gP 69 (.bin .neq) [.t 68,.c (.int .i64 200)] 66 false,oP 70 .pick [.t 66,.c (.bool true),.t 69]] (.t 70) j2e .skip
def a3U:List AOper:=[
 nP 72 2,
 lP 73 5 true 1 (.l 5),
 nP 74 3,
 nP 75 0,
 oP 76 (.conv .i64) [.t 75],
 bP 77 .rem (.t 76) (.c (.int .i64 200)),
 oP 78 (.iad 4) [.t 74,.t 77],
 fP 79 1 (.t 78),
 oP 80 (.ldRo false 1) [.t 79],
 oP 81 (.bin .add) [.c (.str [109,117,116,97,116,105,111,110,32,123,100,101,108,101,116,101,67,97,116,40,105,100,58,32,34]),.t 80],
 oP 82 (.bin .add) [.t 81,.c (.str [34,41,32,123,110,97,109,101,125,32,99,114,101,97,116,101,68,111,103,40,105,100,58,32,34,100,34,44,32,105,110,112,117,116,58,32,123,125,41,32,123,98,97,114,107,115,125,125])],
 oP 83 (.call 9) [],
 oP 84 (.call 8) [.t 72,.t 73,.t 82,.t 83],
 mP 71 (.t 84),
 oP 85 (.ext 0) [.t 71],
 oP 86 (.ext 1) [.t 71],
 ⟨.bx,.alloc [.nils],[],some 8,none⟩,
 ⟨.bx,.alloc [.int .i64 0,.int .u8 0,.int .i64 0,.str [],.list true [],.list true [],.list true []],[],some 9,none⟩,
 xP (.stLc 8 1) [.l 8,.ts 85] 8,
 xP (.stLc 9 7) [.l 9,.ts 86] 9]
def j48:=Rg [8,9] a3U
def j6M:=Rg [] [fP 87 6 (.l 9),lP 88 9 false 1 (.t 87),oP 89 .lenL [.t 88],bP 90 .eql (.t 89) (.c (.int .i64 0)),mP 91 (.t 90),⟨.t 92,.ldLc 8 true 1,[.l 8],some 8,some (.t 91,true)⟩,gP 93 (.call 10) [.t 92] 91 true,gP 94 (.bin .eql) [.t 93,.c (.int .i64 200)] 91 true,oP 95 .pick [.t 91,.t 94,.c (.bool false)],vP 1 (.t 95)]
def j4D:=Sq j6M .ret
def j53:=Sq j48 j4D
def i9a:=Sq j84 j53
def a3s41:=Sq j5F i9a
def b44:=Sq b41 a3s41
def b42:=Sq b0U b44
def b5J:=Sq b5D b42
def b5l:=Sq g2c b5J
def b5v:=Sq i8i b5l
def j8D:=Sq h7w b5v
def a3c:ACode :=
  j8D
def a3:AFn:={ np:=1,nv:=10,results:=[.v 1],code:=a3c }

def j9H:=Rg [] [vP 0 (.c (.bool false))]
def k1N:=Rg [] [oP 7 (.call 6) [],mP 6 (.t 7),oP 8 (.ext 0) [.t 6],oP 9 (.ext 1) [.t 6],vP 1 (.t 8),mP 2 (.t 9)]
def j9k:=Rg [2] [⟨.bx,.alloc [.nils],[],some 2,none⟩]
def j9Y:=Rg [3] [nP 11 1,lP 12 2 true 1 (.l 2),oP 13 (.call 9) [],oP 14 (.call 8) [.t 11,.t 12,.c (.str [109,117,116,97,116,105,111,110,32,123,99,114,101,97,116,101,68,111,103,40,105,100,58,32,49,44,32,105,110,112,117,116,58,32,123,125,41,32,123,98,97,114,107,115,125,125]),.t 13],mP 10 (.t 14),oP 15 (.ext 0) [.t 10],oP 16 (.ext 1) [.t 10],⟨.bx,.alloc [.int .i64 0,.int .u8 0,.int .i64 0,.str [],.list true [],.list true [],.list true []],[],some 3,none⟩,xP (.stLc 2 1) [.l 2,.ts 15] 2,xP (.stLc 3 7) [.l 3,.ts 16] 3]
def k10:=Rg [4] [nP 18 1,lP 19 2 true 1 (.l 2),oP 20 (.call 9) [],oP 21 (.call 8) [.t 18,.t 19,.c (.str [109,117,116,97,116,105,111,110,32,123,99,114,101,97,116,101,68,111,103,40,105,100,58,32,49,44,32,105,110,112,117,116,58,32,123,125,41,32,123,98,97,114,107,115,125,125]),.t 20],mP 17 (.t 21),oP 22 (.ext 0) [.t 17],oP 23 (.ext 1) [.t 17],⟨.bx,.alloc [.int .i64 0,.int .u8 0,.int .i64 0,.str [],.list true [],.list true [],.list true []],[],some 4,none⟩,xP (.stLc 2 1) [.l 2,.ts 22] 2,xP (.stLc 4 7) [.l 4,.ts 23] 4]
def j8G:=Rg [] [fP 24 0 (.l 3),lP 25 3 false 1 (.t 24),bP 26 .eql (.t 25) (.c (.int .i64 0)),mP 27 (.t 26),gP 28 (.fad 6) [.l 3] 27 true,⟨.t 29,.ldLc 3 false 1,[.t 28],some 3,some (.t 27,true)⟩,gP 30 .lenL [.t 29] 27 true,gP 31 (.bin .eql) [.t 30,.c (.int .i64 0)] 27 true,oP 32 .pick [.t 27,.t 31,.c (.bool false)],mP 33 (.t 32),⟨.t 34,.ldLc 2 true 1,[.l 2],some 2,some (.t 33,true)⟩,gP 35 (.call 10) [.t 34] 33 true,gP 36 (.bin .eql) [.t 35,.c (.int .i64 1)] 33 true,oP 37 .pick [.t 33,.t 36,.c (.bool false)],mP 38 (.t 37),gP 39 (.fad 6) [.l 4] 38 true,⟨.t 40,.ldLc 4 false 1,[.t 39],some 4,some (.t 38,true)⟩,gP 41 .lenL [.t 40] 38 true,gP 42 (.bin .eql) [.t 41,.c (.int .i64 1)] 38 true,oP 43 .pick [.t 38,.t 42,.c (.bool false)],mP 44 (.t 43),gP 45 (.fad 6) [.l 4] 44 true,⟨.t 46,.ldLc 4 false 1,[.t 45],some 4,some (.t 44,true)⟩,gP 47 (.iad 2) [.t 46,.c (.int .i64 0)] 44 true,gP 48 (.fad 1) [.t 47] 44 true,gP 49 (.ldSt false 1) [.t 48] 44 true,gP 50 (.bin .eql) [.t 49,.c (.int .i64 7)] 44 true,oP 51 .pick [.t 44,.t 50,.c (.bool false)],mP 52 (.t 51),oP 53 .pick [.t 52,.c (.bool true),.c (.bool false)],vP 0 (.t 53)]
def j5S:=Sq j8G .ret
def i87:=Sq k10 j5S
def j1t:=Sq j9Y i87
def i9O:=Sq j9k j1t
def j3p:=Sq k1N i9O
def j2E:=Sq j9H j3p
def a5c:ACode :=
  j2E
def a5:AFn:={ np:=0,nv:=5,results:=[.v 0],code:=a5c }

def k07:=Rg [] [vP 0 (.c (.nilp)),vP 1 (.c (.nilp))]
def k0H:=Rg [] [oP 12 (.call 15) [.c (.str [105,110,116,101,114,102,97,99,101,32,78,97,109,101,100,32,123,32,110,97,109,101,58,32,83,116,114,105,110,103,33,32,125,32,101,110,117,109,32,77,111,111,100,32,123,32,72,65,80,80,89,32,83,65,68,32,125,32,116,121,112,101,32,80,101,114,115,111,110,32,105,109,112,108,101,109,101,110,116,115,32,78,97,109,101,100,32,123,32,110,97,109,101,58,32,83,116,114,105,110,103,33,32,97,103,101,58,32,73,110,116,32,109,111,111,100,58,32,77,111,111,100,32,102,114,105,101,110,100,115,58,32,91,80,101,114,115,111,110,33,93,32,112,101,116,58,32,80,101,116,32,116,97,103,115,58,32,91,83,116,114,105,110,103,93,32,125,32,116,121,112,101,32,67,97,116,32,105,109,112,108,101,109,101,110,116,115,32,78,97,109,101,100,32,123,32,110,97,109,101,58,32,83,116,114,105,110,103,33,32,108,105,118,101,115,58,32,73,110,116,33,32,111,119,110,101,114,58,32,80,101,114,115,111,110,32,125,32,116,121,112,101,32,68,111,103,32,123,32,98,97,114,107,115,58,32,66,111,111,108,101,97,110,32,125,32,117,110,105,111,110,32,80,101,116,32,61,32,67,97,116,32,124,32,68,111,103,32,105,110,112,117,116,32,80,101,114,115,111,110,73,110,32,123,32,110,97,109,101,58,32,83,116,114,105,110,103,32,97,103,101,58,32,73,110,116,32,61,32,55,32,109,111,111,100,58,32,77,111,111,100,32,102,114,105,101,110,100,115,58,32,91,73,68,33,93,32,112,101,116,58,32,73,68,32,116,97,103,115,58,32,91,83,116,114,105,110,103,93,32,125,32,105,110,112,117,116,32,67,97,116,73,110,32,123,32,110,97,109,101,58,32,83,116,114,105,110,103,33,32,108,105,118,101,115,58,32,73,110,116,32,111,119,110,101,114,58,32,73,68,32,125,32,105,110,112,117,116,32,68,111,103,73,110,32,123,32,98,97,114,107,115,58,32,66,111,111,108,101,97,110,32,125,32,116,121,112,101,32,81,117,101,114,121,32,123,32,112,101,114,115,111,110,40,105,100,58,32,73,68,33,41,58,32,80,101,114,115,111,110,32,110,97,109,101,100,40,105,100,58,32,73,68,33,41,58,32,78,97,109,101,100,32,112,101,111,112,108,101,58,32,91,80,101,114,115,111,110,33,93,33,32,112,101,116,115,58,32,91,80,101,116,33,93,33,32,97,108,108,58,32,91,78,97,109,101,100,33,93,33,32,125,32,116,121,112,101,32,77,117,116,97,116,105,111,110,32,123,32,99,114,101,97,116,101,80,101,114,115,111,110,40,105,100,58,32,73,68,33,44,32,105,110,112,117,116,58,32,80,101,114,115,111,110,73,110,33,41,58,32,80,101,114,115,111,110,32,117,112,100,97,116,101,80,101,114,115,111,110,40,105,100,58,32,73,68,33,44,32,105,110,112,117,116,58,32,80,101,114,115,111,110,73,110,33,41,58,32,80,101,114,115,111,110,32,100,101,108,101,116,101,80,101,114,115,111,110,40,105,100,58,32,73,68,33,41,58,32,80,101,114,115,111,110,32,99,114,101,97,116,101,67,97,116,40,105,100,58,32,73,68,33,44,32,105,110,112,117,116,58,32,67,97,116,73,110,33,41,58,32,67,97,116,32,99,114,101,97,116,101,68,111,103,40,105,100,58,32,73,68,33,44,32,105,110,112,117,116,58,32,68,111,103,73,110,33,41,58,32,68,111,103,32,100,101,108,101,116,101,67,97,116,40,105,100,58,32,73,68,33,41,58,32,67,97,116,32,125])],mP 11 (.t 12),oP 13 (.ext 0) [.t 11],oP 14 (.ext 1) [.t 11],oP 15 (.ext 2) [.t 11],vP 2 (.ts 13),mP 3 (.t 14),vP 3 (.t 15)]
def k1A:=Rg [] [vP 0 (.c (.nilp)),vP 1 (.c (.nilp))]
def k0r:=Sq k1A .ret
def k3t:=Ts [] [nP 16 3,bP 17 .neq (.t 16) (.c (.int .i64 0))] (.t 17) k0r .skip
def j06:=Rg [] [nP 19 2,oP 20 (.call 16) [.t 19],mP 18 (.t 20),oP 21 (.ext 0) [.t 18],oP 22 (.ext 1) [.t 18],oP 23 (.ext 2) [.t 18],vP 4 (.t 21),mP 6 (.t 22),mP 7 (.t 23)]
def i94:=Rg [] [nP 25 2,oP 26 (.call 17) [.t 25],mP 24 (.t 26),oP 27 (.ext 0) [.t 24],oP 28 (.ext 1) [.t 24],oP 29 (.ext 2) [.t 24],vP 5 (.t 27),mP 9 (.t 28),mP 10 (.t 29)]
def j8g:=Rg [] [nP 30 4,nP 31 5,vP 0 (.t 30),vP 1 (.t 31)]
def j3e:=Sq j8g .ret
def j7h:=Sq i94 j3e
def j67:=Sq j06 j7h
def j22:=Sq k3t j67
def i9E:=Sq k0H j22
def j2S:=Sq k07 i9E
def a6c:ACode :=
  j2S
def a6:AFn:={ np:=0,nv:=6,results:=[.v 0,.v 1],code:=a6c }

def h5X:=Rg [1] [⟨.bx,.alloc [.nils],[],some 1,none⟩]
def g88:=Rg [2] [⟨.bx,.alloc [.nils],[],some 2,none⟩]
def f5E:=Rg [] [vP 4 (.v 0),op (.v 5) .lenL [.v 4],vP 6 (.c (.int .i64 0))]
def k1y:=Ts [] [bP 9 .lss (.v 6) (.v 5)] (.t 9) .skip (.exit 0)
def k1H:=Rg [3] [oP 10 (.iad 4) [.v 4,.v 6],oP 11 (.ldRo true 4) [.t 10],⟨.bx,.alloc [.str [],.str [],.list true [],.list true []],[],some 3,none⟩,xP (.stLc 3 4) [.l 3,.ts 11] 3]
def i8S:=Rg [] [lP 12 2 true 1 (.l 2),lP 13 3 true 4 (.l 3),oP 14 (.call 18) [.t 12,.t 13],xP (.stLc 2 1) [.l 2,.ts 14] 2]
def j42:=Sq k1H i8S
def j2m:=Bk 1 j42
def j8X:=Rg [] [bP 15 .add (.v 6) (.c (.int .i64 1)),vP 6 (.t 15)]
def j0z:=Sq j2m j8X
def a4o:=Sq k1y j0z
def b5Q:=Lp a4o
def b45:=Bk 0 b5Q
def b5R:=Sq f5E b45
def j6c:=Rg [] [lP 16 2 true 1 (.l 2),xP (.stLc 1 1) [.l 1,.ts 16] 1]
def b5m:=Sq j6c .ret
def b5q:=Sq b5R b5m
def b5u:=Sq g88 b5q
def i9P:=Sq h5X b5u
def a7c:ACode :=
  i9P
def a7:AFn:={ np:=1,nv:=7,results:=[.bx 1 true 1],code:=a7c }

def j9J:=Rg [4,5,6,7] [⟨.bx,.boxV,[.v 1],some 4,none⟩,⟨.bx,.boxV,[.v 3],some 5,none⟩,⟨.bx,.alloc [.nils],[],some 6,none⟩,⟨.bx,.alloc [.int .i64 0,.int .u8 0,.int .i64 0,.str [],.list true [],.list true [],.list true []],[],some 7,none⟩]
def k1s:=Rg [8] [nP 13 0,nP 14 2,oP 15 (.call 19) [.t 13,.t 14],mP 12 (.t 15),oP 16 (.ext 0) [.t 12],oP 17 (.ext 1) [.t 12],⟨.bx,.alloc [.nils,.nils],[],some 8,none⟩,xP (.stLc 8 2) [.l 8,.ts 16] 8,vP 9 (.t 17)]
def j9Q:=Rg [] [lP 20 4 true 1 (.l 4),nP 21 9,oP 22 (.build [.int .i64 0,.int .u8 0,.int .i64 0,.str [],.list true [],.list true [],.list true []] [(0,1)]) [.t 21],xP (.stLc 6 1) [.l 6,.ts 20] 6,xP (.stLc 7 7) [.l 7,.ts 22] 7]
def k2I:=Sq j9Q .ret
def k0D:=Ts [] [nP 18 9,bP 19 .neq (.t 18) (.c (.int .i64 0))] (.t 19) k2I .skip
def j4W:=Rg [] [nP 23 0,lP 24 4 true 1 (.l 4),lP 25 8 true 2 (.l 8),lP 26 5 true 5 (.l 5),oP 27 (.call 20) [.t 23,.t 24,.t 25,.c (.str []),.t 26],oP 28 (.ext 0) [.t 27],oP 29 (.ext 1) [.t 27],xP (.stLc 6 1) [.l 6,.ts 28] 6,xP (.stLc 7 7) [.l 7,.ts 29] 7]
def j0d:=Sq j4W .ret
def i9h:=Sq k0D j0d
def i8u:=Sq k1s i9h
def j2F:=Sq j9J i8u
def a8c:ACode :=
  j2F
def a8:AFn:={ np:=4,nv:=10,results:=[.bx 6 true 1,.bx 7 true 7],code:=a8c }

def k2n:=Rg [0] [⟨.bx,.alloc [.int .u8 0,.int .i64 0,.str [],.list true [],.list true []],[],some 0,none⟩]
def j9F:=Rg [] [oP 1 (.build [.int .u8 0,.int .i64 0,.str [],.list true [],.list true []] [(0,1)]) [.c (.int .u8 6)],xP (.stLc 0 5) [.l 0,.ts 1] 0]
def k0d:=Sq j9F .ret
def k3e:=Sq k2n k0d
def a9c:ACode :=
  k3e
def a9:AFn:={ np:=0,nv:=1,results:=[.bx 0 true 5],code:=a9c }

def j2Z:=Rg [1] [⟨.bx,.boxV,[.v 0],some 1,none⟩,vP 2 (.c (.int .i64 0))]
def j2M:=Rg [] [fP 3 0 (.l 1),lP 4 1 false 1 (.t 3),oP 5 .lenL [.t 4],vP 2 (.t 5)]
def j3k:=Sq j2M .ret
def j1Z:=Sq j2Z j3k
def k21:ACode :=
  j1Z
def a10:AFn:={ np:=1,nv:=3,results:=[.v 2],code:=k21 }

def j7B:=Rg [] [op (.v 1) .mv [.c (.list true [])],vP 2 (.c (.int .i64 0)),vP 3 (.c (.int .i64 0))]
def j2A:=Rg [] [nP 13 0,oP 14 (.call 23) [.t 13],mP 12 (.t 14),oP 15 (.ext 0) [.t 12],oP 16 (.ext 1) [.t 12],oP 17 (.ext 2) [.t 12],vP 4 (.ts 15),vP 5 (.t 16),vP 6 (.t 17)]
def j09:=Rg [] [nP 20 5,nP 21 6,op (.v 1) .mv [.c (.list true [])],vP 2 (.t 20),vP 3 (.t 21)]
def j0k:=Sq j09 .ret
def i9F:=Ts [] [nP 18 6,bP 19 .neq (.t 18) (.c (.int .i64 0))] (.t 19) j0k .skip
def g7m:=Rg [] [nP 22 4,oP 23 (.build [.list true [],.int .i64 0,.int .i64 0,.int .i64 0,.int .i64 0] [(0,1)]) [.t 22],oP 24 .boxO [.ts 23],vP 7 (.t 24)]
def h2Y:=Rg [] [op (.v 8) .mv [.c (.list true [])]]
def f3V:=Rg [] [vP 9 (.c (.bool true))]
def g0w:=Ts [] [nP 25 9,mP 26 (.t 25),gP 27 .mv [.v 7] 26 false,gP 28 .nilchk [.t 27] 26 false,gP 29 (.fad 4) [.t 28] 26 false,gP 30 (.ldSt false 1) [.t 29] 26 false,gP 31 (.bin .eql) [.t 30,.c (.int .i64 0)] 26 false,gP 32 .mv [.t 31] 26 false,gP 33 .mv [.v 7] 32 true,gP 34 (.call 24) [.t 33,.c (.int .u8 0)] 32 true,gP 35 (.un .not) [.t 34] 32 true,gP 36 .pick [.t 32,.t 35,.c (.bool false)] 26 false,oP 37 .pick [.t 26,.c (.bool true),.t 36]] (.t 37) .skip (.exit 0)
def g73:=Rg [10] [nP 38 7,oP 39 (.call 25) [.t 38],⟨.bx,.alloc [.int .u8 0,.str [],.list true [],.list true []],[],some 10,none⟩,xP (.stLc 10 4) [.l 10,.ts 39] 10]
def g9A:=Rg [] [mP 40 (.vs 8),lP 41 10 true 4 (.l 10),oP 42 (.bslice 4 [[.int .u8 0,.str [],.list true [],.list true []]] [0]) [.t 41],oP 43 (.app 4 72) [.ts 40,.t 42],vP 8 (.ts 43)]
def g1b:=Sq g73 g9A
def h78:=Bk 1 g1b
def g8x:=Rg [] [vP 9 (.c (.bool false))]
def g2X:=Sq h78 g8x
def g3U:=Sq g0w g2X
def g7a:=Lp g3U
def g3R:=Bk 0 g7a
def i7d:=Sq f3V g3R
def g3v:=Rg [] [nP 49 7,oP 50 .nilchk [.t 49],fP 51 3 (.t 50),oP 52 (.ldSt false 1) [.t 51],nP 53 7,oP 54 .nilchk [.t 53],fP 55 4 (.t 54),oP 56 (.ldSt false 1) [.t 55],op (.v 1) .mv [.c (.list true [])],vP 2 (.t 52),vP 3 (.t 56)]
def h9n:=Sq g3v .ret
def g4R:=Ts [] [nP 44 7,oP 45 .nilchk [.t 44],fP 46 4 (.t 45),oP 47 (.ldSt false 1) [.t 46],bP 48 .neq (.t 47) (.c (.int .i64 0))] (.t 48) h9n .skip
def g5W:=Rg [] [nP 57 8,vP 1 (.ts 57),vP 2 (.c (.int .i64 0)),vP 3 (.c (.int .i64 0))]
def h8Q:=Sq g5W .ret
def f7n:=Sq g4R h8Q
def f2v:=Sq i7d f7n
def g4O:=Sq h2Y f2v
def g1D:=Sq g7m g4O
def i4W:=Sq i9F g1D
def g7n:=Sq j2A i4W
def i07:=Sq j7B g7n
def k3j:ACode :=
  i07
def a15:AFn:={ np:=1,nv:=11,results:=[.v 1,.v 2,.v 3],code:=k3j }

def j2W:=Rg [] [vP 1 (.c (.nilp)),op (.v 2) .mv [.c (.str [])],vP 3 (.c (.int .i64 0))]
def j61:=Rg [] [nP 18 0,oP 19 (.call 26) [.t 18],oP 20 .mkM [],oP 21 (.build [.list true [],.nilm] [(0,1),(1,1)]) [.t 19,.t 20],oP 22 .boxO [.ts 21],vP 4 (.t 22)]
def j6u:=Rg [] [vP 14 (.v 0),op (.v 15) .lenL [.v 14],vP 16 (.c (.int .i64 0))]
def j3b:=Ts [] [bP 26 .lss (.v 16) (.v 15)] (.t 26) .skip (.exit 0)
def j4U:=Rg [6] [nP 27 16,oP 28 (.iad 4) [.v 14,.v 16],oP 29 (.ldRo true 4) [.t 28],⟨.bx,.alloc [.int .u8 0,.str [],.list true [],.list true []],[],some 6,none⟩,vP 5 (.t 27),xP (.stLc 6 4) [.l 6,.ts 29] 6]
def i7l:=Rg [] [nP 31 4,oP 32 .nilchk [.t 31],fP 33 1 (.t 32),oP 34 (.ldSt false 1) [.t 33],fP 35 1 (.l 6),lP 36 6 false 1 (.t 35),oP 37 (.mget 1 [.int .i64 0] false true) [.t 34,.t 36],mP 30 (.t 37),oP 38 (.ext 0) [.t 30],oP 39 (.ext 1) [.t 30],mP 8 (.t 38),vP 7 (.t 39)]
def h51:=Rg [] [fP 47 1 (.l 6),lP 48 6 false 1 (.t 47),vP 1 (.c (.nilp)),vP 2 (.t 48),vP 3 (.c (.int .i64 7))]
def g90:=Sq h51 .ret
def g37:=Ts [] [nP 40 7,mP 41 (.t 40),gP 42 (.slA 4 1 false false) [.c (.ro [.str [66,111,111,108,101,97,110],.str [73,68],.str [73,110,116],.str [83,116,114,105,110,103]])] 41 false,gP 43 (.fad 1) [.l 6] 41 false,⟨.t 44,.ldLc 6 false 1,[.t 43],some 6,some (.t 41,false)⟩,gP 45 (.call 27) [.t 42,.t 44] 41 false,oP 46 .pick [.t 41,.c (.bool true),.t 45]] (.t 46) g90 .skip
def g2t:=Sq i7l g37
def g4G:=Rg [] [fP 52 1 (.l 6),lP 53 6 false 1 (.t 52),vP 1 (.c (.nilp)),vP 2 (.t 53),vP 3 (.c (.int .i64 1))]
def g53:=Sq g4G .ret
def f6I:=Ts [] [fP 49 1 (.l 6),lP 50 6 false 1 (.t 49),oP 51 (.call 28) [.t 50,.c (.str [95,95])]] (.t 51) g53 .skip
def i43:=Rg [] [nP 54 4,oP 55 .nilchk [.t 54],fP 56 1 (.t 55),oP 57 (.ldSt false 1) [.t 56],fP 58 1 (.l 6),lP 59 6 false 1 (.t 58),nP 60 5,op .none (.mset 1) [.t 57,.t 59,.t 60]]
def i2h:=Sq f6I i43
def i3t:=Sq g2t i2h
def i70:=Sq j4U i3t
def h6S:=Bk 1 i70
def i3H:=Rg [] [bP 61 .add (.v 16) (.c (.int .i64 1)),vP 16 (.t 61)]
def h1t:=Sq h6S i3H
def i5L:=Sq j3b h1t
def g24:=Lp i5L
def g9F:=Bk 0 g24
def i3e:=Sq j6u g9F
def f96:=Rg [] [vP 17 (.v 0),op (.v 18) .lenL [.v 17],vP 19 (.c (.int .i64 0))]
def h2P:=Ts [] [bP 65 .lss (.v 19) (.v 18)] (.t 65) .skip (.exit 2)
def i8a:=Rg [8] [oP 66 (.iad 4) [.v 17,.v 19],oP 67 (.ldRo true 4) [.t 66],⟨.bx,.alloc [.int .u8 0,.str [],.list true [],.list true []],[],some 8,none⟩,xP (.stLc 8 4) [.l 8,.ts 67] 8]
def h0Q:=Rg [9] [nP 68 4,lP 69 8 true 4 (.l 8),oP 70 (.call 29) [.t 68,.t 69],⟨.bx,.alloc [.int .i64 0,.str []],[],some 9,none⟩,xP (.stLc 9 2) [.l 9,.t 70] 9]
def i5E:=Rg [] [fP 74 1 (.l 9),lP 75 9 false 1 (.t 74),fP 76 0 (.l 9),lP 77 9 false 1 (.t 76),vP 1 (.c (.nilp)),vP 2 (.t 75),vP 3 (.t 77)]
def h6P:=Sq i5E .ret
def g2Q:=Ts [] [fP 71 0 (.l 9),lP 72 9 false 1 (.t 71),bP 73 .neq (.t 72) (.c (.int .i64 0))] (.t 73) h6P .skip
def g0V:=Sq h0Q g2Q
def i1e:=Sq i8a g0V
def g25:=Bk 3 i1e
def h0g:=Rg [] [bP 78 .add (.v 19) (.c (.int .i64 1)),vP 19 (.t 78)]
def i8f:=Sq g25 h0g
def i41:=Sq h2P i8f
def i22:=Lp i41
def f7R:=Bk 2 i22
def h4i:=Sq f96 f7R
def f7W:=Rg [10] [nP 80 4,oP 81 (.call 30) [.t 80,.c (.str [81,117,101,114,121])],mP 79 (.t 81),oP 82 (.ext 0) [.t 79],oP 83 (.ext 1) [.t 79],⟨.bx,.alloc [.int .u8 0,.str [],.list true [],.list true []],[],some 10,none⟩,xP (.stLc 10 4) [.l 10,.ts 82] 10,vP 11 (.t 83)]
def g08:=Rg [] [vP 1 (.c (.nilp)),op (.v 2) .mv [.c (.str [81,117,101,114,121])],vP 3 (.c (.int .i64 6))]
def f6a:=Sq g08 .ret
def h2E:=Ts [] [nP 84 11,oP 85 (.un .not) [.t 84],mP 86 (.t 85),gP 87 (.fad 0) [.l 10] 86 false,⟨.t 88,.ldLc 10 false 1,[.t 87],some 10,some (.t 86,false)⟩,gP 89 (.bin .neq) [.t 88,.c (.int .u8 1)] 86 false,oP 90 .pick [.t 86,.c (.bool true),.t 89]] (.t 90) f6a .skip
def f92:=Sq f7W h2E
def h29:=Rg [] [vP 20 (.v 0),op (.v 21) .lenL [.v 20],vP 22 (.c (.int .i64 0))]
def i3o:=Ts [] [bP 94 .lss (.v 22) (.v 21)] (.t 94) .skip (.exit 4)
def h9u:=Rg [12] [oP 95 (.iad 4) [.v 20,.v 22],oP 96 (.ldRo true 4) [.t 95],⟨.bx,.alloc [.int .u8 0,.str [],.list true [],.list true []],[],some 12,none⟩,xP (.stLc 12 4) [.l 12,.ts 96] 12]
def i8b:=Rg [13] [nP 97 4,lP 98 12 true 4 (.l 12),oP 99 (.call 31) [.t 97,.t 98],⟨.bx,.alloc [.int .i64 0,.str []],[],some 13,none⟩,xP (.stLc 13 2) [.l 13,.t 99] 13]
def h7e:=Rg [] [fP 103 1 (.l 13),lP 104 13 false 1 (.t 103),fP 105 0 (.l 13),lP 106 13 false 1 (.t 105),vP 1 (.c (.nilp)),vP 2 (.t 104),vP 3 (.t 106)]
def f8E:=Sq h7e .ret
def h1q:=Ts [] [fP 100 0 (.l 13),lP 101 13 false 1 (.t 100),bP 102 .neq (.t 101) (.c (.int .i64 0))] (.t 102) f8E .skip
def i2q:=Sq i8b h1q
def g95:=Sq h9u i2q
def i8l:=Bk 5 g95
def g9X:=Rg [] [bP 107 .add (.v 22) (.c (.int .i64 1)),vP 22 (.t 107)]
def f8q:=Sq i8l g9X
def g2W:=Sq i3o f8q
def i7O:=Lp g2W
def i7q:=Bk 4 i7O
def i1x:=Sq h29 i7q
def g7D:=Rg [] [nP 108 4,vP 1 (.t 108),op (.v 2) .mv [.c (.str [])],vP 3 (.c (.int .i64 0))]
def h1Y:=Sq g7D .ret
def i2j:=Sq i1x h1Y
def f9Y:=Sq f92 i2j
def h3e:=Sq h4i f9Y
def i5M:=Sq i3e h3e
def i1E:=Sq j61 i5M
def h4X:=Sq j2W i1E
def k3O:ACode :=
  h4X
def a16:AFn:={ np:=1,nv:=23,results:=[.v 1,.v 2,.v 3],code:=k3O }

def i9x:=Rg [] [vP 1 (.c (.nilp)),op (.v 2) .mv [.c (.str [])],vP 3 (.c (.int .i64 0))]
def j6r:=Rg [] [nP 14 0,oP 15 (.build [.list true []] [(0,1)]) [.t 14],oP 16 .boxO [.ts 15],vP 4 (.t 16)]
def j5a:=Rg [] [op (.v 5) .mv [.c (.list true [])]]
def j1d:=Rg [] [vP 6 (.c (.int .i64 0))]
def j7R:=Ts [] [nP 17 6,nP 18 0,oP 19 .lenL [.t 18],bP 20 .lss (.t 17) (.t 19)] (.t 20) .skip (.exit 0)
def f4e:=Rg [] [nP 23 0,nP 24 6,oP 25 (.iad 4) [.t 23,.t 24],fP 26 1 (.t 25),oP 27 (.ldRo false 1) [.t 26],vP 7 (.t 27)]
def h8o:=Rg [] [nP 35 7,vP 1 (.c (.nilp)),vP 2 (.t 35),vP 3 (.c (.int .i64 7))]
def i6K:=Sq h8o .ret
def h22:=Ts [] [nP 28 7,oP 29 (.call 32) [.t 28],mP 30 (.t 29),gP 31 .mv [.v 5] 30 false,gP 32 .mv [.v 7] 30 false,gP 33 (.call 33) [.t 31,.t 32] 30 false,oP 34 .pick [.t 30,.c (.bool true),.t 33]] (.t 34) i6K .skip
def f50:=Rg [] [nP 38 7,vP 1 (.c (.nilp)),vP 2 (.t 38),vP 3 (.c (.int .i64 1))]
def f4k:=Sq f50 .ret
def i0d:=Ts [] [nP 36 7,oP 37 (.call 34) [.t 36,.c (.str [95,95])]] (.t 37) f4k .skip
def g0j:=Rg [] [mP 39 (.vs 5),nP 40 7,oP 41 (.bslice 1 [[.str []]] [0]) [.t 40],oP 42 (.app 1 16) [.ts 39,.t 41],vP 5 (.ts 42)]
def g6s:=Sq i0d g0j
def g8l:=Sq h22 g6s
def g6O:=Sq f4e g8l
def h97:=Bk 1 g6O
def g0y:=Rg [] [nP 21 6,bP 22 .add (.t 21) (.c (.int .i64 1)),vP 6 (.t 22)]
def f7f:=Sq h97 g0y
def g9o:=Sq j7R f7f
def g8X:=Lp g9o
def h2N:=Bk 0 g8X
def i5G:=Sq j1d h2N
def i5J:=Rg [] [vP 8 (.c (.int .i64 0))]
def i4g:=Ts [] [nP 43 8,nP 44 0,oP 45 .lenL [.t 44],bP 46 .lss (.t 43) (.t 45)] (.t 46) .skip (.exit 2)
def i6v:=Rg [] [nP 50 4,nP 51 0,nP 52 8,oP 53 (.iad 4) [.t 51,.t 52],oP 54 (.ldRo true 4) [.t 53],oP 55 (.call 35) [.t 50,.t 54],mP 49 (.t 55),oP 56 (.ext 0) [.t 49],oP 57 (.ext 1) [.t 49],vP 9 (.t 56),vP 10 (.t 57)]
def g3W:=Rg [] [nP 60 9,nP 61 10,vP 1 (.c (.nilp)),vP 2 (.t 60),vP 3 (.t 61)]
def h31:=Sq g3W .ret
def i5P:=Ts [] [nP 58 10,bP 59 .neq (.t 58) (.c (.int .i64 0))] (.t 59) h31 .skip
def g1g:=Sq i6v i5P
def g9I:=Bk 3 g1g
def i2t:=Rg [] [nP 47 8,bP 48 .add (.t 47) (.c (.int .i64 1)),vP 8 (.t 48)]
def f5R:=Sq g9I i2t
def h6f:=Sq i4g f5R
def g6m:=Lp h6f
def g2l:=Bk 2 g6m
def i6o:=Sq i5J g2l
def i12:=Rg [] [vP 1 (.c (.nilp)),op (.v 2) .mv [.c (.str [81,117,101,114,121])],vP 3 (.c (.int .i64 6))]
def i4o:=Sq i12 .ret
def f7U:=Ts [] [nP 62 4,oP 63 (.call 36) [.t 62,.c (.str [81,117,101,114,121])],oP 64 (.fld 0 1 false) [.t 63],bP 65 .neq (.t 64) (.c (.int .u8 1))] (.t 65) i4o .skip
def f2L:=Rg [] [vP 11 (.c (.int .i64 0))]
def h86:=Ts [] [nP 66 11,nP 67 0,oP 68 .lenL [.t 67],bP 69 .lss (.t 66) (.t 68)] (.t 69) .skip (.exit 4)
def i02:=Ts [] [nP 72 0,nP 73 11,oP 74 (.iad 4) [.t 72,.t 73],fP 75 0 (.t 74),oP 76 (.ldRo false 1) [.t 75],bP 77 .neq (.t 76) (.c (.int .u8 1)),mP 78 (.t 77),gP 79 .mv [.v 0] 78 true,gP 80 .mv [.v 11] 78 true,gP 81 (.iad 4) [.t 79,.t 80] 78 true,gP 82 (.fad 0) [.t 81] 78 true,gP 83 (.ldRo false 1) [.t 82] 78 true,gP 84 (.bin .neq) [.t 83,.c (.int .u8 2)] 78 true,oP 85 .pick [.t 78,.t 84,.c (.bool false)]] (.t 85) (.exit 5) .skip
def h3L:=Rg [] [vP 12 (.c (.int .i64 0))]
def i19:=Ts [] [nP 86 12,nP 87 0,nP 88 11,oP 89 (.iad 4) [.t 87,.t 88],fP 90 2 (.t 89),oP 91 (.ldRo false 1) [.t 90],oP 92 .lenL [.t 91],bP 93 .lss (.t 86) (.t 92)] (.t 93) .skip (.exit 6)
def i1Z:=Rg [] [nP 111 0,nP 112 11,oP 113 (.iad 4) [.t 111,.t 112],fP 114 2 (.t 113),oP 115 (.ldRo false 1) [.t 114],nP 116 12,oP 117 (.iad 11) [.t 115,.t 116],fP 118 0 (.t 117),oP 119 (.ldRo false 1) [.t 118],vP 1 (.c (.nilp)),vP 2 (.t 119),vP 3 (.c (.int .i64 3))]
def f5s:=Sq i1Z .ret
def i72:=Ts [] [nP 96 4,nP 97 0,nP 98 11,oP 99 (.iad 4) [.t 97,.t 98],oP 100 (.ldRo true 4) [.t 99],nP 101 0,nP 102 11,oP 103 (.iad 4) [.t 101,.t 102],fP 104 2 (.t 103),oP 105 (.ldRo false 1) [.t 104],nP 106 12,oP 107 (.iad 11) [.t 105,.t 106],oP 108 (.ldRo true 11) [.t 107],oP 109 (.call 37) [.t 96,.t 100,.t 108],oP 110 (.un .not) [.t 109]] (.t 110) f5s .skip
def f8C:=Bk 7 i72
def f3w:=Rg [] [nP 94 12,bP 95 .add (.t 94) (.c (.int .i64 1)),vP 12 (.t 95)]
def i1V:=Sq f8C f3w
def i5F:=Sq i19 i1V
def h3E:=Lp i5F
def g71:=Bk 6 h3E
def i0o:=Sq h3L g71
def g91:=Sq i02 i0o
def i3m:=Bk 5 g91
def f4b:=Rg [] [nP 70 11,bP 71 .add (.t 70) (.c (.int .i64 1)),vP 11 (.t 71)]
def g4a:=Sq i3m f4b
def f6H:=Sq h86 g4a
def h6T:=Lp f6H
def g9B:=Bk 4 h6T
def f5n:=Sq f2L g9B
def g81:=Rg [] [nP 120 4,vP 1 (.t 120),op (.v 2) .mv [.c (.str [])],vP 3 (.c (.int .i64 0))]
def f4h:=Sq g81 .ret
def i7V:=Sq f5n f4h
def f4i:=Sq f7U i7V
def g4H:=Sq i6o f4i
def f6R:=Sq i5G g4H
def f5m:=Sq j5a f6R
def e3Z:=Sq j6r f5m
def e4C:=Sq i9x e3Z
def k0O:ACode :=
  e4C
def a17:AFn:={ np:=1,nv:=13,results:=[.v 1,.v 2,.v 3],code:=k0O }

def j1W:=Rg [2,3,4] [⟨.bx,.boxV,[.v 0],some 2,none⟩,⟨.bx,.boxV,[.v 1],some 3,none⟩,⟨.bx,.alloc [.nils],[],some 4,none⟩]
def j1V:=Rg [] [fP 8 0 (.l 2),lP 9 2 false 1 (.t 8),oP 10 (.call 22) [.t 9],vP 5 (.ts 10)]
def j5E:=Rg [] [lP 12 2 true 1 (.l 2),fP 13 1 (.l 3),lP 14 3 false 1 (.t 13),oP 15 (.call 38) [.t 12,.t 14],mP 11 (.t 15),oP 16 (.ext 0) [.t 11],oP 17 (.ext 1) [.t 11],vP 6 (.t 16),vP 7 (.t 17)]
def i9w:=Rg [] [nP 19 5,nP 20 6,lP 21 3 true 4 (.l 3),oP 22 (.iad 4) [.t 19,.t 20],op .none (.stSt 4) [.t 22,.ts 21]]
def g3C:=Rg [] [nP 23 5,nP 24 6,lP 25 3 true 4 (.l 3),oP 26 (.bslice 4 [[.str [],.str [],.list true [],.list true []]] [0]) [.t 25],oP 27 (.call 39) [.t 23,.t 24,.t 26],vP 5 (.ts 27)]
def i38:=Ts [] [nP 18 7] (.t 18) i9w g3C
def h5H:=Rg [] [nP 28 5,oP 29 (.build [.nils] [(0,1)]) [.t 28],xP (.stLc 4 1) [.l 4,.ts 29] 4]
def f3G:=Sq h5H .ret
def f62:=Sq i38 f3G
def h07:=Sq j5E f62
def f9c:=Sq j1V h07
def f4A:=Sq j1W f9c
def k3W:ACode :=
  f4A
def a18:AFn:={ np:=2,nv:=8,results:=[.bx 4 true 1],code:=k3W }

def j2I:=Rg [2] [⟨.bx,.alloc [.nils,.nils],[],some 2,none⟩,vP 3 (.c (.int .i64 0))]
def i9u:=Rg [4] [nP 10 1,oP 11 (.call 40) [.t 10],mP 9 (.t 11),oP 12 (.ext 0) [.t 9],oP 13 (.ext 1) [.t 9],oP 14 (.ext 2) [.t 9],⟨.bx,.alloc [.nils,.nils],[],some 4,none⟩,xP (.stLc 4 2) [.l 4,.ts 12] 4,mP 7 (.t 13),vP 5 (.t 14)]
def j03:=Rg [] [oP 17 (.build [.nils,.nils] []) [],nP 18 5,xP (.stLc 2 2) [.l 2,.ts 17] 2,vP 3 (.t 18)]
def j8T:=Sq j03 .ret
def j9c:=Ts [] [nP 15 5,bP 16 .neq (.t 15) (.c (.int .i64 0))] (.t 16) j8T .skip
def f3C:=Rg [] [oP 24 (.build [.nils,.nils] []) [],xP (.stLc 2 2) [.l 2,.ts 24] 2,vP 3 (.c (.int .i64 10))]
def i39:=Sq f3C .ret
def i73:=Ts [] [nP 19 0,lP 20 4 true 2 (.l 4),oP 21 (.call 41) [.t 19,.t 20],oP 22 .lenL [.t 21],bP 23 .gtr (.t 22) (.c (.int .i64 0))] (.t 23) i39 .skip
def i6Y:=Rg [] [lP 25 4 true 2 (.l 4),xP (.stLc 2 2) [.l 2,.ts 25] 2,vP 3 (.c (.int .i64 0))]
def f8d:=Sq i6Y .ret
def h2U:=Sq i73 f8d
def f9a:=Sq j9c h2U
def f7e:=Sq i9u f9a
def h6U:=Sq j2I f7e
def j92:ACode :=
  h6U
def a19:AFn:={ np:=2,nv:=6,results:=[.bx 2 true 2,.v 3],code:=j92 }

def j37:=Rg [5,6,7,8,9] [⟨.bx,.boxV,[.v 1],some 5,none⟩,⟨.bx,.boxV,[.v 2],some 6,none⟩,⟨.bx,.boxV,[.v 4],some 7,none⟩,⟨.bx,.alloc [.nils],[],some 8,none⟩,⟨.bx,.alloc [.int .i64 0,.int .u8 0,.int .i64 0,.str [],.list true [],.list true [],.list true []],[],some 9,none⟩]
def j21:=Rg [10] [lP 24 6 true 2 (.l 6),nP 25 3,oP 26 (.call 42) [.t 24,.t 25],mP 23 (.t 26),oP 27 (.ext 0) [.t 23],oP 28 (.ext 1) [.t 23],⟨.bx,.alloc [.bool false,.str [],.list true [],.list true []],[],some 10,none⟩,xP (.stLc 10 4) [.l 10,.ts 27] 10,vP 11 (.t 28)]
def i9b:=Rg [] [lP 31 5 true 1 (.l 5),nP 32 11,oP 33 (.build [.int .i64 0,.int .u8 0,.int .i64 0,.str [],.list true [],.list true [],.list true []] [(0,1)]) [.t 32],xP (.stLc 8 1) [.l 8,.ts 31] 8,xP (.stLc 9 7) [.l 9,.ts 33] 9]
def j3v:=Sq i9b .ret
def j5l:=Ts [] [nP 29 11,bP 30 .neq (.t 29) (.c (.int .i64 0))] (.t 30) j3v .skip
def h0o:=Rg [] [lP 37 5 true 1 (.l 5),oP 38 (.build [.int .i64 0,.int .u8 0,.int .i64 0,.str [],.list true [],.list true [],.list true []] [(0,1)]) [.c (.int .i64 15)],xP (.stLc 8 1) [.l 8,.ts 37] 8,xP (.stLc 9 7) [.l 9,.ts 38] 9]
def g0i:=Sq h0o .ret
def g7g:=Ts [] [fP 34 0 (.l 10),lP 35 10 false 1 (.t 34),oP 36 (.un .not) [.t 35]] (.t 36) g0i .skip
def i1I:=Rg [12] [nP 40 0,fP 41 2 (.l 10),lP 42 10 false 1 (.t 41),lP 43 7 true 5 (.l 7),oP 44 (.call 43) [.t 40,.t 42,.t 43],mP 39 (.t 44),oP 45 (.ext 0) [.t 39],oP 46 (.ext 1) [.t 39],oP 47 (.ext 2) [.t 39],⟨.bx,.alloc [.int .u8 0,.int .i64 0,.str [],.list true [],.list true []],[],some 12,none⟩,xP (.stLc 12 5) [.l 12,.ts 45] 12,mP 15 (.t 46),vP 11 (.t 47)]
def h1R:=Rg [] [lP 50 5 true 1 (.l 5),nP 51 11,oP 52 (.build [.int .i64 0,.int .u8 0,.int .i64 0,.str [],.list true [],.list true [],.list true []] [(0,1)]) [.t 51],xP (.stLc 8 1) [.l 8,.ts 50] 8,xP (.stLc 9 7) [.l 9,.ts 52] 9]
def i0c:=Sq h1R .ret
def h4I:=Ts [] [nP 48 11,bP 49 .neq (.t 48) (.c (.int .i64 0))] (.t 49) i0c .skip
def g4r:=Rg [] [nP 53 0,lP 54 6 true 2 (.l 6),lP 55 5 true 1 (.l 5),lP 56 12 true 5 (.l 12),oP 57 (.build [.nilp,.nils,.nils,.nils,.int .u8 0,.int .i64 0,.str [],.nils,.nils,.nils,.int .i64 0] [(0,1),(1,2),(3,1),(4,5)]) [.t 53,.t 54,.t 55,.t 56],oP 58 .boxO [.ts 57],vP 13 (.t 58)]
def g99:=Rg [] [oP 59 (.build [.int .u8 0,.int .i64 0,.str [],.list true [],.list true []] [(0,1)]) [.c (.int .u8 6)],op (.v 14) (.allocO [.int .u8 0,.int .i64 0,.str [],.list true [],.list true []]) [],op .none (.stSt 5) [.v 14,.ts 59]]
def f7o:=Rg [] [nP 60 0,lP 61 6 true 2 (.l 6),fP 62 3 (.l 10),lP 63 10 false 1 (.t 62),lP 64 12 true 5 (.l 12),op (.v 19) (.call 44) [.t 60,.t 61,.c (.str [77,117,116,97,116,105,111,110]),.t 63,.t 64],op (.v 20) .lenL [.v 19],vP 21 (.c (.int .i64 0))]
def h2p:=Ts [] [bP 68 .lss (.v 21) (.v 20)] (.t 68) .skip (.exit 0)
def i5Z:=Rg [15] [oP 69 (.iad 2) [.v 19,.v 21],oP 70 (.ldSt true 2) [.t 69],⟨.bx,.alloc [.str [],.list true []],[],some 15,none⟩,xP (.stLc 15 2) [.l 15,.ts 70] 15]
def f5P:=Rg [16] [nP 72 0,fP 73 1 (.l 15),lP 74 15 false 1 (.t 73),oP 75 (.iad 7) [.t 74,.c (.int .i64 0)],fP 76 2 (.t 75),oP 77 (.ldAn false 1) [.t 76],oP 78 (.call 45) [.t 72,.c (.str [77,117,116,97,116,105,111,110]),.t 77],mP 71 (.t 78),oP 79 (.ext 0) [.t 71],oP 80 (.ext 1) [.t 71],⟨.bx,.alloc [.str [],.list true [],.str [],.list true [],.bool false,.bool false,.int .u8 0,.int .i64 0,.str [],.list true [],.list true []],[],some 16,none⟩,xP (.stLc 16 11) [.l 16,.ts 79] 16,vP 17 (.t 80)]
def h2Q:=Ts [] [nP 81 17,oP 82 (.un .not) [.t 81]] (.t 82) (.exit 1) .skip
def f8p:=Rg [] [nP 83 13,oP 84 .nilchk [.t 83],fP 85 10 (.t 84),oP 86 (.ldSt false 1) [.t 85],bP 87 .add (.t 86) (.c (.int .i64 1)),oP 88 .nilchk [.t 83],fP 89 10 (.t 88),op .none (.stSt 1) [.t 89,.t 87]]
def f7S:=Rg [18] [nP 90 13,lP 91 16 true 11 (.l 16),lP 92 15 true 2 (.l 15),oP 93 (.call 46) [.t 90,.t 91,.t 92],⟨.bx,.alloc [.int .u8 0,.int .i64 0,.str [],.list true [],.list true []],[],some 18,none⟩,xP (.stLc 18 5) [.l 18,.ts 93] 18]
def g7A:=Rg [] [lP 99 5 true 1 (.l 5),oP 100 (.build [.int .i64 0,.int .u8 0,.int .i64 0,.str [],.list true [],.list true [],.list true []] [(0,1)]) [.c (.int .i64 2)],xP (.stLc 8 1) [.l 8,.ts 99] 8,xP (.stLc 9 7) [.l 9,.ts 100] 9]
def h9w:=Sq g7A .ret
def h4Y:=Ts [] [nP 94 13,oP 95 .nilchk [.t 94],fP 96 10 (.t 95),oP 97 (.ldSt false 1) [.t 96],bP 98 .gtr (.t 97) (.c (.int .i64 5000))] (.t 98) h9w .skip
def g11:=Rg [] [fP 101 3 (.v 14),oP 102 (.ldStSR 3) [.t 101,.v 14],fP 103 0 (.l 15),lP 104 15 false 1 (.t 103),oP 105 (.bslice 1 [[.str []]] [0]) [.t 104],oP 106 (.app 1 16) [.ts 102,.t 105],fP 107 4 (.v 14),oP 108 (.ldStSR 4) [.t 107,.v 14],lP 109 18 true 5 (.l 18),oP 110 (.bslice 5 [[.int .u8 0,.int .i64 0,.str [],.list true [],.list true []]] [0]) [.t 109],oP 111 (.app 5 80) [.ts 108,.t 110],fP 112 3 (.v 14),op .none (.stSt 1) [.t 112,.ts 106],fP 113 4 (.v 14),op .none (.stSt 1) [.t 113,.ts 111]]
def f9s:=Sq h4Y g11
def f8U:=Sq f7S f9s
def h7H:=Sq f8p f8U
def i47:=Sq h2Q h7H
def g2K:=Sq f5P i47
def g7f:=Sq i5Z g2K
def g8p:=Bk 1 g7f
def f8L:=Rg [] [bP 114 .add (.v 21) (.c (.int .i64 1)),vP 21 (.t 114)]
def f7t:=Sq g8p f8L
def g8b:=Sq h2p f7t
def f7X:=Lp g8b
def g14:=Bk 0 f7X
def i2i:=Sq f7o g14
def g2s:=Rg [] [lP 121 5 true 1 (.l 5),oP 122 (.ldSt true 5) [.v 14],nP 123 13,oP 124 .nilchk [.t 123],fP 125 9 (.t 124),oP 126 (.ldSt false 1) [.t 125],oP 127 (.build [.int .i64 0,.int .u8 0,.int .i64 0,.str [],.list true [],.list true [],.list true []] [(1,5),(6,1)]) [.t 122,.t 126],xP (.stLc 8 1) [.l 8,.ts 121] 8,xP (.stLc 9 7) [.l 9,.ts 127] 9]
def i5k:=Sq g2s .ret
def g47:=Ts [] [nP 115 13,oP 116 .nilchk [.t 115],fP 117 9 (.t 116),oP 118 (.ldSt false 1) [.t 117],oP 119 .lenL [.t 118],bP 120 .gtr (.t 119) (.c (.int .i64 0))] (.t 120) i5k .skip
def g4k:=Rg [] [nP 128 13,oP 129 .nilchk [.t 128],fP 130 3 (.t 129),oP 131 (.ldSt true 1) [.t 130],oP 132 (.ldSt true 5) [.v 14],oP 133 (.build [.int .i64 0,.int .u8 0,.int .i64 0,.str [],.list true [],.list true [],.list true []] [(1,5)]) [.t 132],xP (.stLc 8 1) [.l 8,.ts 131] 8,xP (.stLc 9 7) [.l 9,.ts 133] 9]
def g8r:=Sq g4k .ret
def h4H:=Sq g47 g8r
def h1X:=Sq i2i h4H
def g2P:=Sq g99 h1X
def h24:=Sq g4r g2P
def f38:=Sq h4I h24
def h3h:=Sq i1I f38
def g45:=Sq g7g h3h
def h4K:=Sq j5l g45
def f3q:=Sq j21 h4K
def f4T:=Sq j37 f3q
def k17:ACode :=
  f4T
def a20:AFn:={ np:=5,nv:=22,results:=[.bx 8 true 1,.bx 9 true 7],code:=k17 }

def a22:AFn:={ np:=1,nv:=0,results:=[],code:=.skip,ext:=some (Q2 4 80) }

def j7G:=Rg [] [op (.v 1) .mv [.c (.list true [])],vP 2 (.c (.int .i64 0)),vP 3 (.c (.int .i64 0))]
def j5Q:=Rg [] [op (.v 1) .mv [.c (.list true [])],vP 2 (.c (.int .i64 0)),vP 3 (.c (.int .i64 2))]
def j6W:=Sq j5Q .ret
def i9J:=Ts [] [nP 12 0,oP 13 .lenS [.t 12],bP 14 .gtr (.t 13) (.c (.int .i64 2000))] (.t 14) j6W .skip
def j38:=Rg [] [op (.v 4) .mv [.c (.list true [])]]
def g6y:=Rg [] [vP 5 (.c (.int .i64 0))]
def f5r:=Ts [] [nP 15 5,nP 16 0,oP 17 .lenS [.t 16],bP 18 .lss (.t 15) (.t 17)] (.t 18) .skip (.exit 0)
def f9B:=Rg [] [nP 19 0,nP 20 5,oP 21 .idxS [.t 19,.t 20],vP 6 (.t 21)]
def g7F:=Rg [] [nP 41 5,bP 42 .add (.t 41) (.c (.int .i64 1)),vP 5 (.t 42)]
def f7L:=Sq g7F (.exit 1)
def g5j:=Ts [] [nP 46 5,nP 47 0,oP 48 .lenS [.t 47],bP 49 .lss (.t 46) (.t 48),mP 50 (.t 49),gP 51 .mv [.v 0] 50 true,gP 52 .mv [.v 5] 50 true,gP 53 .idxS [.t 51,.t 52] 50 true,gP 54 (.bin .neq) [.t 53,.c (.int .u8 10)] 50 true,oP 55 .pick [.t 50,.t 54,.c (.bool false)]] (.t 55) .skip (.exit 3)
def f2J:=Rg [] [nP 56 5,bP 57 .add (.t 56) (.c (.int .i64 1)),vP 5 (.t 57)]
def i6F:=Bk 4 f2J
def i4I:=Sq g5j i6F
def g5B:=Lp i4I
def h2R:=Bk 3 g5B
def i7y:=Sq h2R (.exit 1)
def i2K:=Ts [] [nP 44 6,bP 45 .eql (.t 44) (.c (.int .u8 35)),mP 43 (.t 45)] (.t 43) i7y .skip
def f4S:=Ts [] [nP 23 6,bP 24 .eql (.t 23) (.c (.int .u8 32)),mP 25 (.t 24),gP 26 .mv [.v 6] 25 false,gP 27 (.bin .eql) [.t 26,.c (.int .u8 10)] 25 false,oP 28 .pick [.t 25,.c (.bool true),.t 27],mP 29 (.t 28),gP 30 .mv [.v 6] 29 false,gP 31 (.bin .eql) [.t 30,.c (.int .u8 9)] 29 false,oP 32 .pick [.t 29,.c (.bool true),.t 31],mP 33 (.t 32),gP 34 .mv [.v 6] 33 false,gP 35 (.bin .eql) [.t 34,.c (.int .u8 13)] 33 false,oP 36 .pick [.t 33,.c (.bool true),.t 35],mP 37 (.t 36),gP 38 .mv [.v 6] 37 false,gP 39 (.bin .eql) [.t 38,.c (.int .u8 44)] 37 false,oP 40 .pick [.t 37,.c (.bool true),.t 39],mP 22 (.t 40)] (.t 22) f7L i2K
def f3i:=Bk 2 f4S
def i3c:=Rg [7] [nP 59 0,nP 60 5,oP 61 (.call 48) [.t 59,.t 60],mP 58 (.t 61),oP 62 (.ext 0) [.t 58],oP 63 (.ext 1) [.t 58],oP 64 (.ext 2) [.t 58],oP 65 (.ext 3) [.t 58],⟨.bx,.alloc [.int .u8 0,.str [],.int .i64 0,.int .i64 0],[],some 7,none⟩,xP (.stLc 7 4) [.l 7,.t 62] 7,vP 8 (.t 63),vP 9 (.t 64),vP 10 (.t 65)]
def h4j:=Rg [] [nP 68 9,nP 69 10,op (.v 1) .mv [.c (.list true [])],vP 2 (.t 68),vP 3 (.t 69)]
def g7P:=Sq h4j .ret
def h2C:=Ts [] [nP 66 10,bP 67 .neq (.t 66) (.c (.int .i64 0))] (.t 67) g7P .skip
def g5t:=Rg [] [nP 70 5,fP 71 3 (.l 7),xP (.stLc 7 1) [.t 71,.t 70] 7]
def h1C:=Rg [] [mP 72 (.vs 4),lP 73 7 true 4 (.l 7),oP 74 (.bslice 4 [[.int .u8 0,.str [],.int .i64 0,.int .i64 0]] [0]) [.t 73],oP 75 (.app 4 40) [.ts 72,.t 74],vP 4 (.ts 75)]
def i1g:=Rg [] [nP 76 8,vP 5 (.t 76)]
def i0r:=Sq h1C i1g
def i1k:=Sq g5t i0r
def h3P:=Sq h2C i1k
def i2I:=Sq i3c h3P
def i1F:=Sq f3i i2I
def f6Z:=Sq f9B i1F
def i6T:=Bk 1 f6Z
def h9P:=Sq f5r i6T
def h5T:=Lp h9P
def f8g:=Bk 0 h5T
def i2Y:=Rg [] [mP 77 (.vs 4),nP 78 5,oP 79 (.build [.int .u8 0,.str [],.int .i64 0,.int .i64 0] [(3,1)]) [.t 78],oP 80 (.bslice 4 [[.int .u8 0,.str [],.int .i64 0,.int .i64 0]] [0]) [.t 79],oP 81 (.app 4 40) [.ts 77,.t 80],vP 1 (.ts 81),vP 2 (.c (.int .i64 0)),vP 3 (.c (.int .i64 0))]
def h6w:=Sq i2Y .ret
def i24:=Sq f8g h6w
def i7D:=Sq g6y i24
def f6D:=Sq j38 i7D
def h9m:=Sq i9J f6D
def f6A:=Sq j7G h9m
def k0w:ACode :=
  f6A
def a23:AFn:={ np:=1,nv:=11,results:=[.v 1,.v 2,.v 3],code:=k0w }

def j59:=Rg [] [vP 2 (.c (.bool false))]
def j6S:=Rg [] [nP 5 0,oP 6 .nilchk [.t 5],fP 7 4 (.t 6),oP 8 (.ldSt false 1) [.t 7],bP 9 .eql (.t 8) (.c (.int .i64 0)),mP 10 (.t 9),gP 11 .mv [.v 0] 10 true,gP 12 .nilchk [.t 11] 10 true,gP 13 (.fad 0) [.t 12] 10 true,gP 14 (.ldSt false 1) [.t 13] 10 true,gP 15 .mv [.v 0] 10 true,gP 16 .nilchk [.t 15] 10 true,gP 17 (.fad 1) [.t 16] 10 true,gP 18 (.ldSt false 1) [.t 17] 10 true,gP 19 (.iad 4) [.t 14,.t 18] 10 true,gP 20 (.fad 0) [.t 19] 10 true,gP 21 (.ldRo false 1) [.t 20] 10 true,gP 22 .mv [.v 1] 10 true,gP 23 (.bin .eql) [.t 21,.t 22] 10 true,oP 24 .pick [.t 10,.t 23,.c (.bool false)],vP 2 (.t 24)]
def j7w:=Sq j6S .ret
def j40:=Sq j59 j7w
def j9A:ACode :=
  j40
def a24:AFn:={ np:=2,nv:=3,results:=[.v 2],code:=j9A }

def j50:=Rg [1] [⟨.bx,.alloc [.int .u8 0,.str [],.list true [],.list true []],[],some 1,none⟩]
def j2q:=Rg [2] [⟨.bx,.alloc [.int .u8 0,.str [],.list true [],.list true []],[],some 2,none⟩]
def j0w:=Rg [] [fP 13 0 (.l 2),xP (.stLc 2 1) [.t 13,.c (.int .u8 1)] 2]
def i9Y:=Rg [] [fP 17 0 (.l 2),xP (.stLc 2 1) [.t 17,.c (.int .u8 2)] 2]
def i2L:=Rg [] [fP 21 0 (.l 2),xP (.stLc 2 1) [.t 21,.c (.int .u8 3)] 2]
def h65:=Rg [] [fP 25 0 (.l 2),xP (.stLc 2 1) [.t 25,.c (.int .u8 4)] 2]
def h5g:=Rg [] [fP 29 0 (.l 2),xP (.stLc 2 1) [.t 29,.c (.int .u8 5)] 2]
def g8e:=Rg [] [nP 7 0,oP 8 (.call 50) [.t 7,.c (.int .i64 4)]]
def h7d:=Rg [] [lP 9 2 true 4 (.l 2),xP (.stLc 1 4) [.l 1,.ts 9] 1]
def g8f:=Sq h7d .ret
def g2O:=Sq g8e g8f
def h4d:=Ts [] [nP 27 0,oP 28 (.call 49) [.t 27,.c (.str [105,110,112,117,116])],mP 26 (.t 28)] (.t 26) h5g g2O
def f6X:=Ts [] [nP 23 0,oP 24 (.call 49) [.t 23,.c (.str [101,110,117,109])],mP 22 (.t 24)] (.t 22) h65 h4d
def h6J:=Ts [] [nP 19 0,oP 20 (.call 49) [.t 19,.c (.str [117,110,105,111,110])],mP 18 (.t 20)] (.t 18) i2L f6X
def i7u:=Ts [] [nP 15 0,oP 16 (.call 49) [.t 15,.c (.str [105,110,116,101,114,102,97,99,101])],mP 14 (.t 16)] (.t 14) i9Y h6J
def h8E:=Ts [] [nP 11 0,oP 12 (.call 49) [.t 11,.c (.str [116,121,112,101])],mP 10 (.t 12)] (.t 10) j0w i7u
def i6l:=Bk 0 h8E
def i6N:=Rg [] [nP 30 0,oP 31 .nilchk [.t 30],fP 32 1 (.t 31),oP 33 (.ldSt false 1) [.t 32],bP 34 .add (.t 33) (.c (.int .i64 1)),oP 35 .nilchk [.t 30],fP 36 1 (.t 35),op .none (.stSt 1) [.t 36,.t 34]]
def h0i:=Rg [] [nP 37 0,oP 38 (.call 51) [.t 37],fP 39 1 (.l 2),xP (.stLc 2 1) [.t 39,.t 38] 2]
def i3f:=Rg [] [fP 40 0 (.l 2),⟨.v 6,.ldLc 2 false 1,[.t 40],some 2,none⟩]
def h7G:=Rg [] [nP 88 0,oP 89 (.call 52) [.t 88,.c (.str [61])]]
def i1f:=Rg [] [nP 90 0,oP 91 (.call 53) [.t 90,.c (.str [124])],fP 92 3 (.l 2),xP (.stLc 2 1) [.t 92,.ts 91] 2]
def i0J:=Sq h7G i1f
def g1v:=Rg [] [nP 95 0,oP 96 (.call 52) [.t 95,.c (.str [123])]]
def f4m:=Rg [] [vP 3 (.c (.bool true))]
def f48:=Ts [] [nP 97 0,oP 98 .nilchk [.t 97],fP 99 4 (.t 98),oP 100 (.ldSt false 1) [.t 99],bP 101 .eql (.t 100) (.c (.int .i64 0)),mP 102 (.t 101),gP 103 .mv [.v 3] 102 true,gP 104 .mv [.t 103] 102 true,gP 105 .mv [.v 0] 104 false,gP 106 (.call 54) [.t 105,.c (.str [125])] 104 false,gP 107 (.un .not) [.t 106] 104 false,gP 108 .pick [.t 104,.c (.bool true),.t 107] 102 true,oP 109 .pick [.t 102,.t 108,.c (.bool false)]] (.t 109) .skip (.exit 4)
def g5y:=Rg [] [nP 120 0,oP 121 (.call 50) [.t 120,.c (.int .i64 4)]]
def i00:=Ts [] [nP 110 0,oP 111 (.call 49) [.t 110,.c (.str [116,114,117,101])],mP 112 (.t 111),gP 113 .mv [.v 0] 112 false,gP 114 (.call 49) [.t 113,.c (.str [102,97,108,115,101])] 112 false,oP 115 .pick [.t 112,.c (.bool true),.t 114],mP 116 (.t 115),gP 117 .mv [.v 0] 116 false,gP 118 (.call 49) [.t 117,.c (.str [110,117,108,108])] 116 false,oP 119 .pick [.t 116,.c (.bool true),.t 118]] (.t 119) g5y .skip
def h7s:=Rg [] [fP 122 3 (.l 2),⟨.t 123,.ldLcS 2,[.t 122],some 2,none⟩,nP 124 0,oP 125 (.call 51) [.t 124],oP 126 (.bslice 1 [[.str []]] [0]) [.t 125],oP 127 (.app 1 16) [.ts 123,.t 126],fP 128 3 (.l 2),xP (.stLc 2 1) [.t 128,.ts 127] 2]
def g7t:=Sq i00 h7s
def f3W:=Bk 5 g7t
def i4K:=Rg [] [vP 3 (.c (.bool false))]
def f4C:=Sq f3W i4K
def h2c:=Sq f48 f4C
def i1R:=Lp h2c
def f43:=Bk 4 i1R
def g9c:=Sq f4m f43
def f6V:=Sq g1v g9c
def g27:=Rg [] [nP 131 0,oP 132 (.call 52) [.t 131,.c (.str [123])]]
def g5A:=Rg [] [nP 133 0,oP 134 (.call 55) [.t 133,.c (.str [125])],fP 135 2 (.l 2),xP (.stLc 2 1) [.t 135,.ts 134] 2]
def g0o:=Sq g27 g5A
def h5A:=Rg [] [nP 49 0,oP 50 (.call 53) [.t 49,.c (.str [38])],fP 51 3 (.l 2),xP (.stLc 2 1) [.t 51,.ts 50] 2]
def g1G:=Ts [] [fP 42 0 (.l 2),lP 43 2 false 1 (.t 42),bP 44 .eql (.t 43) (.c (.int .u8 1)),mP 45 (.t 44),gP 46 .mv [.v 0] 45 true,gP 47 (.call 54) [.t 46,.c (.str [105,109,112,108,101,109,101,110,116,115])] 45 true,oP 48 .pick [.t 45,.t 47,.c (.bool false)]] (.t 48) h5A .skip
def h7I:=Rg [] [nP 52 0,oP 53 (.call 52) [.t 52,.c (.str [123])]]
def g0R:=Rg [] [vP 4 (.c (.bool true))]
def h6i:=Ts [] [nP 54 0,oP 55 .nilchk [.t 54],fP 56 4 (.t 55),oP 57 (.ldSt false 1) [.t 56],bP 58 .eql (.t 57) (.c (.int .i64 0)),mP 59 (.t 58),gP 60 .mv [.v 4] 59 true,gP 61 .mv [.t 60] 59 true,gP 62 .mv [.v 0] 61 false,gP 63 (.call 54) [.t 62,.c (.str [125])] 61 false,gP 64 (.un .not) [.t 63] 61 false,gP 65 .pick [.t 61,.c (.bool true),.t 64] 59 true,oP 66 .pick [.t 59,.t 65,.c (.bool false)]] (.t 66) .skip (.exit 2)
def f24:=Rg [5] [nP 67 0,oP 68 (.call 51) [.t 67],oP 69 (.build [.str [],.list true [],.str [],.list true [],.bool false,.bool false,.int .u8 0,.int .i64 0,.str [],.list true [],.list true []] [(0,1)]) [.t 68],⟨.bx,.alloc [.str [],.list true [],.str [],.list true [],.bool false,.bool false,.int .u8 0,.int .i64 0,.str [],.list true [],.list true []],[],some 5,none⟩,xP (.stLc 5 11) [.l 5,.ts 69] 5]
def g8U:=Rg [] [nP 72 0,oP 73 (.call 55) [.t 72,.c (.str [41])],fP 74 1 (.l 5),xP (.stLc 5 1) [.t 74,.ts 73] 5]
def f4d:=Ts [] [nP 70 0,oP 71 (.call 54) [.t 70,.c (.str [40])]] (.t 71) g8U .skip
def h8G:=Rg [] [nP 75 0,oP 76 (.call 52) [.t 75,.c (.str [58])]]
def i05:=Rg [] [nP 77 0,oP 78 (.call 56) [.t 77],fP 79 2 (.l 5),xP (.stLc 5 3) [.t 79,.ts 78] 5]
def f9d:=Rg [] [fP 80 2 (.l 2),⟨.t 81,.ldLcS 2,[.t 80],some 2,none⟩,lP 82 5 true 11 (.l 5),oP 83 (.bslice 11 [[.str [],.list true [],.str [],.list true [],.bool false,.bool false,.int .u8 0,.int .i64 0,.str [],.list true [],.list true []]] [0]) [.t 82],oP 84 (.app 11 176) [.ts 81,.t 83],fP 85 2 (.l 2),xP (.stLc 2 1) [.t 85,.ts 84] 2]
def f2z:=Sq i05 f9d
def h7Q:=Sq h8G f2z
def f3U:=Sq f4d h7Q
def g6X:=Sq f24 f3U
def h25:=Bk 3 g6X
def d9j:=Rg [] [vP 4 (.c (.bool false))]
def c5f:=Sq h25 d9j
def d2i:=Sq h6i c5f
def b6o:=Lp d2i
def c1o:=Bk 2 b6o
def e4v:=Sq g0R c1o
def d1y:=Sq h7I e4v
def e66:=Sq g1G d1y
def d3e:=Ts [] [bP 130 .eql (.v 6) (.c (.int .u8 5)),mP 129 (.t 130)] (.t 129) g0o e66
def d7c:=Ts [] [bP 94 .eql (.v 6) (.c (.int .u8 4)),mP 93 (.t 94)] (.t 93) f6V d3e
def e0M:=Ts [] [bP 87 .eql (.v 6) (.c (.int .u8 3)),mP 86 (.t 87)] (.t 86) i0J d7c
def c9T:=Bk 1 e0M
def c0J:=Sq i3f c9T
def e9L:=Rg [] [lP 136 2 true 4 (.l 2),xP (.stLc 1 4) [.l 1,.ts 136] 1]
def f1U:=Sq e9L .ret
def b7d:=Sq c0J f1U
def e9C:=Sq h0i b7d
def e2O:=Sq i6N e9C
def e5Y:=Sq i6l e2O
def f0M:=Sq j2q e5Y
def d0o:=Sq j50 f0M
def k0b:ACode :=
  d0o
def a25:AFn:={ np:=1,nv:=7,results:=[.bx 1 true 4],code:=k0b }

def a26:AFn:={ np:=1,nv:=0,results:=[],code:=.skip,ext:=some (O8 4 72) }
def j2K:=Rg [] [vP 2 (.c (.bool false))]
def j5n:=Rg [] [nP 5 0,nP 6 1,oP 7 (.call 57) [.t 5,.t 6],bP 8 .geq (.t 7) (.c (.int .i64 0)),vP 2 (.t 8)]
def j6d:=Sq j5n .ret
def j1v:=Sq j2K j6d
def k27:ACode :=
  j1v
def a27:AFn:={ np:=2,nv:=3,results:=[.v 2],code:=k27 }

def j0A:=Rg [] [vP 2 (.c (.bool false))]
def j6a:=Rg [] [nP 5 0,nP 6 1,oP 7 (.call 58) [.t 5,.t 6],vP 2 (.t 7)]
def j7F:=Sq j6a .ret
def j5T:=Sq j0A j7F
def k0E:ACode :=
  j5T
def a28:AFn:={ np:=2,nv:=3,results:=[.v 2],code:=k0E }

def j17:=Rg [2,3] [⟨.bx,.boxV,[.v 1],some 2,none⟩,⟨.bx,.alloc [.int .i64 0,.str []],[],some 3,none⟩]
def j8b:=Rg [4] [fP 16 2 (.l 2),lP 17 2 false 1 (.t 16),oP 18 (.call 60) [.t 17],fP 19 3 (.l 2),lP 20 2 false 1 (.t 19),oP 21 (.app 1 16) [.ts 18,.t 20],oP 22 (.call 59) [.t 21],⟨.bx,.alloc [.int .i64 0,.str []],[],some 4,none⟩,xP (.stLc 4 2) [.l 4,.t 22] 4]
def i8E:=Rg [] [lP 31 4 true 2 (.l 4),xP (.stLc 3 2) [.l 3,.t 31] 3]
def j8U:=Sq i8E .ret
def i9G:=Ts [] [fP 23 0 (.l 4),lP 24 4 false 1 (.t 23),bP 25 .neq (.t 24) (.c (.int .i64 0)),mP 26 (.t 25),gP 27 (.fad 0) [.l 2] 26 true,⟨.t 28,.ldLc 2 false 1,[.t 27],some 2,some (.t 26,true)⟩,gP 29 (.bin .neq) [.t 28,.c (.int .u8 1)] 26 true,oP 30 .pick [.t 26,.t 29,.c (.bool false)]] (.t 30) j8U .skip
def j5m:=Sq j8b i9G
def f5o:=Rg [5] [fP 32 2 (.l 2),lP 33 2 false 1 (.t 32),oP 34 (.call 60) [.t 33],oP 35 (.call 59) [.t 34],⟨.bx,.alloc [.int .i64 0,.str []],[],some 5,none⟩,xP (.stLc 5 2) [.l 5,.t 35] 5]
def h8u:=Rg [] [lP 39 5 true 2 (.l 5),xP (.stLc 3 2) [.l 3,.t 39] 3]
def g0Z:=Sq h8u .ret
def g64:=Ts [] [fP 36 0 (.l 5),lP 37 5 false 1 (.t 36),bP 38 .neq (.t 37) (.c (.int .i64 0))] (.t 38) g0Z .skip
def f7I:=Sq f5o g64
def g4J:=Rg [6] [fP 40 3 (.l 2),lP 41 2 false 1 (.t 40),oP 42 (.call 59) [.t 41],⟨.bx,.alloc [.int .i64 0,.str []],[],some 6,none⟩,xP (.stLc 6 2) [.l 6,.t 42] 6]
def h9i:=Rg [] [lP 46 6 true 2 (.l 6),xP (.stLc 3 2) [.l 3,.t 46] 3]
def f8H:=Sq h9i .ret
def h9F:=Ts [] [fP 43 0 (.l 6),lP 44 6 false 1 (.t 43),bP 45 .neq (.t 44) (.c (.int .i64 0))] (.t 45) f8H .skip
def g4M:=Sq g4J h9F
def g6x:=Rg [] [fP 47 2 (.l 2),⟨.v 13,.ldLc 2 false 1,[.t 47],some 2,none⟩,op (.v 14) .lenL [.v 13],vP 15 (.c (.int .i64 0))]
def g9C:=Ts [] [bP 51 .lss (.v 15) (.v 14)] (.t 51) .skip (.exit 0)
def h17:=Rg [7] [oP 52 (.iad 11) [.v 13,.v 15],oP 53 (.ldRo true 11) [.t 52],⟨.bx,.alloc [.str [],.list true [],.str [],.list true [],.bool false,.bool false,.int .u8 0,.int .i64 0,.str [],.list true [],.list true []],[],some 7,none⟩,xP (.stLc 7 11) [.l 7,.ts 53] 7]
def g1P:=Rg [8] [nP 54 0,lP 55 7 true 11 (.l 7),fP 56 0 (.l 2),lP 57 2 false 1 (.t 56),bP 58 .eql (.t 57) (.c (.int .u8 5)),oP 59 (.call 61) [.t 54,.t 55,.t 58],⟨.bx,.alloc [.int .i64 0,.str []],[],some 8,none⟩,xP (.stLc 8 2) [.l 8,.t 59] 8]
def h4P:=Rg [] [lP 63 8 true 2 (.l 8),xP (.stLc 3 2) [.l 3,.t 63] 3]
def f46:=Sq h4P .ret
def g9n:=Ts [] [fP 60 0 (.l 8),lP 61 8 false 1 (.t 60),bP 62 .neq (.t 61) (.c (.int .i64 0))] (.t 62) f46 .skip
def i8k:=Sq g1P g9n
def g0n:=Sq h17 i8k
def g3F:=Bk 1 g0n
def h6t:=Rg [] [bP 64 .add (.v 15) (.c (.int .i64 1)),vP 15 (.t 64)]
def g0p:=Sq g3F h6t
def g7L:=Sq g9C g0p
def h62:=Lp g7L
def g61:=Bk 0 h62
def h8P:=Sq g6x g61
def i3E:=Rg [] [oP 65 .mkM [],op .none (.mset 0) [.t 65,.c (.int .u8 1),.c (.int .u8 2)],op .none (.mset 0) [.t 65,.c (.int .u8 3),.c (.int .u8 1)],mP 66 (.t 65),fP 67 0 (.l 2),lP 68 2 false 1 (.t 67),oP 69 (.mget 0 [.int .u8 0] false false) [.t 66,.t 68],vP 9 (.t 69)]
def i1y:=Rg [] [fP 70 3 (.l 2),⟨.v 16,.ldLc 2 false 1,[.t 70],some 2,none⟩,op (.v 17) .lenL [.v 16],vP 18 (.c (.int .i64 0))]
def f4Y:=Ts [] [bP 74 .lss (.v 18) (.v 17)] (.t 74) .skip (.exit 2)
def h28:=Rg [] [oP 75 (.iad 1) [.v 16,.v 18],oP 76 (.ldAn false 1) [.t 75],vP 10 (.t 76)]
def g0B:=Rg [11] [nP 78 0,nP 79 10,oP 80 (.call 30) [.t 78,.t 79],mP 77 (.t 80),oP 81 (.ext 0) [.t 77],oP 82 (.ext 1) [.t 77],⟨.bx,.alloc [.int .u8 0,.str [],.list true [],.list true []],[],some 11,none⟩,xP (.stLc 11 4) [.l 11,.ts 81] 11,vP 12 (.t 82)]
def i3N:=Rg [] [nP 90 10,oP 91 (.build [.int .i64 0,.str []] [(0,1),(1,1)]) [.c (.int .i64 6),.t 90],xP (.stLc 3 2) [.l 3,.t 91] 3]
def f5b:=Sq i3N .ret
def g5P:=Rg [] [nP 101 10,oP 102 (.build [.int .i64 0,.str []] [(0,1),(1,1)]) [.c (.int .i64 8),.t 101],xP (.stLc 3 2) [.l 3,.t 102] 3]
def f7p:=Sq g5P .ret
def g5i:=Rg [] [nP 114 10,oP 115 (.build [.int .i64 0,.str []] [(0,1),(1,1)]) [.c (.int .i64 3),.t 114],xP (.stLc 3 2) [.l 3,.t 115] 3]
def g2Y:=Sq g5i .ret
def h2n:=Ts [] [fP 104 0 (.l 2),lP 105 2 false 1 (.t 104),bP 106 .eql (.t 105) (.c (.int .u8 1)),mP 107 (.t 106),gP 108 .mv [.v 0] 107 true,⟨.t 109,.ldLc 2 true 4,[.l 2],some 2,some (.t 107,true)⟩,⟨.t 110,.ldLc 11 true 4,[.l 11],some 11,some (.t 107,true)⟩,gP 111 (.call 63) [.t 108,.t 109,.t 110] 107 true,gP 112 (.un .not) [.t 111] 107 true,oP 113 .pick [.t 107,.t 112,.c (.bool false)],mP 103 (.t 113)] (.t 103) g2Y .skip
def h2k:=Ts [] [fP 93 0 (.l 11),lP 94 11 false 1 (.t 93),nP 95 9,bP 96 .neq (.t 94) (.t 95),mP 97 (.t 96),gP 98 .mv [.v 10] 97 false,gP 99 (.call 62) [.t 98] 97 false,oP 100 .pick [.t 97,.c (.bool true),.t 99],mP 92 (.t 100)] (.t 92) f7p h2n
def h9g:=Ts [] [nP 88 12,oP 89 (.un .not) [.t 88],mP 87 (.t 89)] (.t 87) f5b h2k
def f8c:=Ts [] [fP 84 0 (.l 2),lP 85 2 false 1 (.t 84),bP 86 .eql (.t 85) (.c (.int .u8 4)),mP 83 (.t 86)] (.t 83) .skip h9g
def g56:=Bk 4 f8c
def g8W:=Sq g0B g56
def h9U:=Sq h28 g8W
def g5x:=Bk 3 h9U
def g4c:=Rg [] [bP 116 .add (.v 18) (.c (.int .i64 1)),vP 18 (.t 116)]
def f7V:=Sq g5x g4c
def h11:=Sq f4Y f7V
def i5f:=Lp h11
def g7J:=Bk 2 i5f
def f9S:=Sq i1y g7J
def h5b:=Rg [] [oP 117 (.build [.int .i64 0,.str []] []) [],xP (.stLc 3 2) [.l 3,.t 117] 3]
def h3O:=Sq h5b .ret
def g4C:=Sq f9S h3O
def g34:=Sq i3E g4C
def h9E:=Sq h8P g34
def g0m:=Sq g4M h9E
def g4s:=Sq f7I g0m
def h3d:=Sq j5m g4s
def f2G:=Sq j17 h3d
def k0n:ACode :=
  f2G
def a29:AFn:={ np:=2,nv:=19,results:=[.bx 3 true 2],code:=k0n }

def j5B:=Rg [2] [⟨.bx,.alloc [.int .u8 0,.str [],.list true [],.list true []],[],some 2,none⟩,vP 3 (.c (.bool false))]
def j6i:=Rg [] [oP 10 (.build [.int .u8 0,.str [],.list true [],.list true []] []) [],xP (.stLc 2 4) [.l 2,.ts 10] 2,vP 3 (.c (.bool false))]
def j0J:=Sq j6i .ret
def j1a:=Ts [] [nP 8 0,oP 9 (.binP .eql) [.t 8,.c (.nilp)]] (.t 9) j0J .skip
def j5p:=Rg [] [nP 12 0,oP 13 .nilchk [.t 12],fP 14 1 (.t 13),oP 15 (.ldSt false 1) [.t 14],nP 16 1,oP 17 (.mget 1 [.int .i64 0] false true) [.t 15,.t 16],mP 11 (.t 17),oP 18 (.ext 0) [.t 11],oP 19 (.ext 1) [.t 11],vP 4 (.t 18),vP 5 (.t 19)]
def f6n:=Rg [] [oP 22 (.build [.int .u8 0,.str [],.list true [],.list true []] []) [],xP (.stLc 2 4) [.l 2,.ts 22] 2,vP 3 (.c (.bool false))]
def g0b:=Sq f6n .ret
def f8Y:=Ts [] [nP 20 5,oP 21 (.un .not) [.t 20]] (.t 21) g0b .skip
def h1o:=Rg [] [nP 23 0,oP 24 .nilchk [.t 23],fP 25 0 (.t 24),oP 26 (.ldSt false 1) [.t 25],nP 27 4,oP 28 (.iad 4) [.t 26,.t 27],oP 29 (.ldRo true 4) [.t 28],xP (.stLc 2 4) [.l 2,.ts 29] 2,vP 3 (.c (.bool true))]
def g1l:=Sq h1o .ret
def g7C:=Sq f8Y g1l
def h9V:=Sq j5p g7C
def f84:=Sq j1a h9V
def f7k:=Sq j5B f84
def k12:ACode :=
  f7k
def a30:AFn:={ np:=2,nv:=6,results:=[.bx 2 true 4,.v 3],code:=k12 }

def j8O:=Rg [2,3] [⟨.bx,.boxV,[.v 1],some 2,none⟩,⟨.bx,.alloc [.int .i64 0,.str []],[],some 3,none⟩]
def j7L:=Rg [] [oP 16 (.build [.int .i64 0,.str []] []) [],xP (.stLc 3 2) [.l 3,.t 16] 3]
def j56:=Sq j7L .ret
def i9i:=Ts [] [fP 8 0 (.l 2),lP 9 2 false 1 (.t 8),bP 10 .neq (.t 9) (.c (.int .u8 1)),mP 11 (.t 10),gP 12 (.fad 0) [.l 2] 11 true,⟨.t 13,.ldLc 2 false 1,[.t 12],some 2,some (.t 11,true)⟩,gP 14 (.bin .neq) [.t 13,.c (.int .u8 2)] 11 true,oP 15 .pick [.t 11,.t 14,.c (.bool false)]] (.t 15) j56 .skip
def j8v:=Rg [] [fP 17 2 (.l 2),⟨.v 6,.ldLc 2 false 1,[.t 17],some 2,none⟩,op (.v 7) .lenL [.v 6],vP 8 (.c (.int .i64 0))]
def i09:=Ts [] [bP 21 .lss (.v 8) (.v 7)] (.t 21) .skip (.exit 0)
def g3I:=Rg [4] [oP 22 (.iad 11) [.v 6,.v 8],oP 23 (.ldRo true 11) [.t 22],⟨.bx,.alloc [.str [],.list true [],.str [],.list true [],.bool false,.bool false,.int .u8 0,.int .i64 0,.str [],.list true [],.list true []],[],some 4,none⟩,xP (.stLc 4 11) [.l 4,.ts 23] 4]
def i5H:=Rg [] [fP 24 1 (.l 4),lP 25 4 false 1 (.t 24),oP 26 .lenL [.t 25],bP 27 .eql (.t 26) (.c (.int .i64 0)),vP 5 (.t 27)]
def i6t:=Rg [] [fP 28 1 (.l 2),⟨.v 9,.ldLc 2 false 1,[.t 28],some 2,none⟩]
def i6O:=Rg [] [nP 32 0,lP 33 4 true 11 (.l 4),oP 34 (.call 64) [.t 32,.t 33],mP 35 (.t 34),gP 36 .mv [.v 0] 35 false,⟨.t 37,.ldLc 4 true 11,[.l 4],some 4,some (.t 35,false)⟩,gP 38 (.call 65) [.t 36,.t 37] 35 false,oP 39 .pick [.t 35,.c (.bool true),.t 38],vP 5 (.t 39)]
def h3y:=Rg [] [fP 42 0 (.l 2),lP 43 2 false 1 (.t 42),bP 44 .eql (.t 43) (.c (.int .u8 1)),mP 45 (.t 44),gP 46 .mv [.v 0] 45 true,⟨.t 47,.ldLc 4 true 11,[.l 4],some 4,some (.t 45,true)⟩,gP 48 (.call 66) [.t 46,.t 47] 45 true,oP 49 .pick [.t 45,.t 48,.c (.bool false)],vP 5 (.t 49)]
def f8b:=Ts [] [oP 41 (.bin .eql) [.v 9,.c (.str [77,117,116,97,116,105,111,110])],mP 40 (.t 41)] (.t 40) h3y .skip
def g7b:=Ts [] [oP 31 (.bin .eql) [.v 9,.c (.str [81,117,101,114,121])],mP 30 (.t 31)] (.t 30) i6O f8b
def f7d:=Bk 2 g7b
def i0D:=Sq i6t f7d
def i0v:=Rg [] [fP 52 0 (.l 4),lP 53 4 false 1 (.t 52),oP 54 (.build [.int .i64 0,.str []] [(0,1),(1,1)]) [.c (.int .i64 3),.t 53],xP (.stLc 3 2) [.l 3,.t 54] 3]
def g1k:=Sq i0v .ret
def g94:=Ts [] [nP 50 5,oP 51 (.un .not) [.t 50]] (.t 51) g1k .skip
def h1p:=Sq i0D g94
def h2w:=Sq i5H h1p
def i1U:=Sq g3I h2w
def h0p:=Bk 1 i1U
def i66:=Rg [] [bP 55 .add (.v 8) (.c (.int .i64 1)),vP 8 (.t 55)]
def g46:=Sq h0p i66
def g5O:=Sq i09 g46
def g6u:=Lp g5O
def f9t:=Bk 0 g6u
def h0z:=Sq j8v f9t
def f6p:=Rg [] [oP 56 (.build [.int .i64 0,.str []] []) [],xP (.stLc 3 2) [.l 3,.t 56] 3]
def h4r:=Sq f6p .ret
def g8O:=Sq h0z h4r
def g9Y:=Sq i9i g8O
def g2S:=Sq j8O g9Y
def k3R:ACode :=
  g2S
def a31:AFn:={ np:=2,nv:=10,results:=[.bx 3 true 2],code:=k3R }

def i8T:=Rg [] [vP 1 (.c (.bool false))]
def j6n:=Rg [] [nP 3 0,oP 4 (.bin .eql) [.t 3,.c (.str [66,111,111,108,101,97,110])],mP 5 (.t 4),gP 6 .mv [.v 0] 5 false,gP 7 (.bin .eql) [.t 6,.c (.str [73,68])] 5 false,oP 8 .pick [.t 5,.c (.bool true),.t 7],mP 9 (.t 8),gP 10 .mv [.v 0] 9 false,gP 11 (.bin .eql) [.t 10,.c (.str [73,110,116])] 9 false,oP 12 .pick [.t 9,.c (.bool true),.t 11],mP 13 (.t 12),gP 14 .mv [.v 0] 13 false,gP 15 (.bin .eql) [.t 14,.c (.str [83,116,114,105,110,103])] 13 false,oP 16 .pick [.t 13,.c (.bool true),.t 15],vP 1 (.t 16)]
def j1n:=Sq j6n .ret
def i8V:=Sq i8T j1n
def k2s:ACode :=
  i8V
def a32:AFn:={ np:=1,nv:=2,results:=[.v 1],code:=k2s }

def j8i:=Rg [] [vP 2 (.c (.bool false))]
def j5g:=Rg [] [vP 3 (.c (.int .i64 0))]
def j8E:=Ts [] [nP 6 3,nP 7 0,oP 8 .lenL [.t 7],bP 9 .lss (.t 6) (.t 8)] (.t 9) .skip (.exit 0)
def j3L:=Rg [] [vP 2 (.c (.bool true))]
def j7k:=Sq j3L .ret
def g6i:=Ts [] [nP 12 0,nP 13 3,oP 14 (.iad 1) [.t 12,.t 13],oP 15 (.ldAn false 1) [.t 14],nP 16 1,bP 17 .eql (.t 15) (.t 16)] (.t 17) j7k .skip
def g7W:=Bk 1 g6i
def i7r:=Rg [] [nP 10 3,bP 11 .add (.t 10) (.c (.int .i64 1)),vP 3 (.t 11)]
def f7c:=Sq g7W i7r
def f95:=Sq j8E f7c
def i3j:=Lp f95
def f23:=Bk 0 i3j
def g9q:=Sq j5g f23
def g3x:=Rg [] [vP 2 (.c (.bool false))]
def g9Z:=Sq g3x .ret
def i3R:=Sq g9q g9Z
def g3w:=Sq j8i i3R
def k1f:ACode :=
  g3w
def a33:AFn:={ np:=2,nv:=4,results:=[.v 2],code:=k1f }

def j1I:=Rg [] [vP 2 (.c (.bool false))]
def j1O:=Rg [] [nP 5 0,oP 6 .lenS [.t 5],nP 7 1,oP 8 .lenS [.t 7],bP 9 .geq (.t 6) (.t 8),mP 10 (.t 9),gP 11 .mv [.v 0] 10 true,gP 12 .mv [.v 1] 10 true,gP 13 .lenS [.t 12] 10 true,gP 14 (.slS false true) [.t 11,.t 13] 10 true,gP 15 .mv [.v 1] 10 true,gP 16 (.bin .eql) [.t 14,.t 15] 10 true,oP 17 .pick [.t 10,.t 16,.c (.bool false)],vP 2 (.t 17)]
def i9t:=Sq j1O .ret
def j6j:=Sq j1I i9t
def k2R:ACode :=
  j6j
def a34:AFn:={ np:=2,nv:=3,results:=[.v 2],code:=k2R }

def j5j:=Rg [2] [⟨.bx,.boxV,[.v 1],some 2,none⟩,op (.v 3) .mv [.c (.str [])],vP 4 (.c (.int .i64 0))]
def j6L:=Rg [] [fP 23 2 (.l 2),lP 24 2 false 1 (.t 23),oP 25 (.call 68) [.t 24],oP 26 (.call 67) [.t 25],mP 22 (.t 26),oP 27 (.ext 0) [.t 22],oP 28 (.ext 1) [.t 22],vP 5 (.t 27),vP 6 (.t 28)]
def j6D:=Rg [] [nP 31 5,nP 32 6,vP 3 (.t 31),vP 4 (.t 32)]
def j4O:=Sq j6D .ret
def j8s:=Ts [] [nP 29 6,bP 30 .neq (.t 29) (.c (.int .i64 0))] (.t 30) j4O .skip
def g1j:=Rg [] [fP 34 3 (.l 2),lP 35 2 false 1 (.t 34),oP 36 (.call 67) [.t 35],mP 33 (.t 36),oP 37 (.ext 0) [.t 33],oP 38 (.ext 1) [.t 33],vP 5 (.t 37),vP 6 (.t 38)]
def h4B:=Rg [] [nP 41 5,nP 42 6,vP 3 (.t 41),vP 4 (.t 42)]
def f6Y:=Sq h4B .ret
def h7N:=Ts [] [nP 39 6,bP 40 .neq (.t 39) (.c (.int .i64 0))] (.t 40) f6Y .skip
def h7K:=Sq g1j h7N
def g2o:=Sq j8s h7K
def f6P:=Sq j6L g2o
def h8n:=Rg [] [op (.v 7) .mv [.c (.list true [])]]
def g4u:=Rg [] [mP 43 (.vs 7),fP 44 2 (.l 2),lP 45 2 false 1 (.t 44),oP 46 (.call 68) [.t 45],oP 47 (.app 1 16) [.ts 43,.t 46],vP 7 (.ts 47)]
def i2k:=Rg [] [mP 49 (.vs 7),fP 50 3 (.l 2),lP 51 2 false 1 (.t 50),oP 52 (.app 1 16) [.ts 49,.t 51],oP 53 (.call 67) [.t 52],mP 48 (.t 53),oP 54 (.ext 0) [.t 48],oP 55 (.ext 1) [.t 48],vP 8 (.t 54),vP 9 (.t 55)]
def f3x:=Rg [] [nP 58 8,nP 59 9,vP 3 (.t 58),vP 4 (.t 59)]
def i0f:=Sq f3x .ret
def f65:=Ts [] [nP 56 9,bP 57 .neq (.t 56) (.c (.int .i64 0))] (.t 57) i0f .skip
def h5I:=Sq i2k f65
def i4F:=Sq g4u h5I
def f9r:=Sq h8n i4F
def i6f:=Ts [] [fP 19 0 (.l 2),lP 20 2 false 1 (.t 19),bP 21 .eql (.t 20) (.c (.int .u8 1))] (.t 21) f6P f9r
def g15:=Rg [] [vP 10 (.c (.int .i64 0))]
def f2Q:=Ts [] [nP 60 10,fP 61 2 (.l 2),lP 62 2 false 1 (.t 61),oP 63 .lenL [.t 62],bP 64 .lss (.t 60) (.t 63)] (.t 64) .skip (.exit 0)
def i2B:=Rg [] [nP 68 0,fP 69 2 (.l 2),lP 70 2 false 1 (.t 69),nP 71 10,oP 72 (.iad 11) [.t 70,.t 71],oP 73 (.ldRo true 11) [.t 72],fP 74 0 (.l 2),lP 75 2 false 1 (.t 74),bP 76 .eql (.t 75) (.c (.int .u8 5)),oP 77 (.call 69) [.t 68,.t 73,.t 76],mP 67 (.t 77),oP 78 (.ext 0) [.t 67],oP 79 (.ext 1) [.t 67],vP 11 (.t 78),vP 12 (.t 79)]
def i67:=Rg [] [nP 82 11,nP 83 12,vP 3 (.t 82),vP 4 (.t 83)]
def f4J:=Sq i67 .ret
def g3n:=Ts [] [nP 80 12,bP 81 .neq (.t 80) (.c (.int .i64 0))] (.t 81) f4J .skip
def h7B:=Sq i2B g3n
def g69:=Bk 1 h7B
def g9u:=Rg [] [nP 65 10,bP 66 .add (.t 65) (.c (.int .i64 1)),vP 10 (.t 66)]
def i2s:=Sq g69 g9u
def f5F:=Sq f2Q i2s
def h0x:=Lp f5F
def i0z:=Bk 0 h0x
def f6M:=Sq g15 i0z
def i4T:=Rg [] [vP 13 (.c (.int .i64 0))]
def h1y:=Ts [] [nP 84 13,fP 85 3 (.l 2),lP 86 2 false 1 (.t 85),oP 87 .lenL [.t 86],bP 88 .lss (.t 84) (.t 87),mP 89 (.t 88),gP 90 (.fad 0) [.l 2] 89 true,⟨.t 91,.ldLc 2 false 1,[.t 90],some 2,some (.t 89,true)⟩,gP 92 (.bin .neq) [.t 91,.c (.int .u8 4)] 89 true,oP 93 .pick [.t 89,.t 92,.c (.bool false)]] (.t 93) .skip (.exit 2)
def f9i:=Rg [] [fP 96 3 (.l 2),lP 97 2 false 1 (.t 96),nP 98 13,oP 99 (.iad 1) [.t 97,.t 98],oP 100 (.ldAn false 1) [.t 99],vP 14 (.t 100)]
def i4H:=Rg [15] [nP 101 0,nP 102 14,oP 103 (.call 36) [.t 101,.t 102],⟨.bx,.alloc [.int .u8 0,.str [],.list true [],.list true []],[],some 15,none⟩,xP (.stLc 15 4) [.l 15,.ts 103] 15]
def f6x:=Rg [] [nP 108 14,vP 3 (.t 108),vP 4 (.c (.int .i64 6))]
def g5h:=Sq f6x .ret
def i0l:=Rg [] [nP 137 14,vP 3 (.t 137),vP 4 (.c (.int .i64 8))]
def g7u:=Sq i0l .ret
def g74:=Ts [] [fP 110 0 (.l 2),lP 111 2 false 1 (.t 110),bP 112 .eql (.t 111) (.c (.int .u8 1)),mP 113 (.t 112),gP 114 (.fad 0) [.l 15] 113 true,⟨.t 115,.ldLc 15 false 1,[.t 114],some 15,some (.t 113,true)⟩,gP 116 (.bin .neq) [.t 115,.c (.int .u8 2)] 113 true,oP 117 .pick [.t 113,.t 116,.c (.bool false)],mP 118 (.t 117),gP 119 (.fad 0) [.l 2] 118 false,⟨.t 120,.ldLc 2 false 1,[.t 119],some 2,some (.t 118,false)⟩,gP 121 (.bin .eql) [.t 120,.c (.int .u8 3)] 118 false,gP 122 .mv [.t 121] 118 false,gP 123 (.fad 0) [.l 15] 122 true,⟨.t 124,.ldLc 15 false 1,[.t 123],some 15,some (.t 122,true)⟩,gP 125 (.bin .neq) [.t 124,.c (.int .u8 1)] 122 true,gP 126 .pick [.t 122,.t 125,.c (.bool false)] 118 false,oP 127 .pick [.t 118,.c (.bool true),.t 126],mP 128 (.t 127),gP 129 (.fad 0) [.l 2] 128 false,⟨.t 130,.ldLc 2 false 1,[.t 129],some 2,some (.t 128,false)⟩,gP 131 (.bin .eql) [.t 130,.c (.int .u8 2)] 128 false,oP 132 .pick [.t 128,.c (.bool true),.t 131],mP 133 (.t 132),gP 134 .mv [.v 14] 133 false,gP 135 (.call 70) [.t 134] 133 false,oP 136 .pick [.t 133,.c (.bool true),.t 135],mP 109 (.t 136)] (.t 109) g7u .skip
def g2j:=Ts [] [fP 105 0 (.l 15),lP 106 15 false 1 (.t 105),bP 107 .eql (.t 106) (.c (.int .u8 0)),mP 104 (.t 107)] (.t 104) g5h g74
def g2U:=Bk 4 g2j
def h4J:=Rg [] [vP 16 (.c (.int .i64 0))]
def i4G:=Ts [] [nP 138 16,fP 139 2 (.l 15),lP 140 15 false 1 (.t 139),oP 141 .lenL [.t 140],bP 142 .lss (.t 138) (.t 141),mP 143 (.t 142),gP 144 (.fad 0) [.l 2] 143 true,⟨.t 145,.ldLc 2 false 1,[.t 144],some 2,some (.t 143,true)⟩,gP 146 (.bin .eql) [.t 145,.c (.int .u8 1)] 143 true,oP 147 .pick [.t 143,.t 146,.c (.bool false)]] (.t 147) .skip (.exit 5)
def i2w:=Rg [] [fP 150 2 (.l 2),lP 151 2 false 1 (.t 150),fP 152 2 (.l 15),lP 153 15 false 1 (.t 152),nP 154 16,oP 155 (.iad 11) [.t 153,.t 154],fP 156 0 (.t 155),oP 157 (.ldRo false 1) [.t 156],oP 158 (.call 71) [.t 151,.t 157],vP 17 (.t 158)]
def i71:=Rg [] [nP 177 14,vP 3 (.t 177),vP 4 (.c (.int .i64 3))]
def g2w:=Sq i71 .ret
def i8c:=Ts [] [nP 159 17,bP 160 .lss (.t 159) (.c (.int .i64 0)),mP 161 (.t 160),gP 162 (.fad 2) [.l 2] 161 false,⟨.t 163,.ldLc 2 false 1,[.t 162],some 2,some (.t 161,false)⟩,gP 164 .mv [.v 17] 161 false,gP 165 (.iad 11) [.t 163,.t 164] 161 false,gP 166 (.fad 2) [.t 165] 161 false,gP 167 (.ldRo true 3) [.t 166] 161 false,gP 168 (.fad 2) [.l 15] 161 false,⟨.t 169,.ldLc 15 false 1,[.t 168],some 15,some (.t 161,false)⟩,gP 170 .mv [.v 16] 161 false,gP 171 (.iad 11) [.t 169,.t 170] 161 false,gP 172 (.fad 2) [.t 171] 161 false,gP 173 (.ldRo true 3) [.t 172] 161 false,gP 174 (.call 72) [.t 167,.t 173] 161 false,gP 175 (.un .not) [.t 174] 161 false,oP 176 .pick [.t 161,.c (.bool true),.t 175]] (.t 176) g2w .skip
def g1c:=Sq i2w i8c
def i63:=Bk 6 g1c
def g32:=Rg [] [nP 148 16,bP 149 .add (.t 148) (.c (.int .i64 1)),vP 16 (.t 149)]
def g0P:=Sq i63 g32
def g7K:=Sq i4G g0P
def i4d:=Lp g7K
def f8l:=Bk 5 i4d
def h6b:=Sq h4J f8l
def f2N:=Sq g2U h6b
def h4g:=Sq i4H f2N
def f8m:=Sq f9i h4g
def i01:=Bk 3 f8m
def h7T:=Rg [] [nP 94 13,bP 95 .add (.t 94) (.c (.int .i64 1)),vP 13 (.t 95)]
def d9G:=Sq i01 h7T
def d48:=Sq h1y d9G
def c3s:=Lp d48
def c5X:=Bk 2 c3s
def d5v:=Sq i4T c5X
def f1d:=Rg [] [op (.v 3) .mv [.c (.str [])],vP 4 (.c (.int .i64 0))]
def d5k:=Sq f1d .ret
def b6B:=Sq d5v d5k
def e3w:=Sq f6M b6B
def f03:=Sq i6f e3w
def c2P:=Sq j5j f03
def k2N:ACode :=
  c2P
def a35:AFn:={ np:=2,nv:=18,results:=[.v 3,.v 4],code:=k2N }

def j3T:=Rg [2] [⟨.bx,.alloc [.int .u8 0,.str [],.list true [],.list true []],[],some 2,none⟩]
def j1f:=Rg [] [vP 3 (.c (.int .i64 0))]
def j1K:=Ts [] [nP 6 3,nP 7 0,oP 8 .nilchk [.t 7],fP 9 0 (.t 8),oP 10 (.ldSt false 1) [.t 9],oP 11 .lenL [.t 10],bP 12 .lss (.t 6) (.t 11)] (.t 12) .skip (.exit 0)
def i9n:=Rg [] [nP 25 0,oP 26 .nilchk [.t 25],fP 27 0 (.t 26),oP 28 (.ldSt false 1) [.t 27],nP 29 3,oP 30 (.iad 4) [.t 28,.t 29],oP 31 (.ldRo true 4) [.t 30],xP (.stLc 2 4) [.l 2,.ts 31] 2]
def j8F:=Sq i9n .ret
def f4z:=Ts [] [nP 15 0,oP 16 .nilchk [.t 15],fP 17 0 (.t 16),oP 18 (.ldSt false 1) [.t 17],nP 19 3,oP 20 (.iad 4) [.t 18,.t 19],fP 21 1 (.t 20),oP 22 (.ldRo false 1) [.t 21],nP 23 1,bP 24 .eql (.t 22) (.t 23)] (.t 24) j8F .skip
def g20:=Bk 1 f4z
def h0t:=Rg [] [nP 13 3,bP 14 .add (.t 13) (.c (.int .i64 1)),vP 3 (.t 14)]
def h0U:=Sq g20 h0t
def i1O:=Sq j1K h0U
def g6a:=Lp i1O
def h4q:=Bk 0 g6a
def i5C:=Sq j1f h4q
def g4p:=Rg [] [oP 32 (.build [.int .u8 0,.str [],.list true [],.list true []] []) [],xP (.stLc 2 4) [.l 2,.ts 32] 2]
def f7J:=Sq g4p .ret
def f8w:=Sq i5C f7J
def i3M:=Sq j3T f8w
def k3d:ACode :=
  i3M
def a36:AFn:={ np:=2,nv:=4,results:=[.bx 2 true 4],code:=k3d }

def j8L:=Rg [3,4] [⟨.bx,.boxV,[.v 1],some 3,none⟩,⟨.bx,.boxV,[.v 2],some 4,none⟩,vP 5 (.c (.bool false))]
def j7J:=Rg [] [fP 8 1 (.l 3),⟨.v 7,.ldLc 3 false 1,[.t 8],some 3,none⟩]
def j1q:=Rg [] [fP 12 2 (.l 4),lP 13 4 true 3 (.t 12),oP 14 (.call 73) [.t 13],vP 6 (.t 14)]
def j2g:=Rg [] [vP 5 (.c (.bool false))]
def g3X:=Sq j2g .ret
def h3F:=Ts [] [nP 15 0,nP 16 6,oP 17 (.call 74) [.t 15,.t 16],oP 18 (.un .not) [.t 17]] (.t 18) g3X .skip
def h8X:=Rg [] [fP 23 1 (.l 4),lP 24 4 false 1 (.t 23),oP 25 (.iad 11) [.t 24,.c (.int .i64 0)],oP 26 (.ldRo true 11) [.t 25],oP 27 (.call 75) [.t 26],mP 28 (.t 27),gP 29 (.fad 2) [.l 4] 28 true,gP 30 (.fad 1) [.t 29] 28 true,⟨.t 31,.ldLc 4 false 1,[.t 30],some 4,some (.t 28,true)⟩,gP 32 .lenL [.t 31] 28 true,gP 33 (.bin .eql) [.t 32,.c (.int .i64 0)] 28 true,oP 34 .pick [.t 28,.t 33,.c (.bool false)],mP 35 (.t 34),gP 36 (.fad 2) [.l 4] 35 true,gP 37 (.fad 2) [.t 36] 35 true,⟨.t 38,.ldLc 4 false 1,[.t 37],some 4,some (.t 35,true)⟩,gP 39 (.un .not) [.t 38] 35 true,oP 40 .pick [.t 35,.t 39,.c (.bool false)],vP 5 (.t 40)]
def g9i:=Sq h8X .ret
def i0W:=Ts [] [fP 19 1 (.l 4),lP 20 4 false 1 (.t 19),oP 21 .lenL [.t 20],bP 22 .eql (.t 21) (.c (.int .i64 1))] (.t 22) g9i .skip
def i0B:=Rg [] [fP 41 1 (.l 4),lP 42 4 false 1 (.t 41),oP 43 .lenL [.t 42],bP 44 .eql (.t 43) (.c (.int .i64 0)),mP 45 (.t 44),gP 46 (.fad 2) [.l 4] 45 true,gP 47 (.fad 1) [.t 46] 45 true,⟨.t 48,.ldLc 4 false 1,[.t 47],some 4,some (.t 45,true)⟩,gP 49 .lenL [.t 48] 45 true,gP 50 (.bin .gtr) [.t 49,.c (.int .i64 0)] 45 true,oP 51 .pick [.t 45,.t 50,.c (.bool false)],mP 52 (.t 51),gP 53 (.fad 2) [.l 4] 52 true,gP 54 (.fad 2) [.t 53] 52 true,⟨.t 55,.ldLc 4 false 1,[.t 54],some 4,some (.t 52,true)⟩,oP 56 .pick [.t 52,.t 55,.c (.bool false)],mP 57 (.t 56),gP 58 (.fad 2) [.l 4] 57 true,gP 59 (.fad 0) [.t 58] 57 true,⟨.t 60,.ldLc 4 false 1,[.t 59],some 4,some (.t 57,true)⟩,gP 61 (.bin .eql) [.t 60,.c (.str [])] 57 true,oP 62 .pick [.t 57,.t 61,.c (.bool false)],mP 63 (.t 62),gP 64 (.fad 2) [.l 4] 63 true,gP 65 (.fad 1) [.t 64] 63 true,⟨.t 66,.ldLc 4 false 1,[.t 65],some 4,some (.t 63,true)⟩,gP 67 (.iad 3) [.t 66,.c (.int .i64 0)] 63 true,gP 68 (.fad 1) [.t 67] 63 true,gP 69 (.ldRo false 1) [.t 68] 63 true,gP 70 .lenL [.t 69] 63 true,gP 71 (.bin .eql) [.t 70,.c (.int .i64 0)] 63 true,oP 72 .pick [.t 63,.t 71,.c (.bool false)],mP 73 (.t 72),gP 74 (.fad 2) [.l 4] 73 true,gP 75 (.fad 1) [.t 74] 73 true,⟨.t 76,.ldLc 4 false 1,[.t 75],some 4,some (.t 73,true)⟩,gP 77 (.iad 3) [.t 76,.c (.int .i64 0)] 73 true,gP 78 (.fad 2) [.t 77] 73 true,gP 79 (.ldRo false 1) [.t 78] 73 true,oP 80 .pick [.t 73,.t 79,.c (.bool false)],vP 5 (.t 80)]
def h88:=Sq i0B .ret
def g5J:=Sq i0W h88
def i4B:=Sq h3F g5J
def h2T:=Sq j1q i4B
def h2o:=Rg [] [fP 83 0 (.l 3),lP 84 3 false 1 (.t 83),bP 85 .eql (.t 84) (.c (.int .u8 1)),mP 86 (.t 85),gP 87 .mv [.v 0] 86 true,⟨.t 88,.ldLc 4 true 11,[.l 4],some 4,some (.t 86,true)⟩,gP 89 (.call 76) [.t 87,.t 88] 86 true,oP 90 .pick [.t 86,.t 89,.c (.bool false)],vP 5 (.t 90)]
def g8d:=Sq h2o .ret
def i08:=Ts [] [oP 82 (.bin .eql) [.v 7,.c (.str [77,117,116,97,116,105,111,110])],mP 81 (.t 82)] (.t 81) g8d .skip
def h44:=Ts [] [oP 11 (.bin .eql) [.v 7,.c (.str [81,117,101,114,121])],mP 10 (.t 11)] (.t 10) h2T i08
def g58:=Bk 0 h44
def g80:=Sq j7J g58
def i2u:=Rg [] [fP 91 1 (.l 4),lP 92 4 false 1 (.t 91),oP 93 .lenL [.t 92],bP 94 .eql (.t 93) (.c (.int .i64 0)),vP 5 (.t 94)]
def h43:=Sq i2u .ret
def g4E:=Sq g80 h43
def f57:=Sq j8L g4E
def j9v:ACode :=
  f57
def a37:AFn:={ np:=3,nv:=8,results:=[.v 5],code:=j9v }

def j18:=Rg [2] [⟨.bx,.boxV,[.v 0],some 2,none⟩,vP 3 (.c (.int .i64 0)),vP 4 (.c (.bool false))]
def j2H:=Rg [] [fP 6 0 (.l 2),lP 7 2 false 1 (.t 6),nP 8 1,oP 9 (.call 77) [.t 7,.t 8,.c (.func 78 [] [])],oP 10 (.ext 0) [.t 9],oP 11 (.ext 1) [.t 9],vP 3 (.t 10),vP 4 (.t 11)]
def j0n:=Sq j2H .ret
def j6A:=Sq j18 j0n
def k1j:ACode :=
  j6A
def a38:AFn:={ np:=2,nv:=5,results:=[.v 3,.v 4],code:=k1j }

def a39:AFn:={ np:=3,nv:=0,results:=[],code:=.skip,ext:=some (M3 4 80) }

def j0c:=Rg [] [op (.v 1) (.allocO [.nils,.nils]) [],op (.v 2) (.allocO [.int .i64 0]) [],op (.v 3) (.allocO [.int .i64 0]) []]
def j6w:=Rg [] [nP 9 0,oP 10 (.call 81) [.t 9],mP 8 (.t 10),oP 11 (.ext 0) [.t 8],oP 12 (.ext 1) [.t 8],oP 13 (.ext 2) [.t 8],vP 4 (.ts 11),op .none (.stSt 1) [.v 2,.t 12],op .none (.stSt 1) [.v 3,.t 13]]
def j7d:=Rg [] [oP 16 (.build [.nils,.nils] []) [],oP 17 (.ldStR false 1) [.v 2,.v 2],oP 18 (.ldStR false 1) [.v 3,.v 3],op .none (.stStA 2) [.v 1,.t 16,.v 1,.v 2,.v 3],op .none (.stStA 1) [.v 2,.t 17,.v 2,.v 3],op .none (.stSt 1) [.v 3,.t 18]]
def j3g:=Sq j7d .ret
def j1S:=Ts [] [oP 14 (.ldSt false 1) [.v 3],bP 15 .neq (.t 14) (.c (.int .i64 0))] (.t 15) j3g .skip
def i7g:=Rg [] [nP 19 4,oP 20 (.build [.list true [],.int .i64 0,.int .i64 0] [(0,1)]) [.t 19],oP 21 .boxO [.ts 20],op (.v 5) (.allocO [.nilp]) [],op .none (.stSt 1) [.v 5,.t 21]]
def h1x:=Rg [] [op .none (.call 82) [.v 3,.v 5,.v 1,.v 2]]
def i57:=Rg [] []
def i1v:=Rg [] []
def f3S:=Rg [] [vP 6 (.c (.bool true))]
def h1H:=Ts [] [nP 23 6] (.t 23) .skip (.exit 0)
def i7h:=Rg [] [fP 37 0 (.v 1),oP 38 (.ldStR false 1) [.t 37,.v 1],oP 39 (.ldSt false 1) [.v 5],oP 40 (.callA 86 1) [.t 39,.v 1],oP 41 (.build [.bool false,.str [],.list true [],.list true []] [(3,1)]) [.t 40],oP 42 (.bsliceM 4 [[.bool false,.str [],.list true [],.list true []]] [0]) [.ts 41],oP 43 (.appM 4 72) [.ts 38,.t 42],fP 44 0 (.v 1),op .none (.stSt 1) [.t 44,.t 43]]
def h05:=Rg [] [fP 48 1 (.v 1),oP 49 (.ldStR false 1) [.t 48,.v 1],oP 50 (.ldSt false 1) [.v 5],oP 51 (.callA 88 1) [.t 50,.v 1],oP 52 (.bsliceM 3 [[.str [],.str [],.list true []]] [0]) [.ts 51],oP 53 (.appM 3 56) [.ts 49,.t 52],fP 54 1 (.v 1),op .none (.stSt 1) [.t 54,.t 53]]
def h3J:=Rg [] [fP 27 0 (.v 1),oP 28 (.ldStR false 1) [.t 27,.v 1],oP 29 (.ldSt false 1) [.v 5],oP 30 (.callA 89 1) [.t 29,.v 1],oP 31 (.bsliceM 4 [[.bool false,.str [],.list true [],.list true []]] [0]) [.ts 30],oP 32 (.appM 4 72) [.ts 28,.t 31],fP 33 0 (.v 1),op .none (.stSt 1) [.t 33,.t 32]]
def i3A:=Ts [] [oP 46 (.ldSt false 1) [.v 5],oP 47 (.call 87) [.t 46,.c (.str [102,114,97,103,109,101,110,116])],mP 45 (.t 47)] (.t 45) h05 h3J
def i1G:=Ts [] [oP 35 (.ldSt false 1) [.v 5],oP 36 (.call 85) [.t 35,.c (.str [123])],mP 34 (.t 36)] (.t 34) i7h i3A
def h7f:=Bk 2 i1G
def f9q:=Bk 1 h7f
def h8R:=Rg [] [oP 24 (.ldSt false 1) [.v 5],oP 25 (.call 84) [.t 24,.c (.int .u8 0)],oP 26 (.un .not) [.t 25],vP 6 (.t 26)]
def i2D:=Sq f9q h8R
def f3s:=Sq h1H i2D
def g6P:=Lp f3s
def h0v:=Bk 0 g6P
def i6U:=Sq f3S h0v
def h5i:=Rg [] [oP 55 (.ldSt true 2) [.v 1],op .none (.stSt 2) [.v 1,.ts 55],op .none (.stSt 1) [.v 2,.c (.int .i64 0)],op .none (.stSt 1) [.v 3,.c (.int .i64 0)]]
def h0a:=Sq h5i (.exit 900001)
def g2F:=Sq i6U h0a
def f66:=Bk 900001 g2F
def g4g:=Sq f66 .skip
def g0r:=Sq i1v g4g
def h8c:=Bk 900000 g0r
def h1E:=Sq h8c h1x
def h0H:=Sq i57 h1E
def h0q:=Sq i7g h0H
def g6j:=Sq j1S h0q
def g2p:=Sq j6w g6j
def h9Y:=Sq j0c g2p
def k2D:ACode :=
  h9Y
def a40:AFn:={ np:=1,nv:=7,results:=[.po 1 true 2,.po 2 false 1,.po 3 false 1],code:=k2D }

def i9g:=Rg [2] [⟨.bx,.boxV,[.v 1],some 2,none⟩,op (.v 3) .mv [.c (.list true [])]]
def j0Y:=Rg [] [nP 14 0,lP 15 2 true 2 (.l 2),oP 16 (.build [.nilp,.nils,.nils,.list true []] [(0,1),(1,2)]) [.t 14,.t 15],oP 17 .boxO [.ts 16],vP 4 (.t 17)]
def j7p:=Rg [] [op (.v 5) .mv [.c (.list true [])]]
def j35:=Rg [] [fP 18 0 (.l 2),⟨.v 10,.ldLc 2 false 1,[.t 18],some 2,none⟩,op (.v 11) .lenL [.v 10],vP 12 (.c (.int .i64 0))]
def j4k:=Ts [] [bP 22 .lss (.v 12) (.v 11)] (.t 22) .skip (.exit 0)
def i78:=Rg [6] [oP 23 (.iad 4) [.v 10,.v 12],oP 24 (.ldAn true 4) [.t 23],⟨.bx,.alloc [.bool false,.str [],.list true [],.list true []],[],some 6,none⟩,xP (.stLc 6 4) [.l 6,.ts 24] 6]
def g9E:=Rg [] [nP 34 4,oP 35 (.call 90) [.t 34,.c (.int .i64 2),.c (.str [])]]
def h74:=Ts [] [fP 25 1 (.l 6),lP 26 6 false 1 (.t 25),oP 27 (.bin .eql) [.t 26,.c (.str [])],mP 28 (.t 27),gP 29 (.fad 0) [.l 2] 28 true,⟨.t 30,.ldLc 2 false 1,[.t 29],some 2,some (.t 28,true)⟩,gP 31 .lenL [.t 30] 28 true,gP 32 (.bin .gtr) [.t 31,.c (.int .i64 1)] 28 true,oP 33 .pick [.t 28,.t 32,.c (.bool false)]] (.t 33) g9E .skip
def h0E:=Rg [] [mP 39 (.vs 5),fP 40 1 (.l 6),lP 41 6 false 1 (.t 40),oP 42 (.bslice 1 [[.str []]] [0]) [.t 41],oP 43 (.app 1 16) [.ts 39,.t 42],vP 5 (.ts 43)]
def f5H:=Ts [] [fP 36 1 (.l 6),lP 37 6 false 1 (.t 36),oP 38 (.bin .neq) [.t 37,.c (.str [])]] (.t 38) h0E .skip
def h52:=Sq h74 f5H
def g38:=Sq i78 h52
def f3Y:=Bk 1 g38
def g67:=Rg [] [bP 44 .add (.v 12) (.c (.int .i64 1)),vP 12 (.t 44)]
def h13:=Sq f3Y g67
def i2v:=Sq j4k h13
def f5q:=Lp i2v
def h8M:=Bk 0 f5q
def g7U:=Sq j35 h8M
def f5Y:=Rg [] [nP 45 4,nP 46 5,oP 47 (.call 91) [.t 45,.c (.int .i64 1),.t 46]]
def h0A:=Rg [] [nP 48 4,fP 49 1 (.l 2),lP 50 2 false 1 (.t 49),oP 51 (.call 92) [.t 50,.c (.func 93 [] [])],oP 52 (.call 91) [.t 48,.c (.int .i64 3),.t 51]]
def h7u:=Rg [] [op (.v 7) .mv [.c (.list true [])]]
def h9c:=Rg [] [fP 53 0 (.l 2),⟨.v 13,.ldLc 2 false 1,[.t 53],some 2,none⟩,op (.v 14) .lenL [.v 13],vP 15 (.c (.int .i64 0))]
def g3z:=Ts [] [bP 57 .lss (.v 15) (.v 14)] (.t 57) .skip (.exit 2)
def h0J:=Rg [8] [oP 58 (.iad 4) [.v 13,.v 15],oP 59 (.ldAn true 4) [.t 58],⟨.bx,.alloc [.bool false,.str [],.list true [],.list true []],[],some 8,none⟩,xP (.stLc 8 4) [.l 8,.ts 59] 8]
def h4l:=Rg [] [mP 60 (.vs 7),nP 61 4,fP 62 3 (.l 8),lP 63 8 false 1 (.t 62),oP 64 (.call 94) [.t 61,.t 63,.c (.nils)],oP 65 (.appA 16) [.ts 60,.t 64],vP 7 (.ts 65)]
def g8S:=Rg [] [nP 66 4,lP 67 8 true 4 (.l 8),oP 68 (.call 95) [.t 66,.t 67]]
def f3k:=Sq h4l g8S
def h4N:=Sq h0J f3k
def h1h:=Bk 3 h4N
def f37:=Rg [] [bP 69 .add (.v 15) (.c (.int .i64 1)),vP 15 (.t 69)]
def i3x:=Sq h1h f37
def h9X:=Sq g3z i3x
def f4H:=Lp h9X
def i6r:=Bk 2 f4H
def g9N:=Sq h9c i6r
def i7T:=Rg [] [fP 70 1 (.l 2),⟨.v 16,.ldLc 2 false 1,[.t 70],some 2,none⟩,op (.v 17) .lenL [.v 16],vP 18 (.c (.int .i64 0))]
def g4j:=Ts [] [bP 74 .lss (.v 18) (.v 17)] (.t 74) .skip (.exit 4)
def g2E:=Rg [9] [oP 75 (.iad 3) [.v 16,.v 18],oP 76 (.ldAn true 3) [.t 75],⟨.bx,.alloc [.str [],.str [],.list true []],[],some 9,none⟩,xP (.stLc 9 3) [.l 9,.ts 76] 9]
def g8T:=Rg [] [nP 82 4,fP 83 0 (.l 9),lP 84 9 false 1 (.t 83),oP 85 (.call 90) [.t 82,.c (.int .i64 6),.t 84]]
def i7i:=Ts [] [nP 77 7,fP 78 0 (.l 9),lP 79 9 false 1 (.t 78),oP 80 (.call 27) [.t 77,.t 79],oP 81 (.un .not) [.t 80]] (.t 81) g8T .skip
def f2C:=Rg [] [nP 93 4,fP 94 0 (.l 9),lP 95 9 false 1 (.t 94),oP 96 (.call 90) [.t 93,.c (.int .i64 7),.t 95]]
def h3l:=Ts [] [nP 86 4,fP 87 2 (.l 9),lP 88 9 false 1 (.t 87),oP 89 (.call 94) [.t 86,.t 88,.c (.nils)],fP 90 0 (.l 9),lP 91 9 false 1 (.t 90),oP 92 (.call 27) [.t 89,.t 91]] (.t 92) f2C .skip
def g97:=Rg [] [nP 102 4,fP 103 1 (.l 9),lP 104 9 false 1 (.t 103),oP 105 (.call 90) [.t 102,.c (.int .i64 4),.t 104]]
def h5p:=Ts [] [nP 97 4,fP 98 1 (.l 9),lP 99 9 false 1 (.t 98),oP 100 (.call 96) [.t 97,.t 99],oP 101 (.un .not) [.t 100]] (.t 101) g97 .skip
def i7n:=Rg [] [nP 106 4,fP 107 1 (.l 9),lP 108 9 false 1 (.t 107),fP 109 2 (.l 9),lP 110 9 false 1 (.t 109),oP 111 (.call 97) [.t 106,.t 108,.t 110]]
def i4v:=Sq h5p i7n
def g3E:=Sq h3l i4v
def i7k:=Sq i7i g3E
def g1f:=Sq g2E i7k
def f8y:=Bk 5 g1f
def i3h:=Rg [] [bP 112 .add (.v 18) (.c (.int .i64 1)),vP 18 (.t 112)]
def h16:=Sq f8y i3h
def h2z:=Sq g4j h16
def g2i:=Lp h2z
def f5t:=Bk 4 g2i
def f7A:=Sq i7T f5t
def i2J:=Rg [] [nP 113 4,oP 114 .nilchk [.t 113],fP 115 3 (.t 114),oP 116 (.ldSt false 1) [.t 115],oP 117 (.call 98) [.t 116,.c (.func 99 [] [])]]
def h5t:=Rg [] [nP 118 4,nP 119 4,oP 120 .nilchk [.t 119],fP 121 3 (.t 120),oP 122 (.ldSt false 1) [.t 121],oP 123 (.call 103) [.t 122],oP 124 .nilchk [.t 118],fP 125 3 (.t 124),op .none (.stSt 1) [.t 125,.t 123]]
def h5n:=Rg [] [nP 126 4,oP 127 .nilchk [.t 126],fP 128 3 (.t 127),oP 129 (.ldSt false 1) [.t 128],nP 130 4,oP 131 .nilchk [.t 130],fP 132 3 (.t 131),oP 133 (.ldSt false 1) [.t 132],oP 134 .lenL [.t 133],oP 135 .min2 [.t 134,.c (.int .i64 50)],oP 136 (.slL 2 false true) [.t 129,.t 135],vP 3 (.ts 136)]
def g8D:=Sq h5n .ret
def h45:=Sq h5t g8D
def f3J:=Sq i2J h45
def f8N:=Sq f7A f3J
def f7N:=Sq g9N f8N
def g9W:=Sq h7u f7N
def c0Q:=Sq h0A g9W
def b9s:=Sq f5Y c0Q
def e2D:=Sq g7U b9s
def d12:=Sq j7p e2D
def d54:=Sq j0Y d12
def d7g:=Sq i9g d54
def k3A:ACode :=
  d7g
def a41:AFn:={ np:=2,nv:=19,results:=[.v 3],code:=k3A }

def j2k:=Rg [2,4] [⟨.bx,.boxV,[.v 0],some 2,none⟩,op (.v 3) .boxO [.v 1],⟨.bx,.alloc [.bool false,.str [],.list true [],.list true []],[],some 4,none⟩,vP 5 (.c (.int .i64 0))]
def j6T:=Rg [] [fP 15 0 (.l 2),lP 16 2 false 1 (.t 15),oP 17 (.iad 4) [.t 16,.c (.int .i64 0)],oP 18 (.ldAn true 4) [.t 17],xP (.stLc 4 4) [.l 4,.ts 18] 4,vP 5 (.c (.int .i64 0))]
def j4x:=Sq j6T .ret
def j2D:=Ts [] [oP 7 (.ldSt false 1) [.v 3],oP 8 (.bin .eql) [.t 7,.c (.str [])],mP 9 (.t 8),gP 10 (.fad 0) [.l 2] 9 true,⟨.t 11,.ldLc 2 false 1,[.t 10],some 2,some (.t 9,true)⟩,gP 12 .lenL [.t 11] 9 true,gP 13 (.bin .eql) [.t 12,.c (.int .i64 1)] 9 true,oP 14 .pick [.t 9,.t 13,.c (.bool false)]] (.t 14) j4x .skip
def j0s:=Rg [] [fP 19 0 (.l 2),lP 20 2 false 1 (.t 19),oP 21 (.mkF 105 0) [.v 3],oP 22 (.call 104) [.t 20,.t 21],vP 6 (.t 22)]
def f6e:=Rg [] [oP 29 (.build [.bool false,.str [],.list true [],.list true []] []) [],xP (.stLc 4 4) [.l 4,.ts 29] 4,vP 5 (.c (.int .i64 6))]
def i6m:=Sq f6e .ret
def i2a:=Ts [] [nP 23 6,bP 24 .lss (.t 23) (.c (.int .i64 0)),mP 25 (.t 24),gP 26 (.ldSt false 1) [.v 3] 25 false,gP 27 (.bin .eql) [.t 26,.c (.str [])] 25 false,oP 28 .pick [.t 25,.c (.bool true),.t 27]] (.t 28) i6m .skip
def f9b:=Rg [] [fP 30 0 (.l 2),lP 31 2 false 1 (.t 30),nP 32 6,oP 33 (.iad 4) [.t 31,.t 32],oP 34 (.ldAn true 4) [.t 33],xP (.stLc 4 4) [.l 4,.ts 34] 4,vP 5 (.c (.int .i64 0))]
def f5K:=Sq f9b .ret
def g8a:=Sq i2a f5K
def i0S:=Sq j0s g8a
def g54:=Sq j2D i0S
def f5w:=Sq j2k g54
def k2C:ACode :=
  f5w
def a42:AFn:={ np:=2,nv:=7,results:=[.bx 4 true 4,.v 5],code:=k2C }

def i8W:=Rg [3,4] [⟨.bx,.boxV,[.v 2],some 3,none⟩,⟨.bx,.alloc [.int .u8 0,.int .i64 0,.str [],.list true [],.list true []],[],some 4,none⟩,op (.v 5) .mv [.c (.str [])],vP 6 (.c (.int .i64 0))]
def j4i:=Rg [] [oP 15 (.build [.int .u8 0,.int .i64 0,.str [],.list true [],.list true []] [(0,1)]) [.c (.int .u8 6)],op (.v 7) (.allocO [.int .u8 0,.int .i64 0,.str [],.list true [],.list true []]) [],op .none (.stSt 5) [.v 7,.ts 15]]
def j8h:=Rg [] [vP 12 (.v 1),op (.v 13) .lenL [.v 12],vP 14 (.c (.int .i64 0))]
def j6I:=Ts [] [bP 19 .lss (.v 14) (.v 13)] (.t 19) .skip (.exit 0)
def j0P:=Rg [8] [oP 20 (.iad 10) [.v 12,.v 14],oP 21 (.ldRo true 10) [.t 20],⟨.bx,.alloc [.str [],.str [],.list true [],.bool false,.bool false,.int .u8 0,.int .i64 0,.str [],.list true [],.list true []],[],some 8,none⟩,xP (.stLc 8 10) [.l 8,.ts 21] 8]
def h8F:=Rg [9] [lP 23 3 true 5 (.l 3),fP 24 0 (.l 8),lP 25 8 false 1 (.t 24),oP 26 (.call 106) [.t 23,.t 25],mP 22 (.t 26),oP 27 (.ext 0) [.t 22],oP 28 (.ext 1) [.t 22],⟨.bx,.alloc [.int .u8 0,.int .i64 0,.str [],.list true [],.list true []],[],some 9,none⟩,xP (.stLc 9 5) [.l 9,.ts 27] 9,vP 10 (.t 28)]
def h2S:=Rg [] [vP 11 (.c (.int .i64 0))]
def i3X:=Rg [] [nP 32 0,fP 33 1 (.l 8),lP 34 8 true 3 (.t 33),lP 35 9 true 5 (.l 9),oP 36 (.call 107) [.t 32,.t 34,.t 35],mP 31 (.t 36),oP 37 (.ext 0) [.t 31],oP 38 (.ext 1) [.t 31],xP (.stLc 9 5) [.l 9,.ts 37] 9,vP 11 (.t 38)]
def f3b:=Rg [] [nP 43 0,fP 44 1 (.l 8),lP 45 8 true 3 (.t 44),fP 46 5 (.l 8),lP 47 8 true 5 (.t 46),oP 48 (.build [.int .u8 0,.int .i64 0,.str [],.list true [],.list true []] []) [],oP 49 (.call 108) [.t 43,.t 45,.t 47,.t 48],mP 42 (.t 49),oP 50 (.ext 0) [.t 42],oP 51 (.ext 1) [.t 42],oP 52 (.ext 2) [.t 42],xP (.stLc 9 5) [.l 9,.ts 50] 9,vP 10 (.t 51),vP 11 (.t 52)]
def h6u:=Rg [] [vP 11 (.c (.int .i64 9))]
def h9r:=Ts [] [fP 54 1 (.l 8),fP 55 2 (.t 54),lP 56 8 false 1 (.t 55),mP 53 (.t 56)] (.t 53) h6u .skip
def g6E:=Ts [] [fP 40 4 (.l 8),lP 41 8 false 1 (.t 40),mP 39 (.t 41)] (.t 39) f3b h9r
def g26:=Ts [] [nP 30 10,mP 29 (.t 30)] (.t 29) i3X g6E
def h4c:=Bk 2 g26
def f29:=Rg [] [oP 59 (.build [.int .u8 0,.int .i64 0,.str [],.list true [],.list true []] []) [],fP 60 0 (.l 8),lP 61 8 false 1 (.t 60),nP 62 11,xP (.stLc 4 5) [.l 4,.ts 59] 4,vP 5 (.t 61),vP 6 (.t 62)]
def i3F:=Sq f29 .ret
def i5I:=Ts [] [nP 57 11,bP 58 .neq (.t 57) (.c (.int .i64 0))] (.t 58) i3F .skip
def f9V:=Rg [] [fP 64 0 (.l 8),lP 65 8 false 1 (.t 64),lP 66 9 true 5 (.l 9),oP 67 (.call 109) [.v 7,.t 65,.t 66]]
def g1a:=Ts [] [nP 63 10] (.t 63) f9V .skip
def h3D:=Sq i5I g1a
def f4M:=Sq h4c h3D
def h0W:=Sq h2S f4M
def h5v:=Sq h8F h0W
def g9Q:=Sq j0P h5v
def h2H:=Bk 1 g9Q
def f5C:=Rg [] [bP 68 .add (.v 14) (.c (.int .i64 1)),vP 14 (.t 68)]
def h1u:=Sq h2H f5C
def g9U:=Sq j6I h1u
def g4B:=Lp g9U
def i1i:=Bk 0 g4B
def h6s:=Sq j8h i1i
def i0i:=Rg [] [oP 69 (.ldSt true 5) [.v 7],xP (.stLc 4 5) [.l 4,.ts 69] 4,op (.v 5) .mv [.c (.str [])],vP 6 (.c (.int .i64 0))]
def g1A:=Sq i0i .ret
def f3M:=Sq h6s g1A
def i7A:=Sq j4i f3M
def h4k:=Sq i8W i7A
def k3M:ACode :=
  h4k
def a43:AFn:={ np:=3,nv:=15,results:=[.bx 4 true 5,.v 5,.v 6],code:=k3M }

def j7t:=Rg [5,6] [⟨.bx,.boxV,[.v 1],some 5,none⟩,⟨.bx,.boxV,[.v 4],some 6,none⟩,op (.v 7) .mv [.c (.list true [])]]
def j0l:=Rg [] [nP 12 0,lP 13 5 true 2 (.l 5),nP 14 2,lP 15 6 true 5 (.l 6),oP 16 (.build [.nilp,.nils,.nils,.str [],.int .u8 0,.int .i64 0,.str [],.list true [],.list true [],.list true [],.list true []] [(0,1),(1,2),(3,1),(4,5)]) [.t 12,.t 13,.t 14,.t 15],oP 17 .boxO [.ts 16],vP 8 (.t 17)]
def j6v:=Rg [] [nP 18 8,nP 19 3,oP 20 (.call 110) [.t 18,.t 19]]
def j0t:=Rg [] [nP 21 8,oP 22 .nilchk [.t 21],fP 23 10 (.t 22),oP 24 (.ldSt false 1) [.t 23],vP 7 (.ts 24)]
def j69:=Sq j0t .ret
def j1x:=Sq j6v j69
def h37:=Sq j0l j1x
def g8h:=Sq j7t h37
def k2r:ACode :=
  g8h
def a44:AFn:={ np:=5,nv:=9,results:=[.v 7],code:=k2r }

def j0T:=Rg [3] [⟨.bx,.alloc [.str [],.list true [],.str [],.list true [],.bool false,.bool false,.int .u8 0,.int .i64 0,.str [],.list true [],.list true []],[],some 3,none⟩,vP 4 (.c (.bool false))]
def i9A:=Rg [5] [nP 12 0,nP 13 1,oP 14 (.call 30) [.t 12,.t 13],mP 11 (.t 14),oP 15 (.ext 0) [.t 11],oP 16 (.ext 1) [.t 11],⟨.bx,.alloc [.int .u8 0,.str [],.list true [],.list true []],[],some 5,none⟩,xP (.stLc 5 4) [.l 5,.ts 15] 5,vP 6 (.t 16)]
def i82:=Rg [] [nP 31 2,oP 32 (.build [.str [],.list true [],.bool false] [(0,1),(2,1)]) [.c (.str [83,116,114,105,110,103]),.c (.bool true)],oP 33 (.build [.str [],.list true [],.str [],.list true [],.bool false,.bool false,.int .u8 0,.int .i64 0,.str [],.list true [],.list true []] [(0,1),(2,3)]) [.t 31,.t 32],xP (.stLc 3 11) [.l 3,.ts 33] 3,vP 4 (.c (.bool true))]
def j3t:=Sq i82 .ret
def j88:=Ts [] [nP 17 6,mP 18 (.t 17),gP 19 .mv [.v 2] 18 true,gP 20 (.bin .eql) [.t 19,.c (.str [95,95,116,121,112,101,110,97,109,101])] 18 true,oP 21 .pick [.t 18,.t 20,.c (.bool false)],mP 22 (.t 21),gP 23 .mv [.v 0] 22 true,gP 24 .mv [.v 1] 22 true,gP 25 (.call 111) [.t 23,.t 24] 22 true,gP 26 .mv [.t 25] 22 true,gP 27 .mv [.v 1] 26 false,gP 28 (.call 62) [.t 27] 26 false,gP 29 .pick [.t 26,.c (.bool true),.t 28] 22 true,oP 30 .pick [.t 22,.t 29,.c (.bool false)]] (.t 30) j3t .skip
def h8B:=Rg [] [fP 34 2 (.l 5),lP 35 5 false 1 (.t 34),oP 36 (.call 60) [.t 35],nP 37 2,oP 38 (.call 57) [.t 36,.t 37],vP 7 (.t 38)]
def g0U:=Rg [] [fP 46 2 (.l 5),lP 47 5 false 1 (.t 46),nP 48 7,oP 49 (.iad 11) [.t 47,.t 48],oP 50 (.ldRo true 11) [.t 49],xP (.stLc 3 11) [.l 3,.ts 50] 3,vP 4 (.c (.bool true))]
def i0t:=Sq g0U .ret
def h14:=Ts [] [nP 39 7,bP 40 .geq (.t 39) (.c (.int .i64 0)),mP 41 (.t 40),gP 42 (.fad 0) [.l 5] 41 true,⟨.t 43,.ldLc 5 false 1,[.t 42],some 5,some (.t 41,true)⟩,gP 44 (.bin .neq) [.t 43,.c (.int .u8 5)] 41 true,oP 45 .pick [.t 41,.t 44,.c (.bool false)]] (.t 45) i0t .skip
def f6l:=Sq h8B h14
def f4X:=Rg [] [oP 51 (.build [.str [],.list true [],.str [],.list true [],.bool false,.bool false,.int .u8 0,.int .i64 0,.str [],.list true [],.list true []] []) [],xP (.stLc 3 11) [.l 3,.ts 51] 3,vP 4 (.c (.bool false))]
def h9G:=Sq f4X .ret
def i0T:=Sq f6l h9G
def i4N:=Sq j88 i0T
def i5D:=Sq i9A i4N
def i4n:=Sq j0T i5D
def k2P:ACode :=
  i4n
def a45:AFn:={ np:=3,nv:=8,results:=[.bx 3 true 11,.v 4],code:=k2P }

def j8q:=Rg [3,4,5] [⟨.bx,.boxV,[.v 1],some 3,none⟩,⟨.bx,.boxV,[.v 2],some 4,none⟩,⟨.bx,.alloc [.int .u8 0,.int .i64 0,.str [],.list true [],.list true []],[],some 5,none⟩]
def j8z:=Rg [] [oP 21 (.build [.int .u8 0,.int .i64 0,.str [],.list true [],.list true []] [(0,1),(2,1)]) [.c (.int .u8 2),.c (.str [77,117,116,97,116,105,111,110])],xP (.stLc 5 5) [.l 5,.ts 21] 5]
def j2j:=Sq j8z .ret
def j5X:=Ts [] [fP 18 0 (.l 3),lP 19 3 false 1 (.t 18),oP 20 (.bin .eql) [.t 19,.c (.str [95,95,116,121,112,101,110,97,109,101])]] (.t 20) j2j .skip
def i9S:=Rg [6] [nP 23 0,oP 24 .nilchk [.t 23],fP 25 0 (.t 24),oP 26 (.ldSt false 1) [.t 25],lP 27 3 true 11 (.l 3),fP 28 1 (.l 4),lP 29 4 false 1 (.t 28),oP 30 (.iad 7) [.t 29,.c (.int .i64 0)],fP 31 4 (.t 30),oP 32 (.ldAn false 1) [.t 31],nP 33 0,oP 34 .nilchk [.t 33],fP 35 4 (.t 34),oP 36 (.ldSt true 5) [.t 35],oP 37 (.call 112) [.t 26,.t 27,.t 32,.t 36],mP 22 (.t 37),oP 38 (.ext 0) [.t 22],oP 39 (.ext 1) [.t 22],oP 40 (.ext 2) [.t 22],⟨.bx,.alloc [.int .u8 0,.int .i64 0,.str [],.list true [],.list true []],[],some 6,none⟩,xP (.stLc 6 5) [.l 6,.ts 38] 6,mP 8 (.t 39),vP 7 (.t 40)]
def f3I:=Rg [] [op (.v 8) .mv [.c (.str [])]]
def f2m:=Rg [9] [lP 44 6 true 5 (.l 6),oP 45 (.call 106) [.t 44,.c (.str [105,100])],mP 43 (.t 45),oP 46 (.ext 0) [.t 43],oP 47 (.ext 1) [.t 43],⟨.bx,.alloc [.int .u8 0,.int .i64 0,.str [],.list true [],.list true []],[],some 9,none⟩,xP (.stLc 9 5) [.l 9,.ts 46] 9,mP 12 (.t 47)]
def h8V:=Rg [] [fP 48 2 (.l 9),lP 49 9 false 1 (.t 48),vP 8 (.t 49)]
def h3r:=Rg [] [nP 50 0,lP 51 3 true 11 (.l 3),nP 52 8,lP 53 6 true 5 (.l 6),oP 54 (.call 113) [.t 50,.t 51,.t 52,.t 53],vP 7 (.t 54)]
def i0p:=Sq h8V h3r
def g6z:=Sq f2m i0p
def h89:=Ts [] [nP 41 7,bP 42 .eql (.t 41) (.c (.int .i64 0))] (.t 42) g6z .skip
def h4M:=Rg [] [nP 57 0,nP 58 0,oP 59 .nilchk [.t 58],fP 60 9 (.t 59),oP 61 .ldStS [.t 60],fP 62 0 (.l 4),lP 63 4 false 1 (.t 62),oP 64 (.bslice 1 [[.str []]] [0]) [.t 63],nP 65 7,oP 66 (.build [.list true [],.int .i64 0] [(0,1),(1,1)]) [.t 64,.t 65],oP 67 (.bsliceM 2 [[.list true [],.int .i64 0]] [0]) [.ts 66],oP 68 (.appM 2 32) [.ts 61,.t 67],oP 69 .nilchk [.t 57],fP 70 9 (.t 69),op .none (.stSt 1) [.t 70,.t 68]]
def i3B:=Rg [] [oP 71 (.build [.int .u8 0,.int .i64 0,.str [],.list true [],.list true []] []) [],xP (.stLc 5 5) [.l 5,.ts 71] 5]
def h2r:=Sq i3B .ret
def g6J:=Sq h4M h2r
def f30:=Ts [] [nP 55 7,bP 56 .neq (.t 55) (.c (.int .i64 0))] (.t 56) g6J .skip
def h1I:=Rg [10] [nP 73 0,oP 74 .nilchk [.t 73],fP 75 0 (.t 74),oP 76 (.ldSt false 1) [.t 75],nP 77 0,oP 78 .nilchk [.t 77],fP 79 3 (.t 78),oP 80 (.ldSt true 1) [.t 79],oP 81 (.build [.nils,.bool false,.list true []] [(0,1),(1,1)]) [.t 80,.c (.bool true)],nP 82 0,oP 83 .nilchk [.t 82],fP 84 1 (.t 83),oP 85 (.ldSt true 2) [.t 84],nP 86 0,oP 87 .nilchk [.t 86],fP 88 4 (.t 87),oP 89 (.ldSt true 5) [.t 88],fP 90 2 (.l 3),lP 91 3 true 3 (.t 90),lP 92 4 true 2 (.l 4),nP 93 8,nP 94 0,oP 95 .nilchk [.t 94],fP 96 10 (.t 95),oP 97 (.ldSt false 1) [.t 96],oP 98 (.call 114) [.t 76,.t 81,.t 85,.t 89,.t 91,.t 92,.t 93,.t 97],mP 72 (.t 98),oP 99 (.ext 0) [.t 72],oP 100 (.ext 1) [.t 72],oP 101 (.ext 2) [.t 72],⟨.bx,.alloc [.int .u8 0,.int .i64 0,.str [],.list true [],.list true []],[],some 10,none⟩,xP (.stLc 10 5) [.l 10,.ts 99] 10,vP 11 (.ts 100),vP 12 (.t 101)]
def h91:=Rg [] [nP 102 0,nP 103 0,nP 104 0,oP 105 .nilchk [.t 104],fP 106 9 (.t 105),oP 107 .ldStS [.t 106],nP 108 11,oP 109 (.appM 2 32) [.ts 107,.t 108],nP 110 12,oP 111 .nilchk [.t 102],fP 112 9 (.t 111),op .none (.stSt 1) [.t 112,.t 109],oP 113 .nilchk [.t 103],fP 114 10 (.t 113),op .none (.stSt 1) [.t 114,.t 110]]
def f3f:=Rg [] [fP 116 0 (.l 3),lP 117 3 false 1 (.t 116),oP 118 (.call 115) [.t 117],mP 115 (.t 118),oP 119 (.ext 0) [.t 115],oP 120 (.ext 1) [.t 115],vP 13 (.t 119),mP 17 (.t 120)]
def g1X:=Rg [] [nP 123 0,nP 124 0,oP 125 .nilchk [.t 124],fP 126 3 (.t 125),oP 127 (.ldSt true 1) [.t 126],nP 128 8,oP 129 (.call 116) [.t 127,.t 128],oP 130 .nilchk [.t 123],fP 131 3 (.t 130),op .none (.stSt 1) [.t 131,.ts 129]]
def i2E:=Ts [] [nP 121 13,oP 122 (.bin .eql) [.t 121,.c (.str [100,101,108,101,116,101])]] (.t 122) g1X .skip
def f5i:=Sq f3f i2E
def g2D:=Rg [] [lP 132 10 true 5 (.l 10),xP (.stLc 5 5) [.l 5,.ts 132] 5]
def g3g:=Sq g2D .ret
def f8B:=Sq f5i g3g
def g5Z:=Sq h91 f8B
def i4D:=Sq h1I g5Z
def i3w:=Sq f30 i4D
def g3f:=Sq h89 i3w
def h7L:=Sq f3I g3f
def g6l:=Sq i9S h7L
def g09:=Sq j5X g6l
def h2B:=Sq j8q g09
def k1q:ACode :=
  h2B
def a46:AFn:={ np:=3,nv:=14,results:=[.bx 5 true 5],code:=k1q }

def j5R:=Rg [2] [⟨.bx,.alloc [.int .u8 0,.str [],.int .i64 0,.int .i64 0],[],some 2,none⟩,vP 3 (.c (.int .i64 0)),vP 4 (.c (.int .i64 0)),vP 5 (.c (.int .i64 0))]
def i8D:=Rg [] [nP 10 0,nP 11 1,oP 12 .idxS [.t 10,.t 11],vP 6 (.t 12)]
def j3W:=Rg [] [nP 13 1,vP 7 (.t 13)]
def j3H:=Ts [] [nP 17 7,nP 18 0,oP 19 .lenS [.t 18],bP 20 .lss (.t 17) (.t 19),mP 21 (.t 20),gP 22 .mv [.v 0] 21 true,gP 23 .mv [.v 7] 21 true,gP 24 .idxS [.t 22,.t 23] 21 true,gP 25 (.call 117) [.t 24] 21 true,gP 26 .mv [.t 25] 21 true,gP 27 .mv [.v 0] 26 false,gP 28 .mv [.v 7] 26 false,gP 29 .idxS [.t 27,.t 28] 26 false,gP 30 (.call 118) [.t 29] 26 false,gP 31 .pick [.t 26,.c (.bool true),.t 30] 21 true,oP 32 .pick [.t 21,.t 31,.c (.bool false)]] (.t 32) .skip (.exit 1)
def f9E:=Rg [] [nP 33 7,bP 34 .add (.t 33) (.c (.int .i64 1)),vP 7 (.t 34)]
def i5N:=Bk 2 f9E
def f35:=Sq j3H i5N
def g1m:=Lp f35
def h5l:=Bk 1 g1m
def g3p:=Rg [] [oP 39 (.build [.int .u8 0,.str [],.int .i64 0,.int .i64 0] []) [],nP 40 1,xP (.stLc 2 4) [.l 2,.t 39] 2,vP 3 (.c (.int .i64 0)),vP 4 (.t 40),vP 5 (.c (.int .i64 2))]
def h6I:=Sq g3p .ret
def f93:=Ts [] [nP 35 7,nP 36 1,bP 37 .sub (.t 35) (.t 36),bP 38 .gtr (.t 37) (.c (.int .i64 32))] (.t 38) h6I .skip
def g3j:=Rg [] [nP 41 0,nP 42 1,nP 43 7,oP 44 (.slS true true) [.t 41,.t 42,.t 43],oP 45 (.build [.int .u8 0,.str [],.int .i64 0,.int .i64 0] [(0,1),(1,1)]) [.c (.int .u8 1),.t 44],nP 46 7,xP (.stLc 2 4) [.l 2,.t 45] 2,vP 3 (.t 46),vP 4 (.c (.int .i64 0)),vP 5 (.c (.int .i64 0))]
def i0h:=Sq g3j .ret
def f3N:=Sq f93 i0h
def h9B:=Sq h5l f3N
def i52:=Rg [] [nP 54 0,nP 55 1,oP 56 (.call 119) [.t 54,.t 55],oP 57 (.ext 0) [.t 56],oP 58 (.ext 1) [.t 56],oP 59 (.ext 2) [.t 56],oP 60 (.ext 3) [.t 56],xP (.stLc 2 4) [.l 2,.t 57] 2,vP 3 (.t 58),vP 4 (.t 59),vP 5 (.t 60)]
def g6q:=Sq i52 .ret
def h2e:=Rg [] [nP 64 0,nP 65 1,oP 66 (.call 120) [.t 64,.t 65],oP 67 (.ext 0) [.t 66],oP 68 (.ext 1) [.t 66],oP 69 (.ext 2) [.t 66],oP 70 (.ext 3) [.t 66],xP (.stLc 2 4) [.l 2,.t 67] 2,vP 3 (.t 68),vP 4 (.t 69),vP 5 (.t 70)]
def i76:=Sq h2e .ret
def h8a:=Rg [] [oP 93 (.build [.int .u8 0,.str [],.int .i64 0,.int .i64 0] [(0,1),(1,1)]) [.c (.int .u8 4),.c (.str [46,46,46])],nP 94 1,bP 95 .add (.t 94) (.c (.int .i64 3)),xP (.stLc 2 4) [.l 2,.t 93] 2,vP 3 (.t 95),vP 4 (.c (.int .i64 0)),vP 5 (.c (.int .i64 0))]
def f7D:=Sq h8a .ret
def h8O:=Ts [] [nP 74 0,oP 75 .lenS [.t 74],nP 76 1,bP 77 .sub (.t 75) (.t 76),bP 78 .geq (.t 77) (.c (.int .i64 3)),mP 79 (.t 78),gP 80 .mv [.v 0] 79 true,gP 81 .mv [.v 1] 79 true,gP 82 (.bin .add) [.t 81,.c (.int .i64 1)] 79 true,gP 83 .idxS [.t 80,.t 82] 79 true,gP 84 (.bin .eql) [.t 83,.c (.int .u8 46)] 79 true,oP 85 .pick [.t 79,.t 84,.c (.bool false)],mP 86 (.t 85),gP 87 .mv [.v 0] 86 true,gP 88 .mv [.v 1] 86 true,gP 89 (.bin .add) [.t 88,.c (.int .i64 2)] 86 true,gP 90 .idxS [.t 87,.t 89] 86 true,gP 91 (.bin .eql) [.t 90,.c (.int .u8 46)] 86 true,oP 92 .pick [.t 86,.t 91,.c (.bool false)]] (.t 92) f7D .skip
def h0u:=Rg [] [oP 96 (.build [.int .u8 0,.str [],.int .i64 0,.int .i64 0] []) [],nP 97 1,xP (.stLc 2 4) [.l 2,.t 96] 2,vP 3 (.c (.int .i64 0)),vP 4 (.t 97),vP 5 (.c (.int .i64 4))]
def g68:=Sq h0u .ret
def i0k:=Sq h8O g68
def h6j:=Rg [] [nP 149 0,nP 150 1,nP 151 1,bP 152 .add (.t 151) (.c (.int .i64 1)),oP 153 (.slS true true) [.t 149,.t 150,.t 152],oP 154 (.build [.int .u8 0,.str [],.int .i64 0,.int .i64 0] [(0,1),(1,1)]) [.c (.int .u8 4),.t 153],nP 155 1,bP 156 .add (.t 155) (.c (.int .i64 1)),xP (.stLc 2 4) [.l 2,.t 154] 2,vP 3 (.t 156),vP 4 (.c (.int .i64 0)),vP 5 (.c (.int .i64 0))]
def h7h:=Sq h6j .ret
def f7j:=Ts [] [nP 99 6,bP 100 .eql (.t 99) (.c (.int .u8 33)),mP 101 (.t 100),gP 102 .mv [.v 6] 101 false,gP 103 (.bin .eql) [.t 102,.c (.int .u8 36)] 101 false,oP 104 .pick [.t 101,.c (.bool true),.t 103],mP 105 (.t 104),gP 106 .mv [.v 6] 105 false,gP 107 (.bin .eql) [.t 106,.c (.int .u8 40)] 105 false,oP 108 .pick [.t 105,.c (.bool true),.t 107],mP 109 (.t 108),gP 110 .mv [.v 6] 109 false,gP 111 (.bin .eql) [.t 110,.c (.int .u8 41)] 109 false,oP 112 .pick [.t 109,.c (.bool true),.t 111],mP 113 (.t 112),gP 114 .mv [.v 6] 113 false,gP 115 (.bin .eql) [.t 114,.c (.int .u8 58)] 113 false,oP 116 .pick [.t 113,.c (.bool true),.t 115],mP 117 (.t 116),gP 118 .mv [.v 6] 117 false,gP 119 (.bin .eql) [.t 118,.c (.int .u8 61)] 117 false,oP 120 .pick [.t 117,.c (.bool true),.t 119],mP 121 (.t 120),gP 122 .mv [.v 6] 121 false,gP 123 (.bin .eql) [.t 122,.c (.int .u8 64)] 121 false,oP 124 .pick [.t 121,.c (.bool true),.t 123],mP 125 (.t 124),gP 126 .mv [.v 6] 125 false,gP 127 (.bin .eql) [.t 126,.c (.int .u8 91)] 125 false,oP 128 .pick [.t 125,.c (.bool true),.t 127],mP 129 (.t 128),gP 130 .mv [.v 6] 129 false,gP 131 (.bin .eql) [.t 130,.c (.int .u8 93)] 129 false,oP 132 .pick [.t 129,.c (.bool true),.t 131],mP 133 (.t 132),gP 134 .mv [.v 6] 133 false,gP 135 (.bin .eql) [.t 134,.c (.int .u8 123)] 133 false,oP 136 .pick [.t 133,.c (.bool true),.t 135],mP 137 (.t 136),gP 138 .mv [.v 6] 137 false,gP 139 (.bin .eql) [.t 138,.c (.int .u8 124)] 137 false,oP 140 .pick [.t 137,.c (.bool true),.t 139],mP 141 (.t 140),gP 142 .mv [.v 6] 141 false,gP 143 (.bin .eql) [.t 142,.c (.int .u8 125)] 141 false,oP 144 .pick [.t 141,.c (.bool true),.t 143],mP 145 (.t 144),gP 146 .mv [.v 6] 145 false,gP 147 (.bin .eql) [.t 146,.c (.int .u8 38)] 145 false,oP 148 .pick [.t 145,.c (.bool true),.t 147],mP 98 (.t 148)] (.t 98) h7h .skip
def h58:=Ts [] [nP 72 6,bP 73 .eql (.t 72) (.c (.int .u8 46)),mP 71 (.t 73)] (.t 71) i0k f7j
def g6C:=Ts [] [nP 62 6,bP 63 .eql (.t 62) (.c (.int .u8 34)),mP 61 (.t 63)] (.t 61) i76 h58
def i0q:=Ts [] [nP 48 6,bP 49 .eql (.t 48) (.c (.int .u8 45)),mP 50 (.t 49),gP 51 .mv [.v 6] 50 false,gP 52 (.call 118) [.t 51] 50 false,oP 53 .pick [.t 50,.c (.bool true),.t 52],mP 47 (.t 53)] (.t 47) g6q g6C
def g85:=Ts [] [nP 15 6,oP 16 (.call 117) [.t 15],mP 14 (.t 16)] (.t 14) h9B i0q
def g1u:=Bk 0 g85
def h4C:=Rg [] [oP 157 (.build [.int .u8 0,.str [],.int .i64 0,.int .i64 0] []) [],nP 158 1,xP (.stLc 2 4) [.l 2,.t 157] 2,vP 3 (.c (.int .i64 0)),vP 4 (.t 158),vP 5 (.c (.int .i64 4))]
def g9G:=Sq h4C .ret
def f3F:=Sq g1u g9G
def f8k:=Sq j3W f3F
def h3s:=Sq i8D f8k
def f9k:=Sq j5R h3s
def k0K:ACode :=
  f9k
def a48:AFn:={ np:=2,nv:=8,results:=[.bx 2 true 4,.v 3,.v 4,.v 5],code:=k0K }

def j7b:=Rg [] [vP 2 (.c (.bool false))]
def j1P:=Rg [] [nP 5 0,oP 6 .nilchk [.t 5],fP 7 4 (.t 6),oP 8 (.ldSt false 1) [.t 7],bP 9 .eql (.t 8) (.c (.int .i64 0)),mP 10 (.t 9),gP 11 .mv [.v 0] 10 true,gP 12 .nilchk [.t 11] 10 true,gP 13 (.fad 0) [.t 12] 10 true,gP 14 (.ldSt false 1) [.t 13] 10 true,gP 15 .mv [.v 0] 10 true,gP 16 .nilchk [.t 15] 10 true,gP 17 (.fad 1) [.t 16] 10 true,gP 18 (.ldSt false 1) [.t 17] 10 true,gP 19 (.iad 4) [.t 14,.t 18] 10 true,gP 20 (.fad 0) [.t 19] 10 true,gP 21 (.ldRo false 1) [.t 20] 10 true,gP 22 (.bin .eql) [.t 21,.c (.int .u8 1)] 10 true,oP 23 .pick [.t 10,.t 22,.c (.bool false)],mP 24 (.t 23),gP 25 .mv [.v 0] 24 true,gP 26 .nilchk [.t 25] 24 true,gP 27 (.fad 0) [.t 26] 24 true,gP 28 (.ldSt false 1) [.t 27] 24 true,gP 29 .mv [.v 0] 24 true,gP 30 .nilchk [.t 29] 24 true,gP 31 (.fad 1) [.t 30] 24 true,gP 32 (.ldSt false 1) [.t 31] 24 true,gP 33 (.iad 4) [.t 28,.t 32] 24 true,gP 34 (.fad 1) [.t 33] 24 true,gP 35 (.ldRo false 1) [.t 34] 24 true,gP 36 .mv [.v 1] 24 true,gP 37 (.bin .eql) [.t 35,.t 36] 24 true,oP 38 .pick [.t 24,.t 37,.c (.bool false)],vP 2 (.t 38)]
def j07:=Sq j1P .ret
def j3Y:=Sq j7b j07
def j9w:ACode :=
  j3Y
def a49:AFn:={ np:=2,nv:=3,results:=[.v 2],code:=j9w }

def j45:=Rg [] [nP 9 0,nP 10 0,oP 11 .nilchk [.t 10],fP 12 0 (.t 11),oP 13 (.ldSt false 1) [.t 12],nP 14 0,oP 15 .nilchk [.t 14],fP 16 1 (.t 15),oP 17 (.ldSt false 1) [.t 16],oP 18 (.iad 4) [.t 13,.t 17],fP 19 3 (.t 18),oP 20 (.ldRo false 1) [.t 19],oP 21 .nilchk [.t 9],fP 22 3 (.t 21),op .none (.stSt 1) [.t 22,.t 20]]
def j8Z:=Rg [] [nP 23 0,nP 24 1,oP 25 .nilchk [.t 23],fP 26 4 (.t 25),op .none (.stSt 1) [.t 26,.t 24]]
def j0N:=Sq j45 j8Z
def j5N:=Ts [] [nP 4 0,oP 5 .nilchk [.t 4],fP 6 4 (.t 5),oP 7 (.ldSt false 1) [.t 6],bP 8 .eql (.t 7) (.c (.int .i64 0))] (.t 8) j0N .skip
def k3B:ACode :=
  j5N
def a50:AFn:={ np:=2,nv:=2,results:=[],code:=k3B }

def j8w:=Rg [] [op (.v 1) .mv [.c (.str [])]]
def j8R:=Rg [] [nP 6 0,oP 7 (.call 50) [.t 6,.c (.int .i64 4)]]
def j4m:=Rg [] [op (.v 1) .mv [.c (.str [])]]
def j13:=Sq j4m .ret
def j1h:=Sq j8R j13
def j8d:=Ts [] [nP 3 0,oP 4 (.call 24) [.t 3,.c (.int .u8 1)],oP 5 (.un .not) [.t 4]] (.t 5) j1h .skip
def g4S:=Rg [] [nP 8 0,oP 9 .nilchk [.t 8],fP 10 1 (.t 9),oP 11 (.ldSt false 1) [.t 10],bP 12 .add (.t 11) (.c (.int .i64 1)),oP 13 .nilchk [.t 8],fP 14 1 (.t 13),op .none (.stSt 1) [.t 14,.t 12]]
def i4O:=Rg [] [nP 15 0,oP 16 .nilchk [.t 15],fP 17 0 (.t 16),oP 18 (.ldSt false 1) [.t 17],nP 19 0,oP 20 .nilchk [.t 19],fP 21 1 (.t 20),oP 22 (.ldSt false 1) [.t 21],bP 23 .sub (.t 22) (.c (.int .i64 1)),oP 24 (.iad 4) [.t 18,.t 23],fP 25 1 (.t 24),oP 26 (.ldRo false 1) [.t 25],vP 1 (.t 26)]
def i6Z:=Sq i4O .ret
def h1i:=Sq g4S i6Z
def g0t:=Sq j8d h1i
def i6P:=Sq j8w g0t
def k23:ACode :=
  i6P
def a51:AFn:={ np:=1,nv:=2,results:=[.v 1],code:=k23 }

def j9a:=Rg [] [nP 15 0,oP 16 (.call 50) [.t 15,.c (.int .i64 4)]]
def j4f:=Ts [] [nP 4 0,oP 5 .nilchk [.t 4],fP 6 4 (.t 5),oP 7 (.ldSt false 1) [.t 6],bP 8 .eql (.t 7) (.c (.int .i64 0)),mP 9 (.t 8),gP 10 .mv [.v 0] 9 true,gP 11 .mv [.v 1] 9 true,gP 12 (.call 54) [.t 10,.t 11] 9 true,gP 13 (.un .not) [.t 12] 9 true,oP 14 .pick [.t 9,.t 13,.c (.bool false)]] (.t 14) j9a .skip
def k3G:ACode :=
  j4f
def a52:AFn:={ np:=2,nv:=2,results:=[],code:=k3G }

def j7C:=Rg [] [op (.v 2) .mv [.c (.list true [])]]
def i83:=Rg [] [nP 6 0,nP 7 1,oP 8 (.call 54) [.t 6,.t 7]]
def j6N:=Rg [] [nP 9 0,oP 10 (.call 51) [.t 9],oP 11 (.bslice 1 [[.str []]] [0]) [.t 10],vP 3 (.ts 11)]
def j4o:=Ts [] [nP 12 0,nP 13 1,oP 14 (.call 54) [.t 12,.t 13]] (.t 14) .skip (.exit 0)
def j87:=Rg [] [mP 15 (.vs 3),nP 16 0,oP 17 (.call 51) [.t 16],oP 18 (.bslice 1 [[.str []]] [0]) [.t 17],oP 19 (.app 1 16) [.ts 15,.t 18],vP 3 (.ts 19)]
def h7U:=Bk 1 j87
def h2A:=Sq j4o h7U
def g5r:=Lp h2A
def f3X:=Bk 0 g5r
def f4P:=Rg [] [nP 20 3,vP 2 (.ts 20)]
def i5B:=Sq f4P .ret
def h8K:=Sq f3X i5B
def g2d:=Sq j6N h8K
def i2p:=Sq i83 g2d
def g2a:=Sq j7C i2p
def k1m:ACode :=
  g2a
def a53:AFn:={ np:=2,nv:=4,results:=[.v 2],code:=k1m }

def j2i:=Rg [] [vP 2 (.c (.bool false))]
def j4N:=Rg [] [nP 13 0,oP 14 .nilchk [.t 13],fP 15 1 (.t 14),oP 16 (.ldSt false 1) [.t 15],bP 17 .add (.t 16) (.c (.int .i64 1)),oP 18 .nilchk [.t 13],fP 19 1 (.t 18),op .none (.stSt 1) [.t 19,.t 17]]
def j54:=Rg [] [vP 2 (.c (.bool true))]
def j7I:=Sq j54 .ret
def j0o:=Sq j4N j7I
def j04:=Ts [] [nP 5 0,nP 6 1,oP 7 (.call 121) [.t 5,.t 6],mP 8 (.t 7),gP 9 .mv [.v 0] 8 false,gP 10 .mv [.v 1] 8 false,gP 11 (.call 49) [.t 9,.t 10] 8 false,oP 12 .pick [.t 8,.c (.bool true),.t 11]] (.t 12) j0o .skip
def g7x:=Rg [] [vP 2 (.c (.bool false))]
def i7Q:=Sq g7x .ret
def h4u:=Sq j04 i7Q
def g1V:=Sq j2i h4u
def j91:ACode :=
  g1V
def a54:AFn:={ np:=2,nv:=3,results:=[.v 2],code:=j91 }

def j0I:=Rg [] [op (.v 2) .mv [.c (.list true [])]]
def j6C:=Rg [] [op (.v 3) .mv [.c (.list true [])]]
def j28:=Rg [] [vP 4 (.c (.bool true))]
def j0O:=Ts [] [nP 8 0,oP 9 .nilchk [.t 8],fP 10 4 (.t 9),oP 11 (.ldSt false 1) [.t 10],bP 12 .eql (.t 11) (.c (.int .i64 0)),mP 13 (.t 12),gP 14 .mv [.v 4] 13 true,gP 15 .mv [.t 14] 13 true,gP 16 .mv [.v 0] 15 false,gP 17 .mv [.v 1] 15 false,gP 18 (.call 54) [.t 16,.t 17] 15 false,gP 19 (.un .not) [.t 18] 15 false,gP 20 .pick [.t 15,.c (.bool true),.t 19] 13 true,oP 21 .pick [.t 13,.t 20,.c (.bool false)]] (.t 21) .skip (.exit 0)
def j4s:=Rg [5] [nP 22 0,oP 23 (.call 51) [.t 22],oP 24 (.build [.str [],.list true [],.str [],.list true [],.bool false,.bool false,.int .u8 0,.int .i64 0,.str [],.list true [],.list true []] [(0,1)]) [.t 23],⟨.bx,.alloc [.str [],.list true [],.str [],.list true [],.bool false,.bool false,.int .u8 0,.int .i64 0,.str [],.list true [],.list true []],[],some 5,none⟩,xP (.stLc 5 11) [.l 5,.ts 24] 5]
def g48:=Rg [] [nP 25 0,oP 26 (.call 52) [.t 25,.c (.str [58])]]
def i4L:=Rg [] [nP 27 0,oP 28 (.call 56) [.t 27],fP 29 2 (.l 5),xP (.stLc 5 3) [.t 29,.ts 28] 5]
def h95:=Rg [] [fP 32 5 (.l 5),xP (.stLc 5 1) [.t 32,.c (.bool true)] 5]
def h87:=Rg [] [nP 33 0,oP 34 (.call 122) [.t 33,.c (.bool true)],fP 35 6 (.l 5),xP (.stLc 5 5) [.t 35,.ts 34] 5]
def h2s:=Sq h95 h87
def f6L:=Ts [] [nP 30 0,oP 31 (.call 54) [.t 30,.c (.str [61])]] (.t 31) h2s .skip
def h4z:=Rg [] [mP 36 (.vs 3),lP 37 5 true 11 (.l 5),oP 38 (.bslice 11 [[.str [],.list true [],.str [],.list true [],.bool false,.bool false,.int .u8 0,.int .i64 0,.str [],.list true [],.list true []]] [0]) [.t 37],oP 39 (.app 11 176) [.ts 36,.t 38],vP 3 (.ts 39)]
def f2A:=Sq f6L h4z
def g6L:=Sq i4L f2A
def h1D:=Sq g48 g6L
def h02:=Sq j4s h1D
def g4N:=Bk 1 h02
def h7X:=Rg [] [vP 4 (.c (.bool false))]
def i2y:=Sq g4N h7X
def h1z:=Sq j0O i2y
def g9d:=Lp h1z
def h6l:=Bk 0 g9d
def i4c:=Sq j28 h6l
def h2t:=Rg [] [nP 40 3,vP 2 (.ts 40)]
def i4A:=Sq h2t .ret
def h4T:=Sq i4c i4A
def g2C:=Sq j6C h4T
def h8y:=Sq j0I g2C
def k0Q:ACode :=
  h8y
def a55:AFn:={ np:=2,nv:=6,results:=[.v 2],code:=k0Q }

def j57:=Rg [1] [⟨.bx,.alloc [.str [],.list true [],.bool false],[],some 1,none⟩]
def i9D:=Rg [2] [⟨.bx,.alloc [.str [],.list true [],.bool false],[],some 2,none⟩]
def j6O:=Rg [3] [nP 9 0,oP 10 (.call 56) [.t 9],⟨.bx,.alloc [.str [],.list true [],.bool false],[],some 3,none⟩,xP (.stLc 3 3) [.l 3,.ts 10] 3]
def j7r:=Rg [] [lP 11 3 true 3 (.l 3),oP 12 (.bslice 3 [[.str [],.list true [],.bool false]] [0]) [.t 11],fP 13 1 (.l 2),xP (.stLc 2 1) [.t 13,.ts 12] 2]
def g7M:=Rg [] [nP 14 0,oP 15 (.call 52) [.t 14,.c (.str [93])]]
def i4s:=Sq j7r g7M
def f9j:=Sq j6O i4s
def i2o:=Rg [] [nP 16 0,oP 17 (.call 51) [.t 16],fP 18 0 (.l 2),xP (.stLc 2 1) [.t 18,.t 17] 2]
def h6r:=Ts [] [nP 7 0,oP 8 (.call 54) [.t 7,.c (.str [91])]] (.t 8) f9j i2o
def f3u:=Rg [] [nP 19 0,oP 20 (.call 54) [.t 19,.c (.str [33])],fP 21 2 (.l 2),xP (.stLc 2 1) [.t 21,.t 20] 2]
def f6j:=Sq h6r f3u
def f9y:=Ts [] [nP 5 0,oP 6 (.call 123) [.t 5]] (.t 6) f6j .skip
def g5l:=Rg [] [nP 22 0,oP 23 .nilchk [.t 22],fP 24 2 (.t 23),oP 25 (.ldSt false 1) [.t 24],bP 26 .sub (.t 25) (.c (.int .i64 1)),oP 27 .nilchk [.t 22],fP 28 2 (.t 27),op .none (.stSt 1) [.t 28,.t 26]]
def h1m:=Rg [] [lP 29 2 true 3 (.l 2),xP (.stLc 1 3) [.l 1,.ts 29] 1]
def g02:=Sq h1m .ret
def i75:=Sq g5l g02
def h81:=Sq f9y i75
def i2R:=Sq i9D h81
def g1o:=Sq j57 i2R
def k2p:ACode :=
  g1o
def a56:AFn:={ np:=1,nv:=4,results:=[.bx 1 true 3],code:=k2p }

def j5C:=Rg [] [vP 2 (.c (.int .i64 0))]
def j1L:=Rg [] [nP 6 0,op (.v 4) .lenL [.t 6],vP 5 (.c (.int .i64 0))]
def j6B:=Ts [] [bP 9 .lss (.v 5) (.v 4)] (.t 9) .skip (.exit 0)
def j0F:=Rg [] [nP 10 5,vP 3 (.t 10)]
def h6m:=Rg [] [nP 17 3,vP 2 (.t 17)]
def f71:=Sq h6m .ret
def g5v:=Ts [] [nP 11 1,nP 12 0,nP 13 3,oP 14 (.iad 1) [.t 12,.t 13],oP 15 (.ldAn false 1) [.t 14],bP 16 .eql (.t 11) (.t 15)] (.t 16) f71 .skip
def h06:=Sq j0F g5v
def g5G:=Bk 1 h06
def f5j:=Rg [] [bP 18 .add (.v 5) (.c (.int .i64 1)),vP 5 (.t 18)]
def g9O:=Sq g5G f5j
def f9R:=Sq j6B g9O
def g57:=Lp f9R
def i3b:=Bk 0 g57
def f7v:=Sq j1L i3b
def h8r:=Rg [] [vP 2 (.c (.int .i64 (-1)))]
def f5g:=Sq h8r .ret
def f82:=Sq f7v f5g
def i35:=Sq j5C f82
def k0X:ACode :=
  i35
def a57:AFn:={ np:=2,nv:=6,results:=[.v 2],code:=k0X }

def j1e:=Rg [] [vP 2 (.c (.bool false))]
def i8P:=Rg [] [nP 5 0,oP 6 .lenS [.t 5],nP 7 1,oP 8 .lenS [.t 7],bP 9 .geq (.t 6) (.t 8),mP 10 (.t 9),gP 11 .mv [.v 0] 10 true,gP 12 .mv [.v 1] 10 true,gP 13 .lenS [.t 12] 10 true,gP 14 (.slS false true) [.t 11,.t 13] 10 true,gP 15 .mv [.v 1] 10 true,gP 16 (.bin .eql) [.t 14,.t 15] 10 true,oP 17 .pick [.t 10,.t 16,.c (.bool false)],vP 2 (.t 17)]
def j34:=Sq i8P .ret
def j5e:=Sq j1e j34
def k3q:ACode :=
  j5e
def a58:AFn:={ np:=2,nv:=3,results:=[.v 2],code:=k3q }

def i8v:=Rg [1] [⟨.bx,.alloc [.int .i64 0,.str []],[],some 1,none⟩]
def i8z:=Rg [] [vP 4 (.v 0),op (.v 5) .lenL [.v 4],vP 6 (.c (.int .i64 0))]
def i8X:=Ts [] [bP 8 .lss (.v 6) (.v 5)] (.t 8) .skip (.exit 0)
def j8f:=Rg [] [nP 9 6,oP 10 (.iad 1) [.v 4,.v 6],oP 11 (.ldAn false 1) [.t 10],vP 2 (.t 9),vP 3 (.t 11)]
def g1q:=Rg [] [nP 17 3,oP 18 (.build [.int .i64 0,.str []] [(0,1),(1,1)]) [.c (.int .i64 7),.t 17],xP (.stLc 1 2) [.l 1,.t 18] 1]
def h7q:=Sq g1q .ret
def f3v:=Ts [] [nP 12 0,nP 13 2,oP 14 (.slL 1 false true) [.t 12,.t 13],nP 15 3,oP 16 (.call 27) [.t 14,.t 15]] (.t 16) h7q .skip
def h0P:=Rg [] [nP 21 3,oP 22 (.build [.int .i64 0,.str []] [(0,1),(1,1)]) [.c (.int .i64 1),.t 21],xP (.stLc 1 2) [.l 1,.t 22] 1]
def f5h:=Sq h0P .ret
def h1k:=Ts [] [nP 19 3,oP 20 (.call 28) [.t 19,.c (.str [95,95])]] (.t 20) f5h .skip
def g4U:=Sq f3v h1k
def f5A:=Sq j8f g4U
def i7x:=Bk 1 f5A
def f2U:=Rg [] [bP 23 .add (.v 6) (.c (.int .i64 1)),vP 6 (.t 23)]
def f74:=Sq i7x f2U
def h9H:=Sq i8X f74
def g1h:=Lp h9H
def g4T:=Bk 0 g1h
def i4e:=Sq i8z g4T
def h3m:=Rg [] [oP 24 (.build [.int .i64 0,.str []] []) [],xP (.stLc 1 2) [.l 1,.t 24] 1]
def f27:=Sq h3m .ret
def h6M:=Sq i4e f27
def g13:=Sq i8v h6M
def k3F:ACode :=
  g13
def a59:AFn:={ np:=1,nv:=7,results:=[.bx 1 true 2],code:=k3F }

def j4I:=Rg [] [op (.v 1) .mv [.c (.list true [])]]
def j3w:=Rg [] [op (.v 2) .mv [.c (.list true [])]]
def i89:=Rg [] [vP 4 (.v 0),op (.v 5) .lenL [.v 4],vP 6 (.c (.int .i64 0))]
def i9U:=Ts [] [bP 9 .lss (.v 6) (.v 5)] (.t 9) .skip (.exit 0)
def j0C:=Rg [3] [oP 10 (.iad 11) [.v 4,.v 6],oP 11 (.ldRo true 11) [.t 10],⟨.bx,.alloc [.str [],.list true [],.str [],.list true [],.bool false,.bool false,.int .u8 0,.int .i64 0,.str [],.list true [],.list true []],[],some 3,none⟩,xP (.stLc 3 11) [.l 3,.ts 11] 3]
def h3K:=Rg [] [mP 12 (.vs 2),fP 13 0 (.l 3),lP 14 3 false 1 (.t 13),oP 15 (.bslice 1 [[.str []]] [0]) [.t 14],oP 16 (.app 1 16) [.ts 12,.t 15],vP 2 (.ts 16)]
def i4h:=Sq j0C h3K
def h8I:=Bk 1 i4h
def h4Q:=Rg [] [bP 17 .add (.v 6) (.c (.int .i64 1)),vP 6 (.t 17)]
def h1N:=Sq h8I h4Q
def i33:=Sq i9U h1N
def i3T:=Lp i33
def f6C:=Bk 0 i3T
def f7T:=Sq i89 f6C
def h3T:=Rg [] [mP 18 (.vs 2),vP 1 (.ts 18)]
def g8B:=Sq h3T .ret
def f8z:=Sq f7T g8B
def g3m:=Sq j3w f8z
def g5U:=Sq j4I g3m
def k1T:ACode :=
  g5U
def a60:AFn:={ np:=1,nv:=7,results:=[.vs 1],code:=k1T }

def j00:=Rg [3,4] [⟨.bx,.boxV,[.v 1],some 3,none⟩,⟨.bx,.alloc [.int .i64 0,.str []],[],some 4,none⟩]
def j81:=Rg [] [fP 15 2 (.l 3),lP 16 3 true 3 (.t 15),oP 17 (.call 124) [.t 16],vP 5 (.t 17)]
def i8C:=Rg [6] [nP 19 0,nP 20 5,oP 21 (.call 30) [.t 19,.t 20],mP 18 (.t 21),oP 22 (.ext 0) [.t 18],oP 23 (.ext 1) [.t 18],⟨.bx,.alloc [.int .u8 0,.str [],.list true [],.list true []],[],some 6,none⟩,xP (.stLc 6 4) [.l 6,.ts 22] 6,vP 7 (.t 23)]
def j66:=Rg [] [nP 33 5,oP 34 (.build [.int .i64 0,.str []] [(0,1),(1,1)]) [.c (.int .i64 6),.t 33],xP (.stLc 4 2) [.l 4,.t 34] 4]
def i9y:=Sq j66 .ret
def g2N:=Rg [] [nP 56 5,oP 57 (.call 62) [.t 56],vP 12 (.t 57)]
def g8M:=Ts [] [nP 49 2,oP 50 (.un .not) [.t 49],mP 51 (.t 50),gP 52 .mv [.v 0] 51 true,gP 53 .mv [.v 5] 51 true,gP 54 (.call 127) [.t 52,.t 53] 51 true,oP 55 .pick [.t 51,.t 54,.c (.bool false)],vP 12 (.t 55)] (.v 12) .skip g2N
def g7d:=Ts [] [nP 36 2,mP 37 (.t 36),gP 38 .mv [.v 0] 37 true,gP 39 .mv [.v 5] 37 true,gP 40 (.call 125) [.t 38,.t 39] 37 true,gP 41 (.un .not) [.t 40] 37 true,oP 42 .pick [.t 37,.t 41,.c (.bool false)],mP 43 (.t 42),gP 44 .mv [.v 0] 43 true,gP 45 .mv [.v 5] 43 true,gP 46 (.call 126) [.t 44,.t 45] 43 true,gP 47 (.un .not) [.t 46] 43 true,oP 48 .pick [.t 43,.t 47,.c (.bool false)],vP 12 (.t 48)] (.v 12) .skip g8M
def g0J:=Rg [] [nP 58 5,oP 59 (.build [.int .i64 0,.str []] [(0,1),(1,1)]) [.c (.int .i64 8),.t 58],xP (.stLc 4 2) [.l 4,.t 59] 4]
def h9v:=Sq g0J .ret
def g8N:=Rg [] [fP 72 0 (.l 3),lP 73 3 false 1 (.t 72),oP 74 (.build [.int .i64 0,.str []] [(0,1),(1,1)]) [.c (.int .i64 8),.t 73],xP (.stLc 4 2) [.l 4,.t 74] 4]
def f3d:=Sq g8N .ret
def f8j:=Ts [] [fP 61 5 (.l 3),lP 62 3 false 1 (.t 61),mP 63 (.t 62),gP 64 .mv [.v 0] 63 true,gP 65 (.fad 2) [.l 3] 63 true,⟨.t 66,.ldLc 3 true 3,[.t 65],some 3,some (.t 63,true)⟩,gP 67 (.fad 6) [.l 3] 63 true,⟨.t 68,.ldLc 3 true 5,[.t 67],some 3,some (.t 63,true)⟩,gP 69 (.call 128) [.t 64,.t 66,.t 68] 63 true,gP 70 (.un .not) [.t 69] 63 true,oP 71 .pick [.t 63,.t 70,.c (.bool false)],mP 60 (.t 71)] (.t 60) f3d .skip
def i15:=Ts [] [] (.v 12) h9v f8j
def f8J:=Sq g7d i15
def h6D:=Ts [] [nP 25 7,oP 26 (.un .not) [.t 25],mP 27 (.t 26),gP 28 .mv [.v 0] 27 true,gP 29 .mv [.v 5] 27 true,gP 30 (.call 125) [.t 28,.t 29] 27 true,gP 31 (.un .not) [.t 30] 27 true,oP 32 .pick [.t 27,.t 31,.c (.bool false)],mP 24 (.t 32)] (.t 24) i9y f8J
def h3N:=Bk 0 h6D
def i03:=Rg [8] [fP 75 1 (.l 3),lP 76 3 false 1 (.t 75),oP 77 (.call 60) [.t 76],oP 78 (.call 59) [.t 77],⟨.bx,.alloc [.int .i64 0,.str []],[],some 8,none⟩,xP (.stLc 8 2) [.l 8,.t 78] 8]
def g9g:=Rg [] [lP 82 8 true 2 (.l 8),xP (.stLc 4 2) [.l 4,.t 82] 4]
def i2C:=Sq g9g .ret
def f5c:=Ts [] [fP 79 0 (.l 8),lP 80 8 false 1 (.t 79),bP 81 .neq (.t 80) (.c (.int .i64 0))] (.t 81) i2C .skip
def i1H:=Sq i03 f5c
def g6R:=Rg [] [fP 83 1 (.l 3),⟨.v 13,.ldLc 3 false 1,[.t 83],some 3,none⟩,op (.v 14) .lenL [.v 13],vP 15 (.c (.int .i64 0))]
def f4D:=Ts [] [bP 87 .lss (.v 15) (.v 14)] (.t 87) .skip (.exit 1)
def i14:=Rg [9] [oP 88 (.iad 11) [.v 13,.v 15],oP 89 (.ldRo true 11) [.t 88],⟨.bx,.alloc [.str [],.list true [],.str [],.list true [],.bool false,.bool false,.int .u8 0,.int .i64 0,.str [],.list true [],.list true []],[],some 9,none⟩,xP (.stLc 9 11) [.l 9,.ts 89] 9]
def i1B:=Rg [] [fP 90 2 (.l 9),lP 91 9 true 3 (.t 90),oP 92 (.call 124) [.t 91],vP 10 (.t 92)]
def f4Q:=Rg [] [fP 106 0 (.l 9),lP 107 9 false 1 (.t 106),oP 108 (.build [.int .i64 0,.str []] [(0,1),(1,1)]) [.c (.int .i64 8),.t 107],xP (.stLc 4 2) [.l 4,.t 108] 4]
def f4N:=Sq f4Q .ret
def f9u:=Ts [] [fP 104 5 (.l 9),lP 105 9 false 1 (.t 104)] (.t 105) f4N .skip
def i5Y:=Rg [11] [nP 93 0,lP 94 9 true 11 (.l 9),oP 95 (.call 61) [.t 93,.t 94,.c (.bool true)],⟨.bx,.alloc [.int .i64 0,.str []],[],some 11,none⟩,xP (.stLc 11 2) [.l 11,.t 95] 11]
def g5p:=Rg [] [lP 99 11 true 2 (.l 11),xP (.stLc 4 2) [.l 4,.t 99] 4]
def i1Y:=Sq g5p .ret
def f6k:=Ts [] [fP 96 0 (.l 11),lP 97 11 false 1 (.t 96),bP 98 .neq (.t 97) (.c (.int .i64 0))] (.t 98) i1Y .skip
def f7x:=Sq i5Y f6k
def g0Y:=Ts [] [nP 101 0,nP 102 10,oP 103 (.call 127) [.t 101,.t 102],mP 100 (.t 103)] (.t 100) f9u f7x
def i3Q:=Bk 3 g0Y
def i1o:=Sq i1B i3Q
def i5n:=Sq i14 i1o
def h3k:=Bk 2 i5n
def g6d:=Rg [] [bP 109 .add (.v 15) (.c (.int .i64 1)),vP 15 (.t 109)]
def f8W:=Sq h3k g6d
def g98:=Sq f4D f8W
def h93:=Lp g98
def h5O:=Bk 1 h93
def h9Z:=Sq g6R h5O
def h7F:=Rg [] [oP 110 (.build [.int .i64 0,.str []] []) [],xP (.stLc 4 2) [.l 4,.t 110] 4]
def i3O:=Sq h7F .ret
def f2n:=Sq h9Z i3O
def g1E:=Sq i1H f2n
def g4o:=Sq h3N g1E
def f4F:=Sq i8C g4o
def f6q:=Sq j81 f4F
def i0V:=Sq j00 f6q
def j96:ACode :=
  i0V
def a61:AFn:={ np:=3,nv:=16,results:=[.bx 4 true 2],code:=j96 }

def j41:=Rg [] [vP 1 (.c (.bool false))]
def j5M:=Rg [] [nP 3 0,oP 4 (.bin .eql) [.t 3,.c (.str [81,117,101,114,121])],mP 5 (.t 4),gP 6 .mv [.v 0] 5 false,gP 7 (.bin .eql) [.t 6,.c (.str [77,117,116,97,116,105,111,110])] 5 false,oP 8 .pick [.t 5,.c (.bool true),.t 7],vP 1 (.t 8)]
def i8Y:=Sq j5M .ret
def i8p:=Sq j41 i8Y
def k0o:ACode :=
  i8p
def a62:AFn:={ np:=1,nv:=2,results:=[.v 1],code:=k0o }

def i86:=Rg [4] [op (.v 3) .boxO [.v 1],⟨.bx,.boxV,[.v 2],some 4,none⟩,vP 5 (.c (.bool false))]
def j2h:=Rg [] [fP 7 2 (.l 4),lP 8 4 false 1 (.t 7),oP 9 (.mkF 130 0) [.v 3],oP 10 (.call 129) [.t 8,.t 9],oP 11 (.un .not) [.t 10],vP 5 (.t 11)]
def j6X:=Sq j2h .ret
def i9X:=Sq i86 j6X
def k01:ACode :=
  i9X
def a63:AFn:={ np:=3,nv:=6,results:=[.v 5],code:=k01 }

def j2a:=Rg [2] [⟨.bx,.boxV,[.v 1],some 2,none⟩,vP 3 (.c (.bool false))]
def j2w:=Rg [] [fP 5 1 (.l 2),lP 6 2 false 1 (.t 5),oP 7 .lenL [.t 6],bP 8 .eql (.t 7) (.c (.int .i64 1)),mP 9 (.t 8),gP 10 (.fad 1) [.l 2] 9 true,⟨.t 11,.ldLc 2 false 1,[.t 10],some 2,some (.t 9,true)⟩,gP 12 (.iad 11) [.t 11,.c (.int .i64 0)] 9 true,gP 13 (.ldRo true 11) [.t 12] 9 true,gP 14 (.call 132) [.t 13] 9 true,oP 15 .pick [.t 9,.t 14,.c (.bool false)],mP 16 (.t 15),gP 17 (.fad 2) [.l 2] 16 true,gP 18 (.fad 1) [.t 17] 16 true,⟨.t 19,.ldLc 2 false 1,[.t 18],some 2,some (.t 16,true)⟩,gP 20 .lenL [.t 19] 16 true,gP 21 (.bin .eql) [.t 20,.c (.int .i64 0)] 16 true,oP 22 .pick [.t 16,.t 21,.c (.bool false)],mP 23 (.t 22),gP 24 (.fad 2) [.l 2] 23 true,gP 25 (.fad 2) [.t 24] 23 true,⟨.t 26,.ldLc 2 false 1,[.t 25],some 2,some (.t 23,true)⟩,gP 27 (.un .not) [.t 26] 23 true,oP 28 .pick [.t 23,.t 27,.c (.bool false)],mP 29 (.t 28),gP 30 .mv [.v 0] 29 true,gP 31 (.fad 2) [.l 2] 29 true,gP 32 (.fad 0) [.t 31] 29 true,⟨.t 33,.ldLc 2 false 1,[.t 32],some 2,some (.t 29,true)⟩,gP 34 (.call 111) [.t 30,.t 33] 29 true,oP 35 .pick [.t 29,.t 34,.c (.bool false)],vP 3 (.t 35)]
def j8x:=Sq j2w .ret
def j9f:=Sq j2a j8x
def k1l:ACode :=
  j9f
def a64:AFn:={ np:=2,nv:=4,results:=[.v 3],code:=k1l }

def j63:=Rg [2] [⟨.bx,.boxV,[.v 1],some 2,none⟩,vP 3 (.c (.bool false))]
def j8y:=Rg [] [fP 5 1 (.l 2),lP 6 2 false 1 (.t 5),oP 7 .lenL [.t 6],bP 8 .eql (.t 7) (.c (.int .i64 0)),mP 9 (.t 8),gP 10 .mv [.v 0] 9 true,gP 11 (.fad 2) [.l 2] 9 true,⟨.t 12,.ldLc 2 true 3,[.t 11],some 2,some (.t 9,true)⟩,gP 13 (.call 124) [.t 12] 9 true,gP 14 (.call 111) [.t 10,.t 13] 9 true,oP 15 .pick [.t 9,.t 14,.c (.bool false)],mP 16 (.t 15),gP 17 (.fad 2) [.l 2] 16 true,⟨.t 18,.ldLc 2 true 3,[.t 17],some 2,some (.t 16,true)⟩,gP 19 (.fad 2) [.l 2] 16 true,⟨.t 20,.ldLc 2 true 3,[.t 19],some 2,some (.t 16,true)⟩,gP 21 (.call 124) [.t 20] 16 true,⟨.t 22,(.build [.str [],.list true [],.bool false] [(0,1),(2,1)]),[.t 21,.c (.bool true)],none,some (.t 16,true)⟩,⟨.t 23,.bslice 3 [[.str [],.list true [],.bool false]] [0],[.t 22],none,some (.t 16,true)⟩,⟨.t 24,(.build [.str [],.list true [],.bool false] [(1,1),(2,1)]),[.t 23,.c (.bool true)],none,some (.t 16,true)⟩,gP 25 (.call 131) [.t 18,.t 24] 16 true,oP 26 .pick [.t 16,.t 25,.c (.bool false)],vP 3 (.t 26)]
def j5f:=Sq j8y .ret
def j6o:=Sq j63 j5f
def k3l:ACode :=
  j6o
def a65:AFn:={ np:=2,nv:=4,results:=[.v 3],code:=k3l }

def i9B:=Rg [3] [op (.v 2) .boxO [.v 0],⟨.bx,.boxV,[.v 1],some 3,none⟩,vP 4 (.c (.bool false))]
def j5U:=Rg [] [fP 11 0 (.l 3),lP 12 3 false 1 (.t 11),oP 13 (.call 115) [.t 12],mP 10 (.t 13),oP 14 (.ext 0) [.t 10],oP 15 (.ext 1) [.t 10],vP 5 (.t 14),vP 6 (.t 15)]
def j46:=Rg [] [oP 17 (.ldSt false 1) [.v 2],nP 18 6,oP 19 (.call 30) [.t 17,.t 18],mP 16 (.t 19),oP 20 (.ext 0) [.t 16],oP 21 (.ext 1) [.t 16],op (.v 7) (.allocO [.int .u8 0,.str [],.list true [],.list true []]) [],op .none (.stSt 4) [.v 7,.ts 20],vP 8 (.t 21)]
def j02:=Rg [] [vP 4 (.c (.bool false))]
def j2Q:=Sq j02 .ret
def f8x:=Ts [] [nP 22 8,oP 23 (.un .not) [.t 22],mP 24 (.t 23),gP 25 (.fad 0) [.v 7] 24 false,gP 26 (.ldSt false 1) [.t 25] 24 false,gP 27 (.bin .neq) [.t 26,.c (.int .u8 1)] 24 false,oP 28 .pick [.t 24,.c (.bool true),.t 27],mP 29 (.t 28),gP 30 .mv [.v 6] 29 false,gP 31 (.call 62) [.t 30] 29 false,oP 32 .pick [.t 29,.c (.bool true),.t 31],mP 33 (.t 32),gP 34 (.fad 2) [.l 3] 33 false,⟨.t 35,.ldLc 3 true 3,[.t 34],some 3,some (.t 33,false)⟩,gP 36 .mv [.v 6] 33 false,⟨.t 37,(.build [.str [],.list true [],.bool false] [(0,1)]),[.t 36],none,some (.t 33,false)⟩,gP 38 (.call 131) [.t 35,.t 37] 33 false,gP 39 (.un .not) [.t 38] 33 false,oP 40 .pick [.t 33,.c (.bool true),.t 39]] (.t 40) j2Q .skip
def g4d:=Rg [] [fP 43 1 (.l 3),lP 44 3 false 1 (.t 43),oP 45 .lenL [.t 44],bP 46 .eql (.t 45) (.c (.int .i64 1)),mP 47 (.t 46),gP 48 (.fad 1) [.l 3] 47 true,⟨.t 49,.ldLc 3 false 1,[.t 48],some 3,some (.t 47,true)⟩,gP 50 (.iad 11) [.t 49,.c (.int .i64 0)] 47 true,gP 51 (.ldRo true 11) [.t 50] 47 true,gP 52 (.call 132) [.t 51] 47 true,oP 53 .pick [.t 47,.t 52,.c (.bool false)],vP 4 (.t 53)]
def g6K:=Sq g4d .ret
def g0M:=Ts [] [nP 41 5,oP 42 (.bin .eql) [.t 41,.c (.str [100,101,108,101,116,101])]] (.t 42) g6K .skip
def h7a:=Rg [] [vP 4 (.c (.bool false))]
def i2m:=Sq h7a .ret
def f6g:=Ts [] [fP 54 1 (.l 3),lP 55 3 false 1 (.t 54),oP 56 .lenL [.t 55],bP 57 .neq (.t 56) (.c (.int .i64 2)),mP 58 (.t 57),gP 59 (.fad 1) [.l 3] 58 false,⟨.t 60,.ldLc 3 false 1,[.t 59],some 3,some (.t 58,false)⟩,gP 61 (.iad 11) [.t 60,.c (.int .i64 0)] 58 false,gP 62 (.ldRo true 11) [.t 61] 58 false,gP 63 (.call 132) [.t 62] 58 false,gP 64 (.un .not) [.t 63] 58 false,oP 65 .pick [.t 58,.c (.bool true),.t 64],mP 66 (.t 65),gP 67 (.fad 1) [.l 3] 66 false,⟨.t 68,.ldLc 3 false 1,[.t 67],some 3,some (.t 66,false)⟩,gP 69 (.iad 11) [.t 68,.c (.int .i64 1)] 66 false,gP 70 (.fad 0) [.t 69] 66 false,gP 71 (.ldRo false 1) [.t 70] 66 false,gP 72 (.bin .neq) [.t 71,.c (.str [105,110,112,117,116])] 66 false,oP 73 .pick [.t 66,.c (.bool true),.t 72],mP 74 (.t 73),gP 75 (.fad 1) [.l 3] 74 false,⟨.t 76,.ldLc 3 false 1,[.t 75],some 3,some (.t 74,false)⟩,gP 77 (.iad 11) [.t 76,.c (.int .i64 1)] 74 false,gP 78 (.fad 2) [.t 77] 74 false,gP 79 (.fad 2) [.t 78] 74 false,gP 80 (.ldRo false 1) [.t 79] 74 false,gP 81 (.un .not) [.t 80] 74 false,oP 82 .pick [.t 74,.c (.bool true),.t 81],mP 83 (.t 82),gP 84 (.fad 1) [.l 3] 83 false,⟨.t 85,.ldLc 3 false 1,[.t 84],some 3,some (.t 83,false)⟩,gP 86 (.iad 11) [.t 85,.c (.int .i64 1)] 83 false,gP 87 (.fad 2) [.t 86] 83 false,gP 88 (.fad 1) [.t 87] 83 false,gP 89 (.ldRo false 1) [.t 88] 83 false,gP 90 .lenL [.t 89] 83 false,gP 91 (.bin .gtr) [.t 90,.c (.int .i64 0)] 83 false,oP 92 .pick [.t 83,.c (.bool true),.t 91]] (.t 92) i2m .skip
def g8z:=Rg [9] [oP 94 (.ldSt false 1) [.v 2],fP 95 1 (.l 3),lP 96 3 false 1 (.t 95),oP 97 (.iad 11) [.t 96,.c (.int .i64 1)],fP 98 2 (.t 97),fP 99 0 (.t 98),oP 100 (.ldRo false 1) [.t 99],oP 101 (.call 30) [.t 94,.t 100],mP 93 (.t 101),oP 102 (.ext 0) [.t 93],oP 103 (.ext 1) [.t 93],⟨.bx,.alloc [.int .u8 0,.str [],.list true [],.list true []],[],some 9,none⟩,xP (.stLc 9 4) [.l 9,.ts 102] 9,vP 8 (.t 103)]
def h5M:=Rg [] [vP 4 (.c (.bool false))]
def g4X:=Sq h5M .ret
def h9j:=Ts [] [nP 104 8,oP 105 (.un .not) [.t 104],mP 106 (.t 105),gP 107 (.fad 0) [.l 9] 106 false,⟨.t 108,.ldLc 9 false 1,[.t 107],some 9,some (.t 106,false)⟩,gP 109 (.bin .neq) [.t 108,.c (.int .u8 5)] 106 false,oP 110 .pick [.t 106,.c (.bool true),.t 109]] (.t 110) g4X .skip
def i5g:=Rg [] [fP 111 2 (.l 9),lP 112 9 false 1 (.t 111),oP 113 (.mkF 133 0) [.v 7,.v 2],oP 114 (.call 129) [.t 112,.t 113],oP 115 (.un .not) [.t 114],vP 4 (.t 115)]
def g3i:=Sq i5g .ret
def h7P:=Sq h9j g3i
def i5c:=Sq g8z h7P
def g9L:=Sq f6g i5c
def f9v:=Sq g0M g9L
def h6H:=Sq f8x f9v
def g2r:=Sq j46 h6H
def g51:=Sq j5U g2r
def g89:=Sq i9B g51
def k3I:ACode :=
  g89
def a66:AFn:={ np:=2,nv:=10,results:=[.v 4],code:=k3I }

def j7D:=Rg [] [op (.v 1) .mv [.c (.str [])],vP 2 (.c (.int .i64 0))]
def j5y:=Rg [] [vP 3 (.c (.int .i64 0))]
def j6z:=Ts [] [nP 5 3,nP 6 0,oP 7 .lenL [.t 6],bP 8 .lss (.t 5) (.t 7)] (.t 8) .skip (.exit 0)
def j5r:=Rg [] [nP 19 0,nP 20 3,oP 21 (.iad 1) [.t 19,.t 20],oP 22 (.ldAn false 1) [.t 21],vP 1 (.t 22),vP 2 (.c (.int .i64 7))]
def j0G:=Sq j5r .ret
def g5n:=Ts [] [nP 11 0,nP 12 3,oP 13 (.slL 1 false true) [.t 11,.t 12],nP 14 0,nP 15 3,oP 16 (.iad 1) [.t 14,.t 15],oP 17 (.ldAn false 1) [.t 16],oP 18 (.call 33) [.t 13,.t 17]] (.t 18) j0G .skip
def i56:=Rg [] [nP 28 0,nP 29 3,oP 30 (.iad 1) [.t 28,.t 29],oP 31 (.ldAn false 1) [.t 30],vP 1 (.t 31),vP 2 (.c (.int .i64 1))]
def h5a:=Sq i56 .ret
def h5u:=Ts [] [nP 23 0,nP 24 3,oP 25 (.iad 1) [.t 23,.t 24],oP 26 (.ldAn false 1) [.t 25],oP 27 (.call 34) [.t 26,.c (.str [95,95])]] (.t 27) h5a .skip
def i1b:=Sq g5n h5u
def i7S:=Bk 1 i1b
def f2S:=Rg [] [nP 9 3,bP 10 .add (.t 9) (.c (.int .i64 1)),vP 3 (.t 10)]
def g4e:=Sq i7S f2S
def h3Q:=Sq j6z g4e
def i5O:=Lp h3Q
def i0w:=Bk 0 i5O
def i2A:=Sq j5y i0w
def g3L:=Rg [] [op (.v 1) .mv [.c (.str [])],vP 2 (.c (.int .i64 0))]
def h0w:=Sq g3L .ret
def f6m:=Sq i2A h0w
def g0T:=Sq j7D f6m
def k1p:ACode :=
  g0T
def a67:AFn:={ np:=1,nv:=4,results:=[.v 1,.v 2],code:=k1p }

def j8A:=Rg [] [op (.v 1) .mv [.c (.list true [])]]
def j4V:=Rg [] [op (.v 2) .mv [.c (.list true [])]]
def j0x:=Rg [] [vP 3 (.c (.int .i64 0))]
def j1F:=Ts [] [nP 5 3,nP 6 0,oP 7 .lenL [.t 6],bP 8 .lss (.t 5) (.t 7)] (.t 8) .skip (.exit 0)
def j7S:=Rg [] [mP 11 (.vs 2),nP 12 0,nP 13 3,oP 14 (.iad 11) [.t 12,.t 13],fP 15 0 (.t 14),oP 16 (.ldRo false 1) [.t 15],oP 17 (.bslice 1 [[.str []]] [0]) [.t 16],oP 18 (.app 1 16) [.ts 11,.t 17],vP 2 (.ts 18)]
def g3t:=Bk 1 j7S
def i1K:=Rg [] [nP 9 3,bP 10 .add (.t 9) (.c (.int .i64 1)),vP 3 (.t 10)]
def g1J:=Sq g3t i1K
def f53:=Sq j1F g1J
def f2X:=Lp f53
def h4x:=Bk 0 f2X
def h3C:=Sq j0x h4x
def h4n:=Rg [] [nP 19 2,vP 1 (.ts 19)]
def f6W:=Sq h4n .ret
def f5p:=Sq h3C f6W
def f2T:=Sq j4V f5p
def h8N:=Sq j8A f2T
def k1J:ACode :=
  h8N
def a68:AFn:={ np:=1,nv:=4,results:=[.v 1],code:=k1J }

def i95:=Rg [3] [⟨.bx,.boxV,[.v 1],some 3,none⟩,op (.v 4) .mv [.c (.str [])],vP 5 (.c (.int .i64 0))]
def j5A:=Rg [] [fP 14 2 (.l 3),lP 15 3 true 3 (.t 14),oP 16 (.call 73) [.t 15],vP 6 (.t 16)]
def j8o:=Rg [] [nP 17 0,nP 18 6,oP 19 (.call 36) [.t 17,.t 18],oP 20 (.fld 0 1 false) [.t 19],vP 7 (.t 20)]
def i9v:=Rg [] [nP 28 6,vP 4 (.t 28),vP 5 (.c (.int .i64 6))]
def j0u:=Sq i9v .ret
def i6q:=Ts [] [nP 21 6,oP 22 (.call 32) [.t 21],oP 23 (.un .not) [.t 22],mP 24 (.t 23),gP 25 .mv [.v 7] 24 true,gP 26 (.bin .eql) [.t 25,.c (.int .u8 0)] 24 true,oP 27 .pick [.t 24,.t 26,.c (.bool false)]] (.t 27) j0u .skip
def f83:=Rg [] [nP 48 6,vP 4 (.t 48),vP 5 (.c (.int .i64 8))]
def g6Y:=Sq f83 .ret
def f81:=Ts [] [nP 29 2,mP 30 (.t 29),gP 31 .mv [.v 0] 30 true,gP 32 .mv [.v 6] 30 true,gP 33 (.call 135) [.t 31,.t 32] 30 true,gP 34 (.un .not) [.t 33] 30 true,oP 35 .pick [.t 30,.t 34,.c (.bool false)],mP 36 (.t 35),gP 37 .mv [.v 2] 36 false,gP 38 (.un .not) [.t 37] 36 false,gP 39 .mv [.t 38] 36 false,gP 40 .mv [.v 7] 39 true,gP 41 (.bin .eql) [.t 40,.c (.int .u8 5)] 39 true,gP 42 .pick [.t 39,.t 41,.c (.bool false)] 36 false,oP 43 .pick [.t 36,.c (.bool true),.t 42],mP 44 (.t 43),gP 45 .mv [.v 6] 44 false,gP 46 (.call 70) [.t 45] 44 false,oP 47 .pick [.t 44,.c (.bool true),.t 46]] (.t 47) g6Y .skip
def f9Z:=Rg [] [fP 60 0 (.l 3),lP 61 3 false 1 (.t 60),vP 4 (.t 61),vP 5 (.c (.int .i64 8))]
def h0C:=Sq f9Z .ret
def i7j:=Ts [] [fP 49 5 (.l 3),lP 50 3 false 1 (.t 49),mP 51 (.t 50),gP 52 .mv [.v 0] 51 true,gP 53 (.fad 2) [.l 3] 51 true,⟨.t 54,.ldLc 3 true 3,[.t 53],some 3,some (.t 51,true)⟩,gP 55 (.fad 6) [.l 3] 51 true,⟨.t 56,.ldLc 3 true 5,[.t 55],some 3,some (.t 51,true)⟩,gP 57 (.call 136) [.t 52,.t 54,.t 56,.c (.bool false)] 51 true,gP 58 (.un .not) [.t 57] 51 true,oP 59 .pick [.t 51,.t 58,.c (.bool false)]] (.t 59) h0C .skip
def g0z:=Rg [] [fP 63 1 (.l 3),lP 64 3 false 1 (.t 63),oP 65 (.call 68) [.t 64],oP 66 (.call 67) [.t 65],mP 62 (.t 66),oP 67 (.ext 0) [.t 62],oP 68 (.ext 1) [.t 62],vP 8 (.t 67),vP 9 (.t 68)]
def h2a:=Rg [] [nP 71 8,nP 72 9,vP 4 (.t 71),vP 5 (.t 72)]
def f9p:=Sq h2a .ret
def f2E:=Ts [] [nP 69 9,bP 70 .neq (.t 69) (.c (.int .i64 0))] (.t 70) f9p .skip
def h0y:=Rg [] [vP 10 (.c (.int .i64 0))]
def f5v:=Ts [] [nP 73 10,fP 74 1 (.l 3),lP 75 3 false 1 (.t 74),oP 76 .lenL [.t 75],bP 77 .lss (.t 73) (.t 76)] (.t 77) .skip (.exit 0)
def i5x:=Rg [11] [fP 80 1 (.l 3),lP 81 3 false 1 (.t 80),nP 82 10,oP 83 (.iad 11) [.t 81,.t 82],oP 84 (.ldRo true 11) [.t 83],⟨.bx,.alloc [.str [],.list true [],.str [],.list true [],.bool false,.bool false,.int .u8 0,.int .i64 0,.str [],.list true [],.list true []],[],some 11,none⟩,xP (.stLc 11 11) [.l 11,.ts 84] 11]
def h2I:=Rg [] [fP 94 0 (.l 11),lP 95 11 false 1 (.t 94),vP 4 (.t 95),vP 5 (.c (.int .i64 8))]
def i1a:=Sq h2I .ret
def i5w:=Ts [] [fP 92 5 (.l 11),lP 93 11 false 1 (.t 92)] (.t 93) i1a .skip
def i6H:=Sq i5w (.exit 1)
def g8C:=Ts [] [nP 85 0,fP 86 2 (.l 11),lP 87 11 true 3 (.t 86),oP 88 (.call 73) [.t 87],oP 89 (.call 36) [.t 85,.t 88],oP 90 (.fld 0 1 false) [.t 89],bP 91 .eql (.t 90) (.c (.int .u8 5))] (.t 91) i6H .skip
def f6O:=Rg [] [nP 97 0,lP 98 11 true 11 (.l 11),oP 99 (.call 69) [.t 97,.t 98,.c (.bool true)],mP 96 (.t 99),oP 100 (.ext 0) [.t 96],oP 101 (.ext 1) [.t 96],vP 8 (.t 100),vP 9 (.t 101)]
def f4y:=Rg [] [nP 104 8,nP 105 9,vP 4 (.t 104),vP 5 (.t 105)]
def f2K:=Sq f4y .ret
def g9v:=Ts [] [nP 102 9,bP 103 .neq (.t 102) (.c (.int .i64 0))] (.t 103) f2K .skip
def g6w:=Sq f6O g9v
def i4z:=Sq g8C g6w
def f94:=Sq i5x i4z
def g4L:=Bk 1 f94
def g6B:=Rg [] [nP 78 10,bP 79 .add (.t 78) (.c (.int .i64 1)),vP 10 (.t 79)]
def g3N:=Sq g4L g6B
def g7X:=Sq f5v g3N
def g43:=Lp g7X
def h7C:=Bk 0 g43
def h9A:=Sq h0y h7C
def h68:=Rg [] [op (.v 4) .mv [.c (.str [])],vP 5 (.c (.int .i64 0))]
def g3J:=Sq h68 .ret
def f3h:=Sq h9A g3J
def i2S:=Sq f2E f3h
def h9J:=Sq g0z i2S
def h1J:=Sq i7j h9J
def i5A:=Sq f81 h1J
def g6I:=Sq i6q i5A
def g6A:=Sq j8o g6I
def g8Y:=Sq j5A g6A
def g0C:=Sq i95 g8Y
def k1Q:ACode :=
  g0C
def a69:AFn:={ np:=3,nv:=12,results:=[.v 4,.v 5],code:=k1Q }

def j3K:=Rg [] [vP 1 (.c (.bool false))]
def j5s:=Rg [] [nP 3 0,oP 4 (.bin .eql) [.t 3,.c (.str [81,117,101,114,121])],mP 5 (.t 4),gP 6 .mv [.v 0] 5 false,gP 7 (.bin .eql) [.t 6,.c (.str [77,117,116,97,116,105,111,110])] 5 false,oP 8 .pick [.t 5,.c (.bool true),.t 7],vP 1 (.t 8)]
def j7n:=Sq j5s .ret
def j11:=Sq j3K j7n
def k1G:ACode :=
  j11
def a70:AFn:={ np:=1,nv:=2,results:=[.v 1],code:=k1G }

def i9o:=Rg [] [vP 2 (.c (.int .i64 0))]
def i9R:=Rg [] [vP 3 (.c (.int .i64 0))]
def i8L:=Ts [] [nP 6 3,nP 7 0,oP 8 .lenL [.t 7],bP 9 .lss (.t 6) (.t 8)] (.t 9) .skip (.exit 0)
def j6Q:=Rg [] [nP 19 3,vP 2 (.t 19)]
def j5w:=Sq j6Q .ret
def g4x:=Ts [] [nP 12 0,nP 13 3,oP 14 (.iad 11) [.t 12,.t 13],fP 15 0 (.t 14),oP 16 (.ldRo false 1) [.t 15],nP 17 1,bP 18 .eql (.t 16) (.t 17)] (.t 18) j5w .skip
def h57:=Bk 1 g4x
def f5O:=Rg [] [nP 10 3,bP 11 .add (.t 10) (.c (.int .i64 1)),vP 3 (.t 11)]
def g0h:=Sq h57 f5O
def g0c:=Sq i8L g0h
def g9s:=Lp g0c
def f70:=Bk 0 g9s
def f4W:=Sq i9R f70
def i4u:=Rg [] [vP 2 (.c (.int .i64 (-1)))]
def i3I:=Sq i4u .ret
def h54:=Sq f4W i3I
def i7a:=Sq i9o h54
def k1w:ACode :=
  i7a
def a71:AFn:={ np:=2,nv:=4,results:=[.v 2],code:=k1w }

def j44:=Rg [2,3] [⟨.bx,.boxV,[.v 0],some 2,none⟩,⟨.bx,.boxV,[.v 1],some 3,none⟩,vP 4 (.c (.bool false))]
def j5V:=Rg [] [vP 4 (.c (.bool false))]
def j3I:=Sq j5V .ret
def j2z:=Ts [] [fP 5 0 (.l 2),lP 6 2 false 1 (.t 5),fP 7 0 (.l 3),lP 8 3 false 1 (.t 7),bP 9 .neq (.t 6) (.t 8),mP 10 (.t 9),gP 11 (.fad 2) [.l 2] 10 false,⟨.t 12,.ldLc 2 false 1,[.t 11],some 2,some (.t 10,false)⟩,gP 13 (.fad 2) [.l 3] 10 false,⟨.t 14,.ldLc 3 false 1,[.t 13],some 3,some (.t 10,false)⟩,gP 15 (.binB .neq) [.t 12,.t 14] 10 false,oP 16 .pick [.t 10,.c (.bool true),.t 15],mP 17 (.t 16),gP 18 (.fad 1) [.l 2] 17 false,⟨.t 19,.ldLc 2 false 1,[.t 18],some 2,some (.t 17,false)⟩,gP 20 .lenL [.t 19] 17 false,gP 21 (.fad 1) [.l 3] 17 false,⟨.t 22,.ldLc 3 false 1,[.t 21],some 3,some (.t 17,false)⟩,gP 23 .lenL [.t 22] 17 false,gP 24 (.bin .neq) [.t 20,.t 23] 17 false,oP 25 .pick [.t 17,.c (.bool true),.t 24]] (.t 25) j3I .skip
def j71:=Rg [] [fP 26 1 (.l 2),lP 27 2 false 1 (.t 26),oP 28 .lenL [.t 27],bP 29 .eql (.t 28) (.c (.int .i64 0)),mP 30 (.t 29),gP 31 (.fad 1) [.l 2] 30 false,⟨.t 32,.ldLc 2 false 1,[.t 31],some 2,some (.t 30,false)⟩,gP 33 (.iad 3) [.t 32,.c (.int .i64 0)] 30 false,gP 34 (.ldRo true 3) [.t 33] 30 false,gP 35 (.fad 1) [.l 3] 30 false,⟨.t 36,.ldLc 3 false 1,[.t 35],some 3,some (.t 30,false)⟩,gP 37 (.iad 3) [.t 36,.c (.int .i64 0)] 30 false,gP 38 (.ldRo true 3) [.t 37] 30 false,gP 39 (.call 72) [.t 34,.t 38] 30 false,oP 40 .pick [.t 30,.c (.bool true),.t 39],vP 4 (.t 40)]
def j01:=Sq j71 .ret
def h69:=Sq j2z j01
def h7p:=Sq j44 h69
def k3b:ACode :=
  h7p
def a72:AFn:={ np:=2,nv:=5,results:=[.v 4],code:=k3b }

def j1Y:=Rg [1] [⟨.bx,.boxV,[.v 0],some 1,none⟩,op (.v 2) .mv [.c (.str [])]]
def j4u:=Rg [] [fP 7 1 (.l 1),lP 8 1 false 1 (.t 7),oP 9 (.iad 3) [.t 8,.c (.int .i64 0)],oP 10 (.ldRo true 3) [.t 9],oP 11 (.call 73) [.t 10],vP 2 (.t 11)]
def j7M:=Sq j4u .ret
def j49:=Ts [] [fP 3 1 (.l 1),lP 4 1 false 1 (.t 3),oP 5 .lenL [.t 4],bP 6 .gtr (.t 5) (.c (.int .i64 0))] (.t 6) j7M .skip
def i88:=Rg [] [fP 12 0 (.l 1),lP 13 1 false 1 (.t 12),vP 2 (.t 13)]
def j15:=Sq i88 .ret
def h1M:=Sq j49 j15
def h12:=Sq j1Y h1M
def k3c:ACode :=
  h12
def a73:AFn:={ np:=1,nv:=3,results:=[.v 2],code:=k3c }

def j3s:=Rg [] [vP 2 (.c (.bool false))]
def i8s:=Rg [] [nP 6 0,nP 7 1,oP 8 (.call 36) [.t 6,.t 7],oP 9 (.fld 0 1 false) [.t 8],vP 3 (.t 9)]
def j19:=Rg [] [nP 10 1,oP 11 (.call 70) [.t 10],oP 12 (.un .not) [.t 11],mP 13 (.t 12),gP 14 .mv [.v 3] 13 true,gP 15 (.bin .eql) [.t 14,.c (.int .u8 1)] 13 true,gP 16 .mv [.t 15] 13 true,gP 17 .mv [.v 3] 16 false,gP 18 (.bin .eql) [.t 17,.c (.int .u8 2)] 16 false,gP 19 .pick [.t 16,.c (.bool true),.t 18] 13 true,gP 20 .mv [.t 19] 13 true,gP 21 .mv [.v 3] 20 false,gP 22 (.bin .eql) [.t 21,.c (.int .u8 3)] 20 false,gP 23 .pick [.t 20,.c (.bool true),.t 22] 13 true,oP 24 .pick [.t 13,.t 23,.c (.bool false)],vP 2 (.t 24)]
def j3M:=Sq j19 .ret
def j8J:=Sq i8s j3M
def i9Z:=Sq j3s j8J
def k2Q:ACode :=
  i9Z
def a74:AFn:={ np:=2,nv:=4,results:=[.v 2],code:=k2Q }

def j72:=Rg [1] [⟨.bx,.boxV,[.v 0],some 1,none⟩,vP 2 (.c (.bool false))]
def i8K:=Rg [] [fP 3 0 (.l 1),lP 4 1 false 1 (.t 3),oP 5 (.bin .eql) [.t 4,.c (.str [105,100])],mP 6 (.t 5),gP 7 (.fad 2) [.l 1] 6 true,gP 8 (.fad 0) [.t 7] 6 true,⟨.t 9,.ldLc 1 false 1,[.t 8],some 1,some (.t 6,true)⟩,gP 10 (.bin .eql) [.t 9,.c (.str [73,68])] 6 true,oP 11 .pick [.t 6,.t 10,.c (.bool false)],mP 12 (.t 11),gP 13 (.fad 2) [.l 1] 12 true,gP 14 (.fad 2) [.t 13] 12 true,⟨.t 15,.ldLc 1 false 1,[.t 14],some 1,some (.t 12,true)⟩,oP 16 .pick [.t 12,.t 15,.c (.bool false)],mP 17 (.t 16),gP 18 (.fad 2) [.l 1] 17 true,gP 19 (.fad 1) [.t 18] 17 true,⟨.t 20,.ldLc 1 false 1,[.t 19],some 1,some (.t 17,true)⟩,gP 21 .lenL [.t 20] 17 true,gP 22 (.bin .eql) [.t 21,.c (.int .i64 0)] 17 true,oP 23 .pick [.t 17,.t 22,.c (.bool false)],mP 24 (.t 23),gP 25 (.fad 5) [.l 1] 24 true,⟨.t 26,.ldLc 1 false 1,[.t 25],some 1,some (.t 24,true)⟩,gP 27 (.un .not) [.t 26] 24 true,oP 28 .pick [.t 24,.t 27,.c (.bool false)],vP 2 (.t 28)]
def i9k:=Sq i8K .ret
def j3D:=Sq j72 i9k
def k2m:ACode :=
  j3D
def a75:AFn:={ np:=1,nv:=3,results:=[.v 2],code:=k2m }

def j1N:=Rg [2] [⟨.bx,.boxV,[.v 1],some 2,none⟩,vP 3 (.c (.bool false))]
def j8M:=Rg [] [fP 12 0 (.l 2),lP 13 2 false 1 (.t 12),oP 14 (.call 137) [.t 13],mP 11 (.t 14),oP 15 (.ext 0) [.t 11],oP 16 (.ext 1) [.t 11],vP 4 (.t 15),vP 5 (.t 16)]
def j7W:=Rg [6] [nP 17 0,nP 18 5,oP 19 (.call 36) [.t 17,.t 18],⟨.bx,.alloc [.int .u8 0,.str [],.list true [],.list true []],[],some 6,none⟩,xP (.stLc 6 4) [.l 6,.ts 19] 6]
def j2x:=Rg [] [vP 3 (.c (.bool false))]
def j2y:=Sq j2x .ret
def g5F:=Ts [] [nP 20 4,oP 21 (.bin .eql) [.t 20,.c (.str [])],mP 22 (.t 21),gP 23 (.fad 0) [.l 6] 22 false,⟨.t 24,.ldLc 6 false 1,[.t 23],some 6,some (.t 22,false)⟩,gP 25 (.bin .neq) [.t 24,.c (.int .u8 1)] 22 false,oP 26 .pick [.t 22,.c (.bool true),.t 25],mP 27 (.t 26),gP 28 .mv [.v 5] 27 false,gP 29 (.call 70) [.t 28] 27 false,oP 30 .pick [.t 27,.c (.bool true),.t 29],mP 31 (.t 30),gP 32 (.fad 2) [.l 2] 31 false,gP 33 (.fad 1) [.t 32] 31 false,⟨.t 34,.ldLc 2 false 1,[.t 33],some 2,some (.t 31,false)⟩,gP 35 .lenL [.t 34] 31 false,gP 36 (.bin .gtr) [.t 35,.c (.int .i64 0)] 31 false,oP 37 .pick [.t 31,.c (.bool true),.t 36],mP 38 (.t 37),gP 39 (.fad 2) [.l 2] 38 false,gP 40 (.fad 2) [.t 39] 38 false,⟨.t 41,.ldLc 2 false 1,[.t 40],some 2,some (.t 38,false)⟩,oP 42 .pick [.t 38,.c (.bool true),.t 41],mP 43 (.t 42),gP 44 (.fad 2) [.l 2] 43 false,gP 45 (.fad 0) [.t 44] 43 false,⟨.t 46,.ldLc 2 false 1,[.t 45],some 2,some (.t 43,false)⟩,gP 47 .mv [.v 5] 43 false,gP 48 (.bin .neq) [.t 46,.t 47] 43 false,oP 49 .pick [.t 43,.c (.bool true),.t 48],mP 50 (.t 49),gP 51 (.fad 1) [.l 2] 50 false,⟨.t 52,.ldLc 2 false 1,[.t 51],some 2,some (.t 50,false)⟩,gP 53 .lenL [.t 52] 50 false,gP 54 (.bin .eql) [.t 53,.c (.int .i64 0)] 50 false,oP 55 .pick [.t 50,.c (.bool true),.t 54],mP 56 (.t 55),gP 57 (.fad 1) [.l 2] 56 false,⟨.t 58,.ldLc 2 false 1,[.t 57],some 2,some (.t 56,false)⟩,gP 59 (.iad 11) [.t 58,.c (.int .i64 0)] 56 false,gP 60 (.ldRo true 11) [.t 59] 56 false,gP 61 (.call 75) [.t 60] 56 false,gP 62 (.un .not) [.t 61] 56 false,oP 63 .pick [.t 56,.c (.bool true),.t 62]] (.t 63) j2y .skip
def g16:=Rg [] [fP 66 1 (.l 2),lP 67 2 false 1 (.t 66),oP 68 .lenL [.t 67],bP 69 .eql (.t 68) (.c (.int .i64 1)),vP 3 (.t 69)]
def g1Q:=Sq g16 .ret
def f6o:=Ts [] [nP 64 4,oP 65 (.bin .eql) [.t 64,.c (.str [100,101,108,101,116,101])]] (.t 65) g1Q .skip
def i7b:=Rg [] [vP 3 (.c (.bool false))]
def i2l:=Sq i7b .ret
def g7p:=Ts [] [fP 70 1 (.l 2),lP 71 2 false 1 (.t 70),oP 72 .lenL [.t 71],bP 73 .neq (.t 72) (.c (.int .i64 2)),mP 74 (.t 73),gP 75 (.fad 1) [.l 2] 74 false,⟨.t 76,.ldLc 2 false 1,[.t 75],some 2,some (.t 74,false)⟩,gP 77 (.iad 11) [.t 76,.c (.int .i64 1)] 74 false,gP 78 (.fad 0) [.t 77] 74 false,gP 79 (.ldRo false 1) [.t 78] 74 false,gP 80 (.bin .neq) [.t 79,.c (.str [105,110,112,117,116])] 74 false,oP 81 .pick [.t 74,.c (.bool true),.t 80],mP 82 (.t 81),gP 83 (.fad 1) [.l 2] 82 false,⟨.t 84,.ldLc 2 false 1,[.t 83],some 2,some (.t 82,false)⟩,gP 85 (.iad 11) [.t 84,.c (.int .i64 1)] 82 false,gP 86 (.fad 2) [.t 85] 82 false,gP 87 (.fad 2) [.t 86] 82 false,gP 88 (.ldRo false 1) [.t 87] 82 false,gP 89 (.un .not) [.t 88] 82 false,oP 90 .pick [.t 82,.c (.bool true),.t 89],mP 91 (.t 90),gP 92 (.fad 1) [.l 2] 91 false,⟨.t 93,.ldLc 2 false 1,[.t 92],some 2,some (.t 91,false)⟩,gP 94 (.iad 11) [.t 93,.c (.int .i64 1)] 91 false,gP 95 (.fad 2) [.t 94] 91 false,gP 96 (.fad 1) [.t 95] 91 false,gP 97 (.ldRo false 1) [.t 96] 91 false,gP 98 .lenL [.t 97] 91 false,gP 99 (.bin .gtr) [.t 98,.c (.int .i64 0)] 91 false,oP 100 .pick [.t 91,.c (.bool true),.t 99]] (.t 100) i2l .skip
def f7r:=Rg [7] [nP 101 0,fP 102 1 (.l 2),lP 103 2 false 1 (.t 102),oP 104 (.iad 11) [.t 103,.c (.int .i64 1)],fP 105 2 (.t 104),fP 106 0 (.t 105),oP 107 (.ldRo false 1) [.t 106],oP 108 (.call 36) [.t 101,.t 107],⟨.bx,.alloc [.int .u8 0,.str [],.list true [],.list true []],[],some 7,none⟩,xP (.stLc 7 4) [.l 7,.ts 108] 7]
def h5R:=Rg [] [vP 3 (.c (.bool false))]
def g5V:=Sq h5R .ret
def g0W:=Ts [] [fP 109 0 (.l 7),lP 110 7 false 1 (.t 109),bP 111 .neq (.t 110) (.c (.int .u8 5))] (.t 111) g5V .skip
def i6e:=Rg [] [vP 8 (.c (.int .i64 0))]
def i6B:=Ts [] [nP 112 8,fP 113 2 (.l 7),lP 114 7 false 1 (.t 113),oP 115 .lenL [.t 114],bP 116 .lss (.t 112) (.t 115)] (.t 116) .skip (.exit 0)
def f5f:=Rg [] [fP 119 2 (.l 6),lP 120 6 false 1 (.t 119),fP 121 2 (.l 7),lP 122 7 false 1 (.t 121),nP 123 8,oP 124 (.iad 11) [.t 122,.t 123],fP 125 0 (.t 124),oP 126 (.ldRo false 1) [.t 125],oP 127 (.call 71) [.t 120,.t 126],vP 9 (.t 127)]
def g7R:=Rg [] [vP 3 (.c (.bool false))]
def h6E:=Sq g7R .ret
def f5U:=Ts [] [nP 128 9,bP 129 .lss (.t 128) (.c (.int .i64 0)),mP 130 (.t 129),gP 131 .mv [.v 0] 130 false,gP 132 (.fad 2) [.l 6] 130 false,⟨.t 133,.ldLc 6 false 1,[.t 132],some 6,some (.t 130,false)⟩,gP 134 .mv [.v 9] 130 false,gP 135 (.iad 11) [.t 133,.t 134] 130 false,gP 136 (.fad 2) [.t 135] 130 false,gP 137 (.ldRo true 3) [.t 136] 130 false,gP 138 (.fad 2) [.l 7] 130 false,⟨.t 139,.ldLc 7 false 1,[.t 138],some 7,some (.t 130,false)⟩,gP 140 .mv [.v 8] 130 false,gP 141 (.iad 11) [.t 139,.t 140] 130 false,gP 142 (.fad 2) [.t 141] 130 false,gP 143 (.ldRo true 3) [.t 142] 130 false,gP 144 (.call 138) [.t 131,.t 137,.t 143] 130 false,gP 145 (.un .not) [.t 144] 130 false,oP 146 .pick [.t 130,.c (.bool true),.t 145]] (.t 146) h6E .skip
def h6h:=Sq f5f f5U
def g07:=Bk 1 h6h
def g8G:=Rg [] [nP 117 8,bP 118 .add (.t 117) (.c (.int .i64 1)),vP 8 (.t 118)]
def i7F:=Sq g07 g8G
def f9M:=Sq i6B i7F
def i2Q:=Lp f9M
def h1B:=Bk 0 i2Q
def i4R:=Sq i6e h1B
def i5v:=Rg [] [vP 3 (.c (.bool true))]
def h4f:=Sq i5v .ret
def h49:=Sq i4R h4f
def i7I:=Sq g0W h49
def i4Z:=Sq f7r i7I
def f5u:=Sq g7p i4Z
def i0M:=Sq f6o f5u
def h8b:=Sq g5F i0M
def h1W:=Sq j7W h8b
def i7U:=Sq j8M h1W
def h0L:=Sq j1N i7U
def k2O:ACode :=
  h0L
def a76:AFn:={ np:=2,nv:=10,results:=[.v 3],code:=k2O }

def j2o:=Rg [] [vP 3 (.c (.int .i64 0)),vP 4 (.c (.bool false))]
def j0i:=Rg [] [nP 12 0,oP 13 .lenL [.t 12],vP 5 (.t 13)]
def j77:=Rg [] [nP 14 5,vP 6 (.c (.int .i64 0)),vP 7 (.t 14)]
def j8Y:=Ts [] [nP 15 6,nP 16 7,bP 17 .lss (.t 15) (.t 16)] (.t 17) .skip (.exit 0)
def j4t:=Rg [] [nP 18 6,nP 19 7,bP 20 .add (.t 18) (.t 19),oP 21 (.conv .u64) [.t 20],bP 22 .shr (.t 21) (.c (.int .u64 1)),oP 23 (.conv .i64) [.t 22],vP 8 (.t 23)]
def g7H:=Rg [] [nP 32 8,bP 33 .add (.t 32) (.c (.int .i64 1)),vP 6 (.t 33)]
def g49:=Rg [] [nP 34 8,vP 7 (.t 34)]
def f3T:=Ts [] [nP 24 2,nP 25 0,nP 26 8,oP 27 (.iad 4) [.t 25,.t 26],oP 28 (.ldAn true 4) [.t 27],nP 29 1,oP 30 .callV [.t 24,.t 28,.t 29],bP 31 .lss (.t 30) (.c (.int .i64 0))] (.t 31) g7H g49
def i7M:=Sq j4t f3T
def h09:=Bk 1 i7M
def g1t:=Sq j8Y h09
def h0V:=Lp g1t
def h4Z:=Bk 0 h0V
def i4P:=Rg [] [nP 35 6,nP 36 6,nP 37 5,bP 38 .lss (.t 36) (.t 37),mP 39 (.t 38),gP 40 .mv [.v 2] 39 true,gP 41 .mv [.v 0] 39 true,gP 42 .mv [.v 6] 39 true,gP 43 (.iad 4) [.t 41,.t 42] 39 true,gP 44 (.ldAn true 4) [.t 43] 39 true,gP 45 .mv [.v 1] 39 true,gP 46 .callV [.t 40,.t 44,.t 45] 39 true,gP 47 (.bin .eql) [.t 46,.c (.int .i64 0)] 39 true,oP 48 .pick [.t 39,.t 47,.c (.bool false)],vP 3 (.t 35),vP 4 (.t 48)]
def h7S:=Sq i4P .ret
def g8c:=Sq h4Z h7S
def g6V:=Sq j77 g8c
def f56:=Sq j0i g6V
def f3g:=Sq j2o f56
def k32:ACode :=
  f3g
def a77:AFn:={ np:=3,nv:=9,results:=[.v 3,.v 4],code:=k32 }

def j1b:=Rg [2] [⟨.bx,.boxV,[.v 0],some 2,none⟩,vP 3 (.c (.int .i64 0))]
def i8t:=Rg [] [vP 3 (.c (.int .i64 (-1)))]
def j0L:=Sq i8t .ret
def j1X:=Rg [] [vP 3 (.c (.int .i64 1))]
def j7z:=Sq j1X .ret
def h9M:=Ts [] [fP 11 1 (.l 2),lP 12 2 false 1 (.t 11),nP 13 1,bP 14 .gtr (.t 12) (.t 13),mP 10 (.t 14)] (.t 10) j7z .skip
def h8g:=Ts [] [fP 6 1 (.l 2),lP 7 2 false 1 (.t 6),nP 8 1,bP 9 .lss (.t 7) (.t 8),mP 5 (.t 9)] (.t 5) j0L h9M
def i4M:=Bk 0 h8g
def h3I:=Rg [] [vP 3 (.c (.int .i64 0))]
def f6y:=Sq h3I .ret
def f5V:=Sq i4M f6y
def f80:=Sq j1b f5V
def k2x:ACode :=
  f80
def a78:AFn:={ np:=2,nv:=4,results:=[.v 3],code:=k2x }

def j78:=Rg [] [op (.v 1) .mv [.c (.list true [])],vP 2 (.c (.int .i64 0)),vP 3 (.c (.int .i64 0))]
def j0W:=Rg [] [op (.v 1) .mv [.c (.list true [])],vP 2 (.c (.int .i64 0)),vP 3 (.c (.int .i64 2))]
def j1U:=Sq j0W .ret
def j7c:=Ts [] [nP 11 0,oP 12 .lenS [.t 11],bP 13 .gtr (.t 12) (.c (.int .i64 2000))] (.t 13) j1U .skip
def j2T:=Rg [] [op (.v 4) .mv [.c (.list true [])]]
def h2m:=Rg [] [vP 5 (.c (.int .i64 0))]
def f7Z:=Rg [] [nP 14 5,nP 15 0,nP 16 5,oP 17 (.slS true false) [.t 15,.t 16],oP 18 (.call 140) [.t 17,.c (.func 141 [] [])],bP 19 .add (.t 14) (.t 18),vP 5 (.t 19)]
def f9w:=Rg [] [mP 25 (.vs 4),nP 26 5,oP 27 (.build [.int .u8 0,.str [],.int .i64 0,.int .i64 0] [(3,1)]) [.t 26],oP 28 (.bslice 4 [[.int .u8 0,.str [],.int .i64 0,.int .i64 0]] [0]) [.t 27],oP 29 (.app 4 40) [.ts 25,.t 28],vP 1 (.ts 29),vP 2 (.c (.int .i64 0)),vP 3 (.c (.int .i64 0))]
def h5s:=Sq f9w .ret
def i2g:=Rg [] [nP 35 5,nP 36 0,nP 37 5,oP 38 (.slS true false) [.t 36,.t 37],oP 39 (.call 140) [.t 38,.c (.func 143 [] [])],bP 40 .add (.t 35) (.t 39),vP 5 (.t 40)]
def i48:=Sq i2g (.exit 1)
def g8s:=Ts [] [nP 31 0,nP 32 5,oP 33 .idxS [.t 31,.t 32],bP 34 .eql (.t 33) (.c (.int .u8 35)),mP 30 (.t 34)] (.t 30) i48 .skip
def g2T:=Ts [] [nP 21 5,nP 22 0,oP 23 .lenS [.t 22],bP 24 .eql (.t 21) (.t 23),mP 20 (.t 24)] (.t 20) h5s g8s
def i16:=Bk 2 g2T
def h2v:=Rg [6] [nP 42 0,nP 43 5,oP 44 (.slS true false) [.t 42,.t 43],oP 45 (.call 144) [.t 44],mP 41 (.t 45),oP 46 (.ext 0) [.t 41],oP 47 (.ext 1) [.t 41],oP 48 (.ext 2) [.t 41],oP 49 (.ext 3) [.t 41],⟨.bx,.alloc [.int .u8 0,.str [],.int .i64 0,.int .i64 0],[],some 6,none⟩,xP (.stLc 6 4) [.l 6,.t 46] 6,vP 7 (.t 47),vP 8 (.t 48),vP 9 (.t 49)]
def g3V:=Rg [] [nP 52 5,nP 53 8,bP 54 .add (.t 52) (.t 53),nP 55 9,op (.v 1) .mv [.c (.list true [])],vP 2 (.t 54),vP 3 (.t 55)]
def i3n:=Sq g3V .ret
def h0f:=Ts [] [nP 50 9,bP 51 .neq (.t 50) (.c (.int .i64 0))] (.t 51) i3n .skip
def i0Y:=Rg [] [nP 56 5,fP 57 3 (.l 6),xP (.stLc 6 1) [.t 57,.t 56] 6]
def i06:=Rg [] [mP 58 (.vs 4),lP 59 6 true 4 (.l 6),oP 60 (.bslice 4 [[.int .u8 0,.str [],.int .i64 0,.int .i64 0]] [0]) [.t 59],oP 61 (.app 4 40) [.ts 58,.t 60],nP 62 5,nP 63 7,bP 64 .add (.t 62) (.t 63),vP 4 (.ts 61),vP 5 (.t 64)]
def i4i:=Sq i0Y i06
def g3Y:=Sq h0f i4i
def h5e:=Sq h2v g3Y
def g76:=Sq i16 h5e
def h4b:=Sq f7Z g76
def f42:=Bk 1 h4b
def i21:=Lp f42
def h1T:=Bk 0 i21
def h3V:=Sq h2m h1T
def h6d:=Sq j2T h3V
def h76:=Sq j7c h6d
def i59:=Sq j78 h76
def k1Y:ACode :=
  i59
def a81:AFn:={ np:=1,nv:=10,results:=[.v 1,.v 2,.v 3],code:=k1Y }

def j4b:=Rg [] [oP 6 (.build [.nils,.nils] []) [],oP 7 (.ldSt false 1) [.v 1],oP 8 .nilchk [.t 7],fP 9 0 (.t 8),oP 10 (.ldSt false 1) [.t 9],oP 11 (.ldSt false 1) [.v 1],oP 12 .nilchk [.t 11],fP 13 1 (.t 12),oP 14 (.ldSt false 1) [.t 13],oP 15 (.iad 4) [.t 10,.t 14],fP 16 3 (.t 15),oP 17 (.ldRo false 1) [.t 16],op .none (.stSt 2) [.v 2,.ts 6],op .none (.stSt 1) [.v 3,.t 17]]
def i97:=Ts [] [oP 4 (.ldSt false 1) [.v 0],bP 5 .neq (.t 4) (.c (.int .i64 0))] (.t 5) j4b .skip
def k2j:ACode :=
  i97
def a82:AFn:={ np:=4,nv:=4,results:=[],code:=k2j }

def i80:=Rg [] [vP 2 (.c (.bool false))]
def j4w:=Rg [] [nP 5 0,oP 6 .nilchk [.t 5],fP 7 0 (.t 6),oP 8 (.ldSt false 1) [.t 7],nP 9 0,oP 10 .nilchk [.t 9],fP 11 1 (.t 10),oP 12 (.ldSt false 1) [.t 11],oP 13 (.iad 4) [.t 8,.t 12],fP 14 0 (.t 13),oP 15 (.ldRo false 1) [.t 14],nP 16 1,bP 17 .eql (.t 15) (.t 16),vP 2 (.t 17)]
def j4Q:=Sq j4w .ret
def j5h:=Sq i80 j4Q
def k3z:ACode :=
  j5h
def a84:AFn:={ np:=2,nv:=3,results:=[.v 2],code:=k3z }

def j3m:=Rg [] [vP 2 (.c (.bool false))]
def i93:=Rg [] [nP 5 0,oP 6 .nilchk [.t 5],fP 7 0 (.t 6),oP 8 (.ldSt false 1) [.t 7],nP 9 0,oP 10 .nilchk [.t 9],fP 11 1 (.t 10),oP 12 (.ldSt false 1) [.t 11],oP 13 (.iad 4) [.t 8,.t 12],fP 14 0 (.t 13),oP 15 (.ldRo false 1) [.t 14],bP 16 .eql (.t 15) (.c (.int .u8 4)),mP 17 (.t 16),gP 18 .mv [.v 0] 17 true,gP 19 .nilchk [.t 18] 17 true,gP 20 (.fad 0) [.t 19] 17 true,gP 21 (.ldSt false 1) [.t 20] 17 true,gP 22 .mv [.v 0] 17 true,gP 23 .nilchk [.t 22] 17 true,gP 24 (.fad 1) [.t 23] 17 true,gP 25 (.ldSt false 1) [.t 24] 17 true,gP 26 (.iad 4) [.t 21,.t 25] 17 true,gP 27 (.fad 1) [.t 26] 17 true,gP 28 (.ldRo false 1) [.t 27] 17 true,gP 29 .mv [.v 1] 17 true,gP 30 (.bin .eql) [.t 28,.t 29] 17 true,oP 31 .pick [.t 17,.t 30,.c (.bool false)],vP 2 (.t 31)]
def j89:=Sq i93 .ret
def j4S:=Sq j3m j89
def j9B:ACode :=
  j4S
def a85:AFn:={ np:=2,nv:=3,results:=[.v 2],code:=j9B }

def j75:=Rg [] [op (.v 1) .mv [.c (.list true [])]]
def i9m:=Rg [] [nP 3 0,oP 4 (.call 145) [.t 3]]
def j5t:=Rg [] [op .none (.call 146) [.v 2]]
def j6m:=Rg [] [vP 2 (.v 0)]
def j1G:=Rg [] [nP 6 0,nP 7 0,oP 8 (.mkF 148 1) [.t 7],oP 9 (.call 147) [.t 6,.c (.str [123]),.c (.str [125]),.t 8],vP 1 (.ts 9)]
def h6F:=Sq j1G (.exit 900000)
def i3r:=Bk 900000 h6F
def g7Q:=Sq i3r j5t
def i3U:=Sq j6m g7Q
def h6Y:=Sq i9m i3U
def i5p:=Sq j75 h6Y
def j9l:ACode :=
  i5p
def a86:AFn:={ np:=1,nv:=3,results:=[.v 1],code:=j9l }

def j3O:=Rg [] [vP 2 (.c (.bool false))]
def j6k:=Rg [] [nP 13 0,oP 14 .nilchk [.t 13],fP 15 1 (.t 14),oP 16 (.ldSt false 1) [.t 15],bP 17 .add (.t 16) (.c (.int .i64 1)),oP 18 .nilchk [.t 13],fP 19 1 (.t 18),op .none (.stSt 1) [.t 19,.t 17]]
def j8I:=Rg [] [vP 2 (.c (.bool true))]
def j4h:=Sq j8I .ret
def j5i:=Sq j6k j4h
def i99:=Ts [] [nP 5 0,nP 6 1,oP 7 (.call 85) [.t 5,.t 6],mP 8 (.t 7),gP 9 .mv [.v 0] 8 false,gP 10 .mv [.v 1] 8 false,gP 11 (.call 149) [.t 9,.t 10] 8 false,oP 12 .pick [.t 8,.c (.bool true),.t 11]] (.t 12) j5i .skip
def g9t:=Rg [] [vP 2 (.c (.bool false))]
def h6x:=Sq g9t .ret
def i1c:=Sq i99 h6x
def g1T:=Sq j3O i1c
def k3S:ACode :=
  g1T
def a87:AFn:={ np:=2,nv:=3,results:=[.v 2],code:=k3S }

def j3l:=Rg [1] [⟨.bx,.alloc [.str [],.str [],.list true []],[],some 1,none⟩]
def j82:=Rg [] [nP 6 0,oP 7 (.call 150) [.t 6,.c (.int .i64 4)]]
def j62:=Ts [] [nP 4 0,oP 5 (.call 149) [.t 4,.c (.str [111,110])]] (.t 5) j82 .skip
def j3i:=Rg [2] [nP 8 0,oP 9 (.call 151) [.t 8],oP 10 (.build [.str [],.str [],.list true []] [(0,1)]) [.t 9],⟨.bx,.alloc [.str [],.str [],.list true []],[],some 2,none⟩,xP (.stLc 2 3) [.l 2,.ts 10] 2]
def j5K:=Rg [] [nP 11 0,oP 12 (.call 152) [.t 11,.c (.str [111,110])]]
def h3c:=Rg [] [nP 13 0,oP 14 (.call 151) [.t 13],fP 15 1 (.l 2),xP (.stLc 2 1) [.t 15,.t 14] 2]
def f4o:=Rg [] [nP 16 0,oP 17 (.call 86) [.t 16],fP 18 2 (.l 2),xP (.stLc 2 1) [.t 18,.ts 17] 2]
def f4v:=Rg [] [lP 19 2 true 3 (.l 2),xP (.stLc 1 3) [.l 1,.ts 19] 1]
def f91:=Sq f4v .ret
def g5g:=Sq f4o f91
def h94:=Sq h3c g5g
def i3i:=Sq j5K h94
def f6w:=Sq j3i i3i
def g5R:=Sq j62 f6w
def h3t:=Sq j3l g5R
def j9U:ACode :=
  h3t
def a88:AFn:={ np:=1,nv:=3,results:=[.bx 1 true 3],code:=j9U }

def j7q:=Rg [1] [⟨.bx,.alloc [.bool false,.str [],.list true [],.list true []],[],some 1,none⟩]
def j4v:=Rg [2] [nP 4 0,oP 5 (.call 87) [.t 4,.c (.str [109,117,116,97,116,105,111,110])],oP 6 (.build [.bool false,.str [],.list true [],.list true []] [(0,1)]) [.t 5],⟨.bx,.alloc [.bool false,.str [],.list true [],.list true []],[],some 2,none⟩,xP (.stLc 2 4) [.l 2,.ts 6] 2]
def j6q:=Rg [] [nP 10 0,oP 11 (.call 152) [.t 10,.c (.str [113,117,101,114,121])]]
def j2Y:=Ts [] [fP 7 0 (.l 2),lP 8 2 false 1 (.t 7),oP 9 (.un .not) [.t 8]] (.t 9) j6q .skip
def g6o:=Rg [] [nP 14 0,oP 15 (.call 151) [.t 14],fP 16 1 (.l 2),xP (.stLc 2 1) [.t 16,.t 15] 2]
def g3h:=Ts [] [nP 12 0,oP 13 (.call 84) [.t 12,.c (.int .u8 1)]] (.t 13) g6o .skip
def i4E:=Rg [] [nP 19 0,nP 20 0,oP 21 (.mkF 154 1) [.t 20],oP 22 (.call 153) [.t 19,.c (.str [40]),.c (.str [41]),.t 21],fP 23 2 (.l 2),xP (.stLc 2 1) [.t 23,.ts 22] 2]
def f8I:=Ts [] [nP 17 0,oP 18 (.call 85) [.t 17,.c (.str [40])]] (.t 18) i4E .skip
def i1n:=Rg [] [nP 24 0,oP 25 (.call 86) [.t 24],fP 26 3 (.l 2),xP (.stLc 2 1) [.t 26,.ts 25] 2]
def g1p:=Rg [] [lP 27 2 true 4 (.l 2),xP (.stLc 1 4) [.l 1,.ts 27] 1]
def f7F:=Sq g1p .ret
def g5T:=Sq i1n f7F
def h84:=Sq f8I g5T
def h00:=Sq g3h h84
def i3p:=Sq j2Y h00
def i6p:=Sq j4v i3p
def f4U:=Sq j7q i6p
def k2u:ACode :=
  f4U
def a89:AFn:={ np:=1,nv:=3,results:=[.bx 1 true 4],code:=k2u }

def j1u:=Rg [] [nP 6 0,nP 7 0,oP 8 .nilchk [.t 7],fP 9 3 (.t 8),oP 10 .ldStS [.t 9],nP 11 1,nP 12 2,oP 13 (.build [.int .i64 0,.str []] [(0,1),(1,1)]) [.t 11,.t 12],oP 14 (.bsliceM 2 [[.int .i64 0,.str []]] [0]) [.t 13],oP 15 (.appM 2 24) [.ts 10,.t 14],oP 16 .nilchk [.t 6],fP 17 3 (.t 16),op .none (.stSt 1) [.t 17,.t 15]]
def k0f:ACode :=
  j1u
def a90:AFn:={ np:=3,nv:=3,results:=[],code:=k0f }

def j0Q:=Rg [] [vP 5 (.v 2),op (.v 6) .lenL [.v 5],vP 7 (.c (.int .i64 0))]
def i8q:=Ts [] [bP 11 .lss (.v 7) (.v 6)] (.t 11) .skip (.exit 0)
def j27:=Rg [] [nP 12 7,oP 13 (.iad 1) [.v 5,.v 7],oP 14 (.ldAn false 1) [.t 13],vP 3 (.t 12),vP 4 (.t 14)]
def j47:=Rg [] [nP 20 0,nP 21 1,nP 22 4,oP 23 (.call 90) [.t 20,.t 21,.t 22]]
def j8p:=Ts [] [nP 15 2,nP 16 3,oP 17 (.slL 1 false true) [.t 15,.t 16],nP 18 4,oP 19 (.call 27) [.t 17,.t 18]] (.t 19) j47 .skip
def g9M:=Sq j27 j8p
def h18:=Bk 1 g9M
def i0a:=Rg [] [bP 24 .add (.v 7) (.c (.int .i64 1)),vP 7 (.t 24)]
def g5C:=Sq h18 i0a
def h4O:=Sq i8q g5C
def g9z:=Lp h4O
def f5a:=Bk 0 g9z
def g23:=Sq j0Q f5a
def k0L:ACode :=
  g23
def a91:AFn:={ np:=3,nv:=8,results:=[],code:=k0L }

def j4J:=Rg [] [op (.v 2) .mv [.c (.list true [])]]
def i9H:=Rg [] [op (.v 3) .mv [.c (.list true [])]]
def j39:=Rg [] [vP 5 (.v 0),op (.v 6) .lenL [.v 5],vP 7 (.c (.int .i64 0))]
def j4R:=Ts [] [bP 11 .lss (.v 7) (.v 6)] (.t 11) .skip (.exit 0)
def j0m:=Rg [4] [oP 12 (.iad 3) [.v 5,.v 7],oP 13 (.ldAn true 3) [.t 12],⟨.bx,.alloc [.str [],.str [],.list true []],[],some 4,none⟩,xP (.stLc 4 3) [.l 4,.ts 13] 4]
def f5z:=Rg [] [mP 14 (.vs 3),nP 15 1,lP 16 4 true 3 (.l 4),oP 17 .callV [.t 15,.t 16],oP 18 (.bslice 1 [[.str []]] [0]) [.t 17],oP 19 (.app 1 16) [.ts 14,.t 18],vP 3 (.ts 19)]
def g77:=Sq j0m f5z
def f58:=Bk 1 g77
def h8d:=Rg [] [bP 20 .add (.v 7) (.c (.int .i64 1)),vP 7 (.t 20)]
def f6c:=Sq f58 h8d
def f75:=Sq j4R f6c
def h2X:=Lp f75
def f4u:=Bk 0 h2X
def h19:=Sq j39 f4u
def h98:=Rg [] [nP 21 3,vP 2 (.ts 21)]
def h1b:=Sq h98 .ret
def i6M:=Sq h19 h1b
def i2G:=Sq i9H i6M
def g6k:=Sq j4J i2G
def k0q:ACode :=
  g6k
def a92:AFn:={ np:=2,nv:=8,results:=[.v 2],code:=k0q }

def j7y:=Rg [1] [⟨.bx,.boxV,[.v 0],some 1,none⟩,op (.v 2) .mv [.c (.str [])]]
def j1o:=Rg [] [fP 3 0 (.l 1),lP 4 1 false 1 (.t 3),vP 2 (.t 4)]
def j3Z:=Sq j1o .ret
def j8u:=Sq j7y j3Z
def k1a:ACode :=
  j8u
def a93:AFn:={ np:=1,nv:=3,results:=[.v 2],code:=k1a }

def j32:=Rg [] [op (.v 3) .mv [.c (.list true [])]]
def j7g:=Rg [] [vP 7 (.v 1),op (.v 8) .lenL [.v 7],vP 9 (.c (.int .i64 0))]
def j8B:=Ts [] [bP 14 .lss (.v 9) (.v 8)] (.t 14) .skip (.exit 0)
def j0e:=Rg [4] [oP 15 (.iad 7) [.v 7,.v 9],oP 16 (.ldAn true 7) [.t 15],⟨.bx,.alloc [.int .u8 0,.str [],.str [],.str [],.list true [],.list true [],.list true []],[],some 4,none⟩,xP (.stLc 4 7) [.l 4,.ts 16] 4]
def j6U:=Rg [5] [nP 18 0,fP 19 2 (.l 4),lP 20 4 false 1 (.t 19),oP 21 (.call 155) [.t 18,.t 20],mP 17 (.t 21),oP 22 (.ext 0) [.t 17],oP 23 (.ext 1) [.t 17],⟨.bx,.alloc [.str [],.str [],.list true []],[],some 5,none⟩,xP (.stLc 5 3) [.l 5,.ts 22] 5,vP 6 (.t 23)]
def h8j:=Rg [] [nP 37 0,fP 38 2 (.l 5),lP 39 5 false 1 (.t 38),mP 40 (.vs 2),fP 41 2 (.l 4),lP 42 4 false 1 (.t 41),oP 43 (.bsliceM 1 [[.str []]] [0]) [.t 42],oP 44 (.appM 1 16) [.ts 40,.t 43],oP 45 (.call 94) [.t 37,.t 39,.t 44],vP 2 (.ts 45)]
def i3v:=Ts [] [fP 24 0 (.l 4),lP 25 4 false 1 (.t 24),bP 26 .eql (.t 25) (.c (.int .u8 2)),mP 27 (.t 26),gP 28 .mv [.v 6] 27 true,oP 29 .pick [.t 27,.t 28,.c (.bool false)],mP 30 (.t 29),gP 31 .mv [.v 2] 30 true,gP 32 (.fad 2) [.l 4] 30 true,⟨.t 33,.ldLc 4 false 1,[.t 32],some 4,some (.t 30,true)⟩,gP 34 (.call 27) [.t 31,.t 33] 30 true,gP 35 (.un .not) [.t 34] 30 true,oP 36 .pick [.t 30,.t 35,.c (.bool false)]] (.t 36) h8j .skip
def f8M:=Sq j6U i3v
def i4b:=Rg [] [nP 49 0,fP 50 6 (.l 4),lP 51 4 false 1 (.t 50),nP 52 2,oP 53 (.call 94) [.t 49,.t 51,.t 52],vP 2 (.ts 53)]
def i5l:=Ts [] [fP 46 0 (.l 4),lP 47 4 false 1 (.t 46),bP 48 .neq (.t 47) (.c (.int .u8 2))] (.t 48) i4b .skip
def g0a:=Sq f8M i5l
def g9H:=Sq j0e g0a
def h8k:=Bk 1 g9H
def i8j:=Rg [] [bP 54 .add (.v 9) (.c (.int .i64 1)),vP 9 (.t 54)]
def f6r:=Sq h8k i8j
def f5J:=Sq j8B f6r
def h42:=Lp f5J
def g2u:=Bk 0 h42
def g9p:=Sq j7g g2u
def h79:=Rg [] [nP 55 2,vP 3 (.ts 55)]
def i8n:=Sq h79 .ret
def f87:=Sq g9p i8n
def i10:=Sq j32 f87
def k15:ACode :=
  i10
def a94:AFn:={ np:=3,nv:=10,results:=[.v 3],code:=k15 }

def j1l:=Rg [2] [⟨.bx,.boxV,[.v 1],some 2,none⟩]
def j2O:=Rg [3] [nP 17 0,oP 18 .nilchk [.t 17],fP 19 0 (.t 18),oP 20 (.ldStR false 1) [.t 19,.v 0],lP 21 2 true 4 (.l 2),oP 22 (.callA 156 1) [.t 21,.v 0],oP 23 (.call 30) [.t 20,.t 22],mP 16 (.t 23),oP 24 (.ext 0) [.t 16],oP 25 (.ext 1) [.t 16],⟨.bx,.alloc [.int .u8 0,.str [],.list true [],.list true []],[],some 3,none⟩,xP (.stLc 3 4) [.l 3,.ts 24] 3,vP 4 (.t 25)]
def j3h:=Rg [] [nP 28 0,lP 29 2 true 4 (.l 2),oP 30 (.call 156) [.t 29],oP 31 (.call 90) [.t 28,.c (.int .i64 22),.t 30]]
def j1c:=Ts [] [nP 26 4,oP 27 (.un .not) [.t 26]] (.t 27) j3h .skip
def j6K:=Sq j2O j1c
def h3v:=Rg [] [nP 32 0,fP 33 2 (.l 2),lP 34 2 false 1 (.t 33),oP 35 (.call 157) [.t 34,.c (.func 158 [] [])],oP 36 (.call 91) [.t 32,.c (.int .i64 14),.t 35]]
def g3H:=Rg [] [fP 37 2 (.l 2),⟨.v 11,.ldLc 2 false 1,[.t 37],some 2,none⟩,op (.v 12) .lenL [.v 11],vP 13 (.c (.int .i64 0))]
def f3D:=Ts [] [bP 41 .lss (.v 13) (.v 12)] (.t 41) .skip (.exit 0)
def i7Z:=Rg [5] [oP 42 (.iad 10) [.v 11,.v 13],oP 43 (.ldRo true 10) [.t 42],⟨.bx,.alloc [.str [],.str [],.list true [],.bool false,.bool false,.int .u8 0,.int .i64 0,.str [],.list true [],.list true []],[],some 5,none⟩,xP (.stLc 5 10) [.l 5,.ts 43] 5]
def h5L:=Rg [] [fP 44 1 (.l 5),lP 45 5 true 3 (.t 44),oP 46 (.call 124) [.t 45],vP 6 (.t 46)]
def h6C:=Rg [] [nP 63 0,fP 64 0 (.l 5),lP 65 5 false 1 (.t 64),oP 66 (.call 90) [.t 63,.c (.int .i64 15),.t 65]]
def h5o:=Ts [] [nP 47 0,oP 48 .nilchk [.t 47],fP 49 0 (.t 48),oP 50 (.ldSt false 1) [.t 49],nP 51 6,oP 52 (.call 159) [.t 50,.t 51],oP 53 (.un .not) [.t 52],mP 54 (.t 53),gP 55 .mv [.v 0] 54 true,gP 56 .nilchk [.t 55] 54 true,gP 57 (.fad 0) [.t 56] 54 true,gP 58 (.ldSt false 1) [.t 57] 54 true,gP 59 .mv [.v 6] 54 true,gP 60 (.call 127) [.t 58,.t 59] 54 true,gP 61 (.un .not) [.t 60] 54 true,oP 62 .pick [.t 54,.t 61,.c (.bool false)]] (.t 62) h6C .skip
def h2O:=Rg [] [nP 81 0,fP 82 0 (.l 5),lP 83 5 false 1 (.t 82),oP 84 (.call 90) [.t 81,.c (.int .i64 13),.t 83]]
def f7K:=Ts [] [fP 67 4 (.l 5),lP 68 5 false 1 (.t 67),mP 69 (.t 68),gP 70 .mv [.v 0] 69 true,gP 71 .nilchk [.t 70] 69 true,gP 72 (.fad 0) [.t 71] 69 true,gP 73 (.ldSt false 1) [.t 72] 69 true,gP 74 (.fad 1) [.l 5] 69 true,⟨.t 75,.ldLc 5 true 3,[.t 74],some 5,some (.t 69,true)⟩,gP 76 (.fad 5) [.l 5] 69 true,⟨.t 77,.ldLc 5 true 5,[.t 76],some 5,some (.t 69,true)⟩,gP 78 (.call 128) [.t 73,.t 75,.t 77] 69 true,gP 79 (.un .not) [.t 78] 69 true,oP 80 .pick [.t 69,.t 79,.c (.bool false)]] (.t 80) h2O .skip
def g7S:=Sq h5o f7K
def i5a:=Sq h5L g7S
def i6V:=Sq i7Z i5a
def h5z:=Bk 1 i6V
def i6S:=Rg [] [bP 85 .add (.v 13) (.c (.int .i64 1)),vP 13 (.t 85)]
def i6G:=Sq h5z i6S
def g3a:=Sq f3D i6G
def h4a:=Lp g3a
def h99:=Bk 0 h4a
def f9K:=Sq g3H h99
def g35:=Rg [] [nP 86 0,lP 87 2 true 4 (.l 2),oP 88 (.call 156) [.t 87],fP 89 3 (.l 2),lP 90 2 false 1 (.t 89),oP 91 (.call 97) [.t 86,.t 88,.t 90]]
def g7B:=Rg [] [nP 92 0,lP 93 2 true 4 (.l 2),oP 94 (.build [.nilp,.bool false,.str [],.list true [],.list true [],.list true []] [(0,1),(1,4)]) [.t 92,.t 93],oP 95 .boxO [.ts 94],vP 7 (.t 95)]
def g7s:=Rg [] [nP 96 7,lP 97 2 true 4 (.l 2),oP 98 (.call 156) [.t 97],fP 99 3 (.l 2),lP 100 2 false 1 (.t 99),oP 101 (.call 160) [.t 96,.t 98,.t 100]]
def i7o:=Rg [] [nP 102 0,fP 103 3 (.l 2),lP 104 2 false 1 (.t 103),op (.v 14) (.call 94) [.t 102,.t 104,.c (.nils)],op (.v 15) .lenL [.v 14],vP 16 (.c (.int .i64 0))]
def f7Y:=Ts [] [bP 108 .lss (.v 16) (.v 15)] (.t 108) .skip (.exit 2)
def h8q:=Rg [] [oP 109 (.iad 1) [.v 14,.v 16],oP 110 (.ldAn false 1) [.t 109],vP 8 (.t 110)]
def g2R:=Rg [9] [nP 112 0,nP 113 8,oP 114 (.call 155) [.t 112,.t 113],mP 111 (.t 114),oP 115 (.ext 0) [.t 111],oP 116 (.ext 1) [.t 111],⟨.bx,.alloc [.str [],.str [],.list true []],[],some 9,none⟩,xP (.stLc 9 3) [.l 9,.ts 115] 9,mP 13 (.t 116)]
def f9g:=Rg [] [nP 117 7,fP 118 1 (.l 9),lP 119 9 false 1 (.t 118),fP 120 2 (.l 9),lP 121 9 false 1 (.t 120),oP 122 (.call 160) [.t 117,.t 119,.t 121]]
def h0e:=Sq g2R f9g
def g3r:=Sq h8q h0e
def h8w:=Bk 3 g3r
def i3C:=Rg [] [bP 123 .add (.v 16) (.c (.int .i64 1)),vP 16 (.t 123)]
def g0v:=Sq h8w i3C
def g3T:=Sq f7Y g0v
def i62:=Lp g3T
def i3W:=Bk 2 i62
def h7n:=Sq i7o i3W
def g4K:=Rg [] [fP 124 2 (.l 2),⟨.v 17,.ldLc 2 false 1,[.t 124],some 2,none⟩,op (.v 18) .lenL [.v 17],vP 19 (.c (.int .i64 0))]
def f8e:=Ts [] [bP 128 .lss (.v 19) (.v 18)] (.t 128) .skip (.exit 4)
def f9z:=Rg [10] [oP 129 (.iad 10) [.v 17,.v 19],oP 130 (.ldRo true 10) [.t 129],⟨.bx,.alloc [.str [],.str [],.list true [],.bool false,.bool false,.int .u8 0,.int .i64 0,.str [],.list true [],.list true []],[],some 10,none⟩,xP (.stLc 10 10) [.l 10,.ts 130] 10]
def h5F:=Rg [] [nP 139 0,fP 140 0 (.l 10),lP 141 10 false 1 (.t 140),oP 142 (.call 90) [.t 139,.c (.int .i64 17),.t 141]]
def f9X:=Ts [] [nP 131 7,oP 132 .nilchk [.t 131],fP 133 5 (.t 132),oP 134 (.ldSt false 1) [.t 133],fP 135 0 (.l 10),lP 136 10 false 1 (.t 135),oP 137 (.call 27) [.t 134,.t 136],oP 138 (.un .not) [.t 137]] (.t 138) h5F .skip
def f7z:=Sq f9z f9X
def g2b:=Bk 5 f7z
def h4R:=Rg [] [bP 143 .add (.v 19) (.c (.int .i64 1)),vP 19 (.t 143)]
def g3A:=Sq g2b h4R
def i3Z:=Sq f8e g3A
def g2B:=Lp i3Z
def h8h:=Bk 4 g2B
def i31:=Sq g4K h8h
def i0Q:=Sq h7n i31
def i6j:=Sq g7s i0Q
def g2h:=Sq g7B i6j
def f68:=Sq g35 g2h
def f4R:=Sq f9K f68
def g10:=Sq h3v f4R
def f76:=Sq j6K g10
def h4s:=Sq j1l f76
def k34:ACode :=
  h4s
def a95:AFn:={ np:=2,nv:=20,results:=[],code:=k34 }

def j6J:=Rg [] [vP 2 (.c (.bool false))]
def j4a:=Rg [3] [nP 8 0,oP 9 .nilchk [.t 8],fP 10 0 (.t 9),oP 11 (.ldSt false 1) [.t 10],nP 12 1,oP 13 (.call 30) [.t 11,.t 12],mP 7 (.t 13),oP 14 (.ext 0) [.t 7],oP 15 (.ext 1) [.t 7],⟨.bx,.alloc [.int .u8 0,.str [],.list true [],.list true []],[],some 3,none⟩,xP (.stLc 3 4) [.l 3,.ts 14] 3,vP 4 (.t 15)]
def j5z:=Rg [] [nP 16 4,mP 17 (.t 16),gP 18 (.fad 0) [.l 3] 17 true,⟨.t 19,.ldLc 3 false 1,[.t 18],some 3,some (.t 17,true)⟩,gP 20 (.bin .leq) [.t 19,.c (.int .u8 3)] 17 true,oP 21 .pick [.t 17,.t 20,.c (.bool false)],vP 2 (.t 21)]
def j8K:=Sq j5z .ret
def j36:=Sq j4a j8K
def j7K:=Sq j6J j36
def k0U:ACode :=
  j7K
def a96:AFn:={ np:=2,nv:=5,results:=[.v 2],code:=k0U }

def j1R:=Rg [] [nP 11 0,nP 12 2,oP 13 (.call 161) [.t 11,.t 12]]
def j8S:=Rg [] [vP 7 (.v 2),op (.v 8) .lenL [.v 7],vP 9 (.c (.int .i64 0))]
def j8W:=Ts [] [bP 17 .lss (.v 9) (.v 8)] (.t 17) .skip (.exit 0)
def j3n:=Rg [3] [oP 18 (.iad 7) [.v 7,.v 9],oP 19 (.ldAn true 7) [.t 18],⟨.bx,.alloc [.int .u8 0,.str [],.str [],.str [],.list true [],.list true [],.list true []],[],some 3,none⟩,xP (.stLc 3 7) [.l 3,.ts 19] 3]
def j65:=Rg [] [nP 20 0,fP 21 5 (.l 3),lP 22 3 false 1 (.t 21),oP 23 (.call 162) [.t 20,.t 22]]
def i8e:=Rg [] [fP 24 0 (.l 3),⟨.v 10,.ldLc 3 false 1,[.t 24],some 3,none⟩]
def i4w:=Rg [] [nP 54 0,nP 55 1,lP 56 3 true 7 (.l 3),oP 57 (.call 163) [.t 54,.t 55,.t 56]]
def h5q:=Rg [4] [nP 61 0,fP 62 2 (.l 3),lP 63 3 false 1 (.t 62),oP 64 (.call 155) [.t 61,.t 63],mP 60 (.t 64),oP 65 (.ext 0) [.t 60],oP 66 (.ext 1) [.t 60],⟨.bx,.alloc [.str [],.str [],.list true []],[],some 4,none⟩,xP (.stLc 4 3) [.l 4,.ts 65] 4,vP 5 (.t 66)]
def g1I:=Rg [] [nP 69 0,fP 70 2 (.l 3),lP 71 3 false 1 (.t 70),oP 72 (.call 90) [.t 69,.c (.int .i64 5),.t 71]]
def f69:=Rg [] [nP 79 0,fP 80 1 (.l 4),lP 81 4 false 1 (.t 80),oP 82 (.call 90) [.t 79,.c (.int .i64 20),.t 81]]
def h82:=Ts [] [nP 73 0,nP 74 1,fP 75 1 (.l 4),lP 76 4 false 1 (.t 75),oP 77 (.call 164) [.t 73,.t 74,.t 76],oP 78 (.un .not) [.t 77]] (.t 78) f69 .skip
def g0x:=Ts [] [nP 67 5,oP 68 (.un .not) [.t 67]] (.t 68) g1I h82
def h7o:=Sq h5q g0x
def i3Y:=Rg [] [nP 26 1,vP 6 (.t 26)]
def f3R:=Rg [] [fP 30 3 (.l 3),lP 31 3 false 1 (.t 30),vP 6 (.t 31)]
def h36:=Rg [] [nP 36 0,nP 37 6,oP 38 (.call 90) [.t 36,.c (.int .i64 4),.t 37]]
def g42:=Rg [] [nP 44 0,nP 45 6,oP 46 (.call 90) [.t 44,.c (.int .i64 20),.t 45]]
def i6k:=Ts [] [nP 39 0,nP 40 1,nP 41 6,oP 42 (.call 164) [.t 39,.t 40,.t 41],oP 43 (.un .not) [.t 42]] (.t 43) g42 .skip
def h7Y:=Ts [] [nP 32 0,nP 33 6,oP 34 (.call 96) [.t 32,.t 33],oP 35 (.un .not) [.t 34]] (.t 35) h36 i6k
def g5K:=Sq f3R h7Y
def i34:=Ts [] [fP 27 3 (.l 3),lP 28 3 false 1 (.t 27),oP 29 (.bin .neq) [.t 28,.c (.str [])]] (.t 29) g5K .skip
def h3A:=Rg [] [nP 47 0,nP 48 6,fP 49 6 (.l 3),lP 50 3 false 1 (.t 49),oP 51 (.call 97) [.t 47,.t 48,.t 50]]
def i69:=Sq i34 h3A
def g4D:=Sq i3Y i69
def h39:=Ts [] [bP 59 .eql (.v 10) (.c (.int .u8 2)),mP 58 (.t 59)] (.t 58) h7o g4D
def f21:=Ts [] [bP 53 .eql (.v 10) (.c (.int .u8 1)),mP 52 (.t 53)] (.t 52) i4w h39
def f4K:=Bk 2 f21
def g31:=Sq i8e f4K
def f2H:=Sq j65 g31
def i6R:=Sq j3n f2H
def g8Q:=Bk 1 i6R
def h63:=Rg [] [bP 83 .add (.v 9) (.c (.int .i64 1)),vP 9 (.t 83)]
def g4l:=Sq g8Q h63
def g8n:=Sq j8W g4l
def h7v:=Lp g8n
def i6x:=Bk 0 h7v
def g29:=Sq j8S i6x
def g5k:=Sq j1R g29
def k2w:ACode :=
  g5k
def a97:AFn:={ np:=3,nv:=11,results:=[],code:=k2w }

def i9z:=Rg [] [nP 5 0,oP 6 .lenL [.t 5],vP 2 (.t 6)]
def j3G:=Rg [] [nP 7 0,nP 8 2,nP 9 2,oP 10 (.conv .u64) [.t 9],oP 11 (.call 166) [.t 10],nP 12 1,oP 13 (.call 165) [.t 7,.c (.int .i64 0),.t 8,.t 11,.t 12]]
def j0j:=Sq i9z j3G
def k3n:ACode :=
  j0j
def a98:AFn:={ np:=2,nv:=3,results:=[],code:=k3n }

def j0h:=Rg [2,3] [⟨.bx,.boxV,[.v 0],some 2,none⟩,⟨.bx,.boxV,[.v 1],some 3,none⟩,vP 4 (.c (.int .i64 0))]
def j1D:=Rg [] [fP 5 0 (.l 2),lP 6 2 false 1 (.t 5),fP 7 0 (.l 3),lP 8 3 false 1 (.t 7),oP 9 (.call 101) [.t 6,.t 8],fP 10 1 (.l 2),lP 11 2 false 1 (.t 10),fP 12 1 (.l 3),lP 13 3 false 1 (.t 12),oP 14 (.call 102) [.t 11,.t 13],oP 15 (.bslice 1 [[.int .i64 0],[.int .i64 0]] [0,1]) [.t 9,.t 14],oP 16 (.call 100) [.t 15],vP 4 (.t 16)]
def j5u:=Sq j1D .ret
def i9e:=Sq j0h j5u
def k0W:ACode :=
  i9e
def a99:AFn:={ np:=2,nv:=5,results:=[.v 4],code:=k0W }

def g5X:=Rg [] [vP 1 (.c (.int .i64 0))]
def i4f:=Rg [] [vP 2 (.c (.int .i64 0))]
def h3i:=Rg [] [vP 4 (.v 0),op (.v 5) .lenL [.v 4],vP 6 (.c (.int .i64 0))]
def h3G:=Ts [] [bP 9 .lss (.v 6) (.v 5)] (.t 9) .skip (.exit 0)
def g3k:=Rg [] [oP 10 (.iad 1) [.v 4,.v 6],oP 11 (.ldRo false 1) [.t 10],vP 3 (.t 11)]
def e5v:=Rg [] [nP 15 3,vP 1 (.t 15)]
def d37:=Sq e5v .ret
def c6T:=Ts [] [nP 12 3,nP 13 2,bP 14 .neq (.t 12) (.t 13)] (.t 14) d37 .skip
def e7y:=Sq g3k c6T
def e3Y:=Bk 1 e7y
def e0w:=Rg [] [bP 16 .add (.v 6) (.c (.int .i64 1)),vP 6 (.t 16)]
def b6m:=Sq e3Y e0w
def c4R:=Sq h3G b6m
def d4h:=Lp c4R
def b9p:=Bk 0 d4h
def c92:=Sq h3i b9p
def e0C:=Rg [] [nP 17 2,vP 1 (.t 17)]
def f1X:=Sq e0C .ret
def e9v:=Sq c92 f1X
def b8K:=Sq i4f e9v
def e4U:=Sq g5X b8K
def j7o:ACode :=
  e4U
def k04:AFn:={ np:=1,nv:=7,results:=[.v 1],code:=j7o }

def g1C:=Rg [] [vP 2 (.c (.int .i64 0))]
def i7p:=Rg [] [nP 7 0,oP 8 (.call 167) [.t 7],vP 3 (.t 8)]
def g6M:=Rg [] [nP 9 1,oP 10 (.call 167) [.t 9],vP 4 (.t 10)]
def g8w:=Rg [] [vP 2 (.c (.int .i64 0))]
def e1Z:=Sq g8w .ret
def d1Y:=Ts [] [nP 12 4] (.t 12) e1Z .skip
def d35:=Rg [] [vP 2 (.c (.int .i64 (-1)))]
def f1E:=Sq d35 .ret
def d18:=Sq d1Y f1E
def d3R:=Ts [] [nP 11 3] (.t 11) d18 .skip
def e9q:=Rg [] [vP 2 (.c (.int .i64 1))]
def e4l:=Sq e9q .ret
def d9H:=Ts [] [nP 13 4] (.t 13) e4l .skip
def e6G:=Rg [] [vP 2 (.c (.int .i64 (-1)))]
def c4N:=Sq e6G .ret
def e8V:=Ts [] [nP 14 0,nP 15 1,bP 16 .lss (.t 14) (.t 15)] (.t 16) c4N .skip
def f1A:=Rg [] [vP 2 (.c (.int .i64 1))]
def d55:=Sq f1A .ret
def b8F:=Ts [] [nP 17 0,nP 18 1,bP 19 .gtr (.t 17) (.t 18)] (.t 19) d55 .skip
def c5J:=Rg [] [vP 2 (.c (.int .i64 0))]
def c2L:=Sq c5J .ret
def d15:=Sq b8F c2L
def d4L:=Sq e8V d15
def b98:=Sq d9H d4L
def e8o:=Sq d3R b98
def d79:=Sq g6M e8o
def e1d:=Sq i7p d79
def c8l:=Sq g1C e1d
def j2d:ACode :=
  c8l
def k0G:AFn:={ np:=2,nv:=5,results:=[.v 2],code:=j2d }

def i0b:=Rg [] [vP 2 (.c (.int .i64 0))]
def h9l:=Rg [] [nP 7 0,oP 8 (.call 168) [.t 7],vP 3 (.t 8)]
def f60:=Rg [] [nP 9 1,oP 10 (.call 168) [.t 9],vP 4 (.t 10)]
def h4V:=Rg [] [vP 2 (.c (.int .i64 0))]
def d9u:=Sq h4V .ret
def c1T:=Ts [] [nP 12 4] (.t 12) d9u .skip
def d7Q:=Rg [] [vP 2 (.c (.int .i64 (-1)))]
def e2Q:=Sq d7Q .ret
def e2j:=Sq c1T e2Q
def d16:=Ts [] [nP 11 3] (.t 11) e2j .skip
def b6L:=Rg [] [vP 2 (.c (.int .i64 1))]
def d0f:=Sq b6L .ret
def e0E:=Ts [] [nP 13 4] (.t 13) d0f .skip
def c4Q:=Rg [] [vP 2 (.c (.int .i64 (-1)))]
def b72:=Sq c4Q .ret
def f16:=Ts [] [nP 14 0,nP 15 1,bP 16 .lss (.t 14) (.t 15)] (.t 16) b72 .skip
def e2x:=Rg [] [vP 2 (.c (.int .i64 1))]
def c1h:=Sq e2x .ret
def e2o:=Ts [] [nP 17 0,nP 18 1,bP 19 .gtr (.t 17) (.t 18)] (.t 19) c1h .skip
def c7U:=Rg [] [vP 2 (.c (.int .i64 0))]
def c5q:=Sq c7U .ret
def b97:=Sq e2o c5q
def e12:=Sq f16 b97
def b8x:=Sq e0E e12
def d6w:=Sq d16 b8x
def e7I:=Sq f60 d6w
def d6j:=Sq h9l e7I
def f0G:=Sq i0b d6j
def j2f:ACode :=
  f0G
def k1W:AFn:={ np:=2,nv:=5,results:=[.v 2],code:=j2f }

def g72:=Rg [] [op (.v 1) .mv [.c (.list true [])]]
def g5Y:=Rg [] [nP 9 0,vP 1 (.ts 9)]
def g8J:=Sq g5Y .ret
def f9N:=Ts [] [nP 6 0,oP 7 .lenL [.t 6],bP 8 .lss (.t 7) (.c (.int .i64 2))] (.t 8) g8J .skip
def g28:=Rg [] [vP 2 (.c (.int .i64 1))]
def d5u:=Ts [] [nP 10 2,nP 11 0,oP 12 .lenL [.t 11],bP 13 .lss (.t 10) (.t 12)] (.t 13) .skip (.exit 0)
def c4l:=Rg [] [nP 26 0,nP 27 2,oP 28 (.slL 2 true false) [.t 26,.t 27],vP 3 (.ts 28)]
def e79:=Rg [] [vP 4 (.c (.int .i64 1))]
def d8K:=Ts [] [nP 29 4,nP 30 3,oP 31 .lenL [.t 30],bP 32 .lss (.t 29) (.t 31)] (.t 32) .skip (.exit 2)
def e1j:=Rg [] [nP 45 0,nP 46 2,nP 47 3,nP 48 4,oP 49 (.iad 2) [.t 47,.t 48],oP 50 (.ldAn true 2) [.t 49],oP 51 (.iad 2) [.t 45,.t 46],op .none (.stSt 2) [.t 51,.t 50]]
def e8p:=Rg [] [nP 52 2,bP 53 .add (.t 52) (.c (.int .i64 1)),vP 2 (.t 53)]
def c7T:=Sq e1j e8p
def f1x:=Ts [] [nP 35 3,nP 36 4,oP 37 (.iad 2) [.t 35,.t 36],oP 38 (.ldAn true 2) [.t 37],nP 39 3,nP 40 4,bP 41 .sub (.t 40) (.c (.int .i64 1)),oP 42 (.iad 2) [.t 39,.t 41],oP 43 (.ldAn true 2) [.t 42],oP 44 (.eqIS true) [.t 38,.t 43]] (.t 44) c7T .skip
def e9N:=Bk 3 f1x
def c1J:=Rg [] [nP 33 4,bP 34 .add (.t 33) (.c (.int .i64 1)),vP 4 (.t 34)]
def d8i:=Sq e9N c1J
def d25:=Sq d8K d8i
def c8F:=Lp d25
def e0U:=Bk 2 c8F
def b9l:=Sq e79 e0U
def e2X:=Rg [] [nP 54 0,nP 55 2,oP 56 (.slL 2 true false) [.t 54,.t 55],op .none .stuck []]
def b8e:=Rg [] [nP 57 0,nP 58 2,oP 59 (.slL 2 false true) [.t 57,.t 58],vP 1 (.ts 59)]
def e0h:=Sq b8e .ret
def c3W:=Sq e2X e0h
def d8s:=Sq b9l c3W
def d4y:=Sq c4l d8s
def f0Y:=Ts [] [nP 16 0,nP 17 2,oP 18 (.iad 2) [.t 16,.t 17],oP 19 (.ldAn true 2) [.t 18],nP 20 0,nP 21 2,bP 22 .sub (.t 21) (.c (.int .i64 1)),oP 23 (.iad 2) [.t 20,.t 22],oP 24 (.ldAn true 2) [.t 23],oP 25 (.eqIS false) [.t 19,.t 24]] (.t 25) d4y .skip
def e2u:=Bk 1 f0Y
def e4M:=Rg [] [nP 14 2,bP 15 .add (.t 14) (.c (.int .i64 1)),vP 2 (.t 15)]
def c6O:=Sq e2u e4M
def d9M:=Sq d5u c6O
def c4v:=Lp d9M
def c2K:=Bk 0 c4v
def d93:=Sq g28 c2K
def b64:=Rg [] [nP 60 0,vP 1 (.ts 60)]
def d8I:=Sq b64 .ret
def e85:=Sq d93 d8I
def c39:=Sq f9N e85
def f0a:=Sq g72 c39
def j6h:ACode :=
  f0a
def k2v:AFn:={ np:=1,nv:=5,results:=[.v 1],code:=j6h }

def f63:=Rg [] [vP 2 (.c (.int .i64 0))]
def h3f:=Rg [] [nP 6 0,op (.v 4) .lenL [.t 6],vP 5 (.c (.int .i64 0))]
def f2u:=Ts [] [bP 9 .lss (.v 5) (.v 4)] (.t 9) .skip (.exit 0)
def h9D:=Rg [] [nP 10 5,vP 3 (.t 10)]
def c46:=Rg [] [nP 17 3,vP 2 (.t 17)]
def c33:=Sq c46 .ret
def b7T:=Ts [] [nP 11 1,nP 12 0,nP 13 3,oP 14 (.iad 4) [.t 12,.t 13],oP 15 (.ldAn true 4) [.t 14],oP 16 .callV [.t 11,.t 15]] (.t 16) c33 .skip
def e33:=Sq h9D b7T
def e5z:=Bk 1 e33
def d71:=Rg [] [bP 18 .add (.v 5) (.c (.int .i64 1)),vP 5 (.t 18)]
def e1T:=Sq e5z d71
def d76:=Sq f2u e1T
def c5H:=Lp d76
def d49:=Bk 0 c5H
def b84:=Sq h3f d49
def e4t:=Rg [] [vP 2 (.c (.int .i64 (-1)))]
def b8Q:=Sq e4t .ret
def d0I:=Sq b84 b8Q
def d99:=Sq f63 d0I
def j83:ACode :=
  d99
def k29:AFn:={ np:=2,nv:=6,results:=[.v 2],code:=j83 }

def f2r:=Rg [2] [⟨.bx,.boxV,[.v 0],some 2,none⟩,vP 3 (.c (.bool false))]
def h3a:=Rg [] [fP 4 1 (.l 2),lP 5 2 false 1 (.t 4),oP 6 (.ldSt false 1) [.v 1],bP 7 .eql (.t 5) (.t 6),vP 3 (.t 7)]
def h3Y:=Sq h3a .ret
def f59:=Sq f2r h3Y
def j85:ACode :=
  f59
def k33:AFn:={ np:=2,nv:=4,results:=[.v 3],code:=j85 }

def g1s:=Rg [2,3] [⟨.bx,.boxV,[.v 0],some 2,none⟩,⟨.bx,.alloc [.int .u8 0,.int .i64 0,.str [],.list true [],.list true []],[],some 3,none⟩,vP 4 (.c (.bool false))]
def f32:=Rg [] [fP 7 3 (.l 2),lP 8 2 false 1 (.t 7),nP 9 1,oP 10 (.call 57) [.t 8,.t 9],vP 5 (.t 10)]
def i4y:=Rg [] [oP 18 (.build [.int .u8 0,.int .i64 0,.str [],.list true [],.list true []] []) [],xP (.stLc 3 5) [.l 3,.ts 18] 3,vP 4 (.c (.bool false))]
def g3P:=Sq i4y .ret
def h6y:=Ts [] [nP 11 5,bP 12 .lss (.t 11) (.c (.int .i64 0)),mP 13 (.t 12),gP 14 (.fad 0) [.l 2] 13 false,⟨.t 15,.ldLc 2 false 1,[.t 14],some 2,some (.t 13,false)⟩,gP 16 (.bin .neq) [.t 15,.c (.int .u8 6)] 13 false,oP 17 .pick [.t 13,.c (.bool true),.t 16]] (.t 17) g3P .skip
def f2b:=Rg [] [fP 19 4 (.l 2),lP 20 2 false 1 (.t 19),nP 21 5,oP 22 (.iad 5) [.t 20,.t 21],oP 23 (.ldAn true 5) [.t 22],xP (.stLc 3 5) [.l 3,.ts 23] 3,vP 4 (.c (.bool true))]
def e9O:=Sq f2b .ret
def c7o:=Sq h6y e9O
def e68:=Sq f32 c7o
def e3O:=Sq g1s e68
def j74:ACode :=
  e3O
def k1b:AFn:={ np:=2,nv:=6,results:=[.bx 3 true 5,.v 4],code:=j74 }

def f9m:=Rg [3,4,5] [⟨.bx,.boxV,[.v 1],some 3,none⟩,⟨.bx,.boxV,[.v 2],some 4,none⟩,⟨.bx,.alloc [.int .u8 0,.int .i64 0,.str [],.list true [],.list true []],[],some 5,none⟩,vP 6 (.c (.int .i64 0))]
def i0C:=Rg [7] [nP 12 0,oP 13 (.build [.int .u8 0,.int .i64 0,.str [],.list true [],.list true []] []) [],oP 14 (.build [.nilp,.int .u8 0,.int .i64 0,.str [],.list true [],.list true [],.bool false] [(0,1),(1,5),(6,1)]) [.t 12,.t 13,.c (.bool true)],⟨.bx,.alloc [.nilp,.int .u8 0,.int .i64 0,.str [],.list true [],.list true [],.bool false],[],some 7,none⟩,xP (.stLc 7 7) [.l 7,.ts 14] 7]
def f7q:=Rg [8] [lP 16 7 true 7 (.l 7),lP 17 3 true 3 (.l 3),lP 18 4 true 5 (.l 4),oP 19 (.call 169) [.t 16,.t 17,.t 18],mP 15 (.t 19),oP 20 (.ext 0) [.t 15],oP 21 (.ext 1) [.t 15],oP 22 (.ext 2) [.t 15],⟨.bx,.alloc [.int .u8 0,.int .i64 0,.str [],.list true [],.list true []],[],some 8,none⟩,xP (.stLc 8 5) [.l 8,.ts 20] 8,mP 10 (.t 21),vP 9 (.t 22)]
def f7P:=Rg [] [lP 23 8 true 5 (.l 8),nP 24 9,xP (.stLc 5 5) [.l 5,.ts 23] 5,vP 6 (.t 24)]
def i5X:=Sq f7P .ret
def h6X:=Sq f7q i5X
def b7i:=Sq i0C h6X
def c4f:=Sq f9m b7i
def j3x:ACode :=
  c4f
def k0y:AFn:={ np:=3,nv:=10,results:=[.bx 5 true 5,.v 6],code:=j3x }

def g4b:=Rg [4,5,6,7] [⟨.bx,.boxV,[.v 1],some 4,none⟩,⟨.bx,.boxV,[.v 2],some 5,none⟩,⟨.bx,.boxV,[.v 3],some 6,none⟩,⟨.bx,.alloc [.int .u8 0,.int .i64 0,.str [],.list true [],.list true []],[],some 7,none⟩,vP 8 (.c (.bool false)),vP 9 (.c (.int .i64 0))]
def g1x:=Rg [10] [nP 12 0,lP 13 6 true 5 (.l 6),oP 14 (.build [.nilp,.int .u8 0,.int .i64 0,.str [],.list true [],.list true [],.bool false] [(0,1),(1,5),(6,1)]) [.t 12,.t 13,.c (.bool false)],⟨.bx,.alloc [.nilp,.int .u8 0,.int .i64 0,.str [],.list true [],.list true [],.bool false],[],some 10,none⟩,xP (.stLc 10 7) [.l 10,.ts 14] 10]
def g0S:=Rg [] [lP 15 10 true 7 (.l 10),lP 16 4 true 3 (.l 4),lP 17 5 true 5 (.l 5),oP 18 (.call 169) [.t 15,.t 16,.t 17],oP 19 (.ext 0) [.t 18],oP 20 (.ext 1) [.t 18],oP 21 (.ext 2) [.t 18],xP (.stLc 7 5) [.l 7,.ts 19] 7,vP 8 (.t 20),vP 9 (.t 21)]
def f8v:=Sq g0S .ret
def g4q:=Sq g1x f8v
def f9W:=Sq g4b g4q
def j7H:ACode :=
  f9W
def k36:AFn:={ np:=4,nv:=11,results:=[.bx 7 true 5,.v 8,.v 9],code:=j7H }

def i1m:=Rg [3] [⟨.bx,.boxV,[.v 2],some 3,none⟩]
def h2g:=Rg [] [nP 6 0,nP 7 0,nP 8 0,oP 9 .nilchk [.t 8],fP 10 3 (.t 9),oP 11 (.ldStSR 3) [.t 10,.v 0],nP 12 1,oP 13 (.bslice 1 [[.str []]] [0]) [.t 12],oP 14 (.app 1 16) [.ts 11,.t 13],nP 15 0,oP 16 .nilchk [.t 15],fP 17 4 (.t 16),oP 18 (.ldStSR 4) [.t 17,.v 0],lP 19 3 true 5 (.l 3),oP 20 (.bslice 5 [[.int .u8 0,.int .i64 0,.str [],.list true [],.list true []]] [0]) [.t 19],oP 21 (.app 5 80) [.ts 18,.t 20],oP 22 .nilchk [.t 6],fP 23 3 (.t 22),op .none (.stSt 1) [.t 23,.ts 14],oP 24 .nilchk [.t 7],fP 25 4 (.t 24),op .none (.stSt 1) [.t 25,.ts 21]]
def g7Y:=Sq i1m h2g
def j3a:ACode :=
  g7Y
def k2k:AFn:={ np:=3,nv:=4,results:=[],code:=j3a }

def g9e:=Rg [] [vP 4 (.v 1),op (.v 5) .lenL [.v 4],vP 6 (.c (.int .i64 0))]
def g7O:=Ts [] [bP 10 .lss (.v 6) (.v 5)] (.t 10) .skip (.exit 0)
def i5R:=Rg [] [oP 11 (.iad 7) [.v 4,.v 6],oP 12 (.ldAn true 7) [.t 11],op (.v 2) (.allocO [.int .u8 0,.str [],.str [],.str [],.list true [],.list true [],.list true []]) [],op .none (.stSt 7) [.v 2,.ts 12]]
def i1D:=Ts [] [nP 13 0,oP 14 (.ldSt true 7) [.v 2],oP 15 (.call 170) [.t 13,.t 14],oP 16 (.un .not) [.t 15]] (.t 16) (.exit 1) .skip
def g3M:=Rg [] [fP 17 0 (.v 2),op (.v 7) (.ldSt false 1) [.t 17]]
def e5c:=Rg [] [nP 34 0,oP 35 (.ldSt true 7) [.v 2],oP 36 (.call 171) [.t 34,.t 35]]
def c4O:=Rg [] [nP 39 0,oP 40 .nilchk [.t 39],fP 41 1 (.t 40),fP 42 1 (.t 41),oP 43 (.ldSt false 1) [.t 42],oP 44 (.mkF 173 0) [.v 2],oP 45 (.call 172) [.t 43,.t 44],vP 3 (.t 45)]
def b9b:=Ts [] [nP 46 3,bP 47 .lss (.t 46) (.c (.int .i64 0)),mP 48 (.t 47),gP 49 .mv [.v 0] 48 false,gP 50 .nilchk [.t 49] 48 false,gP 51 (.fad 9) [.t 50] 48 false,gP 52 (.ldSt false 1) [.t 51] 48 false,gP 53 (.fad 2) [.v 2] 48 false,gP 54 (.ldSt false 1) [.t 53] 48 false,gP 55 (.call 27) [.t 52,.t 54] 48 false,oP 56 .pick [.t 48,.c (.bool true),.t 55]] (.t 56) (.exit 1) .skip
def e7Z:=Rg [] [nP 57 0,nP 58 0,oP 59 .nilchk [.t 58],fP 60 9 (.t 59),oP 61 .ldStS [.t 60],fP 62 2 (.v 2),oP 63 (.ldSt false 1) [.t 62],oP 64 (.bslice 1 [[.str []]] [0]) [.t 63],oP 65 (.app 1 16) [.ts 61,.t 64],oP 66 .nilchk [.t 57],fP 67 9 (.t 66),op .none (.stSt 1) [.t 67,.ts 65]]
def d4a:=Rg [] [nP 79 0,nP 80 0,oP 81 .nilchk [.t 80],fP 82 1 (.t 81),fP 83 1 (.t 82),oP 84 (.ldSt false 1) [.t 83],nP 85 3,oP 86 (.iad 3) [.t 84,.t 85],fP 87 2 (.t 86),oP 88 (.ldAn false 1) [.t 87],oP 89 (.call 110) [.t 79,.t 88]]
def d4F:=Ts [] [nP 68 0,nP 69 0,oP 70 .nilchk [.t 69],fP 71 1 (.t 70),fP 72 1 (.t 71),oP 73 (.ldSt false 1) [.t 72],nP 74 3,oP 75 (.iad 3) [.t 73,.t 74],fP 76 1 (.t 75),oP 77 (.ldAn false 1) [.t 76],oP 78 (.call 174) [.t 68,.t 77]] (.t 78) d4a .skip
def d0e:=Sq e7Z d4F
def e0o:=Sq b9b d0e
def e7Y:=Sq c4O e0o
def c4T:=Rg [] [nP 28 0,fP 29 6 (.v 2),oP 30 (.ldSt false 1) [.t 29],oP 31 (.call 110) [.t 28,.t 30]]
def e7X:=Ts [] [fP 19 3 (.v 2),oP 20 (.ldSt false 1) [.t 19],oP 21 (.bin .eql) [.t 20,.c (.str [])],mP 22 (.t 21),gP 23 .mv [.v 0] 22 false,gP 24 (.fad 3) [.v 2] 22 false,gP 25 (.ldSt false 1) [.t 24] 22 false,gP 26 (.call 174) [.t 23,.t 25] 22 false,oP 27 .pick [.t 22,.c (.bool true),.t 26]] (.t 27) c4T .skip
def c2l:=Ts [] [bP 38 .eql (.v 7) (.c (.int .u8 2)),mP 37 (.t 38)] (.t 37) e7Y e7X
def c60:=Ts [] [bP 33 .eql (.v 7) (.c (.int .u8 1)),mP 32 (.t 33)] (.t 32) e5c c2l
def f0R:=Bk 2 c60
def c4A:=Sq g3M f0R
def c0X:=Sq i1D c4A
def c38:=Sq i5R c0X
def b7Y:=Bk 1 c38
def c9N:=Rg [] [bP 90 .add (.v 6) (.c (.int .i64 1)),vP 6 (.t 90)]
def b67:=Sq b7Y c9N
def d3z:=Sq g7O b67
def b6T:=Lp d3z
def b8g:=Bk 0 b6T
def c1D:=Sq g9e b8g
def j4E:ACode :=
  c1D
def a9Z:AFn:={ np:=2,nv:=8,results:=[],code:=j4E }

def i7c:=Rg [] [vP 2 (.c (.bool false))]
def g0K:=Rg [] [nP 5 1,oP 6 (.call 62) [.t 5],oP 7 (.un .not) [.t 6],mP 8 (.t 7),gP 9 .mv [.v 0] 8 true,gP 10 .mv [.v 1] 8 true,gP 11 (.call 175) [.t 9,.t 10,.c (.int .u8 1)] 8 true,gP 12 .mv [.t 11] 8 true,gP 13 .mv [.v 0] 12 false,gP 14 .mv [.v 1] 12 false,gP 15 (.call 175) [.t 13,.t 14,.c (.int .u8 2)] 12 false,gP 16 .pick [.t 12,.c (.bool true),.t 15] 8 true,gP 17 .mv [.t 16] 8 true,gP 18 .mv [.v 0] 17 false,gP 19 .mv [.v 1] 17 false,gP 20 (.call 175) [.t 18,.t 19,.c (.int .u8 3)] 17 false,gP 21 .pick [.t 17,.c (.bool true),.t 20] 8 true,oP 22 .pick [.t 8,.t 21,.c (.bool false)],vP 2 (.t 22)]
def i0Z:=Sq g0K .ret
def f6v:=Sq i7c i0Z
def j0X:ACode :=
  f6v
def k00:AFn:={ np:=2,nv:=3,results:=[.v 2],code:=j0X }

def f78:=Rg [4,5,6] [⟨.bx,.boxV,[.v 1],some 4,none⟩,⟨.bx,.boxV,[.v 3],some 5,none⟩,⟨.bx,.alloc [.int .u8 0,.int .i64 0,.str [],.list true [],.list true []],[],some 6,none⟩,op (.v 7) .mv [.c (.str [])],vP 8 (.c (.int .i64 0))]
def f2t:=Rg [] [oP 14 (.build [.int .u8 0,.int .i64 0,.str [],.list true [],.list true []] [(0,1)]) [.c (.int .u8 6)],op (.v 9) (.allocO [.int .u8 0,.int .i64 0,.str [],.list true [],.list true []]) [],op .none (.stSt 5) [.v 9,.ts 14]]
def g59:=Rg [] [vP 11 (.v 2),op (.v 12) .lenL [.v 11],vP 13 (.c (.int .i64 0))]
def g5w:=Ts [] [bP 18 .lss (.v 13) (.v 12)] (.t 18) .skip (.exit 0)
def i11:=Rg [10] [oP 19 (.iad 6) [.v 11,.v 13],oP 20 (.ldRo true 6) [.t 19],⟨.bx,.alloc [.str [],.int .u8 0,.int .i64 0,.str [],.list true [],.list true []],[],some 10,none⟩,xP (.stLc 10 6) [.l 10,.ts 20] 10]
def d1o:=Rg [] [fP 21 0 (.l 10),lP 22 10 false 1 (.t 21),fP 23 1 (.l 10),lP 24 10 true 5 (.t 23),oP 25 (.call 109) [.v 9,.t 22,.t 24]]
def c59:=Sq i11 d1o
def e1X:=Bk 1 c59
def c7V:=Rg [] [bP 26 .add (.v 13) (.c (.int .i64 1)),vP 13 (.t 26)]
def e5f:=Sq e1X c7V
def d5d:=Sq g5w e5f
def f0v:=Lp d5d
def b6M:=Bk 0 f0v
def d11:=Sq g59 b6M
def e8U:=Rg [] [nP 27 0,lP 28 5 true 5 (.l 5),oP 29 (.build [.nilp,.int .u8 0,.int .i64 0,.str [],.list true [],.list true [],.bool false] [(0,1),(1,5),(6,1)]) [.t 27,.t 28,.c (.bool false)],fP 30 1 (.l 4),lP 31 4 false 1 (.t 30),oP 32 (.ldSt true 5) [.v 9],oP 33 (.call 176) [.t 29,.t 31,.t 32],oP 34 (.ext 0) [.t 33],oP 35 (.ext 1) [.t 33],oP 36 (.ext 2) [.t 33],xP (.stLc 6 5) [.l 6,.ts 34] 6,vP 7 (.t 35),vP 8 (.t 36)]
def b9w:=Sq e8U .ret
def d0C:=Sq d11 b9w
def d96:=Sq f2t d0C
def c3x:=Sq f78 d96
def j52:ACode :=
  c3x
def k1n:AFn:={ np:=4,nv:=14,results:=[.bx 6 true 5,.v 7,.v 8],code:=j52 }

def f7C:=Rg [4,5] [⟨.bx,.boxV,[.v 1],some 4,none⟩,⟨.bx,.boxV,[.v 3],some 5,none⟩,vP 6 (.c (.int .i64 0))]
def h6B:=Rg [] [fP 21 0 (.l 4),lP 22 4 false 1 (.t 21),oP 23 (.call 115) [.t 22],mP 20 (.t 23),oP 24 (.ext 0) [.t 20],oP 25 (.ext 1) [.t 20],vP 7 (.t 24),vP 8 (.t 25)]
def f7b:=Rg [9] [nP 27 0,oP 28 .nilchk [.t 27],fP 29 3 (.t 28),oP 30 (.ldSt true 1) [.t 29],nP 31 2,oP 32 (.call 177) [.t 30,.t 31],mP 26 (.t 32),oP 33 (.ext 0) [.t 26],oP 34 (.ext 1) [.t 26],⟨.bx,.alloc [.str [],.str [],.list true [],.list true []],[],some 9,none⟩,xP (.stLc 9 4) [.l 9,.ts 33] 9,vP 10 (.t 34)]
def g75:=Rg [] [vP 6 (.c (.int .i64 7))]
def h8v:=Sq g75 .ret
def c1a:=Rg [] [vP 6 (.c (.int .i64 13))]
def d69:=Sq c1a .ret
def e2A:=Rg [] [nP 55 8,nP 56 2,oP 57 (.build [.str [],.str [],.list true [],.list true []] [(0,1),(1,1)]) [.t 55,.t 56],xP (.stLc 9 4) [.l 9,.ts 57] 9]
def d8M:=Rg [] [vP 6 (.c (.int .i64 6))]
def e2F:=Sq d8M .ret
def d0p:=Ts [] [nP 59 10,oP 60 (.un .not) [.t 59],mP 61 (.t 60),gP 62 (.fad 0) [.l 9] 61 false,⟨.t 63,.ldLc 9 false 1,[.t 62],some 9,some (.t 61,false)⟩,gP 64 .mv [.v 8] 61 false,gP 65 (.bin .neq) [.t 63,.t 64] 61 false,oP 66 .pick [.t 61,.c (.bool true),.t 65],mP 58 (.t 66)] (.t 58) e2F .skip
def b7J:=Ts [] [nP 53 7,oP 54 (.bin .eql) [.t 53,.c (.str [99,114,101,97,116,101])],mP 52 (.t 54)] (.t 52) e2A d0p
def c0v:=Ts [] [nP 42 7,oP 43 (.bin .eql) [.t 42,.c (.str [99,114,101,97,116,101])],mP 44 (.t 43),gP 45 .mv [.v 0] 44 true,gP 46 .nilchk [.t 45] 44 true,gP 47 (.fad 3) [.t 46] 44 true,gP 48 (.ldSt true 1) [.t 47] 44 true,gP 49 (.call 10) [.t 48] 44 true,gP 50 (.bin .geq) [.t 49,.c (.int .i64 200)] 44 true,oP 51 .pick [.t 44,.t 50,.c (.bool false)],mP 41 (.t 51)] (.t 41) d69 b7J
def e75:=Ts [] [nP 36 7,oP 37 (.bin .eql) [.t 36,.c (.str [99,114,101,97,116,101])],mP 38 (.t 37),gP 39 .mv [.v 10] 38 true,oP 40 .pick [.t 38,.t 39,.c (.bool false)],mP 35 (.t 40)] (.t 35) h8v c0v
def f00:=Bk 0 e75
def b7l:=Rg [] [vP 6 (.c (.int .i64 0))]
def e4N:=Sq b7l .ret
def c6X:=Ts [] [nP 67 7,oP 68 (.bin .eql) [.t 67,.c (.str [100,101,108,101,116,101])]] (.t 68) e4N .skip
def c2U:=Rg [11] [nP 70 0,oP 71 .nilchk [.t 70],fP 72 0 (.t 71),oP 73 (.ldSt false 1) [.t 72],nP 74 8,oP 75 (.call 30) [.t 73,.t 74],mP 69 (.t 75),oP 76 (.ext 0) [.t 69],oP 77 (.ext 1) [.t 69],⟨.bx,.alloc [.int .u8 0,.str [],.list true [],.list true []],[],some 11,none⟩,xP (.stLc 11 4) [.l 11,.ts 76] 11,mP 14 (.t 77)]
def b76:=Rg [12] [lP 79 5 true 5 (.l 5),oP 80 (.call 106) [.t 79,.c (.str [105,110,112,117,116])],mP 78 (.t 80),oP 81 (.ext 0) [.t 78],oP 82 (.ext 1) [.t 78],⟨.bx,.alloc [.int .u8 0,.int .i64 0,.str [],.list true [],.list true []],[],some 12,none⟩,xP (.stLc 12 5) [.l 12,.ts 81] 12,mP 16 (.t 82)]
def d4v:=Rg [] [fP 83 3 (.l 12),⟨.v 16,.ldLc 12 false 1,[.t 83],some 12,none⟩,op (.v 17) .lenL [.v 16],vP 18 (.c (.int .i64 0))]
def e8K:=Ts [] [bP 87 .lss (.v 18) (.v 17)] (.t 87) .skip (.exit 1)
def e4d:=Rg [] [nP 88 18,oP 89 (.iad 1) [.v 16,.v 18],oP 90 (.ldAn false 1) [.t 89],op (.v 14) (.allocO [.str []]) [],vP 13 (.t 88),op .none (.stSt 1) [.v 14,.t 90]]
def e0e:=Rg [] [fP 91 2 (.l 11),lP 92 11 false 1 (.t 91),oP 93 (.mkF 179 0) [.v 14],oP 94 (.call 178) [.t 92,.t 93],vP 15 (.t 94)]
def b9X:=Rg [] [lP 97 9 true 4 (.l 9),oP 98 (.ldStR false 1) [.v 14,.v 14],nP 99 0,oP 100 .nilchk [.t 99],fP 101 0 (.t 100),oP 102 (.ldSt false 1) [.t 101],fP 103 2 (.l 11),lP 104 11 false 1 (.t 103),nP 105 15,oP 106 (.iad 11) [.t 104,.t 105],fP 107 2 (.t 106),oP 108 (.ldRo true 3) [.t 107],fP 109 4 (.l 12),lP 110 12 false 1 (.t 109),nP 111 13,oP 112 (.iad 5) [.t 110,.t 111],oP 113 (.ldAn true 5) [.t 112],oP 114 (.callA 181 3) [.t 102,.t 108,.t 113,.v 14],oP 115 (.call 180) [.t 97,.t 98,.t 114],xP (.stLc 9 4) [.l 9,.ts 115] 9]
def e9G:=Ts [] [nP 95 15,bP 96 .geq (.t 95) (.c (.int .i64 0))] (.t 96) b9X .skip
def d0O:=Sq e0e e9G
def b8a:=Sq e4d d0O
def d7i:=Bk 2 b8a
def b7m:=Rg [] [bP 116 .add (.v 18) (.c (.int .i64 1)),vP 18 (.t 116)]
def c0e:=Sq d7i b7m
def d3r:=Sq e8K c0e
def e7D:=Lp d3r
def e5a:=Bk 1 e7D
def d8r:=Sq d4v e5a
def d9z:=Rg [] [nP 117 0,nP 118 0,oP 119 .nilchk [.t 118],fP 120 3 (.t 119),oP 121 (.ldSt true 1) [.t 120],lP 122 9 true 4 (.l 9),oP 123 (.call 18) [.t 121,.t 122],oP 124 .nilchk [.t 117],fP 125 3 (.t 124),op .none (.stSt 1) [.t 125,.ts 123]]
def b65:=Rg [] [vP 6 (.c (.int .i64 0))]
def e4h:=Sq b65 .ret
def e74:=Sq d9z e4h
def c8S:=Sq d8r e74
def b7R:=Sq b76 c8S
def d7Y:=Sq c2U b7R
def c6F:=Sq c6X d7Y
def d9J:=Sq f00 c6F
def c1f:=Sq f7b d9J
def e3L:=Sq h6B c1f
def e8l:=Sq f7C e3L
def j4F:ACode :=
  e8l
def i7X:AFn:={ np:=4,nv:=19,results:=[.v 6],code:=j4F }

def i1r:=Rg [8,9,10,11,12,13] [⟨.bx,.boxV,[.v 1],some 8,none⟩,⟨.bx,.boxV,[.v 2],some 9,none⟩,⟨.bx,.boxV,[.v 3],some 10,none⟩,⟨.bx,.boxV,[.v 4],some 11,none⟩,⟨.bx,.boxV,[.v 5],some 12,none⟩,⟨.bx,.alloc [.int .u8 0,.int .i64 0,.str [],.list true [],.list true []],[],some 13,none⟩,op (.v 14) .mv [.c (.list true [])],vP 15 (.c (.int .i64 0))]
def g8g:=Rg [] [nP 22 0,lP 23 9 true 2 (.l 9),lP 24 8 true 3 (.l 8),lP 25 10 true 5 (.l 10),nP 26 7,oP 27 (.build [.nilp,.nils,.nils,.nils,.bool false,.nils,.int .u8 0,.int .i64 0,.str [],.nils,.nils,.nils,.bool false,.int .i64 0] [(0,1),(1,2),(3,3),(6,5),(13,1)]) [.t 22,.t 23,.t 24,.t 25,.t 26],oP 28 .boxO [.ts 27],vP 16 (.t 28)]
def i5Q:=Rg [17] [nP 30 16,lP 31 11 true 3 (.l 11),nP 32 6,oP 33 (.build [.int .u8 0,.int .i64 0,.str [],.list true [],.list true []] [(0,1),(2,1)]) [.c (.int .u8 8),.t 32],lP 34 12 true 2 (.l 12),fP 35 0 (.l 12),lP 36 12 false 1 (.t 35),oP 37 (.bslice 1 [[.str []]] [0]) [.t 36],oP 38 (.call 182) [.t 30,.t 31,.t 33,.t 34,.t 37],mP 29 (.t 38),oP 39 (.ext 0) [.t 29],oP 40 (.ext 1) [.t 29],⟨.bx,.alloc [.int .u8 0,.int .i64 0,.str [],.list true [],.list true []],[],some 17,none⟩,xP (.stLc 17 5) [.l 17,.ts 39] 17,mP 21 (.t 40)]
def g60:=Rg [] [lP 41 17 true 5 (.l 17),nP 42 16,oP 43 .nilchk [.t 42],fP 44 11 (.t 43),oP 45 (.ldSt false 1) [.t 44],nP 46 16,oP 47 .nilchk [.t 46],fP 48 13 (.t 47),oP 49 (.ldSt false 1) [.t 48],xP (.stLc 13 5) [.l 13,.ts 41] 13,vP 14 (.ts 45),vP 15 (.t 49)]
def f8X:=Sq g60 .ret
def g5f:=Sq i5Q f8X
def e6N:=Sq g8g g5f
def d8d:=Sq i1r e6N
def i8o:ACode :=
  d8d
def b3d:AFn:={ np:=8,nv:=18,results:=[.bx 13 true 5,.v 14,.v 15],code:=i8o }

def h08:=Rg [] [op (.v 1) .mv [.c (.str [])],op (.v 2) .mv [.c (.str [])]]
def i3l:=Rg [] [op (.v 6) (.bslice 1 [[.str []],[.str []],[.str []]] [0,1,2]) [.c (.str [99,114,101,97,116,101]),.c (.str [117,112,100,97,116,101]),.c (.str [100,101,108,101,116,101])],op (.v 7) .lenL [.v 6],vP 8 (.c (.int .i64 0))]
def g1d:=Ts [] [bP 11 .lss (.v 8) (.v 7)] (.t 11) .skip (.exit 0)
def f9U:=Rg [] [oP 12 (.iad 1) [.v 6,.v 8],oP 13 (.ldAn false 1) [.t 12],vP 3 (.t 13)]
def h3H:=Rg [] [nP 15 0,nP 16 3,oP 17 (.call 183) [.t 15,.t 16],mP 14 (.t 17),oP 18 (.ext 0) [.t 14],oP 19 (.ext 1) [.t 14],vP 4 (.t 18),vP 5 (.t 19)]
def c2I:=Rg [] [nP 21 3,nP 22 4,vP 1 (.t 21),vP 2 (.t 22)]
def d3l:=Sq c2I .ret
def c7e:=Ts [] [nP 20 5] (.t 20) d3l .skip
def d5p:=Sq h3H c7e
def e4V:=Sq f9U d5p
def b54:=Bk 1 e4V
def e3A:=Rg [] [bP 23 .add (.v 8) (.c (.int .i64 1)),vP 8 (.t 23)]
def c67:=Sq b54 e3A
def e7Q:=Sq g1d c67
def e76:=Lp e7Q
def d3B:=Bk 0 e76
def e58:=Sq i3l d3B
def c3n:=Rg [] [op (.v 1) .mv [.c (.str [])],op (.v 2) .mv [.c (.str [])]]
def d1W:=Sq c3n .ret
def c5v:=Sq e58 d1W
def d0A:=Sq h08 c5v
def j3S:ACode :=
  d0A
def k3V:AFn:={ np:=1,nv:=9,results:=[.v 1,.v 2],code:=j3S }

def g4Z:=Rg [2,3] [⟨.bx,.boxV,[.v 0],some 2,none⟩,⟨.bx,.alloc [.nils],[],some 3,none⟩]
def g8F:=Rg [] [lP 8 2 true 1 (.l 2),nP 9 1,oP 10 (.call 38) [.t 8,.t 9],mP 7 (.t 10),oP 11 (.ext 0) [.t 7],oP 12 (.ext 1) [.t 7],vP 4 (.t 11),vP 5 (.t 12)]
def g5u:=Rg [] [lP 15 2 true 1 (.l 2),xP (.stLc 3 1) [.l 3,.ts 15] 3]
def f7Q:=Sq g5u .ret
def g3q:=Ts [] [nP 13 5,oP 14 (.un .not) [.t 13]] (.t 14) f7Q .skip
def b7N:=Rg [] [fP 16 0 (.l 2),lP 17 2 false 1 (.t 16),oP 18 (.call 22) [.t 17],nP 19 4,nP 20 4,bP 21 .add (.t 20) (.c (.int .i64 1)),oP 22 (.call 184) [.t 18,.t 19,.t 21],oP 23 (.build [.nils] [(0,1)]) [.t 22],xP (.stLc 3 1) [.l 3,.ts 23] 3]
def c7M:=Sq b7N .ret
def d3X:=Sq g3q c7M
def e5I:=Sq g8F d3X
def f2e:=Sq g4Z e5I
def j23:ACode :=
  f2e
def j9s:AFn:={ np:=2,nv:=6,results:=[.bx 3 true 1],code:=j23 }

def i0X:=Rg [] [vP 1 (.c (.bool false))]
def f73:=Rg [] [nP 3 0,bP 4 .geq (.t 3) (.c (.int .u8 97)),mP 5 (.t 4),gP 6 .mv [.v 0] 5 true,gP 7 (.bin .leq) [.t 6,.c (.int .u8 122)] 5 true,oP 8 .pick [.t 5,.t 7,.c (.bool false)],mP 9 (.t 8),gP 10 .mv [.v 0] 9 false,gP 11 (.bin .geq) [.t 10,.c (.int .u8 65)] 9 false,gP 12 .mv [.t 11] 9 false,gP 13 .mv [.v 0] 12 true,gP 14 (.bin .leq) [.t 13,.c (.int .u8 90)] 12 true,gP 15 .pick [.t 12,.t 14,.c (.bool false)] 9 false,oP 16 .pick [.t 9,.c (.bool true),.t 15],mP 17 (.t 16),gP 18 .mv [.v 0] 17 false,gP 19 (.bin .eql) [.t 18,.c (.int .u8 95)] 17 false,oP 20 .pick [.t 17,.c (.bool true),.t 19],vP 1 (.t 20)]
def i3L:=Sq f73 .ret
def i5i:=Sq i0X i3L
def j0R:ACode :=
  i5i
def k35:AFn:={ np:=1,nv:=2,results:=[.v 1],code:=j0R }

def i3P:=Rg [] [vP 1 (.c (.bool false))]
def f8n:=Rg [] [nP 3 0,bP 4 .geq (.t 3) (.c (.int .u8 48)),mP 5 (.t 4),gP 6 .mv [.v 0] 5 true,gP 7 (.bin .leq) [.t 6,.c (.int .u8 57)] 5 true,oP 8 .pick [.t 5,.t 7,.c (.bool false)],vP 1 (.t 8)]
def h8C:=Sq f8n .ret
def f90:=Sq i3P h8C
def j0q:ACode :=
  f90
def k1D:AFn:={ np:=1,nv:=2,results:=[.v 1],code:=j0q }

def g5z:=Rg [2] [⟨.bx,.alloc [.int .u8 0,.str [],.int .i64 0,.int .i64 0],[],some 2,none⟩,vP 3 (.c (.int .i64 0)),vP 4 (.c (.int .i64 0)),vP 5 (.c (.int .i64 0))]
def i2U:=Rg [] [nP 12 1,vP 6 (.t 12)]
def h6q:=Rg [] [nP 13 0,nP 14 6,oP 15 .idxS [.t 13,.t 14],bP 16 .eql (.t 15) (.c (.int .u8 45)),vP 7 (.t 16)]
def h3B:=Rg [] [nP 18 6,bP 19 .add (.t 18) (.c (.int .i64 1)),vP 6 (.t 19)]
def f5D:=Ts [] [nP 17 7] (.t 17) h3B .skip
def f1P:=Rg [] [nP 20 6,vP 8 (.t 20)]
def e20:=Rg [] [vP 9 (.c (.int .i64 0))]
def d7N:=Ts [] [nP 21 6,nP 22 0,oP 23 .lenS [.t 22],bP 24 .lss (.t 21) (.t 23),mP 25 (.t 24),gP 26 .mv [.v 0] 25 true,gP 27 .mv [.v 6] 25 true,gP 28 .idxS [.t 26,.t 27] 25 true,gP 29 (.call 118) [.t 28] 25 true,oP 30 .pick [.t 25,.t 29,.c (.bool false)]] (.t 30) .skip (.exit 0)
def d6C:=Rg [] [nP 35 9,bP 36 .mul (.t 35) (.c (.int .i64 10)),nP 37 0,nP 38 6,oP 39 .idxS [.t 37,.t 38],bP 40 .sub (.t 39) (.c (.int .u8 48)),oP 41 (.conv .i64) [.t 40],bP 42 .add (.t 36) (.t 41),vP 9 (.t 42)]
def c7Q:=Ts [] [nP 31 6,nP 32 8,bP 33 .sub (.t 31) (.t 32),bP 34 .lss (.t 33) (.c (.int .i64 18))] (.t 34) d6C .skip
def d4K:=Rg [] [nP 43 6,bP 44 .add (.t 43) (.c (.int .i64 1)),vP 6 (.t 44)]
def d6a:=Sq c7Q d4K
def d5i:=Bk 1 d6a
def c8A:=Sq d7N d5i
def c6Q:=Lp c8A
def b8P:=Bk 0 c6Q
def c2Z:=Rg [] [oP 49 (.build [.int .u8 0,.str [],.int .i64 0,.int .i64 0] []) [],nP 50 6,xP (.stLc 2 4) [.l 2,.t 49] 2,vP 3 (.c (.int .i64 0)),vP 4 (.t 50),vP 5 (.c (.int .i64 4))]
def e6l:=Sq c2Z .ret
def d8q:=Rg [] [oP 62 (.build [.int .u8 0,.str [],.int .i64 0,.int .i64 0] []) [],nP 63 8,bP 64 .add (.t 63) (.c (.int .i64 1)),xP (.stLc 2 4) [.l 2,.t 62] 2,vP 3 (.c (.int .i64 0)),vP 4 (.t 64),vP 5 (.c (.int .i64 4))]
def c0w:=Sq d8q .ret
def d9y:=Rg [] [oP 82 (.build [.int .u8 0,.str [],.int .i64 0,.int .i64 0] []) [],nP 83 6,xP (.stLc 2 4) [.l 2,.t 82] 2,vP 3 (.c (.int .i64 0)),vP 4 (.t 83),vP 5 (.c (.int .i64 4))]
def c8J:=Sq d9y .ret
def e2P:=Rg [] [oP 89 (.build [.int .u8 0,.str [],.int .i64 0,.int .i64 0] []) [],nP 90 1,xP (.stLc 2 4) [.l 2,.t 89] 2,vP 3 (.c (.int .i64 0)),vP 4 (.t 90),vP 5 (.c (.int .i64 1))]
def e8j:=Sq e2P .ret
def d0q:=Ts [] [nP 85 6,nP 86 8,bP 87 .sub (.t 85) (.t 86),bP 88 .gtr (.t 87) (.c (.int .i64 18)),mP 84 (.t 88)] (.t 84) e8j .skip
def c6w:=Ts [] [nP 66 6,nP 67 0,oP 68 .lenS [.t 67],bP 69 .lss (.t 66) (.t 68),mP 70 (.t 69),gP 71 .mv [.v 0] 70 true,gP 72 .mv [.v 6] 70 true,gP 73 .idxS [.t 71,.t 72] 70 true,gP 74 (.call 117) [.t 73] 70 true,gP 75 .mv [.t 74] 70 true,gP 76 .mv [.v 0] 75 false,gP 77 .mv [.v 6] 75 false,gP 78 .idxS [.t 76,.t 77] 75 false,gP 79 (.bin .eql) [.t 78,.c (.int .u8 46)] 75 false,gP 80 .pick [.t 75,.c (.bool true),.t 79] 70 true,oP 81 .pick [.t 70,.t 80,.c (.bool false)],mP 65 (.t 81)] (.t 65) c8J d0q
def e9Q:=Ts [] [nP 52 0,nP 53 8,oP 54 .idxS [.t 52,.t 53],bP 55 .eql (.t 54) (.c (.int .u8 48)),mP 56 (.t 55),gP 57 .mv [.v 6] 56 true,gP 58 .mv [.v 8] 56 true,gP 59 (.bin .add) [.t 58,.c (.int .i64 1)] 56 true,gP 60 (.bin .gtr) [.t 57,.t 59] 56 true,oP 61 .pick [.t 56,.t 60,.c (.bool false)],mP 51 (.t 61)] (.t 51) c0w c6w
def f0X:=Ts [] [nP 46 6,nP 47 8,bP 48 .eql (.t 46) (.t 47),mP 45 (.t 48)] (.t 45) e6l e9Q
def e5F:=Bk 2 f0X
def d9D:=Rg [] [nP 92 9,oP 93 (.un .neg) [.t 92],vP 9 (.t 93)]
def d8g:=Ts [] [nP 91 7] (.t 91) d9D .skip
def e9A:=Rg [] [nP 94 0,nP 95 1,nP 96 6,oP 97 (.slS true true) [.t 94,.t 95,.t 96],nP 98 9,oP 99 (.build [.int .u8 0,.str [],.int .i64 0,.int .i64 0] [(0,1),(1,1),(2,1)]) [.c (.int .u8 2),.t 97,.t 98],nP 100 6,xP (.stLc 2 4) [.l 2,.t 99] 2,vP 3 (.t 100),vP 4 (.c (.int .i64 0)),vP 5 (.c (.int .i64 0))]
def c4w:=Sq e9A .ret
def d5G:=Sq d8g c4w
def f0V:=Sq e5F d5G
def e3T:=Sq b8P f0V
def d8x:=Sq e20 e3T
def d8j:=Sq f1P d8x
def b7C:=Sq f5D d8j
def d6y:=Sq h6q b7C
def c6v:=Sq i2U d6y
def c9d:=Sq g5z c6v
def i8x:ACode :=
  c9d
def k3J:AFn:={ np:=2,nv:=10,results:=[.bx 2 true 4,.v 3,.v 4,.v 5],code:=i8x }

def g8u:=Rg [2] [⟨.bx,.alloc [.int .u8 0,.str [],.int .i64 0,.int .i64 0],[],some 2,none⟩,vP 3 (.c (.int .i64 0)),vP 4 (.c (.int .i64 0)),vP 5 (.c (.int .i64 0))]
def h6K:=Rg [] [op (.v 6) .mv [.c (.str [])]]
def g6W:=Rg [] [nP 10 1,bP 11 .add (.t 10) (.c (.int .i64 1)),vP 7 (.t 11)]
def h8x:=Ts [] [nP 12 7,nP 13 0,oP 14 .lenS [.t 13],bP 15 .lss (.t 12) (.t 14)] (.t 15) .skip (.exit 0)
def g6b:=Rg [] [nP 16 0,nP 17 7,op (.v 8) .idxS [.t 16,.t 17]]
def c4W:=Rg [] [oP 31 (.build [.int .u8 0,.str [],.int .i64 0,.int .i64 0] []) [],nP 32 1,xP (.stLc 2 4) [.l 2,.t 31] 2,vP 3 (.c (.int .i64 0)),vP 4 (.t 32),vP 5 (.c (.int .i64 2))]
def d6P:=Sq c4W .ret
def b71:=Ts [] [nP 28 6,oP 29 .lenS [.t 28],bP 30 .gtr (.t 29) (.c (.int .i64 200))] (.t 30) d6P .skip
def c7i:=Rg [] [nP 33 6,oP 34 (.build [.int .u8 0,.str [],.int .i64 0,.int .i64 0] [(0,1),(1,1)]) [.c (.int .u8 3),.t 33],nP 35 7,bP 36 .add (.t 35) (.c (.int .i64 1)),xP (.stLc 2 4) [.l 2,.t 34] 2,vP 3 (.t 36),vP 4 (.c (.int .i64 0)),vP 5 (.c (.int .i64 0))]
def e6P:=Sq c7i .ret
def c3v:=Sq b71 e6P
def c4z:=Rg [] [oP 39 (.build [.int .u8 0,.str [],.int .i64 0,.int .i64 0] []) [],nP 40 7,xP (.stLc 2 4) [.l 2,.t 39] 2,vP 3 (.c (.int .i64 0)),vP 4 (.t 40),vP 5 (.c (.int .i64 4))]
def d9K:=Sq c4z .ret
def e3U:=Rg [] [nP 43 7,bP 44 .add (.t 43) (.c (.int .i64 1)),vP 7 (.t 44)]
def d4A:=Rg [] [oP 49 (.build [.int .u8 0,.str [],.int .i64 0,.int .i64 0] []) [],nP 50 7,xP (.stLc 2 4) [.l 2,.t 49] 2,vP 3 (.c (.int .i64 0)),vP 4 (.t 50),vP 5 (.c (.int .i64 4))]
def e5m:=Sq d4A .ret
def e0T:=Ts [] [nP 45 7,nP 46 0,oP 47 .lenS [.t 46],bP 48 .eql (.t 45) (.t 47)] (.t 48) e5m .skip
def d6Q:=Rg [] [nP 51 0,nP 52 7,op (.v 9) .idxS [.t 51,.t 52]]
def f0E:=Rg [] [nP 58 6,oP 59 (.bin .add) [.t 58,.c (.str [10])],vP 6 (.t 59)]
def c7L:=Rg [] [nP 62 6,oP 63 (.bin .add) [.t 62,.c (.str [9])],vP 6 (.t 63)]
def e1W:=Rg [] [bP 67 .eql (.v 9) (.c (.int .u8 92)),vP 10 (.t 67)]
def c50:=Ts [] [bP 66 .eql (.v 9) (.c (.int .u8 47)),vP 10 (.t 66)] (.v 10) .skip e1W
def d5K:=Ts [] [bP 65 .eql (.v 9) (.c (.int .u8 34)),vP 10 (.t 65)] (.v 10) .skip c50
def d1L:=Rg [] [nP 68 6,nP 69 0,nP 70 7,nP 71 7,bP 72 .add (.t 71) (.c (.int .i64 1)),oP 73 (.slS true true) [.t 69,.t 70,.t 72],bP 74 .add (.t 68) (.t 73),vP 6 (.t 74)]
def d8t:=Rg [] [oP 54 (.build [.int .u8 0,.str [],.int .i64 0,.int .i64 0] []) [],nP 55 7,xP (.stLc 2 4) [.l 2,.t 54] 2,vP 3 (.c (.int .i64 0)),vP 4 (.t 55),vP 5 (.c (.int .i64 4))]
def c1i:=Sq d8t .ret
def d0y:=Ts [] [] (.v 10) d1L c1i
def e6U:=Sq d5K d0y
def d3m:=Ts [] [bP 61 .eql (.v 9) (.c (.int .u8 116)),mP 60 (.t 61)] (.t 60) c7L e6U
def e9i:=Ts [] [bP 57 .eql (.v 9) (.c (.int .u8 110)),mP 56 (.t 57)] (.t 56) f0E d3m
def e5G:=Bk 3 e9i
def d84:=Sq d6Q e5G
def c7n:=Sq e0T d84
def c2s:=Sq e3U c7n
def b7E:=Rg [] [nP 19 6,nP 20 0,nP 21 7,nP 22 7,bP 23 .add (.t 22) (.c (.int .i64 1)),oP 24 (.slS true true) [.t 20,.t 21,.t 23],bP 25 .add (.t 19) (.t 24),vP 6 (.t 25)]
def e7i:=Ts [] [bP 42 .eql (.v 8) (.c (.int .u8 92)),mP 41 (.t 42)] (.t 41) c2s b7E
def c49:=Ts [] [bP 38 .eql (.v 8) (.c (.int .u8 10)),mP 37 (.t 38)] (.t 37) d9K e7i
def c8K:=Ts [] [bP 27 .eql (.v 8) (.c (.int .u8 34)),mP 26 (.t 27)] (.t 26) c3v c49
def c76:=Bk 2 c8K
def f0H:=Sq g6b c76
def c2c:=Rg [] [nP 75 7,bP 76 .add (.t 75) (.c (.int .i64 1)),vP 7 (.t 76)]
def d6D:=Sq f0H c2c
def c9J:=Bk 1 d6D
def c40:=Sq h8x c9J
def b9f:=Lp c40
def e4w:=Bk 0 b9f
def c09:=Rg [] [oP 77 (.build [.int .u8 0,.str [],.int .i64 0,.int .i64 0] []) [],nP 78 7,xP (.stLc 2 4) [.l 2,.t 77] 2,vP 3 (.c (.int .i64 0)),vP 4 (.t 78),vP 5 (.c (.int .i64 4))]
def e0H:=Sq c09 .ret
def c1x:=Sq e4w e0H
def b6v:=Sq g6W c1x
def d5j:=Sq h6K b6v
def e9l:=Sq g8u d5j
def j7Y:ACode :=
  e9l
def k2M:AFn:={ np:=2,nv:=11,results:=[.bx 2 true 4,.v 3,.v 4,.v 5],code:=j7Y }

def i1h:=Rg [] [vP 2 (.c (.bool false))]
def g9a:=Rg [] [nP 5 0,oP 6 .nilchk [.t 5],fP 7 4 (.t 6),oP 8 (.ldSt false 1) [.t 7],bP 9 .eql (.t 8) (.c (.int .i64 0)),mP 10 (.t 9),gP 11 .mv [.v 0] 10 true,gP 12 .nilchk [.t 11] 10 true,gP 13 (.fad 0) [.t 12] 10 true,gP 14 (.ldSt false 1) [.t 13] 10 true,gP 15 .mv [.v 0] 10 true,gP 16 .nilchk [.t 15] 10 true,gP 17 (.fad 1) [.t 16] 10 true,gP 18 (.ldSt false 1) [.t 17] 10 true,gP 19 (.iad 4) [.t 14,.t 18] 10 true,gP 20 (.fad 0) [.t 19] 10 true,gP 21 (.ldRo false 1) [.t 20] 10 true,gP 22 (.bin .eql) [.t 21,.c (.int .u8 4)] 10 true,oP 23 .pick [.t 10,.t 22,.c (.bool false)],mP 24 (.t 23),gP 25 .mv [.v 0] 24 true,gP 26 .nilchk [.t 25] 24 true,gP 27 (.fad 0) [.t 26] 24 true,gP 28 (.ldSt false 1) [.t 27] 24 true,gP 29 .mv [.v 0] 24 true,gP 30 .nilchk [.t 29] 24 true,gP 31 (.fad 1) [.t 30] 24 true,gP 32 (.ldSt false 1) [.t 31] 24 true,gP 33 (.iad 4) [.t 28,.t 32] 24 true,gP 34 (.fad 1) [.t 33] 24 true,gP 35 (.ldRo false 1) [.t 34] 24 true,gP 36 .mv [.v 1] 24 true,gP 37 (.bin .eql) [.t 35,.t 36] 24 true,oP 38 .pick [.t 24,.t 37,.c (.bool false)],vP 2 (.t 38)]
def g79:=Sq g9a .ret
def g1N:=Sq i1h g79
def i8U:ACode :=
  g1N
def k2L:AFn:={ np:=2,nv:=3,results:=[.v 2],code:=i8U }

def h7r:=Rg [2] [⟨.bx,.alloc [.int .u8 0,.int .i64 0,.str [],.list true [],.list true []],[],some 2,none⟩]
def g8Z:=Rg [3] [⟨.bx,.alloc [.int .u8 0,.int .i64 0,.str [],.list true [],.list true []],[],some 3,none⟩]
def h5D:=Rg [] [nP 8 0,nP 9 1,oP 10 (.call 185) [.t 8,.t 9],xP (.stLc 3 5) [.l 3,.ts 10] 3]
def h55:=Ts [] [nP 6 0,oP 7 (.call 123) [.t 6]] (.t 7) h5D .skip
def f2x:=Rg [] [nP 11 0,oP 12 .nilchk [.t 11],fP 13 2 (.t 12),oP 14 (.ldSt false 1) [.t 13],bP 15 .sub (.t 14) (.c (.int .i64 1)),oP 16 .nilchk [.t 11],fP 17 2 (.t 16),op .none (.stSt 1) [.t 17,.t 15]]
def d1h:=Rg [] [lP 18 3 true 5 (.l 3),xP (.stLc 2 5) [.l 2,.ts 18] 2]
def b80:=Sq d1h .ret
def d9g:=Sq f2x b80
def e5C:=Sq h55 d9g
def c9R:=Sq g8Z e5C
def c3X:=Sq h7r c9R
def i9V:ACode :=
  c3X
def k3N:AFn:={ np:=2,nv:=4,results:=[.bx 2 true 5],code:=i9V }

def f9n:=Rg [] [vP 1 (.c (.bool false))]
def i0E:=Rg [] [nP 3 0,oP 4 .nilchk [.t 3],fP 5 2 (.t 4),oP 6 (.ldSt false 1) [.t 5],bP 7 .add (.t 6) (.c (.int .i64 1)),oP 8 .nilchk [.t 3],fP 9 2 (.t 8),op .none (.stSt 1) [.t 9,.t 7]]
def i79:=Rg [] [nP 15 0,oP 16 (.call 50) [.t 15,.c (.int .i64 5)]]
def i0x:=Ts [] [nP 10 0,oP 11 .nilchk [.t 10],fP 12 2 (.t 11),oP 13 (.ldSt false 1) [.t 12],bP 14 .gtr (.t 13) (.c (.int .i64 24))] (.t 14) i79 .skip
def h71:=Rg [] [nP 17 0,oP 18 .nilchk [.t 17],fP 19 4 (.t 18),oP 20 (.ldSt false 1) [.t 19],bP 21 .eql (.t 20) (.c (.int .i64 0)),vP 1 (.t 21)]
def b87:=Sq h71 .ret
def c6z:=Sq i0x b87
def e93:=Sq i0E c6z
def b8n:=Sq f9n e93
def j0K:ACode :=
  b8n
def k1K:AFn:={ np:=1,nv:=2,results:=[.v 1],code:=j0K }

def g5Q:=Rg [1] [⟨.bx,.boxV,[.v 0],some 1,none⟩,op (.v 2) .mv [.c (.str [])]]
def i1N:=Ts [] [fP 3 1 (.l 1),lP 4 1 false 1 (.t 3),oP 5 .lenL [.t 4],bP 6 .gtr (.t 5) (.c (.int .i64 0))] (.t 6) .skip (.exit 0)
def i6W:=Rg [] [fP 7 1 (.l 1),lP 8 1 false 1 (.t 7),oP 9 (.iad 3) [.t 8,.c (.int .i64 0)],oP 10 (.ldRo true 3) [.t 9],xP (.stLc 1 3) [.l 1,.ts 10] 1]
def g86:=Bk 1 i6W
def h8z:=Sq i1N g86
def f8T:=Lp h8z
def h5G:=Bk 0 f8T
def e3q:=Rg [] [fP 11 0 (.l 1),lP 12 1 false 1 (.t 11),vP 2 (.t 12)]
def b8q:=Sq e3q .ret
def e0W:=Sq h5G b8q
def e0s:=Sq g5Q e0W
def j79:ACode :=
  e0s
def k03:AFn:={ np:=1,nv:=3,results:=[.v 2],code:=j79 }

def h7y:=Rg [] [vP 2 (.c (.bool false))]
def i2r:=Rg [] [nP 5 0,oP 6 (.binP .neq) [.t 5,.c (.nilp)],mP 7 (.t 6),gP 8 (.slA 4 1 false false) [.c (.ro [.str [66,111,111,108,101,97,110],.str [73,68],.str [73,110,116],.str [83,116,114,105,110,103]])] 7 true,gP 9 .mv [.v 1] 7 true,gP 10 (.call 27) [.t 8,.t 9] 7 true,oP 11 .pick [.t 7,.t 10,.c (.bool false)],vP 2 (.t 11)]
def i7H:=Sq i2r .ret
def f4O:=Sq h7y i7H
def j8H:ACode :=
  f4O
def k16:AFn:={ np:=2,nv:=3,results:=[.v 2],code:=j8H }

def i30:=Rg [] [vP 2 (.c (.bool false))]
def h5W:=Rg [] [nP 5 0,nP 6 1,oP 7 (.call 175) [.t 5,.t 6,.c (.int .u8 4)],vP 2 (.t 7)]
def g0L:=Sq h5W .ret
def h4F:=Sq i30 g0L
def i9N:ACode :=
  h4F
def k2b:AFn:={ np:=2,nv:=3,results:=[.v 2],code:=i9N }

def h6Z:=Rg [] [vP 2 (.c (.bool false))]
def h8Y:=Rg [] [nP 5 0,nP 6 1,oP 7 (.call 175) [.t 5,.t 6,.c (.int .u8 5)],vP 2 (.t 7)]
def g9j:=Sq h8Y .ret
def g2L:=Sq h6Z g9j
def j4g:ACode :=
  g2L
def a127:AFn:={ np:=2,nv:=3,results:=[.v 2],code:=j4g }

def i7E:=Rg [5] [op (.v 3) .boxO [.v 0],op (.v 4) .boxO [.v 1],⟨.bx,.boxV,[.v 2],some 5,none⟩,vP 6 (.c (.bool false))]
def f3r:=Rg [] [fP 12 2 (.v 4),oP 13 (.ldSt false 1) [.t 12],oP 14 (.un .not) [.t 13],vP 6 (.t 14)]
def i6X:=Sq f3r .ret
def h1V:=Ts [] [fP 9 0 (.l 5),lP 10 5 false 1 (.t 9),bP 11 .eql (.t 10) (.c (.int .u8 0))] (.t 11) i6X .skip
def e1p:=Rg [] [oP 22 (.ldSt false 1) [.v 3],fP 23 1 (.v 4),oP 24 (.ldSt false 1) [.t 23],oP 25 (.iad 3) [.t 24,.c (.int .i64 0)],oP 26 (.ldRo true 3) [.t 25],lP 27 5 true 5 (.l 5),oP 28 (.call 128) [.t 22,.t 26,.t 27],vP 6 (.t 28)]
def f1a:=Sq e1p .ret
def b69:=Ts [] [fP 19 0 (.l 5),lP 20 5 false 1 (.t 19),bP 21 .neq (.t 20) (.c (.int .u8 5))] (.t 21) f1a .skip
def d4O:=Rg [] [fP 29 4 (.l 5),lP 30 5 false 1 (.t 29),oP 31 (.mkF 187 0) [.v 3,.v 4],oP 32 (.call 186) [.t 30,.t 31],oP 33 (.un .not) [.t 32],vP 6 (.t 33)]
def b9r:=Sq d4O .ret
def c9Y:=Sq b69 b9r
def c5m:=Ts [] [fP 15 1 (.v 4),oP 16 (.ldSt false 1) [.t 15],oP 17 .lenL [.t 16],bP 18 .gtr (.t 17) (.c (.int .i64 0))] (.t 18) c9Y .skip
def e53:=Rg [] [fP 34 0 (.v 4),op (.v 8) (.ldSt false 1) [.t 34]]
def c5S:=Rg [] [fP 38 0 (.l 5),lP 39 5 false 1 (.t 38),bP 40 .eql (.t 39) (.c (.int .u8 1)),mP 41 (.t 40),gP 42 (.fad 1) [.l 5] 41 true,⟨.t 43,.ldLc 5 false 1,[.t 42],some 5,some (.t 41,true)⟩,gP 44 (.fad 1) [.l 5] 41 true,⟨.t 45,.ldLc 5 false 1,[.t 44],some 5,some (.t 41,true)⟩,gP 46 (.conv .i32) [.t 45] 41 true,gP 47 (.conv .i64) [.t 46] 41 true,gP 48 (.bin .eql) [.t 43,.t 47] 41 true,oP 49 .pick [.t 41,.t 48,.c (.bool false)],vP 6 (.t 49)]
def b6p:=Sq c5S .ret
def d5E:=Rg [] [fP 52 0 (.l 5),lP 53 5 false 1 (.t 52),bP 54 .eql (.t 53) (.c (.int .u8 2)),vP 6 (.t 54)]
def c65:=Sq d5E .ret
def d5l:=Rg [] [fP 57 0 (.l 5),lP 58 5 false 1 (.t 57),bP 59 .eql (.t 58) (.c (.int .u8 3)),vP 6 (.t 59)]
def e8v:=Sq d5l .ret
def c3y:=Rg [] [fP 62 0 (.l 5),lP 63 5 false 1 (.t 62),bP 64 .eql (.t 63) (.c (.int .u8 2)),mP 65 (.t 64),gP 66 (.fad 0) [.l 5] 65 false,⟨.t 67,.ldLc 5 false 1,[.t 66],some 5,some (.t 65,false)⟩,gP 68 (.bin .eql) [.t 67,.c (.int .u8 1)] 65 false,oP 69 .pick [.t 65,.c (.bool true),.t 68],vP 6 (.t 69)]
def f1u:=Sq c3y .ret
def e50:=Ts [] [oP 61 (.bin .eql) [.v 8,.c (.str [73,68])],mP 60 (.t 61)] (.t 60) f1u .skip
def c7S:=Ts [] [oP 56 (.bin .eql) [.v 8,.c (.str [66,111,111,108,101,97,110])],mP 55 (.t 56)] (.t 55) e8v e50
def c64:=Ts [] [oP 51 (.bin .eql) [.v 8,.c (.str [83,116,114,105,110,103])],mP 50 (.t 51)] (.t 50) c65 c7S
def c7y:=Ts [] [oP 37 (.bin .eql) [.v 8,.c (.str [73,110,116])],mP 36 (.t 37)] (.t 36) b6p c64
def d5I:=Bk 0 c7y
def d2E:=Sq e53 d5I
def d5q:=Rg [7] [oP 71 (.ldSt false 1) [.v 3],fP 72 0 (.v 4),oP 73 (.ldSt false 1) [.t 72],oP 74 (.call 30) [.t 71,.t 73],mP 70 (.t 74),oP 75 (.ext 0) [.t 70],oP 76 (.ext 1) [.t 70],⟨.bx,.alloc [.int .u8 0,.str [],.list true [],.list true []],[],some 7,none⟩,xP (.stLc 7 4) [.l 7,.ts 75] 7,mP 8 (.t 76)]
def c4b:=Rg [] [fP 77 0 (.l 7),⟨.v 9,.ldLc 7 false 1,[.t 77],some 7,none⟩]
def e0X:=Rg [] [fP 81 0 (.l 5),lP 82 5 false 1 (.t 81),bP 83 .eql (.t 82) (.c (.int .u8 4)),mP 84 (.t 83),gP 85 (.fad 3) [.l 7] 84 true,⟨.t 86,.ldLc 7 false 1,[.t 85],some 7,some (.t 84,true)⟩,gP 87 (.fad 2) [.l 5] 84 true,⟨.t 88,.ldLc 5 false 1,[.t 87],some 5,some (.t 84,true)⟩,gP 89 (.call 27) [.t 86,.t 88] 84 true,oP 90 .pick [.t 84,.t 89,.c (.bool false)],vP 6 (.t 90)]
def c0a:=Sq e0X .ret
def d3J:=Rg [] [fP 93 0 (.l 5),lP 94 5 false 1 (.t 93),bP 95 .eql (.t 94) (.c (.int .u8 6)),mP 96 (.t 95),gP 97 (.ldSt false 1) [.v 3] 96 true,⟨.t 98,.ldLc 7 true 4,[.l 7],some 7,some (.t 96,true)⟩,⟨.t 99,.ldLc 5 true 5,[.l 5],some 5,some (.t 96,true)⟩,gP 100 (.call 188) [.t 97,.t 98,.t 99] 96 true,oP 101 .pick [.t 96,.t 100,.c (.bool false)],vP 6 (.t 101)]
def d4z:=Sq d3J .ret
def c8V:=Ts [] [bP 92 .eql (.v 9) (.c (.int .u8 5)),mP 91 (.t 92)] (.t 91) d4z .skip
def d3v:=Ts [] [bP 80 .eql (.v 9) (.c (.int .u8 4)),mP 79 (.t 80)] (.t 79) c0a c8V
def e4g:=Bk 1 d3v
def b6f:=Sq c4b e4g
def d5g:=Rg [] [vP 6 (.c (.bool false))]
def e05:=Sq d5g .ret
def e3R:=Sq b6f e05
def c1c:=Sq d5q e3R
def e1n:=Sq d2E c1c
def c6a:=Sq c5m e1n
def e1D:=Sq h1V c6a
def c86:=Sq i7E e1D
def i8G:ACode :=
  c86
def j9R:AFn:={ np:=3,nv:=10,results:=[.v 6],code:=i8G }

def i77:=Rg [] [vP 2 (.c (.bool false))]
def g4v:=Rg [] [nP 5 0,nP 6 1,oP 7 (.call 178) [.t 5,.t 6],bP 8 .geq (.t 7) (.c (.int .i64 0)),vP 2 (.t 8)]
def f33:=Sq g4v .ret
def g2m:=Sq i77 f33
def j4A:ACode :=
  g2m
def k2F:AFn:={ np:=2,nv:=3,results:=[.v 2],code:=j4A }

def f9A:=Rg [2] [⟨.bx,.boxV,[.v 0],some 2,none⟩,vP 3 (.c (.bool false))]
def g8o:=Rg [] [fP 5 2 (.v 1),oP 6 (.ldSt false 1) [.t 5],oP 7 (.call 60) [.t 6],fP 8 0 (.l 2),lP 9 2 false 1 (.t 8),oP 10 (.call 57) [.t 7,.t 9],vP 4 (.t 10)]
def g1W:=Rg [] [nP 11 4,bP 12 .lss (.t 11) (.c (.int .i64 0)),mP 13 (.t 12),gP 14 (.fad 2) [.v 1] 13 false,gP 15 (.ldSt false 1) [.t 14] 13 false,gP 16 .mv [.v 4] 13 false,gP 17 (.iad 11) [.t 15,.t 16] 13 false,gP 18 (.fad 2) [.t 17] 13 false,gP 19 (.ldRo true 3) [.t 18] 13 false,gP 20 (.fad 2) [.l 2] 13 false,⟨.t 21,.ldLc 2 true 3,[.t 20],some 2,some (.t 13,false)⟩,gP 22 (.call 131) [.t 19,.t 21] 13 false,gP 23 (.un .not) [.t 22] 13 false,oP 24 .pick [.t 13,.c (.bool true),.t 23],vP 3 (.t 24)]
def h5m:=Sq g1W .ret
def f4j:=Sq g8o h5m
def g39:=Sq f9A f4j
def j3y:ACode :=
  g39
def k3x:AFn:={ np:=2,nv:=5,results:=[.v 3],code:=j3y }

def i1w:=Rg [2,3] [⟨.bx,.boxV,[.v 0],some 2,none⟩,⟨.bx,.boxV,[.v 1],some 3,none⟩,vP 4 (.c (.bool false))]
def g7h:=Rg [] [fP 5 0 (.l 2),lP 6 2 false 1 (.t 5),fP 7 0 (.l 3),lP 8 3 false 1 (.t 7),bP 9 .eql (.t 6) (.t 8),mP 10 (.t 9),gP 11 (.fad 2) [.l 2] 10 true,⟨.t 12,.ldLc 2 false 1,[.t 11],some 2,some (.t 10,true)⟩,gP 13 (.fad 2) [.l 3] 10 true,⟨.t 14,.ldLc 3 false 1,[.t 13],some 3,some (.t 10,true)⟩,gP 15 (.binB .eql) [.t 12,.t 14] 10 true,oP 16 .pick [.t 10,.t 15,.c (.bool false)],mP 17 (.t 16),gP 18 (.fad 1) [.l 2] 17 true,⟨.t 19,.ldLc 2 false 1,[.t 18],some 2,some (.t 17,true)⟩,gP 20 (.fad 1) [.l 3] 17 true,⟨.t 21,.ldLc 3 false 1,[.t 20],some 3,some (.t 17,true)⟩,gP 22 (.call 189) [.t 19,.t 21,.c (.func 131 [] [])] 17 true,oP 23 .pick [.t 17,.t 22,.c (.bool false)],vP 4 (.t 23)]
def g7v:=Sq g7h .ret
def f20:=Sq i1w g7v
def j3V:ACode :=
  f20
def k3k:AFn:={ np:=2,nv:=5,results:=[.v 4],code:=j3V }

def h0m:=Rg [1] [⟨.bx,.boxV,[.v 0],some 1,none⟩,vP 2 (.c (.bool false))]
def f6S:=Rg [] [fP 3 0 (.l 1),lP 4 1 false 1 (.t 3),oP 5 (.bin .eql) [.t 4,.c (.str [105,100])],mP 6 (.t 5),gP 7 (.fad 5) [.l 1] 6 true,⟨.t 8,.ldLc 1 false 1,[.t 7],some 1,some (.t 6,true)⟩,gP 9 (.un .not) [.t 8] 6 true,oP 10 .pick [.t 6,.t 9,.c (.bool false)],mP 11 (.t 10),gP 12 (.fad 2) [.l 1] 11 true,⟨.t 13,.ldLc 1 true 3,[.t 12],some 1,some (.t 11,true)⟩,⟨.t 14,(.build [.str [],.list true [],.bool false] [(0,1),(2,1)]),[.c (.str [73,68]),.c (.bool true)],none,some (.t 11,true)⟩,gP 15 (.call 131) [.t 13,.t 14] 11 true,oP 16 .pick [.t 11,.t 15,.c (.bool false)],vP 2 (.t 16)]
def i7L:=Sq f6S .ret
def i6L:=Sq h0m i7L
def j2U:ACode :=
  i6L
def k2t:AFn:={ np:=1,nv:=3,results:=[.v 2],code:=j2U }

def f7M:=Rg [3] [⟨.bx,.boxV,[.v 0],some 3,none⟩,vP 4 (.c (.bool false))]
def h9a:=Rg [] [fP 6 2 (.v 1),oP 7 (.ldSt false 1) [.t 6],oP 8 (.call 60) [.t 7],fP 9 0 (.l 3),lP 10 3 false 1 (.t 9),oP 11 (.call 57) [.t 8,.t 10],vP 5 (.t 11)]
def g7G:=Rg [] [nP 12 5,bP 13 .lss (.t 12) (.c (.int .i64 0)),mP 14 (.t 13),gP 15 (.ldSt false 1) [.v 2] 14 false,gP 16 (.fad 2) [.v 1] 14 false,gP 17 (.ldSt false 1) [.t 16] 14 false,gP 18 .mv [.v 5] 14 false,gP 19 (.iad 11) [.t 17,.t 18] 14 false,gP 20 (.fad 2) [.t 19] 14 false,gP 21 (.ldRo true 3) [.t 20] 14 false,gP 22 (.fad 2) [.l 3] 14 false,⟨.t 23,.ldLc 3 true 3,[.t 22],some 3,some (.t 14,false)⟩,gP 24 (.call 134) [.t 15,.t 21,.t 23] 14 false,gP 25 (.un .not) [.t 24] 14 false,oP 26 .pick [.t 14,.c (.bool true),.t 25],vP 4 (.t 26)]
def g2x:=Sq g7G .ret
def h5y:=Sq h9a g2x
def h9e:=Sq f7M h5y
def i9K:ACode :=
  h9e
def j9C:AFn:={ np:=3,nv:=6,results:=[.v 4],code:=i9K }

def g2y:=Rg [3,4] [⟨.bx,.boxV,[.v 1],some 3,none⟩,⟨.bx,.boxV,[.v 2],some 4,none⟩,vP 5 (.c (.bool false))]
def g5s:=Rg [] [vP 5 (.c (.bool false))]
def g0k:=Sq g5s .ret
def i6s:=Ts [] [fP 7 1 (.l 3),lP 8 3 false 1 (.t 7),oP 9 .lenL [.t 8],fP 10 1 (.l 4),lP 11 4 false 1 (.t 10),oP 12 .lenL [.t 11],bP 13 .neq (.t 9) (.t 12)] (.t 13) g0k .skip
def h5P:=Rg [] [nP 18 0,fP 19 1 (.l 3),lP 20 3 false 1 (.t 19),oP 21 (.iad 3) [.t 20,.c (.int .i64 0)],oP 22 (.ldRo true 3) [.t 21],fP 23 1 (.l 4),lP 24 4 false 1 (.t 23),oP 25 (.iad 3) [.t 24,.c (.int .i64 0)],oP 26 (.ldRo true 3) [.t 25],oP 27 (.call 134) [.t 18,.t 22,.t 26],vP 5 (.t 27)]
def c5R:=Sq h5P .ret
def c6P:=Ts [] [fP 14 1 (.l 3),lP 15 3 false 1 (.t 14),oP 16 .lenL [.t 15],bP 17 .gtr (.t 16) (.c (.int .i64 0))] (.t 17) c5R .skip
def e5Q:=Rg [] [fP 28 0 (.l 3),lP 29 3 false 1 (.t 28),fP 30 0 (.l 4),lP 31 4 false 1 (.t 30),bP 32 .eql (.t 29) (.t 31),mP 33 (.t 32),gP 34 .mv [.v 0] 33 false,gP 35 (.fad 0) [.l 3] 33 false,⟨.t 36,.ldLc 3 false 1,[.t 35],some 3,some (.t 33,false)⟩,gP 37 (.call 111) [.t 34,.t 36] 33 false,gP 38 .mv [.t 37] 33 false,gP 39 (.fad 0) [.l 4] 38 true,⟨.t 40,.ldLc 4 false 1,[.t 39],some 4,some (.t 38,true)⟩,gP 41 (.bin .eql) [.t 40,.c (.str [73,68])] 38 true,gP 42 .pick [.t 38,.t 41,.c (.bool false)] 33 false,oP 43 .pick [.t 33,.c (.bool true),.t 42],vP 5 (.t 43)]
def d47:=Sq e5Q .ret
def c2j:=Sq c6P d47
def d1t:=Sq i6s c2j
def d8y:=Sq g2y d1t
def j5c:ACode :=
  d8y
def j9M:AFn:={ np:=3,nv:=6,results:=[.v 5],code:=j5c }

def f6b:=Rg [] [vP 2 (.c (.bool false))]
def h3p:=Rg [] [nP 5 1,oP 6 (.call 32) [.t 5],mP 7 (.t 6),gP 8 .mv [.v 0] 7 false,gP 9 .mv [.v 1] 7 false,gP 10 (.call 36) [.t 8,.t 9] 7 false,gP 11 (.fld 0 1 false) [.t 10] 7 false,gP 12 (.bin .eql) [.t 11,.c (.int .u8 4)] 7 false,oP 13 .pick [.t 7,.c (.bool true),.t 12],vP 2 (.t 13)]
def g6f:=Sq h3p .ret
def i7w:=Sq f6b g6f
def j2X:ACode :=
  i7w
def k3C:AFn:={ np:=2,nv:=3,results:=[.v 2],code:=j2X }

def g6T:=Rg [4,5] [⟨.bx,.boxV,[.v 1],some 4,none⟩,⟨.bx,.boxV,[.v 2],some 5,none⟩,vP 6 (.c (.bool false))]
def h9p:=Rg [] [vP 6 (.c (.bool true))]
def g9f:=Sq h9p .ret
def i4q:=Ts [] [fP 14 0 (.l 5),lP 15 5 false 1 (.t 14),bP 16 .eql (.t 15) (.c (.int .u8 7)),mP 17 (.t 16),gP 18 .mv [.v 3] 17 true,oP 19 .pick [.t 17,.t 18,.c (.bool false)]] (.t 19) g9f .skip
def i5u:=Rg [] [fP 23 2 (.l 4),lP 24 4 false 1 (.t 23),oP 25 (.un .not) [.t 24],vP 6 (.t 25)]
def f2c:=Sq i5u .ret
def e8O:=Ts [] [fP 20 0 (.l 5),lP 21 5 false 1 (.t 20),bP 22 .eql (.t 21) (.c (.int .u8 0))] (.t 22) f2c .skip
def e6x:=Rg [] [nP 33 0,fP 34 1 (.l 4),lP 35 4 false 1 (.t 34),oP 36 (.iad 3) [.t 35,.c (.int .i64 0)],oP 37 (.ldRo true 3) [.t 36],lP 38 5 true 5 (.l 5),nP 39 3,oP 40 (.call 136) [.t 33,.t 37,.t 38,.t 39],vP 6 (.t 40)]
def e1l:=Sq e6x .ret
def c4s:=Ts [] [fP 30 0 (.l 5),lP 31 5 false 1 (.t 30),bP 32 .neq (.t 31) (.c (.int .u8 5))] (.t 32) e1l .skip
def e55:=Rg [] [vP 7 (.c (.int .i64 0))]
def e86:=Ts [] [nP 41 7,fP 42 4 (.l 5),lP 43 5 false 1 (.t 42),oP 44 .lenL [.t 43],bP 45 .lss (.t 41) (.t 44)] (.t 45) .skip (.exit 0)
def c2B:=Rg [] [vP 6 (.c (.bool false))]
def c7b:=Sq c2B .ret
def f0z:=Ts [] [nP 48 0,fP 49 1 (.l 4),lP 50 4 false 1 (.t 49),oP 51 (.iad 3) [.t 50,.c (.int .i64 0)],oP 52 (.ldRo true 3) [.t 51],fP 53 4 (.l 5),lP 54 5 false 1 (.t 53),nP 55 7,oP 56 (.iad 5) [.t 54,.t 55],oP 57 (.ldAn true 5) [.t 56],nP 58 3,oP 59 (.call 136) [.t 48,.t 52,.t 57,.t 58],oP 60 (.un .not) [.t 59]] (.t 60) c7b .skip
def e1f:=Bk 1 f0z
def d0j:=Rg [] [nP 46 7,bP 47 .add (.t 46) (.c (.int .i64 1)),vP 7 (.t 47)]
def d0J:=Sq e1f d0j
def e81:=Sq e86 d0J
def d44:=Lp e81
def e2W:=Bk 0 d44
def d2p:=Sq e55 e2W
def b9m:=Rg [] [vP 6 (.c (.bool true))]
def b6G:=Sq b9m .ret
def d9q:=Sq d2p b6G
def c6j:=Sq c4s d9q
def d7R:=Ts [] [fP 26 1 (.l 4),lP 27 4 false 1 (.t 26),oP 28 .lenL [.t 27],bP 29 .gtr (.t 28) (.c (.int .i64 0))] (.t 29) c6j .skip
def b89:=Rg [] [fP 61 0 (.l 4),⟨.v 12,.ldLc 4 false 1,[.t 61],some 4,none⟩]
def f1e:=Rg [] [fP 65 0 (.l 5),lP 66 5 false 1 (.t 65),bP 67 .eql (.t 66) (.c (.int .u8 1)),mP 68 (.t 67),gP 69 (.fad 1) [.l 5] 68 true,⟨.t 70,.ldLc 5 false 1,[.t 69],some 5,some (.t 68,true)⟩,gP 71 (.bin .geq) [.t 70,.c (.int .i64 (-2147483648))] 68 true,oP 72 .pick [.t 68,.t 71,.c (.bool false)],mP 73 (.t 72),gP 74 (.fad 1) [.l 5] 73 true,⟨.t 75,.ldLc 5 false 1,[.t 74],some 5,some (.t 73,true)⟩,gP 76 (.bin .leq) [.t 75,.c (.int .i64 2147483647)] 73 true,oP 77 .pick [.t 73,.t 76,.c (.bool false)],vP 6 (.t 77)]
def e7u:=Sq f1e .ret
def d8R:=Rg [] [fP 80 0 (.l 5),lP 81 5 false 1 (.t 80),bP 82 .eql (.t 81) (.c (.int .u8 2)),vP 6 (.t 82)]
def b6U:=Sq d8R .ret
def b7w:=Rg [] [fP 85 0 (.l 5),lP 86 5 false 1 (.t 85),bP 87 .eql (.t 86) (.c (.int .u8 3)),vP 6 (.t 87)]
end Go.Cb.CodeA
