/- The functions of the seat, told as code of the abstract machine. No conditions. -/
import Derived.Test.YtendfdoplhhjbaaGreatDoorXAm1
namespace Go.Cb.CodeA
open Go Go.Cb
open Go.Cb.ACode renaming seq→Sq,reg→Rg,test→Ts,blk→Bk,loop→Lp

abbrev op (d:Dst) (k:Kind) (a:List Opd):AOper:=⟨d,k,a,none,none⟩
abbrev oP (t:Nat) (k:Kind) (a:List Opd):AOper:=⟨.t t,k,a,none,none⟩
abbrev mP (t:Nat) (a:Opd):AOper:=⟨.t t,.mv,[a],none,none⟩
abbrev nP (t v:Nat):AOper:=⟨.t t,.mv,[.v v],none,none⟩
abbrev gP (t:Nat) (k:Kind) (a:List Opd) (x:Nat) (b:Bool):AOper:=⟨.t t,k,a,none,some (.t x,b)⟩
abbrev xP (k:Kind) (a:List Opd) (v:Nat):AOper:=⟨.none,k,a,some v,none⟩
abbrev vP (v:Nat) (a:Opd):AOper:=⟨.v v,.mv,[a],none,none⟩
abbrev lP (t v:Nat) (b:Bool) (n:Nat) (a:Opd):AOper:=⟨.t t,.ldLc v b n,[a],some v,none⟩
abbrev bP (t:Nat) (o:BinOp) (a b:Opd):AOper:=⟨.t t,.bin o,[a,b],none,none⟩
abbrev fP (t n:Nat) (a:Opd):AOper:=⟨.t t,.fad n,[a],none,none⟩
def a4s1:=Rg [] [vP 3 (.c (.bool false))]
def a4s4:=Rg [] [vP 3 (.c (.bool false))]
def a4s6:=Ts [] [oP 18 (.call 5) [],oP 19 (.un .not) [.t 18]] (.t 19) (Sq a4s4 .ret) .skip
def a4s8:=Rg [] [nP 20 0,oP 21 (.conv .i64) [.t 20],bP 22 .rem (.t 21) (.c (.int .i64 15)),bP 23 .add (.c (.int .i64 1)) (.t 22),vP 4 (.t 23)]
def a4s10:=Rg [] [op (.v 5) .mv [.c (.str [123,32,112,101,111,112,108,101,32,123,32,46,46,46,65,32,125,32,125])]]
def a4s12:=Rg [] [op (.v 6) .mv [.c (.list true [])]]
def a4s14:=Rg [] [vP 7 (.c (.int .i64 0))]
def a4s16:=Ts [] [nP 24 7,nP 25 4,bP 26 .lss (.t 24) (.t 25)] (.t 26) .skip (.exit 0)
def a4s18:=Rg [] [nP 29 7,bP 30 .add (.c (.int .i64 65)) (.t 29),oP 31 (.conv .u8) [.t 30],oP 32 (.bslice 1 [[.int .u8 0]] [0]) [.t 31],oP 33 .b2s [.t 32],vP 8 (.t 33)]
def a4s20:=Rg [] [nP 34 5,nP 35 8,oP 36 (.bin .add) [.c (.str [32,102,114,97,103,109,101,110,116,32]),.t 35],oP 37 (.bin .add) [.t 36,.c (.str [32,111,110,32,80,101,114,115,111,110,32,123,32,110,97,109,101])],bP 38 .add (.t 34) (.t 37),vP 5 (.t 38)]
def a4s23:=Rg [] [nP 43 5,nP 44 7,bP 45 .add (.c (.int .i64 66)) (.t 44),oP 46 (.conv .u8) [.t 45],oP 47 (.bslice 1 [[.int .u8 0]] [0]) [.t 46],oP 48 .b2s [.t 47],oP 49 (.bin .add) [.c (.str [32,46,46,46]),.t 48],bP 50 .add (.t 43) (.t 49),vP 5 (.t 50)]
def a4s26:=Rg [] [nP 52 5,oP 53 (.bin .add) [.t 52,.c (.str [32,46,46,46,65])],vP 5 (.t 53)]
def a4s27:=Ts [] [nP 51 1] (.t 51) a4s26 .skip
def a4s28:=Ts [] [nP 39 7,bP 40 .add (.t 39) (.c (.int .i64 1)),nP 41 4,bP 42 .lss (.t 40) (.t 41)] (.t 42) a4s23 a4s27
def a4s30:=Rg [] [nP 54 5,oP 55 (.bin .add) [.t 54,.c (.str [32,125])],vP 5 (.t 55)]
def a4s36:=Rg [] [nP 27 7,bP 28 .add (.t 27) (.c (.int .i64 1)),vP 7 (.t 28)]
def a4s41:=Sq a4s14 (Bk 0 (Lp (Sq a4s16 (Sq (Bk 1 (Sq a4s18 (Sq a4s20 (Sq a4s28 a4s30)))) a4s36))))
def a4s44:=Rg [] [nP 57 5,oP 58 (.bin .add) [.t 57,.c (.str [32,102,114,97,103,109,101,110,116,32,90,32,111,110,32,67,97,116,32,123,32,108,105,118,101,115,32,125])],vP 5 (.t 58)]
def a4s46:=Rg [] [mP 59 (.vs 6),oP 60 (.build [.int .i64 0,.str []] [(0,1),(1,1)]) [.c (.int .i64 6),.c (.str [90])],oP 61 (.bslice 2 [[.int .i64 0,.str []]] [0]) [.t 60],oP 62 (.app 2 24) [.ts 59,.t 61],vP 6 (.ts 62)]
def a4s48:=Ts [] [nP 56 2] (.t 56) (Sq a4s44 a4s46) .skip
def a4s50:=Rg [] [vP 9 (.c (.int .i64 0))]
def a4s52:=Ts [] [nP 63 9,nP 64 4,bP 65 .lss (.t 63) (.t 64),mP 66 (.t 65),gP 67 .mv [.v 1] 66 true,oP 68 .pick [.t 66,.t 67,.c (.bool false)]] (.t 68) .skip (.exit 2)
def a4s54:=Rg [] [mP 71 (.vs 6),nP 72 9,bP 73 .add (.c (.int .i64 65)) (.t 72),oP 74 (.conv .u8) [.t 73],oP 75 (.bslice 1 [[.int .u8 0]] [0]) [.t 74],oP 76 .b2s [.t 75],oP 77 (.build [.int .i64 0,.str []] [(0,1),(1,1)]) [.c (.int .i64 7),.t 76],oP 78 (.bslice 2 [[.int .i64 0,.str []]] [0]) [.t 77],oP 79 (.app 2 24) [.ts 71,.t 78],vP 6 (.ts 79)]
def a4s57:=Rg [] [nP 69 9,bP 70 .add (.t 69) (.c (.int .i64 1)),vP 9 (.t 70)]
def a4s62:=Sq a4s50 (Bk 2 (Lp (Sq a4s52 (Sq (Bk 3 a4s54) a4s57))))
def a4r63:List AOper:=[
 nP 81 5,
 oP 82 (.call 7) [.t 81],
 mP 80 (.t 82),
 oP 83 (.ext 0) [.t 80],
 oP 84 (.ext 1) [.t 80],
 oP 85 (.ext 2) [.t 80],
 ⟨.bx,.alloc [.list true [],.list true []],[],some 10,none⟩,
 xP (.stLc 10 2) [.l 10,.ts 83] 10,
 mP 14 (.t 84),
 vP 11 (.t 85)]
def a4s64:=Rg [10] a4r63
def a4r65:List AOper:=[
 oP 87 (.call 6) [],
 mP 86 (.t 87),
 oP 88 (.ext 0) [.t 86],
 oP 89 (.ext 1) [.t 86],
 vP 12 (.t 88),
 mP 17 (.t 89)]
def a4s66:=Rg [] a4r65
def a4s68:=Rg [] [nP 90 11,bP 91 .eql (.t 90) (.c (.int .i64 0)),mP 92 (.t 91),gP 93 .mv [.v 12] 92 true,⟨.t 94,.ldLc 10 true 2,[.l 10],some 10,some (.t 92,true)⟩,gP 95 (.call 8) [.t 93,.t 94] 92 true,gP 96 .mv [.v 6] 92 true,gP 97 (.call 11) [.t 95,.t 96] 92 true,oP 98 .pick [.t 92,.t 97,.c (.bool false)],vP 3 (.t 98)]
def a4s69:=Sq a4s68 .ret
def a4s70:=Sq a4s66 a4s69
def a4s71:=Sq a4s64 a4s70
def a4s72:=Sq a4s62 a4s71
def a4s73:=Sq a4s48 a4s72
def a4s74:=Sq a4s41 a4s73
def a4s75:=Sq a4s12 a4s74
def a4s76:=Sq a4s10 a4s75
def a4s77:=Sq a4s8 a4s76
def a4s78:=Sq a4s6 a4s77
def a4s79:=Sq a4s1 a4s78
def a4c:ACode :=
  a4s79
def a4:AFn:={ np:=3,nv:=13,results:=[.v 3],code:=a4c }
def a4v:List Nat:=[0,1,2,6,7,8,9,10,11,12,13,15,16]
def a4b:List Nat:=[10]

def f4C:=Rg [] [vP 0 (.c (.bool false))]
def f6N:=Rg [] [oP 8 (.call 6) [],mP 7 (.t 8),oP 9 (.ext 0) [.t 7],oP 10 (.ext 1) [.t 7],vP 1 (.t 9),mP 2 (.t 10)]
def f7F:=Rg [2] [oP 12 (.call 7) [.c (.str [123,97,125])],mP 11 (.t 12),oP 13 (.ext 0) [.t 11],oP 14 (.ext 1) [.t 11],oP 15 (.ext 2) [.t 11],⟨.bx,.alloc [.list true [],.list true []],[],some 2,none⟩,xP (.stLc 2 2) [.l 2,.ts 13] 2,mP 4 (.t 14),mP 5 (.t 15)]
def f2B:=Rg [] [nP 16 1,lP 17 2 true 2 (.l 2),oP 18 (.call 8) [.t 16,.t 17],vP 3 (.ts 18)]
def f8G:=Rg [] [nP 19 3,oP 20 .lenL [.t 19],bP 21 .eql (.t 20) (.c (.int .i64 1)),mP 22 (.t 21),gP 23 .mv [.v 3] 22 true,gP 24 (.iad 2) [.t 23,.c (.int .i64 0)] 22 true,gP 25 (.ldAn true 2) [.t 24] 22 true,⟨.t 26,(.build [.int .i64 0,.str []] [(0,1),(1,1)]),[.c (.int .i64 8),.c (.str [97])],none,some (.t 22,true)⟩,gP 27 (.eqIS false) [.t 25,.t 26] 22 true,oP 28 .pick [.t 22,.t 27,.c (.bool false)],mP 29 (.t 28),oP 30 .pick [.t 29,.c (.bool true),.c (.bool false)],vP 0 (.t 30)]
def a5c:ACode :=
  (Sq f4C (Sq f6N (Sq f7F (Sq f2B (Sq f8G .ret)))))
def a5:AFn:={ np:=0,nv:=4,results:=[.v 0],code:=a5c }
def a5v:List Nat:=[0,1,3,6]
def a5b:List Nat:=[2]

def f3F:=Rg [] [vP 0 (.c (.nilp)),vP 1 (.c (.nilp))]
def f1g:=Rg [] [oP 12 (.call 12) [.c (.str [105,110,116,101,114,102,97,99,101,32,78,97,109,101,100,32,123,32,110,97,109,101,58,32,83,116,114,105,110,103,33,32,125,32,101,110,117,109,32,77,111,111,100,32,123,32,72,65,80,80,89,32,83,65,68,32,125,32,116,121,112,101,32,80,101,114,115,111,110,32,105,109,112,108,101,109,101,110,116,115,32,78,97,109,101,100,32,123,32,110,97,109,101,58,32,83,116,114,105,110,103,33,32,97,103,101,58,32,73,110,116,32,109,111,111,100,58,32,77,111,111,100,32,102,114,105,101,110,100,115,58,32,91,80,101,114,115,111,110,33,93,32,112,101,116,58,32,80,101,116,32,116,97,103,115,58,32,91,83,116,114,105,110,103,93,32,125,32,116,121,112,101,32,67,97,116,32,105,109,112,108,101,109,101,110,116,115,32,78,97,109,101,100,32,123,32,110,97,109,101,58,32,83,116,114,105,110,103,33,32,108,105,118,101,115,58,32,73,110,116,33,32,111,119,110,101,114,58,32,80,101,114,115,111,110,32,125,32,116,121,112,101,32,68,111,103,32,123,32,98,97,114,107,115,58,32,66,111,111,108,101,97,110,32,125,32,117,110,105,111,110,32,80,101,116,32,61,32,67,97,116,32,124,32,68,111,103,32,105,110,112,117,116,32,80,101,114,115,111,110,73,110,32,123,32,110,97,109,101,58,32,83,116,114,105,110,103,32,97,103,101,58,32,73,110,116,32,61,32,55,32,109,111,111,100,58,32,77,111,111,100,32,102,114,105,101,110,100,115,58,32,91,73,68,33,93,32,112,101,116,58,32,73,68,32,116,97,103,115,58,32,91,83,116,114,105,110,103,93,32,125,32,105,110,112,117,116,32,67,97,116,73,110,32,123,32,110,97,109,101,58,32,83,116,114,105,110,103,33,32,108,105,118,101,115,58,32,73,110,116,32,111,119,110,101,114,58,32,73,68,32,125,32,105,110,112,117,116,32,68,111,103,73,110,32,123,32,98,97,114,107,115,58,32,66,111,111,108,101,97,110,32,125,32,116,121,112,101,32,81,117,101,114,121,32,123,32,112,101,114,115,111,110,40,105,100,58,32,73,68,33,41,58,32,80,101,114,115,111,110,32,110,97,109,101,100,40,105,100,58,32,73,68,33,41,58,32,78,97,109,101,100,32,112,101,111,112,108,101,58,32,91,80,101,114,115,111,110,33,93,33,32,112,101,116,115,58,32,91,80,101,116,33,93,33,32,97,108,108,58,32,91,78,97,109,101,100,33,93,33,32,125,32,116,121,112,101,32,77,117,116,97,116,105,111,110,32,123,32,99,114,101,97,116,101,80,101,114,115,111,110,40,105,100,58,32,73,68,33,44,32,105,110,112,117,116,58,32,80,101,114,115,111,110,73,110,33,41,58,32,80,101,114,115,111,110,32,117,112,100,97,116,101,80,101,114,115,111,110,40,105,100,58,32,73,68,33,44,32,105,110,112,117,116,58,32,80,101,114,115,111,110,73,110,33,41,58,32,80,101,114,115,111,110,32,100,101,108,101,116,101,80,101,114,115,111,110,40,105,100,58,32,73,68,33,41,58,32,80,101,114,115,111,110,32,99,114,101,97,116,101,67,97,116,40,105,100,58,32,73,68,33,44,32,105,110,112,117,116,58,32,67,97,116,73,110,33,41,58,32,67,97,116,32,99,114,101,97,116,101,68,111,103,40,105,100,58,32,73,68,33,44,32,105,110,112,117,116,58,32,68,111,103,73,110,33,41,58,32,68,111,103,32,100,101,108,101,116,101,67,97,116,40,105,100,58,32,73,68,33,41,58,32,67,97,116,32,125])],mP 11 (.t 12),oP 13 (.ext 0) [.t 11],oP 14 (.ext 1) [.t 11],oP 15 (.ext 2) [.t 11],vP 2 (.ts 13),mP 3 (.t 14),vP 3 (.t 15)]
def f1d:=Rg [] [vP 0 (.c (.nilp)),vP 1 (.c (.nilp))]
def f3v:=Ts [] [nP 16 3,bP 17 .neq (.t 16) (.c (.int .i64 0))] (.t 17) (Sq f1d .ret) .skip
def e84:=Rg [] [nP 19 2,oP 20 (.call 13) [.t 19],mP 18 (.t 20),oP 21 (.ext 0) [.t 18],oP 22 (.ext 1) [.t 18],oP 23 (.ext 2) [.t 18],vP 4 (.t 21),mP 6 (.t 22),mP 7 (.t 23)]
def e2u:=Rg [] [nP 25 2,oP 26 (.call 14) [.t 25],mP 24 (.t 26),oP 27 (.ext 0) [.t 24],oP 28 (.ext 1) [.t 24],oP 29 (.ext 2) [.t 24],vP 5 (.t 27),mP 9 (.t 28),mP 10 (.t 29)]
def e57:=Rg [] [nP 30 4,nP 31 5,vP 0 (.t 30),vP 1 (.t 31)]
def a6c:ACode :=
  (Sq f3F (Sq f1g (Sq f3v (Sq e84 (Sq e2u (Sq e57 .ret))))))
def a6:AFn:={ np:=0,nv:=6,results:=[.v 0,.v 1],code:=a6c }
def a6v:List Nat:=[0,1,2,4,5,8]
def a6b:List Nat:=[]

def f3I:=Rg [1] [⟨.bx,.alloc [.list true [],.list true []],[],some 1,none⟩,vP 2 (.c (.int .i64 0)),vP 3 (.c (.int .i64 0))]
def f6B:=Rg [] [nP 14 0,oP 15 (.call 15) [.t 14],mP 13 (.t 15),oP 16 (.ext 0) [.t 13],oP 17 (.ext 1) [.t 13],oP 18 (.ext 2) [.t 13],vP 4 (.ts 16),vP 5 (.t 17),vP 6 (.t 18)]
def f2E:=Rg [] [oP 21 (.build [.list true [],.list true []] []) [],nP 22 5,nP 23 6,xP (.stLc 1 2) [.l 1,.ts 21] 1,vP 2 (.t 22),vP 3 (.t 23)]
def f4q:=Ts [] [nP 19 6,bP 20 .neq (.t 19) (.c (.int .i64 0))] (.t 20) (Sq f2E .ret) .skip
def e2t:=Rg [] [nP 24 4,oP 25 (.build [.list true [],.int .i64 0,.int .i64 0,.int .i64 0,.int .i64 0] [(0,1)]) [.t 24],oP 26 .boxO [.ts 25],vP 7 (.t 26)]
def f1a:=Rg [8] [⟨.bx,.alloc [.list true [],.list true []],[],some 8,none⟩]
def e0m:=Rg [] [vP 9 (.c (.bool true))]
def e5C:=Ts [] [nP 27 9,mP 28 (.t 27),gP 29 .mv [.v 7] 28 false,gP 30 .nilchk [.t 29] 28 false,gP 31 (.fad 4) [.t 30] 28 false,gP 32 (.ldSt false 1) [.t 31] 28 false,gP 33 (.bin .eql) [.t 32,.c (.int .i64 0)] 28 false,gP 34 .mv [.t 33] 28 false,gP 35 .mv [.v 7] 34 true,gP 36 (.call 16) [.t 35,.c (.int .u8 0)] 34 true,gP 37 (.un .not) [.t 36] 34 true,gP 38 .pick [.t 34,.t 37,.c (.bool false)] 28 false,oP 39 .pick [.t 28,.c (.bool true),.t 38]] (.t 39) .skip (.exit 0)
def e1W:=Rg [] [nP 42 7,oP 43 .nilchk [.t 42],fP 44 1 (.t 43),oP 45 (.ldSt false 1) [.t 44],bP 46 .add (.t 45) (.c (.int .i64 1)),oP 47 .nilchk [.t 42],fP 48 1 (.t 47),op .none (.stSt 1) [.t 48,.t 46]]
def e6w:=Rg [] [nP 51 7,oP 52 (.call 18) [.t 51,.c (.int .i64 4)]]
def e2z:=Ts [] [nP 49 7,oP 50 (.call 17) [.t 49,.c (.str [111,110])]] (.t 50) e6w .skip
def f0r:=Rg [10] [nP 53 7,oP 54 (.call 19) [.t 53],oP 55 (.build [.str [],.str [],.list true []] [(0,1)]) [.t 54],⟨.bx,.alloc [.str [],.str [],.list true []],[],some 10,none⟩,xP (.stLc 10 3) [.l 10,.ts 55] 10]
def e7w:=Rg [] [nP 56 7,oP 57 (.call 20) [.t 56,.c (.str [111,110])]]
def e3m:=Rg [] [nP 58 7,oP 59 (.call 19) [.t 58],fP 60 1 (.l 10),xP (.stLc 10 1) [.t 60,.t 59] 10]
def e05:=Rg [] [nP 61 7,oP 62 (.call 21) [.t 61],fP 63 2 (.l 10),xP (.stLc 10 1) [.t 63,.ts 62] 10]
def e3H:=Rg [] [fP 64 1 (.l 8),⟨.t 65,.ldLcS 8,[.t 64],some 8,none⟩,lP 66 10 true 3 (.l 10),oP 67 (.bslice 3 [[.str [],.str [],.list true []]] [0]) [.t 66],oP 68 (.app 3 56) [.ts 65,.t 67],fP 69 1 (.l 8),xP (.stLc 8 1) [.t 69,.ts 68] 8]
def e4j:=Ts [] [nP 40 7,oP 41 (.call 17) [.t 40,.c (.str [102,114,97,103,109,101,110,116])]] (.t 41) (Sq e1W (Sq e2z (Sq f0r (Sq e7w (Sq e3m (Sq e05 (Sq e3H (.exit 1)))))))) .skip
def e0Y:=Rg [11] [⟨.bx,.alloc [.bool false,.str [],.list true [],.list true []],[],some 11,none⟩]
def e73:=Rg [] [nP 73 7,oP 74 (.call 23) [.t 73,.c (.str [109,117,116,97,116,105,111,110])],fP 75 0 (.l 11),xP (.stLc 11 1) [.t 75,.t 74] 11]
def e7a:=Rg [] [nP 79 7,oP 80 (.call 24) [.t 79,.c (.str [113,117,101,114,121])]]
def f00:=Ts [] [fP 76 0 (.l 11),lP 77 11 false 1 (.t 76),oP 78 (.un .not) [.t 77]] (.t 78) e7a .skip
def e0H:=Rg [] [nP 83 7,oP 84 (.call 19) [.t 83],fP 85 1 (.l 11),xP (.stLc 11 1) [.t 85,.t 84] 11]
def e8A:=Ts [] [nP 81 7,oP 82 (.call 16) [.t 81,.c (.int .u8 1)]] (.t 82) e0H .skip
def d9Z:=Rg [] [fP 88 2 (.l 11),⟨.t 89,.ldLcS 11,[.t 88],some 11,none⟩,nP 90 7,oP 91 (.call 25) [.t 90],oP 92 (.bslice 10 [[.str [],.str [],.list true [],.bool false,.bool false,.int .u8 0,.int .i64 0,.str [],.list true [],.list true []]] [0]) [.t 91],oP 93 (.app 10 152) [.ts 89,.t 92],fP 94 2 (.l 11),xP (.stLc 11 1) [.t 94,.ts 93] 11]
def e89:=Ts [] [nP 95 7,oP 96 .nilchk [.t 95],fP 97 4 (.t 96),oP 98 (.ldSt false 1) [.t 97],bP 99 .eql (.t 98) (.c (.int .i64 0)),mP 100 (.t 99),gP 101 .mv [.v 7] 100 true,gP 102 (.call 23) [.t 101,.c (.str [41])] 100 true,gP 103 (.un .not) [.t 102] 100 true,oP 104 .pick [.t 100,.t 103,.c (.bool false)]] (.t 104) .skip (.exit 2)
def e87:=Rg [] [fP 105 2 (.l 11),⟨.t 106,.ldLcS 11,[.t 105],some 11,none⟩,nP 107 7,oP 108 (.call 25) [.t 107],oP 109 (.bslice 10 [[.str [],.str [],.list true [],.bool false,.bool false,.int .u8 0,.int .i64 0,.str [],.list true [],.list true []]] [0]) [.t 108],oP 110 (.app 10 152) [.ts 106,.t 109],fP 111 2 (.l 11),xP (.stLc 11 1) [.t 111,.ts 110] 11]
def e0G:=Ts [] [nP 86 7,oP 87 (.call 23) [.t 86,.c (.str [40])]] (.t 87) (Sq d9Z (Bk 2 (Lp (Sq e89 (Bk 3 e87))))) .skip
def d91:=Ts [] [nP 70 7,oP 71 (.call 22) [.t 70,.c (.str [123])],oP 72 (.un .not) [.t 71]] (.t 72) (Sq e73 (Sq f00 (Sq e8A e0G))) .skip
def e5q:=Rg [] [nP 112 7,oP 113 (.call 21) [.t 112],fP 114 3 (.l 11),xP (.stLc 11 1) [.t 114,.ts 113] 11]
def e7p:=Rg [] [fP 115 0 (.l 8),⟨.t 116,.ldLcS 8,[.t 115],some 8,none⟩,lP 117 11 true 4 (.l 11),oP 118 (.bslice 4 [[.bool false,.str [],.list true [],.list true []]] [0]) [.t 117],oP 119 (.app 4 72) [.ts 116,.t 118],fP 120 0 (.l 8),xP (.stLc 8 1) [.t 120,.ts 119] 8]
def e5z:=Rg [] [vP 9 (.c (.bool false))]
def e6Y:=Rg [] [oP 126 (.build [.list true [],.list true []] []) [],nP 127 7,oP 128 .nilchk [.t 127],fP 129 3 (.t 128),oP 130 (.ldSt false 1) [.t 129],nP 131 7,oP 132 .nilchk [.t 131],fP 133 4 (.t 132),oP 134 (.ldSt false 1) [.t 133],xP (.stLc 1 2) [.l 1,.ts 126] 1,vP 2 (.t 130),vP 3 (.t 134)]
def e0z:=Ts [] [nP 121 7,oP 122 .nilchk [.t 121],fP 123 4 (.t 122),oP 124 (.ldSt false 1) [.t 123],bP 125 .neq (.t 124) (.c (.int .i64 0))] (.t 125) (Sq e6Y .ret) .skip
def e4K:=Rg [] [lP 135 8 true 2 (.l 8),xP (.stLc 1 2) [.l 1,.ts 135] 1,vP 2 (.c (.int .i64 0)),vP 3 (.c (.int .i64 0))]
def a7c:ACode :=
  (Sq f3I (Sq f6B (Sq f4q (Sq e2t (Sq f1a (Sq (Sq e0m (Bk 0 (Lp (Sq e5C (Sq (Bk 1 (Sq e4j (Sq e0Y (Sq d91 (Sq e5q e7p))))) e5z))))) (Sq e0z (Sq e4K .ret))))))))
def a7:AFn:={ np:=1,nv:=12,results:=[.bx 1 true 2,.v 2,.v 3],code:=a7c }
def a7v:List Nat:=[0,2,3,4,5,6,7,8,9,10,11,12]
def a7b:List Nat:=[1,8,10,11]

def f1r:=Rg [2] [⟨.bx,.boxV,[.v 1],some 2,none⟩,op (.v 3) .mv [.c (.list true [])]]
def f2G:=Rg [] [nP 14 0,lP 15 2 true 2 (.l 2),oP 16 (.build [.nilp,.list true [],.list true [],.list true []] [(0,1),(1,2)]) [.t 14,.t 15],oP 17 .boxO [.ts 16],vP 4 (.t 17)]
def f6f:=Rg [] [op (.v 5) .mv [.c (.list true [])]]
def f8n:=Rg [] [fP 18 0 (.l 2),⟨.v 10,.ldLc 2 false 1,[.t 18],some 2,none⟩,op (.v 11) .lenL [.v 10],vP 12 (.c (.int .i64 0))]
def f4Y:=Ts [] [bP 22 .lss (.v 12) (.v 11)] (.t 22) .skip (.exit 0)
def f0y:=Rg [6] [oP 23 (.iad 4) [.v 10,.v 12],oP 24 (.ldRo true 4) [.t 23],⟨.bx,.alloc [.bool false,.str [],.list true [],.list true []],[],some 6,none⟩,xP (.stLc 6 4) [.l 6,.ts 24] 6]
def e7H:=Rg [] [nP 34 4,oP 35 (.call 26) [.t 34,.c (.int .i64 2),.c (.str [])]]
def e2m:=Ts [] [fP 25 1 (.l 6),lP 26 6 false 1 (.t 25),oP 27 (.bin .eql) [.t 26,.c (.str [])],mP 28 (.t 27),gP 29 (.fad 0) [.l 2] 28 true,⟨.t 30,.ldLc 2 false 1,[.t 29],some 2,some (.t 28,true)⟩,gP 31 .lenL [.t 30] 28 true,gP 32 (.bin .gtr) [.t 31,.c (.int .i64 1)] 28 true,oP 33 .pick [.t 28,.t 32,.c (.bool false)]] (.t 33) e7H .skip
def e0h:=Rg [] [mP 39 (.vs 5),fP 40 1 (.l 6),lP 41 6 false 1 (.t 40),oP 42 (.bslice 1 [[.str []]] [0]) [.t 41],oP 43 (.app 1 16) [.ts 39,.t 42],vP 5 (.ts 43)]
def e9R:=Ts [] [fP 36 1 (.l 6),lP 37 6 false 1 (.t 36),oP 38 (.bin .neq) [.t 37,.c (.str [])]] (.t 38) e0h .skip
def e6S:=Rg [] [bP 44 .add (.v 12) (.c (.int .i64 1)),vP 12 (.t 44)]
def e9u:=Rg [] [nP 45 4,nP 46 5,oP 47 (.call 27) [.t 45,.c (.int .i64 1),.t 46]]
def d9R:=Rg [] [nP 48 4,fP 49 1 (.l 2),lP 50 2 false 1 (.t 49),oP 51 (.call 28) [.t 50,.c (.func 29 [] [])],oP 52 (.call 27) [.t 48,.c (.int .i64 3),.t 51]]
def e6L:=Rg [] [op (.v 7) .mv [.c (.list true [])]]
def d9N:=Rg [] [fP 53 0 (.l 2),⟨.v 13,.ldLc 2 false 1,[.t 53],some 2,none⟩,op (.v 14) .lenL [.v 13],vP 15 (.c (.int .i64 0))]
def e1Q:=Ts [] [bP 57 .lss (.v 15) (.v 14)] (.t 57) .skip (.exit 2)
def e3Z:=Rg [8] [oP 58 (.iad 4) [.v 13,.v 15],oP 59 (.ldRo true 4) [.t 58],⟨.bx,.alloc [.bool false,.str [],.list true [],.list true []],[],some 8,none⟩,xP (.stLc 8 4) [.l 8,.ts 59] 8]
def d9O:=Rg [] [mP 60 (.vs 7),nP 61 4,fP 62 3 (.l 8),lP 63 8 false 1 (.t 62),oP 64 (.call 30) [.t 61,.t 63,.c (.nils)],oP 65 (.appA 16) [.ts 60,.t 64],vP 7 (.ts 65)]
def e9b:=Rg [] [nP 66 4,lP 67 8 true 4 (.l 8),oP 68 (.call 31) [.t 66,.t 67]]
def f0d:=Rg [] [bP 69 .add (.v 15) (.c (.int .i64 1)),vP 15 (.t 69)]
def d93:=Rg [] [fP 70 1 (.l 2),⟨.v 16,.ldLc 2 false 1,[.t 70],some 2,none⟩,op (.v 17) .lenL [.v 16],vP 18 (.c (.int .i64 0))]
def f0v:=Ts [] [bP 74 .lss (.v 18) (.v 17)] (.t 74) .skip (.exit 4)
def e7R:=Rg [9] [oP 75 (.iad 3) [.v 16,.v 18],oP 76 (.ldRo true 3) [.t 75],⟨.bx,.alloc [.str [],.str [],.list true []],[],some 9,none⟩,xP (.stLc 9 3) [.l 9,.ts 76] 9]
def e7X:=Rg [] [nP 82 4,fP 83 0 (.l 9),lP 84 9 false 1 (.t 83),oP 85 (.call 26) [.t 82,.c (.int .i64 6),.t 84]]
def f02:=Ts [] [nP 77 7,fP 78 0 (.l 9),lP 79 9 false 1 (.t 78),oP 80 (.call 32) [.t 77,.t 79],oP 81 (.un .not) [.t 80]] (.t 81) e7X .skip
def f0f:=Rg [] [nP 93 4,fP 94 0 (.l 9),lP 95 9 false 1 (.t 94),oP 96 (.call 26) [.t 93,.c (.int .i64 7),.t 95]]
def d9P:=Ts [] [nP 86 4,fP 87 2 (.l 9),lP 88 9 false 1 (.t 87),oP 89 (.call 30) [.t 86,.t 88,.c (.nils)],fP 90 0 (.l 9),lP 91 9 false 1 (.t 90),oP 92 (.call 32) [.t 89,.t 91]] (.t 92) f0f .skip
def e59:=Rg [] [nP 102 4,fP 103 1 (.l 9),lP 104 9 false 1 (.t 103),oP 105 (.call 26) [.t 102,.c (.int .i64 4),.t 104]]
def e2l:=Ts [] [nP 97 4,fP 98 1 (.l 9),lP 99 9 false 1 (.t 98),oP 100 (.call 33) [.t 97,.t 99],oP 101 (.un .not) [.t 100]] (.t 101) e59 .skip
def e1D:=Rg [] [nP 106 4,fP 107 1 (.l 9),lP 108 9 false 1 (.t 107),fP 109 2 (.l 9),lP 110 9 false 1 (.t 109),oP 111 (.call 34) [.t 106,.t 108,.t 110]]
def e8a:=Rg [] [bP 112 .add (.v 18) (.c (.int .i64 1)),vP 18 (.t 112)]
def e2I:=Rg [] [nP 113 4,oP 114 .nilchk [.t 113],fP 115 3 (.t 114),oP 116 (.ldSt false 1) [.t 115],oP 117 (.call 35) [.t 116,.c (.func 36 [] [])]]
def e30:=Rg [] [nP 118 4,nP 119 4,oP 120 .nilchk [.t 119],fP 121 3 (.t 120),oP 122 (.ldSt false 1) [.t 121],oP 123 (.call 40) [.t 122],oP 124 .nilchk [.t 118],fP 125 3 (.t 124),op .none (.stSt 1) [.t 125,.t 123]]
def e6j:=Rg [] [nP 126 4,oP 127 .nilchk [.t 126],fP 128 3 (.t 127),oP 129 (.ldSt false 1) [.t 128],nP 130 4,oP 131 .nilchk [.t 130],fP 132 3 (.t 131),oP 133 (.ldSt false 1) [.t 132],oP 134 .lenL [.t 133],oP 135 .min2 [.t 134,.c (.int .i64 50)],oP 136 (.slL 2 false true) [.t 129,.t 135],vP 3 (.ts 136)]
def a8c:ACode :=
  (Sq f1r (Sq f2G (Sq f6f (Sq (Sq f8n (Bk 0 (Lp (Sq f4Y (Sq (Bk 1 (Sq f0y (Sq e2m e9R))) e6S))))) (Sq e9u (Sq d9R (Sq e6L (Sq (Sq d9N (Bk 2 (Lp (Sq e1Q (Sq (Bk 3 (Sq e3Z (Sq d9O e9b))) f0d))))) (Sq (Sq d93 (Bk 4 (Lp (Sq f0v (Sq (Bk 5 (Sq e7R (Sq f02 (Sq d9P (Sq e2l e1D))))) e8a))))) (Sq e2I (Sq e30 (Sq e6j .ret))))))))))))
def a8:AFn:={ np:=2,nv:=19,results:=[.v 3],code:=a8c }
def a8v:List Nat:=[0,1,3,4,5,6,8,9,11,13,19,20,21,54,55,56,71,72,73]
def a8b:List Nat:=[2,6,8,9]

def a9s1:=Rg [1] [⟨.bx,.boxV,[.v 0],some 1,none⟩,op (.v 2) .mv [.c (.str [])]]
def a9s4:=Rg [] [fP 6 1 (.l 1),lP 7 1 false 1 (.t 6),vP 2 (.t 7)]
def a9s6:=Ts [] [fP 3 1 (.l 1),lP 4 1 false 1 (.t 3),oP 5 (.bin .neq) [.t 4,.c (.str [])]] (.t 5) (Sq a9s4 .ret) .skip
def a9s8:=Rg [] [fP 8 2 (.l 1),lP 9 1 false 1 (.t 8),vP 2 (.t 9)]
def a9c:ACode :=
  (Sq a9s1 (Sq a9s6 (Sq a9s8 .ret)))
def a9:AFn:={ np:=1,nv:=3,results:=[.v 2],code:=a9c }
def a9v:List Nat:=[0,1,2]
def a9b:List Nat:=[1]

def f0P:=Rg [] [vP 2 (.c (.bool false))]
def e1r:=Rg [] [vP 2 (.c (.bool false))]
def e1V:=Ts [] [nP 6 0,oP 7 .lenL [.t 6],nP 8 1,oP 9 .lenL [.t 8],bP 10 .neq (.t 7) (.t 9)] (.t 10) (Sq e1r .ret) .skip
def e3a:=Rg [] [vP 3 (.c (.int .i64 0))]
def d1P:=Ts [] [nP 11 3,nP 12 0,oP 13 .lenL [.t 12],bP 14 .lss (.t 11) (.t 13)] (.t 14) .skip (.exit 0)
def d1h:=Rg [] [vP 2 (.c (.bool false))]
def d48:=Ts [] [nP 17 0,nP 18 3,oP 19 (.iad 2) [.t 17,.t 18],oP 20 (.ldAn true 2) [.t 19],nP 21 1,nP 22 3,oP 23 (.iad 2) [.t 21,.t 22],oP 24 (.ldAn true 2) [.t 23],oP 25 (.eqIS true) [.t 20,.t 24]] (.t 25) (Sq d1h .ret) .skip
def d5A:=Rg [] [nP 15 3,bP 16 .add (.t 15) (.c (.int .i64 1)),vP 3 (.t 16)]
def c6S:=Rg [] [vP 2 (.c (.bool true))]
def f3g:ACode :=
  (Sq f0P (Sq e1V (Sq (Sq e3a (Bk 0 (Lp (Sq d1P (Sq (Bk 1 d48) d5A))))) (Sq c6S .ret))))
def a11:AFn:={ np:=2,nv:=4,results:=[.v 2],code:=f3g }
def f3H:List Nat:=[0,1,4,5]
def f7u:List Nat:=[]

def e4u:=Rg [] [op (.v 1) .mv [.c (.list true [])],vP 2 (.c (.int .i64 0)),vP 3 (.c (.int .i64 0))]
def d9T:=Rg [] [nP 13 0,oP 14 (.call 15) [.t 13],mP 12 (.t 14),oP 15 (.ext 0) [.t 12],oP 16 (.ext 1) [.t 12],oP 17 (.ext 2) [.t 12],vP 4 (.ts 15),vP 5 (.t 16),vP 6 (.t 17)]
def f01:=Rg [] [nP 20 5,nP 21 6,op (.v 1) .mv [.c (.list true [])],vP 2 (.t 20),vP 3 (.t 21)]
def e1E:=Ts [] [nP 18 6,bP 19 .neq (.t 18) (.c (.int .i64 0))] (.t 19) (Sq f01 .ret) .skip
def d2i:=Rg [] [nP 22 4,oP 23 (.build [.list true [],.int .i64 0,.int .i64 0,.int .i64 0,.int .i64 0] [(0,1)]) [.t 22],oP 24 .boxO [.ts 23],vP 7 (.t 24)]
def d35:=Rg [] [op (.v 8) .mv [.c (.list true [])]]
def d7G:=Rg [] [vP 9 (.c (.bool true))]
def d5i:=Ts [] [nP 25 9,mP 26 (.t 25),gP 27 .mv [.v 7] 26 false,gP 28 .nilchk [.t 27] 26 false,gP 29 (.fad 4) [.t 28] 26 false,gP 30 (.ldSt false 1) [.t 29] 26 false,gP 31 (.bin .eql) [.t 30,.c (.int .i64 0)] 26 false,gP 32 .mv [.t 31] 26 false,gP 33 .mv [.v 7] 32 true,gP 34 (.call 16) [.t 33,.c (.int .u8 0)] 32 true,gP 35 (.un .not) [.t 34] 32 true,gP 36 .pick [.t 32,.t 35,.c (.bool false)] 26 false,oP 37 .pick [.t 26,.c (.bool true),.t 36]] (.t 37) .skip (.exit 0)
def d0E:=Rg [10] [nP 38 7,oP 39 (.call 41) [.t 38],⟨.bx,.alloc [.int .u8 0,.str [],.list true [],.list true []],[],some 10,none⟩,xP (.stLc 10 4) [.l 10,.ts 39] 10]
def d2S:=Rg [] [mP 40 (.vs 8),lP 41 10 true 4 (.l 10),oP 42 (.bslice 4 [[.int .u8 0,.str [],.list true [],.list true []]] [0]) [.t 41],oP 43 (.app 4 72) [.ts 40,.t 42],vP 8 (.ts 43)]
def c8D:=Rg [] [vP 9 (.c (.bool false))]
def d4n:=Rg [] [nP 49 7,oP 50 .nilchk [.t 49],fP 51 3 (.t 50),oP 52 (.ldSt false 1) [.t 51],nP 53 7,oP 54 .nilchk [.t 53],fP 55 4 (.t 54),oP 56 (.ldSt false 1) [.t 55],op (.v 1) .mv [.c (.list true [])],vP 2 (.t 52),vP 3 (.t 56)]
def d5S:=Ts [] [nP 44 7,oP 45 .nilchk [.t 44],fP 46 4 (.t 45),oP 47 (.ldSt false 1) [.t 46],bP 48 .neq (.t 47) (.c (.int .i64 0))] (.t 48) (Sq d4n .ret) .skip
def c9y:=Rg [] [nP 57 8,vP 1 (.ts 57),vP 2 (.c (.int .i64 0)),vP 3 (.c (.int .i64 0))]
def f1k:ACode :=
  (Sq e4u (Sq d9T (Sq e1E (Sq d2i (Sq d35 (Sq (Sq d7G (Bk 0 (Lp (Sq d5i (Sq (Bk 1 (Sq d0E d2S)) c8D))))) (Sq d5S (Sq c9y .ret))))))))
def a12:AFn:={ np:=1,nv:=11,results:=[.v 1,.v 2,.v 3],code:=f1k }
def f4F:List Nat:=[0,2,3,4,5,6,7,8,9,10,11]
def f8d:List Nat:=[10]

def e4h:=Rg [] [vP 1 (.c (.nilp)),op (.v 2) .mv [.c (.str [])],vP 3 (.c (.int .i64 0))]
def e9K:=Rg [] [nP 18 0,oP 19 (.call 42) [.t 18],oP 20 .mkM [],oP 21 (.build [.list true [],.nilm] [(0,1),(1,1)]) [.t 19,.t 20],oP 22 .boxO [.ts 21],vP 4 (.t 22)]
def e8m:=Rg [] [vP 14 (.v 0),op (.v 15) .lenL [.v 14],vP 16 (.c (.int .i64 0))]
def e8G:=Ts [] [bP 26 .lss (.v 16) (.v 15)] (.t 26) .skip (.exit 0)
def e6K:=Rg [6] [nP 27 16,oP 28 (.iad 4) [.v 14,.v 16],oP 29 (.ldRo true 4) [.t 28],⟨.bx,.alloc [.int .u8 0,.str [],.list true [],.list true []],[],some 6,none⟩,vP 5 (.t 27),xP (.stLc 6 4) [.l 6,.ts 29] 6]
def d40:=Rg [] [nP 31 4,oP 32 .nilchk [.t 31],fP 33 1 (.t 32),oP 34 (.ldSt false 1) [.t 33],fP 35 1 (.l 6),lP 36 6 false 1 (.t 35),oP 37 (.mget 1 [.int .i64 0] false true) [.t 34,.t 36],mP 30 (.t 37),oP 38 (.ext 0) [.t 30],oP 39 (.ext 1) [.t 30],mP 8 (.t 38),vP 7 (.t 39)]
def c4f:=Rg [] [fP 47 1 (.l 6),lP 48 6 false 1 (.t 47),vP 1 (.c (.nilp)),vP 2 (.t 48),vP 3 (.c (.int .i64 7))]
def c94:=Ts [] [nP 40 7,mP 41 (.t 40),gP 42 (.slA 4 1 false false) [.c (.ro [.str [66,111,111,108,101,97,110],.str [73,68],.str [73,110,116],.str [83,116,114,105,110,103]])] 41 false,gP 43 (.fad 1) [.l 6] 41 false,⟨.t 44,.ldLc 6 false 1,[.t 43],some 6,some (.t 41,false)⟩,gP 45 (.call 32) [.t 42,.t 44] 41 false,oP 46 .pick [.t 41,.c (.bool true),.t 45]] (.t 46) (Sq c4f .ret) .skip
def c7o:=Rg [] [fP 52 1 (.l 6),lP 53 6 false 1 (.t 52),vP 1 (.c (.nilp)),vP 2 (.t 53),vP 3 (.c (.int .i64 1))]
def d3W:=Ts [] [fP 49 1 (.l 6),lP 50 6 false 1 (.t 49),oP 51 (.call 43) [.t 50,.c (.str [95,95])]] (.t 51) (Sq c7o .ret) .skip
def c4b:=Rg [] [nP 54 4,oP 55 .nilchk [.t 54],fP 56 1 (.t 55),oP 57 (.ldSt false 1) [.t 56],fP 58 1 (.l 6),lP 59 6 false 1 (.t 58),nP 60 5,op .none (.mset 1) [.t 57,.t 59,.t 60]]
def c7B:=Rg [] [bP 61 .add (.v 16) (.c (.int .i64 1)),vP 16 (.t 61)]
def d8w:=Rg [] [vP 17 (.v 0),op (.v 18) .lenL [.v 17],vP 19 (.c (.int .i64 0))]
def c8v:=Ts [] [bP 65 .lss (.v 19) (.v 18)] (.t 65) .skip (.exit 2)
def d1D:=Rg [8] [oP 66 (.iad 4) [.v 17,.v 19],oP 67 (.ldRo true 4) [.t 66],⟨.bx,.alloc [.int .u8 0,.str [],.list true [],.list true []],[],some 8,none⟩,xP (.stLc 8 4) [.l 8,.ts 67] 8]
def c8a:=Rg [9] [nP 68 4,lP 69 8 true 4 (.l 8),oP 70 (.call 44) [.t 68,.t 69],⟨.bx,.alloc [.int .i64 0,.str []],[],some 9,none⟩,xP (.stLc 9 2) [.l 9,.t 70] 9]
def c67:=Rg [] [fP 74 1 (.l 9),lP 75 9 false 1 (.t 74),fP 76 0 (.l 9),lP 77 9 false 1 (.t 76),vP 1 (.c (.nilp)),vP 2 (.t 75),vP 3 (.t 77)]
def d2M:=Ts [] [fP 71 0 (.l 9),lP 72 9 false 1 (.t 71),bP 73 .neq (.t 72) (.c (.int .i64 0))] (.t 73) (Sq c67 .ret) .skip
def c4j:=Rg [] [bP 78 .add (.v 19) (.c (.int .i64 1)),vP 19 (.t 78)]
def d1p:=Rg [10] [nP 80 4,oP 81 (.call 45) [.t 80,.c (.str [81,117,101,114,121])],mP 79 (.t 81),oP 82 (.ext 0) [.t 79],oP 83 (.ext 1) [.t 79],⟨.bx,.alloc [.int .u8 0,.str [],.list true [],.list true []],[],some 10,none⟩,xP (.stLc 10 4) [.l 10,.ts 82] 10,vP 11 (.t 83)]
def d3F:=Rg [] [vP 1 (.c (.nilp)),op (.v 2) .mv [.c (.str [81,117,101,114,121])],vP 3 (.c (.int .i64 6))]
def d8V:=Ts [] [nP 84 11,oP 85 (.un .not) [.t 84],mP 86 (.t 85),gP 87 (.fad 0) [.l 10] 86 false,⟨.t 88,.ldLc 10 false 1,[.t 87],some 10,some (.t 86,false)⟩,gP 89 (.bin .neq) [.t 88,.c (.int .u8 1)] 86 false,oP 90 .pick [.t 86,.c (.bool true),.t 89]] (.t 90) (Sq d3F .ret) .skip
def c5W:=Rg [] [vP 20 (.v 0),op (.v 21) .lenL [.v 20],vP 22 (.c (.int .i64 0))]
def c8P:=Ts [] [bP 94 .lss (.v 22) (.v 21)] (.t 94) .skip (.exit 4)
def d4W:=Rg [12] [oP 95 (.iad 4) [.v 20,.v 22],oP 96 (.ldRo true 4) [.t 95],⟨.bx,.alloc [.int .u8 0,.str [],.list true [],.list true []],[],some 12,none⟩,xP (.stLc 12 4) [.l 12,.ts 96] 12]
def d5R:=Rg [13] [nP 97 4,lP 98 12 true 4 (.l 12),oP 99 (.call 46) [.t 97,.t 98],⟨.bx,.alloc [.int .i64 0,.str []],[],some 13,none⟩,xP (.stLc 13 2) [.l 13,.t 99] 13]
def c9j:=Rg [] [fP 103 1 (.l 13),lP 104 13 false 1 (.t 103),fP 105 0 (.l 13),lP 106 13 false 1 (.t 105),vP 1 (.c (.nilp)),vP 2 (.t 104),vP 3 (.t 106)]
def d0r:=Ts [] [fP 100 0 (.l 13),lP 101 13 false 1 (.t 100),bP 102 .neq (.t 101) (.c (.int .i64 0))] (.t 102) (Sq c9j .ret) .skip
def d4a:=Rg [] [bP 107 .add (.v 22) (.c (.int .i64 1)),vP 22 (.t 107)]
def d5v:=Rg [] [nP 108 4,vP 1 (.t 108),op (.v 2) .mv [.c (.str [])],vP 3 (.c (.int .i64 0))]
def f4N:ACode :=
  (Sq e4h (Sq e9K (Sq (Sq e8m (Bk 0 (Lp (Sq e8G (Sq (Bk 1 (Sq e6K (Sq (Sq d40 c94) (Sq d3W c4b)))) c7B))))) (Sq (Sq d8w (Bk 2 (Lp (Sq c8v (Sq (Bk 3 (Sq d1D (Sq c8a d2M))) c4j))))) (Sq (Sq d1p d8V) (Sq (Sq c5W (Bk 4 (Lp (Sq c8P (Sq (Bk 5 (Sq d4W (Sq d5R d0r))) d4a))))) (Sq d5v .ret)))))))
def a13:AFn:={ np:=1,nv:=23,results:=[.v 1,.v 2,.v 3],code:=f4N }
def f7E:List Nat:=[0,2,3,4,5,6,7,9,11,12,13,14,16,17,23,24,25,62,63,64,91,92,93]
def f8q:List Nat:=[6,8,9,10,12,13]

def e8D:=Rg [] [vP 1 (.c (.nilp)),op (.v 2) .mv [.c (.str [])],vP 3 (.c (.int .i64 0))]
def e3h:=Rg [] [nP 14 0,oP 15 (.build [.list true []] [(0,1)]) [.t 14],oP 16 .boxO [.ts 15],vP 4 (.t 16)]
def e1G:=Rg [] [op (.v 5) .mv [.c (.list true [])]]
def e8N:=Rg [] [vP 6 (.c (.int .i64 0))]
def f0w:=Ts [] [nP 17 6,nP 18 0,oP 19 .lenL [.t 18],bP 20 .lss (.t 17) (.t 19)] (.t 20) .skip (.exit 0)
def d22:=Rg [] [nP 23 0,nP 24 6,oP 25 (.iad 4) [.t 23,.t 24],fP 26 1 (.t 25),oP 27 (.ldRo false 1) [.t 26],vP 7 (.t 27)]
def d3I:=Rg [] [nP 35 7,vP 1 (.c (.nilp)),vP 2 (.t 35),vP 3 (.c (.int .i64 7))]
def c8n:=Ts [] [nP 28 7,oP 29 (.call 47) [.t 28],mP 30 (.t 29),gP 31 .mv [.v 5] 30 false,gP 32 .mv [.v 7] 30 false,gP 33 (.call 48) [.t 31,.t 32] 30 false,oP 34 .pick [.t 30,.c (.bool true),.t 33]] (.t 34) (Sq d3I .ret) .skip
def d4F:=Rg [] [nP 38 7,vP 1 (.c (.nilp)),vP 2 (.t 38),vP 3 (.c (.int .i64 1))]
def d61:=Ts [] [nP 36 7,oP 37 (.call 49) [.t 36,.c (.str [95,95])]] (.t 37) (Sq d4F .ret) .skip
def c5e:=Rg [] [mP 39 (.vs 5),nP 40 7,oP 41 (.bslice 1 [[.str []]] [0]) [.t 40],oP 42 (.app 1 16) [.ts 39,.t 41],vP 5 (.ts 42)]
def d4B:=Rg [] [nP 21 6,bP 22 .add (.t 21) (.c (.int .i64 1)),vP 6 (.t 22)]
def c6i:=Rg [] [vP 8 (.c (.int .i64 0))]
def d7b:=Ts [] [nP 43 8,nP 44 0,oP 45 .lenL [.t 44],bP 46 .lss (.t 43) (.t 45)] (.t 46) .skip (.exit 2)
def d27:=Rg [] [nP 50 4,nP 51 0,nP 52 8,oP 53 (.iad 4) [.t 51,.t 52],oP 54 (.ldRo true 4) [.t 53],oP 55 (.call 50) [.t 50,.t 54],mP 49 (.t 55),oP 56 (.ext 0) [.t 49],oP 57 (.ext 1) [.t 49],vP 9 (.t 56),vP 10 (.t 57)]
def d5h:=Rg [] [nP 60 9,nP 61 10,vP 1 (.c (.nilp)),vP 2 (.t 60),vP 3 (.t 61)]
def c35:=Ts [] [nP 58 10,bP 59 .neq (.t 58) (.c (.int .i64 0))] (.t 59) (Sq d5h .ret) .skip
def d2v:=Rg [] [nP 47 8,bP 48 .add (.t 47) (.c (.int .i64 1)),vP 8 (.t 48)]
def c7G:=Rg [] [vP 1 (.c (.nilp)),op (.v 2) .mv [.c (.str [81,117,101,114,121])],vP 3 (.c (.int .i64 6))]
def d9b:=Ts [] [nP 62 4,oP 63 (.call 51) [.t 62,.c (.str [81,117,101,114,121])],oP 64 (.fld 0 1 false) [.t 63],bP 65 .neq (.t 64) (.c (.int .u8 1))] (.t 65) (Sq c7G .ret) .skip
def d0z:=Rg [] [vP 11 (.c (.int .i64 0))]
def c7H:=Ts [] [nP 66 11,nP 67 0,oP 68 .lenL [.t 67],bP 69 .lss (.t 66) (.t 68)] (.t 69) .skip (.exit 4)
def d80:=Ts [] [nP 72 0,nP 73 11,oP 74 (.iad 4) [.t 72,.t 73],fP 75 0 (.t 74),oP 76 (.ldRo false 1) [.t 75],bP 77 .neq (.t 76) (.c (.int .u8 1)),mP 78 (.t 77),gP 79 .mv [.v 0] 78 true,gP 80 .mv [.v 11] 78 true,gP 81 (.iad 4) [.t 79,.t 80] 78 true,gP 82 (.fad 0) [.t 81] 78 true,gP 83 (.ldRo false 1) [.t 82] 78 true,gP 84 (.bin .neq) [.t 83,.c (.int .u8 2)] 78 true,oP 85 .pick [.t 78,.t 84,.c (.bool false)]] (.t 85) (.exit 5) .skip
def d1S:=Rg [] [vP 12 (.c (.int .i64 0))]
def d5z:=Ts [] [nP 86 12,nP 87 0,nP 88 11,oP 89 (.iad 4) [.t 87,.t 88],fP 90 2 (.t 89),oP 91 (.ldRo false 1) [.t 90],oP 92 .lenL [.t 91],bP 93 .lss (.t 86) (.t 92)] (.t 93) .skip (.exit 6)
def c7l:=Rg [] [nP 111 0,nP 112 11,oP 113 (.iad 4) [.t 111,.t 112],fP 114 2 (.t 113),oP 115 (.ldRo false 1) [.t 114],nP 116 12,oP 117 (.iad 11) [.t 115,.t 116],fP 118 0 (.t 117),oP 119 (.ldRo false 1) [.t 118],vP 1 (.c (.nilp)),vP 2 (.t 119),vP 3 (.c (.int .i64 3))]
def d1O:=Ts [] [nP 96 4,nP 97 0,nP 98 11,oP 99 (.iad 4) [.t 97,.t 98],oP 100 (.ldRo true 4) [.t 99],nP 101 0,nP 102 11,oP 103 (.iad 4) [.t 101,.t 102],fP 104 2 (.t 103),oP 105 (.ldRo false 1) [.t 104],nP 106 12,oP 107 (.iad 11) [.t 105,.t 106],oP 108 (.ldRo true 11) [.t 107],oP 109 (.call 52) [.t 96,.t 100,.t 108],oP 110 (.un .not) [.t 109]] (.t 110) (Sq c7l .ret) .skip
def d6g:=Rg [] [nP 94 12,bP 95 .add (.t 94) (.c (.int .i64 1)),vP 12 (.t 95)]
def c6E:=Rg [] [nP 70 11,bP 71 .add (.t 70) (.c (.int .i64 1)),vP 11 (.t 71)]
def d8U:=Rg [] [nP 120 4,vP 1 (.t 120),op (.v 2) .mv [.c (.str [])],vP 3 (.c (.int .i64 0))]
def f5H:ACode :=
  (Sq e8D (Sq e3h (Sq e1G (Sq (Sq e8N (Bk 0 (Lp (Sq f0w (Sq (Bk 1 (Sq d22 (Sq c8n (Sq d61 c5e)))) d4B))))) (Sq (Sq c6i (Bk 2 (Lp (Sq d7b (Sq (Bk 3 (Sq d27 c35)) d2v))))) (Sq d9b (Sq (Sq d0z (Bk 4 (Lp (Sq c7H (Sq (Bk 5 (Sq d80 (Sq d1S (Bk 6 (Lp (Sq d5z (Sq (Bk 7 d1O) d6g))))))) c6E))))) (Sq d8U .ret))))))))
def a14:AFn:={ np:=1,nv:=13,results:=[.v 1,.v 2,.v 3],code:=f5H }
def f6t:List Nat:=[0,2,3,4,5,6,7,8,9,10,11,12,13]
def f7d:List Nat:=[]

def e1H:=Rg [] [op (.v 1) .mv [.c (.list true [])],vP 2 (.c (.int .i64 0)),vP 3 (.c (.int .i64 0))]
def e7z:=Rg [] [op (.v 1) .mv [.c (.list true [])],vP 2 (.c (.int .i64 0)),vP 3 (.c (.int .i64 2))]
def e88:=Ts [] [nP 12 0,oP 13 .lenS [.t 12],bP 14 .gtr (.t 13) (.c (.int .i64 2000))] (.t 14) (Sq e7z .ret) .skip
def e14:=Rg [] [op (.v 4) .mv [.c (.list true [])]]
def c8M:=Rg [] [vP 5 (.c (.int .i64 0))]
def c64:=Ts [] [nP 15 5,nP 16 0,oP 17 .lenS [.t 16],bP 18 .lss (.t 15) (.t 17)] (.t 18) .skip (.exit 0)
def d0P:=Rg [] [nP 19 0,nP 20 5,oP 21 .idxS [.t 19,.t 20],vP 6 (.t 21)]
def d08:=Rg [] [nP 41 5,bP 42 .add (.t 41) (.c (.int .i64 1)),vP 5 (.t 42)]
def c51:=Ts [] [nP 46 5,nP 47 0,oP 48 .lenS [.t 47],bP 49 .lss (.t 46) (.t 48),mP 50 (.t 49),gP 51 .mv [.v 0] 50 true,gP 52 .mv [.v 5] 50 true,gP 53 .idxS [.t 51,.t 52] 50 true,gP 54 (.bin .neq) [.t 53,.c (.int .u8 10)] 50 true,oP 55 .pick [.t 50,.t 54,.c (.bool false)]] (.t 55) .skip (.exit 3)
def d5P:=Rg [] [nP 56 5,bP 57 .add (.t 56) (.c (.int .i64 1)),vP 5 (.t 57)]
def c8S:=Ts [] [nP 44 6,bP 45 .eql (.t 44) (.c (.int .u8 35)),mP 43 (.t 45)] (.t 43) (Sq (Bk 3 (Lp (Sq c51 (Bk 4 d5P)))) (.exit 1)) .skip
def d7S:=Ts [] [nP 23 6,bP 24 .eql (.t 23) (.c (.int .u8 32)),mP 25 (.t 24),gP 26 .mv [.v 6] 25 false,gP 27 (.bin .eql) [.t 26,.c (.int .u8 10)] 25 false,oP 28 .pick [.t 25,.c (.bool true),.t 27],mP 29 (.t 28),gP 30 .mv [.v 6] 29 false,gP 31 (.bin .eql) [.t 30,.c (.int .u8 9)] 29 false,oP 32 .pick [.t 29,.c (.bool true),.t 31],mP 33 (.t 32),gP 34 .mv [.v 6] 33 false,gP 35 (.bin .eql) [.t 34,.c (.int .u8 13)] 33 false,oP 36 .pick [.t 33,.c (.bool true),.t 35],mP 37 (.t 36),gP 38 .mv [.v 6] 37 false,gP 39 (.bin .eql) [.t 38,.c (.int .u8 44)] 37 false,oP 40 .pick [.t 37,.c (.bool true),.t 39],mP 22 (.t 40)] (.t 22) (Sq d08 (.exit 1)) c8S
def c8Z:=Rg [7] [nP 59 0,nP 60 5,oP 61 (.call 53) [.t 59,.t 60],mP 58 (.t 61),oP 62 (.ext 0) [.t 58],oP 63 (.ext 1) [.t 58],oP 64 (.ext 2) [.t 58],oP 65 (.ext 3) [.t 58],⟨.bx,.alloc [.int .u8 0,.str [],.int .i64 0,.int .i64 0],[],some 7,none⟩,xP (.stLc 7 4) [.l 7,.t 62] 7,vP 8 (.t 63),vP 9 (.t 64),vP 10 (.t 65)]
def d16:=Rg [] [nP 68 9,nP 69 10,op (.v 1) .mv [.c (.list true [])],vP 2 (.t 68),vP 3 (.t 69)]
def c8W:=Ts [] [nP 66 10,bP 67 .neq (.t 66) (.c (.int .i64 0))] (.t 67) (Sq d16 .ret) .skip
def d8k:=Rg [] [nP 70 5,fP 71 3 (.l 7),xP (.stLc 7 1) [.t 71,.t 70] 7]
def d7H:=Rg [] [mP 72 (.vs 4),lP 73 7 true 4 (.l 7),oP 74 (.bslice 4 [[.int .u8 0,.str [],.int .i64 0,.int .i64 0]] [0]) [.t 73],oP 75 (.app 4 40) [.ts 72,.t 74],vP 4 (.ts 75)]
def c6c:=Rg [] [nP 76 8,vP 5 (.t 76)]
def c8c:=Rg [] [mP 77 (.vs 4),nP 78 5,oP 79 (.build [.int .u8 0,.str [],.int .i64 0,.int .i64 0] [(3,1)]) [.t 78],oP 80 (.bslice 4 [[.int .u8 0,.str [],.int .i64 0,.int .i64 0]] [0]) [.t 79],oP 81 (.app 4 40) [.ts 77,.t 80],vP 1 (.ts 81),vP 2 (.c (.int .i64 0)),vP 3 (.c (.int .i64 0))]
def f8r:ACode :=
  (Sq e1H (Sq e88 (Sq e14 (Sq c8M (Sq (Bk 0 (Lp (Sq c64 (Bk 1 (Sq d0P (Sq (Bk 2 d7S) (Sq c8Z (Sq c8W (Sq d8k (Sq d7H c6c)))))))))) (Sq c8c .ret))))))
def a15:AFn:={ np:=1,nv:=11,results:=[.v 1,.v 2,.v 3],code:=f8r }
def f3m:List Nat:=[0,2,3,4,5,6,7,8,9,10,11]
def f1K:List Nat:=[7]

def e90:=Rg [] [vP 2 (.c (.bool false))]
def e3l:=Rg [] [nP 5 0,oP 6 .nilchk [.t 5],fP 7 4 (.t 6),oP 8 (.ldSt false 1) [.t 7],bP 9 .eql (.t 8) (.c (.int .i64 0)),mP 10 (.t 9),gP 11 .mv [.v 0] 10 true,gP 12 .nilchk [.t 11] 10 true,gP 13 (.fad 0) [.t 12] 10 true,gP 14 (.ldSt false 1) [.t 13] 10 true,gP 15 .mv [.v 0] 10 true,gP 16 .nilchk [.t 15] 10 true,gP 17 (.fad 1) [.t 16] 10 true,gP 18 (.ldSt false 1) [.t 17] 10 true,gP 19 (.iad 4) [.t 14,.t 18] 10 true,gP 20 (.fad 0) [.t 19] 10 true,gP 21 (.ldRo false 1) [.t 20] 10 true,gP 22 .mv [.v 1] 10 true,gP 23 (.bin .eql) [.t 21,.t 22] 10 true,oP 24 .pick [.t 10,.t 23,.c (.bool false)],vP 2 (.t 24)]
def f4v:ACode :=
  (Sq e90 (Sq e3l .ret))
def a16:AFn:={ np:=2,nv:=3,results:=[.v 2],code:=f4v }
def f4h:List Nat:=[0,1,4]
def f4f:List Nat:=[]

def e10:=Rg [] [vP 2 (.c (.bool false))]
def f1c:=Rg [] [nP 5 0,oP 6 .nilchk [.t 5],fP 7 4 (.t 6),oP 8 (.ldSt false 1) [.t 7],bP 9 .eql (.t 8) (.c (.int .i64 0)),mP 10 (.t 9),gP 11 .mv [.v 0] 10 true,gP 12 .nilchk [.t 11] 10 true,gP 13 (.fad 0) [.t 12] 10 true,gP 14 (.ldSt false 1) [.t 13] 10 true,gP 15 .mv [.v 0] 10 true,gP 16 .nilchk [.t 15] 10 true,gP 17 (.fad 1) [.t 16] 10 true,gP 18 (.ldSt false 1) [.t 17] 10 true,gP 19 (.iad 4) [.t 14,.t 18] 10 true,gP 20 (.fad 0) [.t 19] 10 true,gP 21 (.ldRo false 1) [.t 20] 10 true,gP 22 (.bin .eql) [.t 21,.c (.int .u8 1)] 10 true,oP 23 .pick [.t 10,.t 22,.c (.bool false)],mP 24 (.t 23),gP 25 .mv [.v 0] 24 true,gP 26 .nilchk [.t 25] 24 true,gP 27 (.fad 0) [.t 26] 24 true,gP 28 (.ldSt false 1) [.t 27] 24 true,gP 29 .mv [.v 0] 24 true,gP 30 .nilchk [.t 29] 24 true,gP 31 (.fad 1) [.t 30] 24 true,gP 32 (.ldSt false 1) [.t 31] 24 true,gP 33 (.iad 4) [.t 28,.t 32] 24 true,gP 34 (.fad 1) [.t 33] 24 true,gP 35 (.ldRo false 1) [.t 34] 24 true,gP 36 .mv [.v 1] 24 true,gP 37 (.bin .eql) [.t 35,.t 36] 24 true,oP 38 .pick [.t 24,.t 37,.c (.bool false)],vP 2 (.t 38)]
def f6D:ACode :=
  (Sq e10 (Sq f1c .ret))
def a17:AFn:={ np:=2,nv:=3,results:=[.v 2],code:=f6D }
def f7C:List Nat:=[0,1,4]
def f5Q:List Nat:=[]

def e4E:=Rg [] [nP 9 0,nP 10 0,oP 11 .nilchk [.t 10],fP 12 0 (.t 11),oP 13 (.ldSt false 1) [.t 12],nP 14 0,oP 15 .nilchk [.t 14],fP 16 1 (.t 15),oP 17 (.ldSt false 1) [.t 16],oP 18 (.iad 4) [.t 13,.t 17],fP 19 3 (.t 18),oP 20 (.ldRo false 1) [.t 19],oP 21 .nilchk [.t 9],fP 22 3 (.t 21),op .none (.stSt 1) [.t 22,.t 20]]
def e8X:=Rg [] [nP 23 0,nP 24 1,oP 25 .nilchk [.t 23],fP 26 4 (.t 25),op .none (.stSt 1) [.t 26,.t 24]]
def d9k:=Ts [] [nP 4 0,oP 5 .nilchk [.t 4],fP 6 4 (.t 5),oP 7 (.ldSt false 1) [.t 6],bP 8 .eql (.t 7) (.c (.int .i64 0))] (.t 8) (Sq e4E e8X) .skip
def f6C:ACode :=
  d9k
def a18:AFn:={ np:=2,nv:=2,results:=[],code:=f6C }
def f1M:List Nat:=[0,1]
def f2x:List Nat:=[]

def e55:=Rg [] [op (.v 1) .mv [.c (.str [])]]
def e5B:=Rg [] [nP 6 0,oP 7 (.call 18) [.t 6,.c (.int .i64 4)]]
def e2p:=Rg [] [op (.v 1) .mv [.c (.str [])]]
def e3y:=Ts [] [nP 3 0,oP 4 (.call 16) [.t 3,.c (.int .u8 1)],oP 5 (.un .not) [.t 4]] (.t 5) (Sq e5B (Sq e2p .ret)) .skip
def d1E:=Rg [] [nP 8 0,oP 9 .nilchk [.t 8],fP 10 1 (.t 9),oP 11 (.ldSt false 1) [.t 10],bP 12 .add (.t 11) (.c (.int .i64 1)),oP 13 .nilchk [.t 8],fP 14 1 (.t 13),op .none (.stSt 1) [.t 14,.t 12]]
def c89:=Rg [] [nP 15 0,oP 16 .nilchk [.t 15],fP 17 0 (.t 16),oP 18 (.ldSt false 1) [.t 17],nP 19 0,oP 20 .nilchk [.t 19],fP 21 1 (.t 20),oP 22 (.ldSt false 1) [.t 21],bP 23 .sub (.t 22) (.c (.int .i64 1)),oP 24 (.iad 4) [.t 18,.t 23],fP 25 1 (.t 24),oP 26 (.ldRo false 1) [.t 25],vP 1 (.t 26)]
def f5I:ACode :=
  (Sq e55 (Sq e3y (Sq d1E (Sq c89 .ret))))
def a19:AFn:={ np:=1,nv:=2,results:=[.v 1],code:=f5I }
def f4H:List Nat:=[0,2]
def f4K:List Nat:=[]

def e3M:=Rg [] [nP 15 0,oP 16 (.call 18) [.t 15,.c (.int .i64 4)]]
def e9X:=Ts [] [nP 4 0,oP 5 .nilchk [.t 4],fP 6 4 (.t 5),oP 7 (.ldSt false 1) [.t 6],bP 8 .eql (.t 7) (.c (.int .i64 0)),mP 9 (.t 8),gP 10 .mv [.v 0] 9 true,gP 11 .mv [.v 1] 9 true,gP 12 (.call 23) [.t 10,.t 11] 9 true,gP 13 (.un .not) [.t 12] 9 true,oP 14 .pick [.t 9,.t 13,.c (.bool false)]] (.t 14) e3M .skip
def f6o:ACode :=
  e9X
def a20:AFn:={ np:=2,nv:=2,results:=[],code:=f6o }
def f7k:List Nat:=[0,1]
def f4V:List Nat:=[]

def e0C:=Rg [] [op (.v 1) .mv [.c (.list true [])]]
def e3P:=Rg [] [op (.v 2) .mv [.c (.list true [])]]
def e0i:=Rg [] [nP 14 0,oP 15 (.call 20) [.t 14,.c (.str [123])]]
def e4A:=Ts [] [nP 16 0,oP 17 .nilchk [.t 16],fP 18 4 (.t 17),oP 19 (.ldSt false 1) [.t 18],bP 20 .eql (.t 19) (.c (.int .i64 0))] (.t 20) .skip (.exit 0)
def d7p:=Rg [3] [nP 21 0,oP 22 (.call 55) [.t 21],⟨.bx,.alloc [.int .u8 0,.str [],.str [],.str [],.list true [],.list true [],.list true []],[],some 3,none⟩,xP (.stLc 3 7) [.l 3,.ts 22] 3]
def d1c:=Rg [] [mP 23 (.vs 2),lP 24 3 true 7 (.l 3),oP 25 (.bslice 7 [[.int .u8 0,.str [],.str [],.str [],.list true [],.list true [],.list true []]] [0]) [.t 24],oP 26 (.app 7 128) [.ts 23,.t 25],vP 2 (.ts 26)]
def d5W:=Ts [] [nP 27 0,oP 28 (.call 23) [.t 27,.c (.str [125])]] (.t 28) (.exit 0) .skip
def c7d:=Ts [] [nP 5 0,oP 6 .nilchk [.t 5],fP 7 4 (.t 6),oP 8 (.ldSt false 1) [.t 7],bP 9 .eql (.t 8) (.c (.int .i64 0)),mP 10 (.t 9),gP 11 .mv [.v 0] 10 true,gP 12 (.call 54) [.t 11] 10 true,oP 13 .pick [.t 10,.t 12,.c (.bool false)]] (.t 13) (Sq e0i (Bk 0 (Lp (Sq e4A (Bk 1 (Sq d7p (Sq d1c d5W))))))) .skip
def c49:=Rg [] [nP 29 0,oP 30 .nilchk [.t 29],fP 31 2 (.t 30),oP 32 (.ldSt false 1) [.t 31],bP 33 .sub (.t 32) (.c (.int .i64 1)),oP 34 .nilchk [.t 29],fP 35 2 (.t 34),op .none (.stSt 1) [.t 35,.t 33]]
def d3b:=Rg [] [nP 36 2,vP 1 (.ts 36)]
def f8o:ACode :=
  (Sq e0C (Sq e3P (Sq c7d (Sq c49 (Sq d3b .ret)))))
def a21:AFn:={ np:=1,nv:=4,results:=[.v 1],code:=f8o }
def f3L:List Nat:=[0,2,3,4]
def f6G:List Nat:=[3]

def e1X:=Rg [] [vP 2 (.c (.bool false))]
def e13:=Rg [] [nP 5 0,oP 6 .nilchk [.t 5],fP 7 4 (.t 6),oP 8 (.ldSt false 1) [.t 7],bP 9 .eql (.t 8) (.c (.int .i64 0)),mP 10 (.t 9),gP 11 .mv [.v 0] 10 true,gP 12 .nilchk [.t 11] 10 true,gP 13 (.fad 0) [.t 12] 10 true,gP 14 (.ldSt false 1) [.t 13] 10 true,gP 15 .mv [.v 0] 10 true,gP 16 .nilchk [.t 15] 10 true,gP 17 (.fad 1) [.t 16] 10 true,gP 18 (.ldSt false 1) [.t 17] 10 true,gP 19 (.iad 4) [.t 14,.t 18] 10 true,gP 20 (.fad 0) [.t 19] 10 true,gP 21 (.ldRo false 1) [.t 20] 10 true,gP 22 (.bin .eql) [.t 21,.c (.int .u8 4)] 10 true,oP 23 .pick [.t 10,.t 22,.c (.bool false)],mP 24 (.t 23),gP 25 .mv [.v 0] 24 true,gP 26 .nilchk [.t 25] 24 true,gP 27 (.fad 0) [.t 26] 24 true,gP 28 (.ldSt false 1) [.t 27] 24 true,gP 29 .mv [.v 0] 24 true,gP 30 .nilchk [.t 29] 24 true,gP 31 (.fad 1) [.t 30] 24 true,gP 32 (.ldSt false 1) [.t 31] 24 true,gP 33 (.iad 4) [.t 28,.t 32] 24 true,gP 34 (.fad 1) [.t 33] 24 true,gP 35 (.ldRo false 1) [.t 34] 24 true,gP 36 .mv [.v 1] 24 true,gP 37 (.bin .eql) [.t 35,.t 36] 24 true,oP 38 .pick [.t 24,.t 37,.c (.bool false)],vP 2 (.t 38)]
def f6S:ACode :=
  (Sq e1X (Sq e13 .ret))
def a22:AFn:={ np:=2,nv:=3,results:=[.v 2],code:=f6S }
def f4l:List Nat:=[0,1,4]
def f1f:List Nat:=[]

def e4F:=Rg [] [vP 2 (.c (.bool false))]
def e2b:=Rg [] [nP 13 0,oP 14 .nilchk [.t 13],fP 15 1 (.t 14),oP 16 (.ldSt false 1) [.t 15],bP 17 .add (.t 16) (.c (.int .i64 1)),oP 18 .nilchk [.t 13],fP 19 1 (.t 18),op .none (.stSt 1) [.t 19,.t 17]]
def e76:=Rg [] [vP 2 (.c (.bool true))]
def e5Z:=Ts [] [nP 5 0,nP 6 1,oP 7 (.call 22) [.t 5,.t 6],mP 8 (.t 7),gP 9 .mv [.v 0] 8 false,gP 10 .mv [.v 1] 8 false,gP 11 (.call 17) [.t 9,.t 10] 8 false,oP 12 .pick [.t 8,.c (.bool true),.t 11]] (.t 12) (Sq e2b (Sq e76 .ret)) .skip
def c6r:=Rg [] [vP 2 (.c (.bool false))]
def f3Q:ACode :=
  (Sq e4F (Sq e5Z (Sq c6r .ret)))
def a23:AFn:={ np:=2,nv:=3,results:=[.v 2],code:=f3Q }
def f3s:List Nat:=[0,1,4]
def f1s:List Nat:=[]

def f0X:=Rg [] [nP 15 0,oP 16 (.call 18) [.t 15,.c (.int .i64 4)]]
def d9p:=Ts [] [nP 4 0,oP 5 .nilchk [.t 4],fP 6 4 (.t 5),oP 7 (.ldSt false 1) [.t 6],bP 8 .eql (.t 7) (.c (.int .i64 0)),mP 9 (.t 8),gP 10 .mv [.v 0] 9 true,gP 11 .mv [.v 1] 9 true,gP 12 (.call 17) [.t 10,.t 11] 9 true,gP 13 (.un .not) [.t 12] 9 true,oP 14 .pick [.t 9,.t 13,.c (.bool false)]] (.t 14) (Sq f0X .ret) .skip
def e4z:=Rg [] [nP 17 0,oP 18 .nilchk [.t 17],fP 19 1 (.t 18),oP 20 (.ldSt false 1) [.t 19],bP 21 .add (.t 20) (.c (.int .i64 1)),oP 22 .nilchk [.t 17],fP 23 1 (.t 22),op .none (.stSt 1) [.t 23,.t 21]]
def f1T:ACode :=
  (Sq d9p e4z)
def a24:AFn:={ np:=2,nv:=2,results:=[],code:=f1T }
def f2d:List Nat:=[0,1]
def f7e:List Nat:=[]

def d9y:=Rg [1] [⟨.bx,.alloc [.str [],.str [],.list true [],.bool false,.bool false,.int .u8 0,.int .i64 0,.str [],.list true [],.list true []],[],some 1,none⟩]
def e9m:=Rg [] [nP 4 0,oP 5 (.call 20) [.t 4,.c (.str [36])]]
def e2i:=Rg [2] [nP 6 0,oP 7 (.call 19) [.t 6],oP 8 (.build [.str [],.str [],.list true [],.bool false,.bool false,.int .u8 0,.int .i64 0,.str [],.list true [],.list true []] [(0,1)]) [.t 7],⟨.bx,.alloc [.str [],.str [],.list true [],.bool false,.bool false,.int .u8 0,.int .i64 0,.str [],.list true [],.list true []],[],some 2,none⟩,xP (.stLc 2 10) [.l 2,.ts 8] 2]
def e9G:=Rg [] [nP 9 0,oP 10 (.call 20) [.t 9,.c (.str [58])]]
def e7I:=Rg [] [nP 11 0,oP 12 (.call 56) [.t 11],fP 13 1 (.l 2),xP (.stLc 2 3) [.t 13,.ts 12] 2]
def d63:=Rg [] [fP 16 4 (.l 2),xP (.stLc 2 1) [.t 16,.c (.bool true)] 2]
def d6N:=Rg [] [nP 17 0,oP 18 (.call 57) [.t 17,.c (.bool true)],fP 19 5 (.l 2),xP (.stLc 2 5) [.t 19,.ts 18] 2]
def d29:=Ts [] [nP 14 0,oP 15 (.call 23) [.t 14,.c (.str [61])]] (.t 15) (Sq d63 d6N) .skip
def d4D:=Rg [] [lP 20 2 true 10 (.l 2),xP (.stLc 1 10) [.l 1,.ts 20] 1]
def f5u:ACode :=
  (Sq d9y (Sq e9m (Sq e2i (Sq e9G (Sq e7I (Sq d29 (Sq d4D .ret)))))))
def a25:AFn:={ np:=1,nv:=3,results:=[.bx 1 true 10],code:=f5u }
def f8B:List Nat:=[0,2,3]
def f3K:List Nat:=[1,2]

def e3V:=Rg [] [nP 6 0,nP 7 0,oP 8 .nilchk [.t 7],fP 9 3 (.t 8),oP 10 .ldStS [.t 9],nP 11 1,nP 12 2,oP 13 (.build [.int .i64 0,.str []] [(0,1),(1,1)]) [.t 11,.t 12],oP 14 (.bsliceM 2 [[.int .i64 0,.str []]] [0]) [.t 13],oP 15 (.appM 2 24) [.ts 10,.t 14],oP 16 .nilchk [.t 6],fP 17 3 (.t 16),op .none (.stSt 1) [.t 17,.t 15]]
def f4b:ACode :=
  e3V
def a26:AFn:={ np:=3,nv:=3,results:=[],code:=f4b }
def f7g:List Nat:=[0,1,2]
def f5R:List Nat:=[]

def e0n:=Rg [] [vP 5 (.v 2),op (.v 6) .lenL [.v 5],vP 7 (.c (.int .i64 0))]
def e4J:=Ts [] [bP 11 .lss (.v 7) (.v 6)] (.t 11) .skip (.exit 0)
def e2j:=Rg [] [nP 12 7,oP 13 (.iad 1) [.v 5,.v 7],oP 14 (.ldAn false 1) [.t 13],vP 3 (.t 12),vP 4 (.t 14)]
def e7m:=Rg [] [nP 20 0,nP 21 1,nP 22 4,oP 23 (.call 26) [.t 20,.t 21,.t 22]]
def e5O:=Ts [] [nP 15 2,nP 16 3,oP 17 (.slL 1 false true) [.t 15,.t 16],nP 18 4,oP 19 (.call 32) [.t 17,.t 18]] (.t 19) e7m .skip
def d6D:=Rg [] [bP 24 .add (.v 7) (.c (.int .i64 1)),vP 7 (.t 24)]
def f1I:ACode :=
  (Sq e0n (Bk 0 (Lp (Sq e4J (Sq (Bk 1 (Sq e2j e5O)) d6D)))))
def a27:AFn:={ np:=3,nv:=8,results:=[],code:=f1I }
def f5F:List Nat:=[0,1,2,6,7,8,9,10]
def f1F:List Nat:=[]

def d9n:=Rg [] [op (.v 2) .mv [.c (.list true [])]]
def e3T:=Rg [] [op (.v 3) .mv [.c (.list true [])]]
def e0a:=Rg [] [vP 5 (.v 0),op (.v 6) .lenL [.v 5],vP 7 (.c (.int .i64 0))]
def e6E:=Ts [] [bP 11 .lss (.v 7) (.v 6)] (.t 11) .skip (.exit 0)
def e2x:=Rg [4] [oP 12 (.iad 3) [.v 5,.v 7],oP 13 (.ldRo true 3) [.t 12],⟨.bx,.alloc [.str [],.str [],.list true []],[],some 4,none⟩,xP (.stLc 4 3) [.l 4,.ts 13] 4]
def d47:=Rg [] [mP 14 (.vs 3),nP 15 1,lP 16 4 true 3 (.l 4),oP 17 .callV [.t 15,.t 16],oP 18 (.bslice 1 [[.str []]] [0]) [.t 17],oP 19 (.app 1 16) [.ts 14,.t 18],vP 3 (.ts 19)]
def d8d:=Rg [] [bP 20 .add (.v 7) (.c (.int .i64 1)),vP 7 (.t 20)]
def c5M:=Rg [] [nP 21 3,vP 2 (.ts 21)]
def f1v:ACode :=
  (Sq d9n (Sq e3T (Sq (Sq e0a (Bk 0 (Lp (Sq e6E (Sq (Bk 1 (Sq e2x d47)) d8d))))) (Sq c5M .ret))))
def a28:AFn:={ np:=2,nv:=8,results:=[.v 2],code:=f1v }
def f2M:List Nat:=[0,1,4,5,7,8,9,10]
def f7j:List Nat:=[4]

def d9E:=Rg [1] [⟨.bx,.boxV,[.v 0],some 1,none⟩,op (.v 2) .mv [.c (.str [])]]
def e63:=Rg [] [fP 3 0 (.l 1),lP 4 1 false 1 (.t 3),vP 2 (.t 4)]
def f5a:ACode :=
  (Sq d9E (Sq e63 .ret))
def a29:AFn:={ np:=1,nv:=3,results:=[.v 2],code:=f5a }
def f1n:List Nat:=[0,1,2]
def f3C:List Nat:=[1]

def a30s1:=Rg [] [op (.v 3) .mv [.c (.list true [])]]
def a30s3:=Rg [] [vP 7 (.v 1),op (.v 8) .lenL [.v 7],vP 9 (.c (.int .i64 0))]
def a30s5:=Ts [] [bP 14 .lss (.v 9) (.v 8)] (.t 14) .skip (.exit 0)
def a30s7:=Rg [4] [oP 15 (.iad 7) [.v 7,.v 9],oP 16 (.ldAn true 7) [.t 15],⟨.bx,.alloc [.int .u8 0,.str [],.str [],.str [],.list true [],.list true [],.list true []],[],some 4,none⟩,xP (.stLc 4 7) [.l 4,.ts 16] 4]
def a30s9:=Rg [5] [nP 18 0,fP 19 2 (.l 4),lP 20 4 false 1 (.t 19),oP 21 (.call 58) [.t 18,.t 20],mP 17 (.t 21),oP 22 (.ext 0) [.t 17],oP 23 (.ext 1) [.t 17],⟨.bx,.alloc [.str [],.str [],.list true []],[],some 5,none⟩,xP (.stLc 5 3) [.l 5,.ts 22] 5,vP 6 (.t 23)]
def a30s12:=Rg [] [nP 37 0,fP 38 2 (.l 5),lP 39 5 false 1 (.t 38),mP 40 (.vs 2),fP 41 2 (.l 4),lP 42 4 false 1 (.t 41),oP 43 (.bsliceM 1 [[.str []]] [0]) [.t 42],oP 44 (.appM 1 16) [.ts 40,.t 43],oP 45 (.call 30) [.t 37,.t 39,.t 44],vP 2 (.ts 45)]
def a30s13:=Ts [] [fP 24 0 (.l 4),lP 25 4 false 1 (.t 24),bP 26 .eql (.t 25) (.c (.int .u8 2)),mP 27 (.t 26),gP 28 .mv [.v 6] 27 true,oP 29 .pick [.t 27,.t 28,.c (.bool false)],mP 30 (.t 29),gP 31 .mv [.v 2] 30 true,gP 32 (.fad 2) [.l 4] 30 true,⟨.t 33,.ldLc 4 false 1,[.t 32],some 4,some (.t 30,true)⟩,gP 34 (.call 32) [.t 31,.t 33] 30 true,gP 35 (.un .not) [.t 34] 30 true,oP 36 .pick [.t 30,.t 35,.c (.bool false)]] (.t 36) a30s12 .skip
def a30s17:=Rg [] [nP 49 0,fP 50 6 (.l 4),lP 51 4 false 1 (.t 50),nP 52 2,oP 53 (.call 30) [.t 49,.t 51,.t 52],vP 2 (.ts 53)]
def a30s18:=Ts [] [fP 46 0 (.l 4),lP 47 4 false 1 (.t 46),bP 48 .neq (.t 47) (.c (.int .u8 2))] (.t 48) a30s17 .skip
def a30s23:=Rg [] [bP 54 .add (.v 9) (.c (.int .i64 1)),vP 9 (.t 54)]
def a30s30:=Rg [] [nP 55 2,vP 3 (.ts 55)]
def a30c:ACode :=
  (Sq a30s1 (Sq (Sq a30s3 (Bk 0 (Lp (Sq a30s5 (Sq (Bk 1 (Sq a30s7 (Sq (Sq a30s9 a30s13) a30s18))) a30s23))))) (Sq a30s30 .ret)))
def a30:AFn:={ np:=3,nv:=10,results:=[.v 3],code:=a30c }
def f2q:List Nat:=[0,1,2,6,8,9,10,11,12,13]
def f7D:List Nat:=[4,5]

def d9u:=Rg [2] [⟨.bx,.boxV,[.v 1],some 2,none⟩]
def e8h:=Rg [3] [nP 17 0,oP 18 .nilchk [.t 17],fP 19 0 (.t 18),oP 20 (.ldStR false 1) [.t 19,.v 0],lP 21 2 true 4 (.l 2),oP 22 (.callA 59 1) [.t 21,.v 0],oP 23 (.call 45) [.t 20,.t 22],mP 16 (.t 23),oP 24 (.ext 0) [.t 16],oP 25 (.ext 1) [.t 16],⟨.bx,.alloc [.int .u8 0,.str [],.list true [],.list true []],[],some 3,none⟩,xP (.stLc 3 4) [.l 3,.ts 24] 3,vP 4 (.t 25)]
def e80:=Rg [] [nP 28 0,lP 29 2 true 4 (.l 2),oP 30 (.call 59) [.t 29],oP 31 (.call 26) [.t 28,.c (.int .i64 22),.t 30]]
def e6G:=Ts [] [nP 26 4,oP 27 (.un .not) [.t 26]] (.t 27) e80 .skip
def c6d:=Rg [] [nP 32 0,fP 33 2 (.l 2),lP 34 2 false 1 (.t 33),oP 35 (.call 60) [.t 34,.c (.func 61 [] [])],oP 36 (.call 27) [.t 32,.c (.int .i64 14),.t 35]]
def d09:=Rg [] [fP 37 2 (.l 2),⟨.v 11,.ldLc 2 false 1,[.t 37],some 2,none⟩,op (.v 12) .lenL [.v 11],vP 13 (.c (.int .i64 0))]
def c54:=Ts [] [bP 41 .lss (.v 13) (.v 12)] (.t 41) .skip (.exit 0)
def c8z:=Rg [5] [oP 42 (.iad 10) [.v 11,.v 13],oP 43 (.ldRo true 10) [.t 42],⟨.bx,.alloc [.str [],.str [],.list true [],.bool false,.bool false,.int .u8 0,.int .i64 0,.str [],.list true [],.list true []],[],some 5,none⟩,xP (.stLc 5 10) [.l 5,.ts 43] 5]
def d20:=Rg [] [fP 44 1 (.l 5),lP 45 5 true 3 (.t 44),oP 46 (.call 62) [.t 45],vP 6 (.t 46)]
def d7h:=Rg [] [nP 63 0,fP 64 0 (.l 5),lP 65 5 false 1 (.t 64),oP 66 (.call 26) [.t 63,.c (.int .i64 15),.t 65]]
def c6Z:=Ts [] [nP 47 0,oP 48 .nilchk [.t 47],fP 49 0 (.t 48),oP 50 (.ldSt false 1) [.t 49],nP 51 6,oP 52 (.call 63) [.t 50,.t 51],oP 53 (.un .not) [.t 52],mP 54 (.t 53),gP 55 .mv [.v 0] 54 true,gP 56 .nilchk [.t 55] 54 true,gP 57 (.fad 0) [.t 56] 54 true,gP 58 (.ldSt false 1) [.t 57] 54 true,gP 59 .mv [.v 6] 54 true,gP 60 (.call 64) [.t 58,.t 59] 54 true,gP 61 (.un .not) [.t 60] 54 true,oP 62 .pick [.t 54,.t 61,.c (.bool false)]] (.t 62) d7h .skip
def d5E:=Rg [] [nP 81 0,fP 82 0 (.l 5),lP 83 5 false 1 (.t 82),oP 84 (.call 26) [.t 81,.c (.int .i64 13),.t 83]]
def d18:=Ts [] [fP 67 4 (.l 5),lP 68 5 false 1 (.t 67),mP 69 (.t 68),gP 70 .mv [.v 0] 69 true,gP 71 .nilchk [.t 70] 69 true,gP 72 (.fad 0) [.t 71] 69 true,gP 73 (.ldSt false 1) [.t 72] 69 true,gP 74 (.fad 1) [.l 5] 69 true,⟨.t 75,.ldLc 5 true 3,[.t 74],some 5,some (.t 69,true)⟩,gP 76 (.fad 5) [.l 5] 69 true,⟨.t 77,.ldLc 5 true 5,[.t 76],some 5,some (.t 69,true)⟩,gP 78 (.call 65) [.t 73,.t 75,.t 77] 69 true,gP 79 (.un .not) [.t 78] 69 true,oP 80 .pick [.t 69,.t 79,.c (.bool false)]] (.t 80) d5E .skip
def d14:=Rg [] [bP 85 .add (.v 13) (.c (.int .i64 1)),vP 13 (.t 85)]
def c6F:=Rg [] [nP 86 0,lP 87 2 true 4 (.l 2),oP 88 (.call 59) [.t 87],fP 89 3 (.l 2),lP 90 2 false 1 (.t 89),oP 91 (.call 34) [.t 86,.t 88,.t 90]]
def d04:=Rg [] [nP 92 0,lP 93 2 true 4 (.l 2),oP 94 (.build [.nilp,.bool false,.str [],.list true [],.list true [],.list true []] [(0,1),(1,4)]) [.t 92,.t 93],oP 95 .boxO [.ts 94],vP 7 (.t 95)]
def c5Z:=Rg [] [nP 96 7,lP 97 2 true 4 (.l 2),oP 98 (.call 59) [.t 97],fP 99 3 (.l 2),lP 100 2 false 1 (.t 99),oP 101 (.call 66) [.t 96,.t 98,.t 100]]
def c4Q:=Rg [] [nP 102 0,fP 103 3 (.l 2),lP 104 2 false 1 (.t 103),op (.v 14) (.call 30) [.t 102,.t 104,.c (.nils)],op (.v 15) .lenL [.v 14],vP 16 (.c (.int .i64 0))]
def c30:=Ts [] [bP 108 .lss (.v 16) (.v 15)] (.t 108) .skip (.exit 2)
def d3K:=Rg [] [oP 109 (.iad 1) [.v 14,.v 16],oP 110 (.ldAn false 1) [.t 109],vP 8 (.t 110)]
def d6C:=Rg [9] [nP 112 0,nP 113 8,oP 114 (.call 58) [.t 112,.t 113],mP 111 (.t 114),oP 115 (.ext 0) [.t 111],oP 116 (.ext 1) [.t 111],⟨.bx,.alloc [.str [],.str [],.list true []],[],some 9,none⟩,xP (.stLc 9 3) [.l 9,.ts 115] 9,mP 13 (.t 116)]
def c5Y:=Rg [] [nP 117 7,fP 118 1 (.l 9),lP 119 9 false 1 (.t 118),fP 120 2 (.l 9),lP 121 9 false 1 (.t 120),oP 122 (.call 66) [.t 117,.t 119,.t 121]]
def d1y:=Rg [] [bP 123 .add (.v 16) (.c (.int .i64 1)),vP 16 (.t 123)]
def d9d:=Rg [] [fP 124 2 (.l 2),⟨.v 17,.ldLc 2 false 1,[.t 124],some 2,none⟩,op (.v 18) .lenL [.v 17],vP 19 (.c (.int .i64 0))]
def c9s:=Ts [] [bP 128 .lss (.v 19) (.v 18)] (.t 128) .skip (.exit 4)
def c8i:=Rg [10] [oP 129 (.iad 10) [.v 17,.v 19],oP 130 (.ldRo true 10) [.t 129],⟨.bx,.alloc [.str [],.str [],.list true [],.bool false,.bool false,.int .u8 0,.int .i64 0,.str [],.list true [],.list true []],[],some 10,none⟩,xP (.stLc 10 10) [.l 10,.ts 130] 10]
def d3J:=Rg [] [nP 139 0,fP 140 0 (.l 10),lP 141 10 false 1 (.t 140),oP 142 (.call 26) [.t 139,.c (.int .i64 17),.t 141]]
def d5r:=Ts [] [nP 131 7,oP 132 .nilchk [.t 131],fP 133 5 (.t 132),oP 134 (.ldSt false 1) [.t 133],fP 135 0 (.l 10),lP 136 10 false 1 (.t 135),oP 137 (.call 32) [.t 134,.t 136],oP 138 (.un .not) [.t 137]] (.t 138) d3J .skip
def c99:=Rg [] [bP 143 .add (.v 19) (.c (.int .i64 1)),vP 19 (.t 143)]
def f7G:ACode :=
  (Sq d9u (Sq (Sq e8h e6G) (Sq c6d (Sq (Sq d09 (Bk 0 (Lp (Sq c54 (Sq (Bk 1 (Sq c8z (Sq d20 (Sq c6Z d18)))) d14))))) (Sq c6F (Sq d04 (Sq c5Z (Sq (Sq c4Q (Bk 2 (Lp (Sq c30 (Sq (Bk 3 (Sq d3K (Sq d6C c5Y))) d1y))))) (Sq d9d (Bk 4 (Lp (Sq c9s (Sq (Bk 5 (Sq c8i d5r)) c99)))))))))))))
def a31:AFn:={ np:=2,nv:=20,results:=[],code:=f7G }
def f1D:List Nat:=[0,1,3,4,5,7,8,9,11,12,15,38,39,40,105,106,107,125,126,127]
def f7r:List Nat:=[2,3,5,9,10]

def a32s1:=Rg [] [vP 2 (.c (.bool false))]
def a32s3:=Rg [] [nP 5 0,nP 6 1,oP 7 (.call 67) [.t 5,.t 6],bP 8 .geq (.t 7) (.c (.int .i64 0)),vP 2 (.t 8)]
def a32c:ACode :=
  (Sq a32s1 (Sq a32s3 .ret))
def a32:AFn:={ np:=2,nv:=3,results:=[.v 2],code:=a32c }
def f1e:List Nat:=[0,1,4]
def f4A:List Nat:=[]

def e6o:=Rg [] [vP 2 (.c (.bool false))]
def e7h:=Rg [3] [nP 8 0,oP 9 .nilchk [.t 8],fP 10 0 (.t 9),oP 11 (.ldSt false 1) [.t 10],nP 12 1,oP 13 (.call 45) [.t 11,.t 12],mP 7 (.t 13),oP 14 (.ext 0) [.t 7],oP 15 (.ext 1) [.t 7],⟨.bx,.alloc [.int .u8 0,.str [],.list true [],.list true []],[],some 3,none⟩,xP (.stLc 3 4) [.l 3,.ts 14] 3,vP 4 (.t 15)]
def e5x:=Rg [] [nP 16 4,mP 17 (.t 16),gP 18 (.fad 0) [.l 3] 17 true,⟨.t 19,.ldLc 3 false 1,[.t 18],some 3,some (.t 17,true)⟩,gP 20 (.bin .leq) [.t 19,.c (.int .u8 3)] 17 true,oP 21 .pick [.t 17,.t 20,.c (.bool false)],vP 2 (.t 21)]
def f5w:ACode :=
  (Sq e6o (Sq e7h (Sq e5x .ret)))
def a33:AFn:={ np:=2,nv:=5,results:=[.v 2],code:=f5w }
def f1z:List Nat:=[0,1,4,5,6]
def f1W:List Nat:=[3]

def e9Q:=Rg [] [nP 11 0,nP 12 2,oP 13 (.call 68) [.t 11,.t 12]]
def e1J:=Rg [] [vP 7 (.v 2),op (.v 8) .lenL [.v 7],vP 9 (.c (.int .i64 0))]
def e2K:=Ts [] [bP 17 .lss (.v 9) (.v 8)] (.t 17) .skip (.exit 0)
def e5r:=Rg [3] [oP 18 (.iad 7) [.v 7,.v 9],oP 19 (.ldAn true 7) [.t 18],⟨.bx,.alloc [.int .u8 0,.str [],.str [],.str [],.list true [],.list true [],.list true []],[],some 3,none⟩,xP (.stLc 3 7) [.l 3,.ts 19] 3]
def e0r:=Rg [] [nP 20 0,fP 21 5 (.l 3),lP 22 3 false 1 (.t 21),oP 23 (.call 69) [.t 20,.t 22]]
def c7q:=Rg [] [fP 24 0 (.l 3),⟨.v 10,.ldLc 3 false 1,[.t 24],some 3,none⟩]
def d2Q:=Rg [] [nP 54 0,nP 55 1,lP 56 3 true 7 (.l 3),oP 57 (.call 70) [.t 54,.t 55,.t 56]]
def d79:=Rg [4] [nP 61 0,fP 62 2 (.l 3),lP 63 3 false 1 (.t 62),oP 64 (.call 58) [.t 61,.t 63],mP 60 (.t 64),oP 65 (.ext 0) [.t 60],oP 66 (.ext 1) [.t 60],⟨.bx,.alloc [.str [],.str [],.list true []],[],some 4,none⟩,xP (.stLc 4 3) [.l 4,.ts 65] 4,vP 5 (.t 66)]
def c5r:=Rg [] [nP 69 0,fP 70 2 (.l 3),lP 71 3 false 1 (.t 70),oP 72 (.call 26) [.t 69,.c (.int .i64 5),.t 71]]
def d2f:=Rg [] [nP 79 0,fP 80 1 (.l 4),lP 81 4 false 1 (.t 80),oP 82 (.call 26) [.t 79,.c (.int .i64 20),.t 81]]
def c8L:=Ts [] [nP 73 0,nP 74 1,fP 75 1 (.l 4),lP 76 4 false 1 (.t 75),oP 77 (.call 71) [.t 73,.t 74,.t 76],oP 78 (.un .not) [.t 77]] (.t 78) d2f .skip
def d1G:=Ts [] [nP 67 5,oP 68 (.un .not) [.t 67]] (.t 68) c5r c8L
def c9Y:=Rg [] [nP 26 1,vP 6 (.t 26)]
def d7X:=Rg [] [fP 30 3 (.l 3),lP 31 3 false 1 (.t 30),vP 6 (.t 31)]
def d8p:=Rg [] [nP 36 0,nP 37 6,oP 38 (.call 26) [.t 36,.c (.int .i64 4),.t 37]]
def c5R:=Rg [] [nP 44 0,nP 45 6,oP 46 (.call 26) [.t 44,.c (.int .i64 20),.t 45]]
def d2h:=Ts [] [nP 39 0,nP 40 1,nP 41 6,oP 42 (.call 71) [.t 39,.t 40,.t 41],oP 43 (.un .not) [.t 42]] (.t 43) c5R .skip
def d0a:=Ts [] [nP 32 0,nP 33 6,oP 34 (.call 33) [.t 32,.t 33],oP 35 (.un .not) [.t 34]] (.t 35) d8p d2h
def d8l:=Ts [] [fP 27 3 (.l 3),lP 28 3 false 1 (.t 27),oP 29 (.bin .neq) [.t 28,.c (.str [])]] (.t 29) (Sq d7X d0a) .skip
def d75:=Rg [] [nP 47 0,nP 48 6,fP 49 6 (.l 3),lP 50 3 false 1 (.t 49),oP 51 (.call 34) [.t 47,.t 48,.t 50]]
def d2c:=Ts [] [bP 59 .eql (.v 10) (.c (.int .u8 2)),mP 58 (.t 59)] (.t 58) (Sq d79 d1G) (Sq c9Y (Sq d8l d75))
def d1w:=Ts [] [bP 53 .eql (.v 10) (.c (.int .u8 1)),mP 52 (.t 53)] (.t 52) d2Q d2c
def c39:=Rg [] [bP 83 .add (.v 9) (.c (.int .i64 1)),vP 9 (.t 83)]
def f7q:ACode :=
  (Sq e9Q (Sq e1J (Bk 0 (Lp (Sq e2K (Sq (Bk 1 (Sq e5r (Sq e0r (Sq c7q (Bk 2 d1w))))) c39))))))
def a34:AFn:={ np:=3,nv:=11,results:=[],code:=f7q }
def f7I:List Nat:=[0,1,2,7,8,9,10,14,15,16,25]
def f1x:List Nat:=[3,4]

def e08:=Rg [] [nP 5 0,oP 6 .lenL [.t 5],vP 2 (.t 6)]
def e65:=Rg [] [nP 7 0,nP 8 2,nP 9 2,oP 10 (.conv .u64) [.t 9],oP 11 (.call 73) [.t 10],nP 12 1,oP 13 (.call 72) [.t 7,.c (.int .i64 0),.t 8,.t 11,.t 12]]
def f6H:ACode :=
  (Sq e08 e65)
def a35:AFn:={ np:=2,nv:=3,results:=[],code:=f6H }
def f7f:List Nat:=[0,1,4]
def f7m:List Nat:=[]

def e0S:=Rg [2,3] [⟨.bx,.boxV,[.v 0],some 2,none⟩,⟨.bx,.boxV,[.v 1],some 3,none⟩,vP 4 (.c (.int .i64 0))]
def e8z:=Rg [] [fP 5 0 (.l 2),lP 6 2 false 1 (.t 5),fP 7 0 (.l 3),lP 8 3 false 1 (.t 7),oP 9 (.call 38) [.t 6,.t 8],fP 10 1 (.l 2),lP 11 2 false 1 (.t 10),fP 12 1 (.l 3),lP 13 3 false 1 (.t 12),oP 14 (.call 39) [.t 11,.t 13],oP 15 (.bslice 1 [[.int .i64 0],[.int .i64 0]] [0,1]) [.t 9,.t 14],oP 16 (.call 37) [.t 15],vP 4 (.t 16)]
def f3W:ACode :=
  (Sq e0S (Sq e8z .ret))
def a36:AFn:={ np:=2,nv:=5,results:=[.v 4],code:=f3W }
def f4u:List Nat:=[0,1,2,3,4]
def f1t:List Nat:=[2,3]

def f04:=Rg [] [vP 1 (.c (.int .i64 0))]
def f0L:=Rg [] [vP 2 (.c (.int .i64 0))]
def f0W:=Rg [] [vP 4 (.v 0),op (.v 5) .lenL [.v 4],vP 6 (.c (.int .i64 0))]
def e9s:=Ts [] [bP 9 .lss (.v 6) (.v 5)] (.t 9) .skip (.exit 0)
def e4W:=Rg [] [oP 10 (.iad 1) [.v 4,.v 6],oP 11 (.ldRo false 1) [.t 10],vP 3 (.t 11)]
def c85:=Rg [] [nP 15 3,vP 1 (.t 15)]
def d4d:=Ts [] [nP 12 3,nP 13 2,bP 14 .neq (.t 12) (.t 13)] (.t 14) (Sq c85 .ret) .skip
def c5w:=Rg [] [bP 16 .add (.v 6) (.c (.int .i64 1)),vP 6 (.t 16)]
def d7c:=Rg [] [nP 17 2,vP 1 (.t 17)]
def f8c:ACode :=
  (Sq f04 (Sq f0L (Sq (Sq f0W (Bk 0 (Lp (Sq e9s (Sq (Bk 1 (Sq e4W d4d)) c5w))))) (Sq d7c .ret))))
def a37:AFn:={ np:=1,nv:=7,results:=[.v 1],code:=f8c }
def f8s:List Nat:=[0,2,3,5,6,7,8]
def f6k:List Nat:=[]

def d9U:=Rg [] [vP 2 (.c (.int .i64 0))]
def e36:=Rg [] [nP 7 0,oP 8 (.call 74) [.t 7],vP 3 (.t 8)]
def e0o:=Rg [] [nP 9 1,oP 10 (.call 74) [.t 9],vP 4 (.t 10)]
def e1A:=Rg [] [vP 2 (.c (.int .i64 0))]
def c5q:=Ts [] [nP 12 4] (.t 12) (Sq e1A .ret) .skip
def d3a:=Rg [] [vP 2 (.c (.int .i64 (-1)))]
def c9i:=Ts [] [nP 11 3] (.t 11) (Sq c5q (Sq d3a .ret)) .skip
def c5t:=Rg [] [vP 2 (.c (.int .i64 1))]
def d0R:=Ts [] [nP 13 4] (.t 13) (Sq c5t .ret) .skip
def d1x:=Rg [] [vP 2 (.c (.int .i64 (-1)))]
def c9f:=Ts [] [nP 14 0,nP 15 1,bP 16 .lss (.t 14) (.t 15)] (.t 16) (Sq d1x .ret) .skip
def c6y:=Rg [] [vP 2 (.c (.int .i64 1))]
def d8O:=Ts [] [nP 17 0,nP 18 1,bP 19 .gtr (.t 17) (.t 18)] (.t 19) (Sq c6y .ret) .skip
def c71:=Rg [] [vP 2 (.c (.int .i64 0))]
def f1m:ACode :=
  (Sq d9U (Sq e36 (Sq e0o (Sq c9i (Sq d0R (Sq c9f (Sq d8O (Sq c71 .ret))))))))
def a38:AFn:={ np:=2,nv:=5,results:=[.v 2],code:=f1m }
def f6L:List Nat:=[0,1,4,5,6]
def f7W:List Nat:=[]

def e1m:=Rg [] [vP 2 (.c (.int .i64 0))]
def e7E:=Rg [] [nP 7 0,oP 8 (.call 75) [.t 7],vP 3 (.t 8)]
def e4t:=Rg [] [nP 9 1,oP 10 (.call 75) [.t 9],vP 4 (.t 10)]
def e6h:=Rg [] [vP 2 (.c (.int .i64 0))]
def d1l:=Ts [] [nP 12 4] (.t 12) (Sq e6h .ret) .skip
def d2z:=Rg [] [vP 2 (.c (.int .i64 (-1)))]
def c7f:=Ts [] [nP 11 3] (.t 11) (Sq d1l (Sq d2z .ret)) .skip
def c9k:=Rg [] [vP 2 (.c (.int .i64 1))]
def d37:=Ts [] [nP 13 4] (.t 13) (Sq c9k .ret) .skip
def d4N:=Rg [] [vP 2 (.c (.int .i64 (-1)))]
def c9L:=Ts [] [nP 14 0,nP 15 1,bP 16 .lss (.t 14) (.t 15)] (.t 16) (Sq d4N .ret) .skip
def d3E:=Rg [] [vP 2 (.c (.int .i64 1))]
def c7K:=Ts [] [nP 17 0,nP 18 1,bP 19 .gtr (.t 17) (.t 18)] (.t 19) (Sq d3E .ret) .skip
def c5i:=Rg [] [vP 2 (.c (.int .i64 0))]
def f4O:ACode :=
  (Sq e1m (Sq e7E (Sq e4t (Sq c7f (Sq d37 (Sq c9L (Sq c7K (Sq c5i .ret))))))))
def a39:AFn:={ np:=2,nv:=5,results:=[.v 2],code:=f4O }
def f4E:List Nat:=[0,1,4,5,6]
def f8C:List Nat:=[]

def e4P:=Rg [] [op (.v 1) .mv [.c (.list true [])]]
def e1R:=Rg [] [nP 9 0,vP 1 (.ts 9)]
def f09:=Ts [] [nP 6 0,oP 7 .lenL [.t 6],bP 8 .lss (.t 7) (.c (.int .i64 2))] (.t 8) (Sq e1R .ret) .skip
def e7S:=Rg [] [vP 2 (.c (.int .i64 1))]
def d4h:=Ts [] [nP 10 2,nP 11 0,oP 12 .lenL [.t 11],bP 13 .lss (.t 10) (.t 12)] (.t 13) .skip (.exit 0)
def c9o:=Rg [] [nP 26 0,nP 27 2,oP 28 (.slL 2 true false) [.t 26,.t 27],vP 3 (.ts 28)]
def c6t:=Rg [] [vP 4 (.c (.int .i64 1))]
def c5n:=Ts [] [nP 29 4,nP 30 3,oP 31 .lenL [.t 30],bP 32 .lss (.t 29) (.t 31)] (.t 32) .skip (.exit 2)
def d0f:=Rg [] [nP 45 0,nP 46 2,nP 47 3,nP 48 4,oP 49 (.iad 2) [.t 47,.t 48],oP 50 (.ldAn true 2) [.t 49],oP 51 (.iad 2) [.t 45,.t 46],op .none (.stSt 2) [.t 51,.t 50]]
def c8s:=Rg [] [nP 52 2,bP 53 .add (.t 52) (.c (.int .i64 1)),vP 2 (.t 53)]
def d5V:=Ts [] [nP 35 3,nP 36 4,oP 37 (.iad 2) [.t 35,.t 36],oP 38 (.ldAn true 2) [.t 37],nP 39 3,nP 40 4,bP 41 .sub (.t 40) (.c (.int .i64 1)),oP 42 (.iad 2) [.t 39,.t 41],oP 43 (.ldAn true 2) [.t 42],oP 44 (.eqIS true) [.t 38,.t 43]] (.t 44) (Sq d0f c8s) .skip
def d23:=Rg [] [nP 33 4,bP 34 .add (.t 33) (.c (.int .i64 1)),vP 4 (.t 34)]
def d0n:=Rg [] [nP 54 0,nP 55 2,oP 56 (.slL 2 true false) [.t 54,.t 55],op .none .stuck []]
def d0l:=Rg [] [nP 57 0,nP 58 2,oP 59 (.slL 2 false true) [.t 57,.t 58],vP 1 (.ts 59)]
def d6E:=Ts [] [nP 16 0,nP 17 2,oP 18 (.iad 2) [.t 16,.t 17],oP 19 (.ldAn true 2) [.t 18],nP 20 0,nP 21 2,bP 22 .sub (.t 21) (.c (.int .i64 1)),oP 23 (.iad 2) [.t 20,.t 22],oP 24 (.ldAn true 2) [.t 23],oP 25 (.eqIS false) [.t 19,.t 24]] (.t 25) (Sq c9o (Sq (Sq c6t (Bk 2 (Lp (Sq c5n (Sq (Bk 3 d5V) d23))))) (Sq d0n (Sq d0l .ret)))) .skip
def c8O:=Rg [] [nP 14 2,bP 15 .add (.t 14) (.c (.int .i64 1)),vP 2 (.t 15)]
def c5L:=Rg [] [nP 60 0,vP 1 (.ts 60)]
def f7Z:ACode :=
  (Sq e4P (Sq f09 (Sq (Sq e7S (Bk 0 (Lp (Sq d4h (Sq (Bk 1 d6E) c8O))))) (Sq c5L .ret))))
def a40:AFn:={ np:=1,nv:=5,results:=[.v 1],code:=f7Z }
def f7S:List Nat:=[0,2,3,4,5]
def f6Q:List Nat:=[]

def e7A:=Rg [1] [⟨.bx,.alloc [.int .u8 0,.str [],.list true [],.list true []],[],some 1,none⟩]
def e1b:=Rg [2] [⟨.bx,.alloc [.int .u8 0,.str [],.list true [],.list true []],[],some 2,none⟩]
def e8d:=Rg [] [fP 13 0 (.l 2),xP (.stLc 2 1) [.t 13,.c (.int .u8 1)] 2]
def d98:=Rg [] [fP 17 0 (.l 2),xP (.stLc 2 1) [.t 17,.c (.int .u8 2)] 2]
def c9J:=Rg [] [fP 21 0 (.l 2),xP (.stLc 2 1) [.t 21,.c (.int .u8 3)] 2]
def d1a:=Rg [] [fP 25 0 (.l 2),xP (.stLc 2 1) [.t 25,.c (.int .u8 4)] 2]
def d6G:=Rg [] [fP 29 0 (.l 2),xP (.stLc 2 1) [.t 29,.c (.int .u8 5)] 2]
def d6b:=Rg [] [nP 7 0,oP 8 (.call 18) [.t 7,.c (.int .i64 4)]]
def d5d:=Rg [] [lP 9 2 true 4 (.l 2),xP (.stLc 1 4) [.l 1,.ts 9] 1]
def d5F:=Ts [] [nP 27 0,oP 28 (.call 17) [.t 27,.c (.str [105,110,112,117,116])],mP 26 (.t 28)] (.t 26) d6G (Sq d6b (Sq d5d .ret))
def d4C:=Ts [] [nP 23 0,oP 24 (.call 17) [.t 23,.c (.str [101,110,117,109])],mP 22 (.t 24)] (.t 22) d1a d5F
def d8z:=Ts [] [nP 19 0,oP 20 (.call 17) [.t 19,.c (.str [117,110,105,111,110])],mP 18 (.t 20)] (.t 18) c9J d4C
def c3R:=Ts [] [nP 15 0,oP 16 (.call 17) [.t 15,.c (.str [105,110,116,101,114,102,97,99,101])],mP 14 (.t 16)] (.t 14) d98 d8z
def c7r:=Ts [] [nP 11 0,oP 12 (.call 17) [.t 11,.c (.str [116,121,112,101])],mP 10 (.t 12)] (.t 10) e8d c3R
def d36:=Rg [] [nP 30 0,oP 31 .nilchk [.t 30],fP 32 1 (.t 31),oP 33 (.ldSt false 1) [.t 32],bP 34 .add (.t 33) (.c (.int .i64 1)),oP 35 .nilchk [.t 30],fP 36 1 (.t 35),op .none (.stSt 1) [.t 36,.t 34]]
def d9a:=Rg [] [nP 37 0,oP 38 (.call 19) [.t 37],fP 39 1 (.l 2),xP (.stLc 2 1) [.t 39,.t 38] 2]
def d3Z:=Rg [] [fP 40 0 (.l 2),⟨.v 6,.ldLc 2 false 1,[.t 40],some 2,none⟩]
def d60:=Rg [] [nP 88 0,oP 89 (.call 20) [.t 88,.c (.str [61])]]
def d2Z:=Rg [] [nP 90 0,oP 91 (.call 76) [.t 90,.c (.str [124])],fP 92 3 (.l 2),xP (.stLc 2 1) [.t 92,.ts 91] 2]
def c8d:=Rg [] [nP 95 0,oP 96 (.call 20) [.t 95,.c (.str [123])]]
def d2p:=Rg [] [vP 3 (.c (.bool true))]
def d4A:=Ts [] [nP 97 0,oP 98 .nilchk [.t 97],fP 99 4 (.t 98),oP 100 (.ldSt false 1) [.t 99],bP 101 .eql (.t 100) (.c (.int .i64 0)),mP 102 (.t 101),gP 103 .mv [.v 3] 102 true,gP 104 .mv [.t 103] 102 true,gP 105 .mv [.v 0] 104 false,gP 106 (.call 23) [.t 105,.c (.str [125])] 104 false,gP 107 (.un .not) [.t 106] 104 false,gP 108 .pick [.t 104,.c (.bool true),.t 107] 102 true,oP 109 .pick [.t 102,.t 108,.c (.bool false)]] (.t 109) .skip (.exit 4)
def c79:=Rg [] [nP 120 0,oP 121 (.call 18) [.t 120,.c (.int .i64 4)]]
def d3S:=Ts [] [nP 110 0,oP 111 (.call 17) [.t 110,.c (.str [116,114,117,101])],mP 112 (.t 111),gP 113 .mv [.v 0] 112 false,gP 114 (.call 17) [.t 113,.c (.str [102,97,108,115,101])] 112 false,oP 115 .pick [.t 112,.c (.bool true),.t 114],mP 116 (.t 115),gP 117 .mv [.v 0] 116 false,gP 118 (.call 17) [.t 117,.c (.str [110,117,108,108])] 116 false,oP 119 .pick [.t 116,.c (.bool true),.t 118]] (.t 119) c79 .skip
def d3c:=Rg [] [fP 122 3 (.l 2),⟨.t 123,.ldLcS 2,[.t 122],some 2,none⟩,nP 124 0,oP 125 (.call 19) [.t 124],oP 126 (.bslice 1 [[.str []]] [0]) [.t 125],oP 127 (.app 1 16) [.ts 123,.t 126],fP 128 3 (.l 2),xP (.stLc 2 1) [.t 128,.ts 127] 2]
def c9c:=Rg [] [vP 3 (.c (.bool false))]
def c4J:=Rg [] [nP 131 0,oP 132 (.call 20) [.t 131,.c (.str [123])]]
def c7x:=Rg [] [nP 133 0,oP 134 (.call 77) [.t 133,.c (.str [125])],fP 135 2 (.l 2),xP (.stLc 2 1) [.t 135,.ts 134] 2]
def c9z:=Rg [] [nP 49 0,oP 50 (.call 76) [.t 49,.c (.str [38])],fP 51 3 (.l 2),xP (.stLc 2 1) [.t 51,.ts 50] 2]
def d7I:=Ts [] [fP 42 0 (.l 2),lP 43 2 false 1 (.t 42),bP 44 .eql (.t 43) (.c (.int .u8 1)),mP 45 (.t 44),gP 46 .mv [.v 0] 45 true,gP 47 (.call 23) [.t 46,.c (.str [105,109,112,108,101,109,101,110,116,115])] 45 true,oP 48 .pick [.t 45,.t 47,.c (.bool false)]] (.t 48) c9z .skip
def c4R:=Rg [] [nP 52 0,oP 53 (.call 20) [.t 52,.c (.str [123])]]
def c4s:=Rg [] [vP 4 (.c (.bool true))]
def d7V:=Ts [] [nP 54 0,oP 55 .nilchk [.t 54],fP 56 4 (.t 55),oP 57 (.ldSt false 1) [.t 56],bP 58 .eql (.t 57) (.c (.int .i64 0)),mP 59 (.t 58),gP 60 .mv [.v 4] 59 true,gP 61 .mv [.t 60] 59 true,gP 62 .mv [.v 0] 61 false,gP 63 (.call 23) [.t 62,.c (.str [125])] 61 false,gP 64 (.un .not) [.t 63] 61 false,gP 65 .pick [.t 61,.c (.bool true),.t 64] 59 true,oP 66 .pick [.t 59,.t 65,.c (.bool false)]] (.t 66) .skip (.exit 2)
def d0b:=Rg [5] [nP 67 0,oP 68 (.call 19) [.t 67],oP 69 (.build [.str [],.list true [],.str [],.list true [],.bool false,.bool false,.int .u8 0,.int .i64 0,.str [],.list true [],.list true []] [(0,1)]) [.t 68],⟨.bx,.alloc [.str [],.list true [],.str [],.list true [],.bool false,.bool false,.int .u8 0,.int .i64 0,.str [],.list true [],.list true []],[],some 5,none⟩,xP (.stLc 5 11) [.l 5,.ts 69] 5]
def c57:=Rg [] [nP 72 0,oP 73 (.call 77) [.t 72,.c (.str [41])],fP 74 1 (.l 5),xP (.stLc 5 1) [.t 74,.ts 73] 5]
def c7Q:=Ts [] [nP 70 0,oP 71 (.call 23) [.t 70,.c (.str [40])]] (.t 71) c57 .skip
def d8A:=Rg [] [nP 75 0,oP 76 (.call 20) [.t 75,.c (.str [58])]]
def d0W:=Rg [] [nP 77 0,oP 78 (.call 56) [.t 77],fP 79 2 (.l 5),xP (.stLc 5 3) [.t 79,.ts 78] 5]
def d8M:=Rg [] [fP 80 2 (.l 2),⟨.t 81,.ldLcS 2,[.t 80],some 2,none⟩,lP 82 5 true 11 (.l 5),oP 83 (.bslice 11 [[.str [],.list true [],.str [],.list true [],.bool false,.bool false,.int .u8 0,.int .i64 0,.str [],.list true [],.list true []]] [0]) [.t 82],oP 84 (.app 11 176) [.ts 81,.t 83],fP 85 2 (.l 2),xP (.stLc 2 1) [.t 85,.ts 84] 2]
def b70:=Rg [] [vP 4 (.c (.bool false))]
def c2W:=Ts [] [bP 130 .eql (.v 6) (.c (.int .u8 5)),mP 129 (.t 130)] (.t 129) (Sq c4J c7x) (Sq d7I (Sq c4R (Sq c4s (Bk 2 (Lp (Sq d7V (Sq (Bk 3 (Sq d0b (Sq c7Q (Sq d8A (Sq d0W d8M))))) b70)))))))
def b8y:=Ts [] [bP 94 .eql (.v 6) (.c (.int .u8 4)),mP 93 (.t 94)] (.t 93) (Sq c8d (Sq d2p (Bk 4 (Lp (Sq d4A (Sq (Bk 5 (Sq d3S d3c)) c9c)))))) c2W
def c2z:=Ts [] [bP 87 .eql (.v 6) (.c (.int .u8 3)),mP 86 (.t 87)] (.t 86) (Sq d60 d2Z) b8y
def b7E:=Rg [] [lP 136 2 true 4 (.l 2),xP (.stLc 1 4) [.l 1,.ts 136] 1]
def f6r:ACode :=
  (Sq e7A (Sq e1b (Sq (Bk 0 c7r) (Sq d36 (Sq d9a (Sq (Sq d3Z (Bk 1 c2z)) (Sq b7E .ret)))))))
def a41:AFn:={ np:=1,nv:=7,results:=[.bx 1 true 4],code:=f6r }
def f5y:List Nat:=[0,2,3,4,5,6,41]
def f4j:List Nat:=[1,2,5]

def a42:AFn:={ np:=1,nv:=0,results:=[],code:=.skip,ext:=some (U9 4 72) }
def f0U:=Rg [] [vP 2 (.c (.bool false))]
def e60:=Rg [] [nP 5 0,nP 6 1,oP 7 (.call 78) [.t 5,.t 6],vP 2 (.t 7)]
def f1Q:ACode :=
  (Sq f0U (Sq e60 .ret))
def a43:AFn:={ np:=2,nv:=3,results:=[.v 2],code:=f1Q }
def f8a:List Nat:=[0,1,4]
def f1P:List Nat:=[]

def e5l:=Rg [2,3] [⟨.bx,.boxV,[.v 1],some 2,none⟩,⟨.bx,.alloc [.int .i64 0,.str []],[],some 3,none⟩]
def e9d:=Rg [4] [fP 16 2 (.l 2),lP 17 2 false 1 (.t 16),oP 18 (.call 80) [.t 17],fP 19 3 (.l 2),lP 20 2 false 1 (.t 19),oP 21 (.app 1 16) [.ts 18,.t 20],oP 22 (.call 79) [.t 21],⟨.bx,.alloc [.int .i64 0,.str []],[],some 4,none⟩,xP (.stLc 4 2) [.l 4,.t 22] 4]
def f0T:=Rg [] [lP 31 4 true 2 (.l 4),xP (.stLc 3 2) [.l 3,.t 31] 3]
def d9A:=Ts [] [fP 23 0 (.l 4),lP 24 4 false 1 (.t 23),bP 25 .neq (.t 24) (.c (.int .i64 0)),mP 26 (.t 25),gP 27 (.fad 0) [.l 2] 26 true,⟨.t 28,.ldLc 2 false 1,[.t 27],some 2,some (.t 26,true)⟩,gP 29 (.bin .neq) [.t 28,.c (.int .u8 1)] 26 true,oP 30 .pick [.t 26,.t 29,.c (.bool false)]] (.t 30) (Sq f0T .ret) .skip
def d8Q:=Rg [5] [fP 32 2 (.l 2),lP 33 2 false 1 (.t 32),oP 34 (.call 80) [.t 33],oP 35 (.call 79) [.t 34],⟨.bx,.alloc [.int .i64 0,.str []],[],some 5,none⟩,xP (.stLc 5 2) [.l 5,.t 35] 5]
def d1B:=Rg [] [lP 39 5 true 2 (.l 5),xP (.stLc 3 2) [.l 3,.t 39] 3]
def d4t:=Ts [] [fP 36 0 (.l 5),lP 37 5 false 1 (.t 36),bP 38 .neq (.t 37) (.c (.int .i64 0))] (.t 38) (Sq d1B .ret) .skip
def d6A:=Rg [6] [fP 40 3 (.l 2),lP 41 2 false 1 (.t 40),oP 42 (.call 79) [.t 41],⟨.bx,.alloc [.int .i64 0,.str []],[],some 6,none⟩,xP (.stLc 6 2) [.l 6,.t 42] 6]
def d5Q:=Rg [] [lP 46 6 true 2 (.l 6),xP (.stLc 3 2) [.l 3,.t 46] 3]
def d0S:=Ts [] [fP 43 0 (.l 6),lP 44 6 false 1 (.t 43),bP 45 .neq (.t 44) (.c (.int .i64 0))] (.t 45) (Sq d5Q .ret) .skip
def d2A:=Rg [] [fP 47 2 (.l 2),⟨.v 13,.ldLc 2 false 1,[.t 47],some 2,none⟩,op (.v 14) .lenL [.v 13],vP 15 (.c (.int .i64 0))]
def c6p:=Ts [] [bP 51 .lss (.v 15) (.v 14)] (.t 51) .skip (.exit 0)
def c6k:=Rg [7] [oP 52 (.iad 11) [.v 13,.v 15],oP 53 (.ldRo true 11) [.t 52],⟨.bx,.alloc [.str [],.list true [],.str [],.list true [],.bool false,.bool false,.int .u8 0,.int .i64 0,.str [],.list true [],.list true []],[],some 7,none⟩,xP (.stLc 7 11) [.l 7,.ts 53] 7]
def c4X:=Rg [8] [nP 54 0,lP 55 7 true 11 (.l 7),fP 56 0 (.l 2),lP 57 2 false 1 (.t 56),bP 58 .eql (.t 57) (.c (.int .u8 5)),oP 59 (.call 81) [.t 54,.t 55,.t 58],⟨.bx,.alloc [.int .i64 0,.str []],[],some 8,none⟩,xP (.stLc 8 2) [.l 8,.t 59] 8]
def c3T:=Rg [] [lP 63 8 true 2 (.l 8),xP (.stLc 3 2) [.l 3,.t 63] 3]
def d8m:=Ts [] [fP 60 0 (.l 8),lP 61 8 false 1 (.t 60),bP 62 .neq (.t 61) (.c (.int .i64 0))] (.t 62) (Sq c3T .ret) .skip
def c4L:=Rg [] [bP 64 .add (.v 15) (.c (.int .i64 1)),vP 15 (.t 64)]
def c8f:=Rg [] [oP 65 .mkM [],op .none (.mset 0) [.t 65,.c (.int .u8 1),.c (.int .u8 2)],op .none (.mset 0) [.t 65,.c (.int .u8 3),.c (.int .u8 1)],mP 66 (.t 65),fP 67 0 (.l 2),lP 68 2 false 1 (.t 67),oP 69 (.mget 0 [.int .u8 0] false false) [.t 66,.t 68],vP 9 (.t 69)]
def c8Q:=Rg [] [fP 70 3 (.l 2),⟨.v 16,.ldLc 2 false 1,[.t 70],some 2,none⟩,op (.v 17) .lenL [.v 16],vP 18 (.c (.int .i64 0))]
def d3Q:=Ts [] [bP 74 .lss (.v 18) (.v 17)] (.t 74) .skip (.exit 2)
def d24:=Rg [] [oP 75 (.iad 1) [.v 16,.v 18],oP 76 (.ldAn false 1) [.t 75],vP 10 (.t 76)]
def c8q:=Rg [11] [nP 78 0,nP 79 10,oP 80 (.call 45) [.t 78,.t 79],mP 77 (.t 80),oP 81 (.ext 0) [.t 77],oP 82 (.ext 1) [.t 77],⟨.bx,.alloc [.int .u8 0,.str [],.list true [],.list true []],[],some 11,none⟩,xP (.stLc 11 4) [.l 11,.ts 81] 11,vP 12 (.t 82)]
def d0N:=Rg [] [nP 90 10,oP 91 (.build [.int .i64 0,.str []] [(0,1),(1,1)]) [.c (.int .i64 6),.t 90],xP (.stLc 3 2) [.l 3,.t 91] 3]
def d1r:=Rg [] [nP 101 10,oP 102 (.build [.int .i64 0,.str []] [(0,1),(1,1)]) [.c (.int .i64 8),.t 101],xP (.stLc 3 2) [.l 3,.t 102] 3]
def d7u:=Rg [] [nP 114 10,oP 115 (.build [.int .i64 0,.str []] [(0,1),(1,1)]) [.c (.int .i64 3),.t 114],xP (.stLc 3 2) [.l 3,.t 115] 3]
def d8x:=Ts [] [fP 104 0 (.l 2),lP 105 2 false 1 (.t 104),bP 106 .eql (.t 105) (.c (.int .u8 1)),mP 107 (.t 106),gP 108 .mv [.v 0] 107 true,⟨.t 109,.ldLc 2 true 4,[.l 2],some 2,some (.t 107,true)⟩,⟨.t 110,.ldLc 11 true 4,[.l 11],some 11,some (.t 107,true)⟩,gP 111 (.call 83) [.t 108,.t 109,.t 110] 107 true,gP 112 (.un .not) [.t 111] 107 true,oP 113 .pick [.t 107,.t 112,.c (.bool false)],mP 103 (.t 113)] (.t 103) (Sq d7u .ret) .skip
def c31:=Ts [] [fP 93 0 (.l 11),lP 94 11 false 1 (.t 93),nP 95 9,bP 96 .neq (.t 94) (.t 95),mP 97 (.t 96),gP 98 .mv [.v 10] 97 false,gP 99 (.call 82) [.t 98] 97 false,oP 100 .pick [.t 97,.c (.bool true),.t 99],mP 92 (.t 100)] (.t 92) (Sq d1r .ret) d8x
def d0X:=Ts [] [nP 88 12,oP 89 (.un .not) [.t 88],mP 87 (.t 89)] (.t 87) (Sq d0N .ret) c31
def d3V:=Ts [] [fP 84 0 (.l 2),lP 85 2 false 1 (.t 84),bP 86 .eql (.t 85) (.c (.int .u8 4)),mP 83 (.t 86)] (.t 83) .skip d0X
def d5s:=Rg [] [bP 116 .add (.v 18) (.c (.int .i64 1)),vP 18 (.t 116)]
def c58:=Rg [] [oP 117 (.build [.int .i64 0,.str []] []) [],xP (.stLc 3 2) [.l 3,.t 117] 3]
def f2U:ACode :=
  (Sq e5l (Sq (Sq e9d d9A) (Sq (Sq d8Q d4t) (Sq (Sq d6A d0S) (Sq (Sq d2A (Bk 0 (Lp (Sq c6p (Sq (Bk 1 (Sq c6k (Sq c4X d8m))) c4L))))) (Sq c8f (Sq (Sq c8Q (Bk 2 (Lp (Sq d3Q (Sq (Bk 3 (Sq d24 (Sq c8q (Bk 4 d3V)))) d5s))))) (Sq c58 .ret))))))))
def a44:AFn:={ np:=2,nv:=19,results:=[.bx 3 true 2],code:=f2U }
def f1J:List Nat:=[0,1,3,4,5,6,7,9,10,11,13,14,15,48,49,50,71,72,73]
def f2u:List Nat:=[2,3,4,5,6,7,8,11]

def e2F:=Rg [2] [⟨.bx,.alloc [.int .u8 0,.str [],.list true [],.list true []],[],some 2,none⟩,vP 3 (.c (.bool false))]
def e6s:=Rg [] [oP 10 (.build [.int .u8 0,.str [],.list true [],.list true []] []) [],xP (.stLc 2 4) [.l 2,.ts 10] 2,vP 3 (.c (.bool false))]
def e1M:=Ts [] [nP 8 0,oP 9 (.binP .eql) [.t 8,.c (.nilp)]] (.t 9) (Sq e6s .ret) .skip
def e07:=Rg [] [nP 12 0,oP 13 .nilchk [.t 12],fP 14 1 (.t 13),oP 15 (.ldSt false 1) [.t 14],nP 16 1,oP 17 (.mget 1 [.int .i64 0] false true) [.t 15,.t 16],mP 11 (.t 17),oP 18 (.ext 0) [.t 11],oP 19 (.ext 1) [.t 11],vP 4 (.t 18),vP 5 (.t 19)]
def d1C:=Rg [] [oP 22 (.build [.int .u8 0,.str [],.list true [],.list true []] []) [],xP (.stLc 2 4) [.l 2,.ts 22] 2,vP 3 (.c (.bool false))]
def c4E:=Ts [] [nP 20 5,oP 21 (.un .not) [.t 20]] (.t 21) (Sq d1C .ret) .skip
def d41:=Rg [] [nP 23 0,oP 24 .nilchk [.t 23],fP 25 0 (.t 24),oP 26 (.ldSt false 1) [.t 25],nP 27 4,oP 28 (.iad 4) [.t 26,.t 27],oP 29 (.ldRo true 4) [.t 28],xP (.stLc 2 4) [.l 2,.ts 29] 2,vP 3 (.c (.bool true))]
def f3i:ACode :=
  (Sq e2F (Sq e1M (Sq e07 (Sq c4E (Sq d41 .ret)))))
def a45:AFn:={ np:=2,nv:=6,results:=[.bx 2 true 4,.v 3],code:=f3i }
def f6V:List Nat:=[0,1,4,5,6,7]
def f2N:List Nat:=[2]

def e0w:=Rg [2,3] [⟨.bx,.boxV,[.v 1],some 2,none⟩,⟨.bx,.alloc [.int .i64 0,.str []],[],some 3,none⟩]
def e7B:=Rg [] [oP 16 (.build [.int .i64 0,.str []] []) [],xP (.stLc 3 2) [.l 3,.t 16] 3]
def e5o:=Ts [] [fP 8 0 (.l 2),lP 9 2 false 1 (.t 8),bP 10 .neq (.t 9) (.c (.int .u8 1)),mP 11 (.t 10),gP 12 (.fad 0) [.l 2] 11 true,⟨.t 13,.ldLc 2 false 1,[.t 12],some 2,some (.t 11,true)⟩,gP 14 (.bin .neq) [.t 13,.c (.int .u8 2)] 11 true,oP 15 .pick [.t 11,.t 14,.c (.bool false)]] (.t 15) (Sq e7B .ret) .skip
def e1u:=Rg [] [fP 17 2 (.l 2),⟨.v 6,.ldLc 2 false 1,[.t 17],some 2,none⟩,op (.v 7) .lenL [.v 6],vP 8 (.c (.int .i64 0))]
def c4n:=Ts [] [bP 21 .lss (.v 8) (.v 7)] (.t 21) .skip (.exit 0)
def c52:=Rg [4] [oP 22 (.iad 11) [.v 6,.v 8],oP 23 (.ldRo true 11) [.t 22],⟨.bx,.alloc [.str [],.list true [],.str [],.list true [],.bool false,.bool false,.int .u8 0,.int .i64 0,.str [],.list true [],.list true []],[],some 4,none⟩,xP (.stLc 4 11) [.l 4,.ts 23] 4]
def d7y:=Rg [] [fP 24 1 (.l 4),lP 25 4 false 1 (.t 24),oP 26 .lenL [.t 25],bP 27 .eql (.t 26) (.c (.int .i64 0)),vP 5 (.t 27)]
def c4z:=Rg [] [fP 28 1 (.l 2),⟨.v 9,.ldLc 2 false 1,[.t 28],some 2,none⟩]
def c9O:=Rg [] [nP 32 0,lP 33 4 true 11 (.l 4),oP 34 (.call 84) [.t 32,.t 33],mP 35 (.t 34),gP 36 .mv [.v 0] 35 false,⟨.t 37,.ldLc 4 true 11,[.l 4],some 4,some (.t 35,false)⟩,gP 38 (.call 85) [.t 36,.t 37] 35 false,oP 39 .pick [.t 35,.c (.bool true),.t 38],vP 5 (.t 39)]
def c9K:=Rg [] [fP 42 0 (.l 2),lP 43 2 false 1 (.t 42),bP 44 .eql (.t 43) (.c (.int .u8 1)),mP 45 (.t 44),gP 46 .mv [.v 0] 45 true,⟨.t 47,.ldLc 4 true 11,[.l 4],some 4,some (.t 45,true)⟩,gP 48 (.call 86) [.t 46,.t 47] 45 true,oP 49 .pick [.t 45,.t 48,.c (.bool false)],vP 5 (.t 49)]
def d4E:=Ts [] [oP 41 (.bin .eql) [.v 9,.c (.str [77,117,116,97,116,105,111,110])],mP 40 (.t 41)] (.t 40) c9K .skip
def d6B:=Ts [] [oP 31 (.bin .eql) [.v 9,.c (.str [81,117,101,114,121])],mP 30 (.t 31)] (.t 30) c9O d4E
def c4w:=Rg [] [fP 52 0 (.l 4),lP 53 4 false 1 (.t 52),oP 54 (.build [.int .i64 0,.str []] [(0,1),(1,1)]) [.c (.int .i64 3),.t 53],xP (.stLc 3 2) [.l 3,.t 54] 3]
def c4A:=Ts [] [nP 50 5,oP 51 (.un .not) [.t 50]] (.t 51) (Sq c4w .ret) .skip
def c45:=Rg [] [bP 55 .add (.v 8) (.c (.int .i64 1)),vP 8 (.t 55)]
def d0s:=Rg [] [oP 56 (.build [.int .i64 0,.str []] []) [],xP (.stLc 3 2) [.l 3,.t 56] 3]
def f6j:ACode :=
  (Sq e0w (Sq e5o (Sq (Sq e1u (Bk 0 (Lp (Sq c4n (Sq (Bk 1 (Sq c52 (Sq d7y (Sq (Sq c4z (Bk 2 d6B)) c4A)))) c45))))) (Sq d0s .ret))))
def a46:AFn:={ np:=2,nv:=10,results:=[.bx 3 true 2],code:=f6j }
def f5k:List Nat:=[0,1,3,4,6,7,18,19,20,29]
def f3V:List Nat:=[2,3,4]

def e72:=Rg [] [vP 1 (.c (.bool false))]
def e6F:=Rg [] [nP 3 0,oP 4 (.bin .eql) [.t 3,.c (.str [66,111,111,108,101,97,110])],mP 5 (.t 4),gP 6 .mv [.v 0] 5 false,gP 7 (.bin .eql) [.t 6,.c (.str [73,68])] 5 false,oP 8 .pick [.t 5,.c (.bool true),.t 7],mP 9 (.t 8),gP 10 .mv [.v 0] 9 false,gP 11 (.bin .eql) [.t 10,.c (.str [73,110,116])] 9 false,oP 12 .pick [.t 9,.c (.bool true),.t 11],mP 13 (.t 12),gP 14 .mv [.v 0] 13 false,gP 15 (.bin .eql) [.t 14,.c (.str [83,116,114,105,110,103])] 13 false,oP 16 .pick [.t 13,.c (.bool true),.t 15],vP 1 (.t 16)]
def f7s:ACode :=
  (Sq e72 (Sq e6F .ret))
def a47:AFn:={ np:=1,nv:=2,results:=[.v 1],code:=f7s }
def f2V:List Nat:=[0,2]
def f3w:List Nat:=[]

def e9Z:=Rg [] [vP 2 (.c (.bool false))]
def e3A:=Rg [] [vP 3 (.c (.int .i64 0))]
def e66:=Ts [] [nP 6 3,nP 7 0,oP 8 .lenL [.t 7],bP 9 .lss (.t 6) (.t 8)] (.t 9) .skip (.exit 0)
def e3p:=Rg [] [vP 2 (.c (.bool true))]
def c9B:=Ts [] [nP 12 0,nP 13 3,oP 14 (.iad 1) [.t 12,.t 13],oP 15 (.ldAn false 1) [.t 14],nP 16 1,bP 17 .eql (.t 15) (.t 16)] (.t 17) (Sq e3p .ret) .skip
def d3r:=Rg [] [nP 10 3,bP 11 .add (.t 10) (.c (.int .i64 1)),vP 3 (.t 11)]
def c87:=Rg [] [vP 2 (.c (.bool false))]
def f5b:ACode :=
  (Sq e9Z (Sq (Sq e3A (Bk 0 (Lp (Sq e66 (Sq (Bk 1 c9B) d3r))))) (Sq c87 .ret)))
def a48:AFn:={ np:=2,nv:=4,results:=[.v 2],code:=f5b }
def f8e:List Nat:=[0,1,4,5]
def f2W:List Nat:=[]

def f0c:=Rg [] [vP 2 (.c (.bool false))]
def e5t:=Rg [] [nP 5 0,oP 6 .lenS [.t 5],nP 7 1,oP 8 .lenS [.t 7],bP 9 .geq (.t 6) (.t 8),mP 10 (.t 9),gP 11 .mv [.v 0] 10 true,gP 12 .mv [.v 1] 10 true,gP 13 .lenS [.t 12] 10 true,gP 14 (.slS false true) [.t 11,.t 13] 10 true,gP 15 .mv [.v 1] 10 true,gP 16 (.bin .eql) [.t 14,.t 15] 10 true,oP 17 .pick [.t 10,.t 16,.c (.bool false)],vP 2 (.t 17)]
def f2Q:ACode :=
  (Sq f0c (Sq e5t .ret))
def a49:AFn:={ np:=2,nv:=3,results:=[.v 2],code:=f2Q }
def f5r:List Nat:=[0,1,4]
def f3q:List Nat:=[]

def e86:=Rg [2] [⟨.bx,.boxV,[.v 1],some 2,none⟩,op (.v 3) .mv [.c (.str [])],vP 4 (.c (.int .i64 0))]
def e9W:=Rg [] [fP 23 2 (.l 2),lP 24 2 false 1 (.t 23),oP 25 (.call 88) [.t 24],oP 26 (.call 87) [.t 25],mP 22 (.t 26),oP 27 (.ext 0) [.t 22],oP 28 (.ext 1) [.t 22],vP 5 (.t 27),vP 6 (.t 28)]
def f0o:=Rg [] [nP 31 5,nP 32 6,vP 3 (.t 31),vP 4 (.t 32)]
def e1i:=Ts [] [nP 29 6,bP 30 .neq (.t 29) (.c (.int .i64 0))] (.t 30) (Sq f0o .ret) .skip
def d3X:=Rg [] [fP 34 3 (.l 2),lP 35 2 false 1 (.t 34),oP 36 (.call 87) [.t 35],mP 33 (.t 36),oP 37 (.ext 0) [.t 33],oP 38 (.ext 1) [.t 33],vP 5 (.t 37),vP 6 (.t 38)]
def c42:=Rg [] [nP 41 5,nP 42 6,vP 3 (.t 41),vP 4 (.t 42)]
def d1X:=Ts [] [nP 39 6,bP 40 .neq (.t 39) (.c (.int .i64 0))] (.t 40) (Sq c42 .ret) .skip
def d2O:=Rg [] [op (.v 7) .mv [.c (.list true [])]]
def d32:=Rg [] [mP 43 (.vs 7),fP 44 2 (.l 2),lP 45 2 false 1 (.t 44),oP 46 (.call 88) [.t 45],oP 47 (.app 1 16) [.ts 43,.t 46],vP 7 (.ts 47)]
def c5C:=Rg [] [mP 49 (.vs 7),fP 50 3 (.l 2),lP 51 2 false 1 (.t 50),oP 52 (.app 1 16) [.ts 49,.t 51],oP 53 (.call 87) [.t 52],mP 48 (.t 53),oP 54 (.ext 0) [.t 48],oP 55 (.ext 1) [.t 48],vP 8 (.t 54),vP 9 (.t 55)]
def d7d:=Rg [] [nP 58 8,nP 59 9,vP 3 (.t 58),vP 4 (.t 59)]
def c9F:=Ts [] [nP 56 9,bP 57 .neq (.t 56) (.c (.int .i64 0))] (.t 57) (Sq d7d .ret) .skip
def d7v:=Ts [] [fP 19 0 (.l 2),lP 20 2 false 1 (.t 19),bP 21 .eql (.t 20) (.c (.int .u8 1))] (.t 21) (Sq e9W (Sq e1i (Sq d3X d1X))) (Sq d2O (Sq d32 (Sq c5C c9F)))
def d53:=Rg [] [vP 10 (.c (.int .i64 0))]
def c6X:=Ts [] [nP 60 10,fP 61 2 (.l 2),lP 62 2 false 1 (.t 61),oP 63 .lenL [.t 62],bP 64 .lss (.t 60) (.t 63)] (.t 64) .skip (.exit 0)
def d3n:=Rg [] [nP 68 0,fP 69 2 (.l 2),lP 70 2 false 1 (.t 69),nP 71 10,oP 72 (.iad 11) [.t 70,.t 71],oP 73 (.ldRo true 11) [.t 72],fP 74 0 (.l 2),lP 75 2 false 1 (.t 74),bP 76 .eql (.t 75) (.c (.int .u8 5)),oP 77 (.call 89) [.t 68,.t 73,.t 76],mP 67 (.t 77),oP 78 (.ext 0) [.t 67],oP 79 (.ext 1) [.t 67],vP 11 (.t 78),vP 12 (.t 79)]
def c8X:=Rg [] [nP 82 11,nP 83 12,vP 3 (.t 82),vP 4 (.t 83)]
def c6Q:=Ts [] [nP 80 12,bP 81 .neq (.t 80) (.c (.int .i64 0))] (.t 81) (Sq c8X .ret) .skip
def d4p:=Rg [] [nP 65 10,bP 66 .add (.t 65) (.c (.int .i64 1)),vP 10 (.t 66)]
def c9N:=Rg [] [vP 13 (.c (.int .i64 0))]
def c4r:=Ts [] [nP 84 13,fP 85 3 (.l 2),lP 86 2 false 1 (.t 85),oP 87 .lenL [.t 86],bP 88 .lss (.t 84) (.t 87),mP 89 (.t 88),gP 90 (.fad 0) [.l 2] 89 true,⟨.t 91,.ldLc 2 false 1,[.t 90],some 2,some (.t 89,true)⟩,gP 92 (.bin .neq) [.t 91,.c (.int .u8 4)] 89 true,oP 93 .pick [.t 89,.t 92,.c (.bool false)]] (.t 93) .skip (.exit 2)
def c8j:=Rg [] [fP 96 3 (.l 2),lP 97 2 false 1 (.t 96),nP 98 13,oP 99 (.iad 1) [.t 97,.t 98],oP 100 (.ldAn false 1) [.t 99],vP 14 (.t 100)]
def c5c:=Rg [15] [nP 101 0,nP 102 14,oP 103 (.call 51) [.t 101,.t 102],⟨.bx,.alloc [.int .u8 0,.str [],.list true [],.list true []],[],some 15,none⟩,xP (.stLc 15 4) [.l 15,.ts 103] 15]
def c7z:=Rg [] [nP 108 14,vP 3 (.t 108),vP 4 (.c (.int .i64 6))]
def d3v:=Rg [] [nP 137 14,vP 3 (.t 137),vP 4 (.c (.int .i64 8))]
def c5A:=Ts [] [fP 110 0 (.l 2),lP 111 2 false 1 (.t 110),bP 112 .eql (.t 111) (.c (.int .u8 1)),mP 113 (.t 112),gP 114 (.fad 0) [.l 15] 113 true,⟨.t 115,.ldLc 15 false 1,[.t 114],some 15,some (.t 113,true)⟩,gP 116 (.bin .neq) [.t 115,.c (.int .u8 2)] 113 true,oP 117 .pick [.t 113,.t 116,.c (.bool false)],mP 118 (.t 117),gP 119 (.fad 0) [.l 2] 118 false,⟨.t 120,.ldLc 2 false 1,[.t 119],some 2,some (.t 118,false)⟩,gP 121 (.bin .eql) [.t 120,.c (.int .u8 3)] 118 false,gP 122 .mv [.t 121] 118 false,gP 123 (.fad 0) [.l 15] 122 true,⟨.t 124,.ldLc 15 false 1,[.t 123],some 15,some (.t 122,true)⟩,gP 125 (.bin .neq) [.t 124,.c (.int .u8 1)] 122 true,gP 126 .pick [.t 122,.t 125,.c (.bool false)] 118 false,oP 127 .pick [.t 118,.c (.bool true),.t 126],mP 128 (.t 127),gP 129 (.fad 0) [.l 2] 128 false,⟨.t 130,.ldLc 2 false 1,[.t 129],some 2,some (.t 128,false)⟩,gP 131 (.bin .eql) [.t 130,.c (.int .u8 2)] 128 false,oP 132 .pick [.t 128,.c (.bool true),.t 131],mP 133 (.t 132),gP 134 .mv [.v 14] 133 false,gP 135 (.call 90) [.t 134] 133 false,oP 136 .pick [.t 133,.c (.bool true),.t 135],mP 109 (.t 136)] (.t 109) (Sq d3v .ret) .skip
def d4R:=Ts [] [fP 105 0 (.l 15),lP 106 15 false 1 (.t 105),bP 107 .eql (.t 106) (.c (.int .u8 0)),mP 104 (.t 107)] (.t 104) (Sq c7z .ret) c5A
def c3Q:=Rg [] [vP 16 (.c (.int .i64 0))]
def d49:=Ts [] [nP 138 16,fP 139 2 (.l 15),lP 140 15 false 1 (.t 139),oP 141 .lenL [.t 140],bP 142 .lss (.t 138) (.t 141),mP 143 (.t 142),gP 144 (.fad 0) [.l 2] 143 true,⟨.t 145,.ldLc 2 false 1,[.t 144],some 2,some (.t 143,true)⟩,gP 146 (.bin .eql) [.t 145,.c (.int .u8 1)] 143 true,oP 147 .pick [.t 143,.t 146,.c (.bool false)]] (.t 147) .skip (.exit 5)
def c5b:=Rg [] [fP 150 2 (.l 2),lP 151 2 false 1 (.t 150),fP 152 2 (.l 15),lP 153 15 false 1 (.t 152),nP 154 16,oP 155 (.iad 11) [.t 153,.t 154],fP 156 0 (.t 155),oP 157 (.ldRo false 1) [.t 156],oP 158 (.call 91) [.t 151,.t 157],vP 17 (.t 158)]
def d8H:=Rg [] [nP 177 14,vP 3 (.t 177),vP 4 (.c (.int .i64 3))]
def c8y:=Ts [] [nP 159 17,bP 160 .lss (.t 159) (.c (.int .i64 0)),mP 161 (.t 160),gP 162 (.fad 2) [.l 2] 161 false,⟨.t 163,.ldLc 2 false 1,[.t 162],some 2,some (.t 161,false)⟩,gP 164 .mv [.v 17] 161 false,gP 165 (.iad 11) [.t 163,.t 164] 161 false,gP 166 (.fad 2) [.t 165] 161 false,gP 167 (.ldRo true 3) [.t 166] 161 false,gP 168 (.fad 2) [.l 15] 161 false,⟨.t 169,.ldLc 15 false 1,[.t 168],some 15,some (.t 161,false)⟩,gP 170 .mv [.v 16] 161 false,gP 171 (.iad 11) [.t 169,.t 170] 161 false,gP 172 (.fad 2) [.t 171] 161 false,gP 173 (.ldRo true 3) [.t 172] 161 false,gP 174 (.call 92) [.t 167,.t 173] 161 false,gP 175 (.un .not) [.t 174] 161 false,oP 176 .pick [.t 161,.c (.bool true),.t 175]] (.t 176) (Sq d8H .ret) .skip
def d3N:=Rg [] [nP 148 16,bP 149 .add (.t 148) (.c (.int .i64 1)),vP 16 (.t 149)]
def d82:=Rg [] [nP 94 13,bP 95 .add (.t 94) (.c (.int .i64 1)),vP 13 (.t 95)]
def b8K:=Rg [] [op (.v 3) .mv [.c (.str [])],vP 4 (.c (.int .i64 0))]
def f5p:ACode :=
  (Sq e86 (Sq d7v (Sq (Sq d53 (Bk 0 (Lp (Sq c6X (Sq (Bk 1 (Sq d3n c6Q)) d4p))))) (Sq (Sq c9N (Bk 2 (Lp (Sq c4r (Sq (Bk 3 (Sq c8j (Sq c5c (Sq (Bk 4 d4R) (Sq c3Q (Bk 5 (Lp (Sq d49 (Sq (Bk 6 (Sq c5b c8y)) d3N))))))))) d82))))) (Sq b8K .ret)))))
def a50:AFn:={ np:=2,nv:=18,results:=[.v 3,.v 4],code:=f5p }
def f3Y:List Nat:=[0,1,3,4,5,6,7,8,9,10,11,12,13,14,15,16,17,18]
def f2I:List Nat:=[2,15]

def e15:=Rg [2] [⟨.bx,.alloc [.int .u8 0,.str [],.list true [],.list true []],[],some 2,none⟩]
def f0b:=Rg [] [vP 3 (.c (.int .i64 0))]
def e28:=Ts [] [nP 6 3,nP 7 0,oP 8 .nilchk [.t 7],fP 9 0 (.t 8),oP 10 (.ldSt false 1) [.t 9],oP 11 .lenL [.t 10],bP 12 .lss (.t 6) (.t 11)] (.t 12) .skip (.exit 0)
def e0k:=Rg [] [nP 25 0,oP 26 .nilchk [.t 25],fP 27 0 (.t 26),oP 28 (.ldSt false 1) [.t 27],nP 29 3,oP 30 (.iad 4) [.t 28,.t 29],oP 31 (.ldRo true 4) [.t 30],xP (.stLc 2 4) [.l 2,.ts 31] 2]
def d6W:=Ts [] [nP 15 0,oP 16 .nilchk [.t 15],fP 17 0 (.t 16),oP 18 (.ldSt false 1) [.t 17],nP 19 3,oP 20 (.iad 4) [.t 18,.t 19],fP 21 1 (.t 20),oP 22 (.ldRo false 1) [.t 21],nP 23 1,bP 24 .eql (.t 22) (.t 23)] (.t 24) (Sq e0k .ret) .skip
def d5g:=Rg [] [nP 13 3,bP 14 .add (.t 13) (.c (.int .i64 1)),vP 3 (.t 14)]
def c6G:=Rg [] [oP 32 (.build [.int .u8 0,.str [],.list true [],.list true []] []) [],xP (.stLc 2 4) [.l 2,.ts 32] 2]
def f2o:ACode :=
  (Sq e15 (Sq (Sq f0b (Bk 0 (Lp (Sq e28 (Sq (Bk 1 d6W) d5g))))) (Sq c6G .ret)))
def a51:AFn:={ np:=2,nv:=4,results:=[.bx 2 true 4],code:=f2o }
def f2y:List Nat:=[0,1,4,5]
def f6l:List Nat:=[2]

def e3i:=Rg [3,4] [⟨.bx,.boxV,[.v 1],some 3,none⟩,⟨.bx,.boxV,[.v 2],some 4,none⟩,vP 5 (.c (.bool false))]
def e6y:=Rg [] [fP 8 1 (.l 3),⟨.v 7,.ldLc 3 false 1,[.t 8],some 3,none⟩]
def f0J:=Rg [] [fP 12 2 (.l 4),lP 13 4 true 3 (.t 12),oP 14 (.call 93) [.t 13],vP 6 (.t 14)]
def e1s:=Rg [] [vP 5 (.c (.bool false))]
def c8N:=Ts [] [nP 15 0,nP 16 6,oP 17 (.call 94) [.t 15,.t 16],oP 18 (.un .not) [.t 17]] (.t 18) (Sq e1s .ret) .skip
def d4z:=Rg [] [fP 23 1 (.l 4),lP 24 4 false 1 (.t 23),oP 25 (.iad 11) [.t 24,.c (.int .i64 0)],oP 26 (.ldRo true 11) [.t 25],oP 27 (.call 95) [.t 26],mP 28 (.t 27),gP 29 (.fad 2) [.l 4] 28 true,gP 30 (.fad 1) [.t 29] 28 true,⟨.t 31,.ldLc 4 false 1,[.t 30],some 4,some (.t 28,true)⟩,gP 32 .lenL [.t 31] 28 true,gP 33 (.bin .eql) [.t 32,.c (.int .i64 0)] 28 true,oP 34 .pick [.t 28,.t 33,.c (.bool false)],mP 35 (.t 34),gP 36 (.fad 2) [.l 4] 35 true,gP 37 (.fad 2) [.t 36] 35 true,⟨.t 38,.ldLc 4 false 1,[.t 37],some 4,some (.t 35,true)⟩,gP 39 (.un .not) [.t 38] 35 true,oP 40 .pick [.t 35,.t 39,.c (.bool false)],vP 5 (.t 40)]
def c50:=Ts [] [fP 19 1 (.l 4),lP 20 4 false 1 (.t 19),oP 21 .lenL [.t 20],bP 22 .eql (.t 21) (.c (.int .i64 1))] (.t 22) (Sq d4z .ret) .skip
def d1Q:=Rg [] [fP 41 1 (.l 4),lP 42 4 false 1 (.t 41),oP 43 .lenL [.t 42],bP 44 .eql (.t 43) (.c (.int .i64 0)),mP 45 (.t 44),gP 46 (.fad 2) [.l 4] 45 true,gP 47 (.fad 1) [.t 46] 45 true,⟨.t 48,.ldLc 4 false 1,[.t 47],some 4,some (.t 45,true)⟩,gP 49 .lenL [.t 48] 45 true,gP 50 (.bin .gtr) [.t 49,.c (.int .i64 0)] 45 true,oP 51 .pick [.t 45,.t 50,.c (.bool false)],mP 52 (.t 51),gP 53 (.fad 2) [.l 4] 52 true,gP 54 (.fad 2) [.t 53] 52 true,⟨.t 55,.ldLc 4 false 1,[.t 54],some 4,some (.t 52,true)⟩,oP 56 .pick [.t 52,.t 55,.c (.bool false)],mP 57 (.t 56),gP 58 (.fad 2) [.l 4] 57 true,gP 59 (.fad 0) [.t 58] 57 true,⟨.t 60,.ldLc 4 false 1,[.t 59],some 4,some (.t 57,true)⟩,gP 61 (.bin .eql) [.t 60,.c (.str [])] 57 true,oP 62 .pick [.t 57,.t 61,.c (.bool false)],mP 63 (.t 62),gP 64 (.fad 2) [.l 4] 63 true,gP 65 (.fad 1) [.t 64] 63 true,⟨.t 66,.ldLc 4 false 1,[.t 65],some 4,some (.t 63,true)⟩,gP 67 (.iad 3) [.t 66,.c (.int .i64 0)] 63 true,gP 68 (.fad 1) [.t 67] 63 true,gP 69 (.ldRo false 1) [.t 68] 63 true,gP 70 .lenL [.t 69] 63 true,gP 71 (.bin .eql) [.t 70,.c (.int .i64 0)] 63 true,oP 72 .pick [.t 63,.t 71,.c (.bool false)],mP 73 (.t 72),gP 74 (.fad 2) [.l 4] 73 true,gP 75 (.fad 1) [.t 74] 73 true,⟨.t 76,.ldLc 4 false 1,[.t 75],some 4,some (.t 73,true)⟩,gP 77 (.iad 3) [.t 76,.c (.int .i64 0)] 73 true,gP 78 (.fad 2) [.t 77] 73 true,gP 79 (.ldRo false 1) [.t 78] 73 true,oP 80 .pick [.t 73,.t 79,.c (.bool false)],vP 5 (.t 80)]
def d8v:=Rg [] [fP 83 0 (.l 3),lP 84 3 false 1 (.t 83),bP 85 .eql (.t 84) (.c (.int .u8 1)),mP 86 (.t 85),gP 87 .mv [.v 0] 86 true,⟨.t 88,.ldLc 4 true 11,[.l 4],some 4,some (.t 86,true)⟩,gP 89 (.call 96) [.t 87,.t 88] 86 true,oP 90 .pick [.t 86,.t 89,.c (.bool false)],vP 5 (.t 90)]
def c6V:=Ts [] [oP 82 (.bin .eql) [.v 7,.c (.str [77,117,116,97,116,105,111,110])],mP 81 (.t 82)] (.t 81) (Sq d8v .ret) .skip
def d3w:=Ts [] [oP 11 (.bin .eql) [.v 7,.c (.str [81,117,101,114,121])],mP 10 (.t 11)] (.t 10) (Sq f0J (Sq c8N (Sq c50 (Sq d1Q .ret)))) c6V
def c6A:=Rg [] [fP 91 1 (.l 4),lP 92 4 false 1 (.t 91),oP 93 .lenL [.t 92],bP 94 .eql (.t 93) (.c (.int .i64 0)),vP 5 (.t 94)]
def f8x:ACode :=
  (Sq e3i (Sq (Sq e6y (Bk 0 d3w)) (Sq c6A .ret)))
def a52:AFn:={ np:=3,nv:=8,results:=[.v 5],code:=f8x }
def f1o:List Nat:=[0,1,2,4,5,6,7,9]
def f6F:List Nat:=[3,4]

def e8J:=Rg [2] [⟨.bx,.alloc [.int .u8 0,.str [],.int .i64 0,.int .i64 0],[],some 2,none⟩,vP 3 (.c (.int .i64 0)),vP 4 (.c (.int .i64 0)),vP 5 (.c (.int .i64 0))]
def e4i:=Rg [] [nP 10 0,nP 11 1,oP 12 .idxS [.t 10,.t 11],vP 6 (.t 12)]
def e8W:=Rg [] [nP 13 1,vP 7 (.t 13)]
def e3F:=Ts [] [nP 17 7,nP 18 0,oP 19 .lenS [.t 18],bP 20 .lss (.t 17) (.t 19),mP 21 (.t 20),gP 22 .mv [.v 0] 21 true,gP 23 .mv [.v 7] 21 true,gP 24 .idxS [.t 22,.t 23] 21 true,gP 25 (.call 97) [.t 24] 21 true,gP 26 .mv [.t 25] 21 true,gP 27 .mv [.v 0] 26 false,gP 28 .mv [.v 7] 26 false,gP 29 .idxS [.t 27,.t 28] 26 false,gP 30 (.call 98) [.t 29] 26 false,gP 31 .pick [.t 26,.c (.bool true),.t 30] 21 true,oP 32 .pick [.t 21,.t 31,.c (.bool false)]] (.t 32) .skip (.exit 1)
def d0O:=Rg [] [nP 33 7,bP 34 .add (.t 33) (.c (.int .i64 1)),vP 7 (.t 34)]
def d6u:=Rg [] [oP 39 (.build [.int .u8 0,.str [],.int .i64 0,.int .i64 0] []) [],nP 40 1,xP (.stLc 2 4) [.l 2,.t 39] 2,vP 3 (.c (.int .i64 0)),vP 4 (.t 40),vP 5 (.c (.int .i64 2))]
def d6a:=Ts [] [nP 35 7,nP 36 1,bP 37 .sub (.t 35) (.t 36),bP 38 .gtr (.t 37) (.c (.int .i64 32))] (.t 38) (Sq d6u .ret) .skip
def d0U:=Rg [] [nP 41 0,nP 42 1,nP 43 7,oP 44 (.slS true true) [.t 41,.t 42,.t 43],oP 45 (.build [.int .u8 0,.str [],.int .i64 0,.int .i64 0] [(0,1),(1,1)]) [.c (.int .u8 1),.t 44],nP 46 7,xP (.stLc 2 4) [.l 2,.t 45] 2,vP 3 (.t 46),vP 4 (.c (.int .i64 0)),vP 5 (.c (.int .i64 0))]
def d6K:=Rg [] [nP 54 0,nP 55 1,oP 56 (.call 99) [.t 54,.t 55],oP 57 (.ext 0) [.t 56],oP 58 (.ext 1) [.t 56],oP 59 (.ext 2) [.t 56],oP 60 (.ext 3) [.t 56],xP (.stLc 2 4) [.l 2,.t 57] 2,vP 3 (.t 58),vP 4 (.t 59),vP 5 (.t 60)]
def c6l:=Rg [] [nP 64 0,nP 65 1,oP 66 (.call 100) [.t 64,.t 65],oP 67 (.ext 0) [.t 66],oP 68 (.ext 1) [.t 66],oP 69 (.ext 2) [.t 66],oP 70 (.ext 3) [.t 66],xP (.stLc 2 4) [.l 2,.t 67] 2,vP 3 (.t 68),vP 4 (.t 69),vP 5 (.t 70)]
def c9g:=Rg [] [oP 93 (.build [.int .u8 0,.str [],.int .i64 0,.int .i64 0] [(0,1),(1,1)]) [.c (.int .u8 4),.c (.str [46,46,46])],nP 94 1,bP 95 .add (.t 94) (.c (.int .i64 3)),xP (.stLc 2 4) [.l 2,.t 93] 2,vP 3 (.t 95),vP 4 (.c (.int .i64 0)),vP 5 (.c (.int .i64 0))]
def d8Y:=Ts [] [nP 74 0,oP 75 .lenS [.t 74],nP 76 1,bP 77 .sub (.t 75) (.t 76),bP 78 .geq (.t 77) (.c (.int .i64 3)),mP 79 (.t 78),gP 80 .mv [.v 0] 79 true,gP 81 .mv [.v 1] 79 true,gP 82 (.bin .add) [.t 81,.c (.int .i64 1)] 79 true,gP 83 .idxS [.t 80,.t 82] 79 true,gP 84 (.bin .eql) [.t 83,.c (.int .u8 46)] 79 true,oP 85 .pick [.t 79,.t 84,.c (.bool false)],mP 86 (.t 85),gP 87 .mv [.v 0] 86 true,gP 88 .mv [.v 1] 86 true,gP 89 (.bin .add) [.t 88,.c (.int .i64 2)] 86 true,gP 90 .idxS [.t 87,.t 89] 86 true,gP 91 (.bin .eql) [.t 90,.c (.int .u8 46)] 86 true,oP 92 .pick [.t 86,.t 91,.c (.bool false)]] (.t 92) (Sq c9g .ret) .skip
def d0g:=Rg [] [oP 96 (.build [.int .u8 0,.str [],.int .i64 0,.int .i64 0] []) [],nP 97 1,xP (.stLc 2 4) [.l 2,.t 96] 2,vP 3 (.c (.int .i64 0)),vP 4 (.t 97),vP 5 (.c (.int .i64 4))]
def d7m:=Rg [] [nP 149 0,nP 150 1,nP 151 1,bP 152 .add (.t 151) (.c (.int .i64 1)),oP 153 (.slS true true) [.t 149,.t 150,.t 152],oP 154 (.build [.int .u8 0,.str [],.int .i64 0,.int .i64 0] [(0,1),(1,1)]) [.c (.int .u8 4),.t 153],nP 155 1,bP 156 .add (.t 155) (.c (.int .i64 1)),xP (.stLc 2 4) [.l 2,.t 154] 2,vP 3 (.t 156),vP 4 (.c (.int .i64 0)),vP 5 (.c (.int .i64 0))]
def d5U:=Ts [] [nP 99 6,bP 100 .eql (.t 99) (.c (.int .u8 33)),mP 101 (.t 100),gP 102 .mv [.v 6] 101 false,gP 103 (.bin .eql) [.t 102,.c (.int .u8 36)] 101 false,oP 104 .pick [.t 101,.c (.bool true),.t 103],mP 105 (.t 104),gP 106 .mv [.v 6] 105 false,gP 107 (.bin .eql) [.t 106,.c (.int .u8 40)] 105 false,oP 108 .pick [.t 105,.c (.bool true),.t 107],mP 109 (.t 108),gP 110 .mv [.v 6] 109 false,gP 111 (.bin .eql) [.t 110,.c (.int .u8 41)] 109 false,oP 112 .pick [.t 109,.c (.bool true),.t 111],mP 113 (.t 112),gP 114 .mv [.v 6] 113 false,gP 115 (.bin .eql) [.t 114,.c (.int .u8 58)] 113 false,oP 116 .pick [.t 113,.c (.bool true),.t 115],mP 117 (.t 116),gP 118 .mv [.v 6] 117 false,gP 119 (.bin .eql) [.t 118,.c (.int .u8 61)] 117 false,oP 120 .pick [.t 117,.c (.bool true),.t 119],mP 121 (.t 120),gP 122 .mv [.v 6] 121 false,gP 123 (.bin .eql) [.t 122,.c (.int .u8 64)] 121 false,oP 124 .pick [.t 121,.c (.bool true),.t 123],mP 125 (.t 124),gP 126 .mv [.v 6] 125 false,gP 127 (.bin .eql) [.t 126,.c (.int .u8 91)] 125 false,oP 128 .pick [.t 125,.c (.bool true),.t 127],mP 129 (.t 128),gP 130 .mv [.v 6] 129 false,gP 131 (.bin .eql) [.t 130,.c (.int .u8 93)] 129 false,oP 132 .pick [.t 129,.c (.bool true),.t 131],mP 133 (.t 132),gP 134 .mv [.v 6] 133 false,gP 135 (.bin .eql) [.t 134,.c (.int .u8 123)] 133 false,oP 136 .pick [.t 133,.c (.bool true),.t 135],mP 137 (.t 136),gP 138 .mv [.v 6] 137 false,gP 139 (.bin .eql) [.t 138,.c (.int .u8 124)] 137 false,oP 140 .pick [.t 137,.c (.bool true),.t 139],mP 141 (.t 140),gP 142 .mv [.v 6] 141 false,gP 143 (.bin .eql) [.t 142,.c (.int .u8 125)] 141 false,oP 144 .pick [.t 141,.c (.bool true),.t 143],mP 145 (.t 144),gP 146 .mv [.v 6] 145 false,gP 147 (.bin .eql) [.t 146,.c (.int .u8 38)] 145 false,oP 148 .pick [.t 145,.c (.bool true),.t 147],mP 98 (.t 148)] (.t 98) (Sq d7m .ret) .skip
def d2K:=Ts [] [nP 72 6,bP 73 .eql (.t 72) (.c (.int .u8 46)),mP 71 (.t 73)] (.t 71) (Sq d8Y (Sq d0g .ret)) d5U
def c7P:=Ts [] [nP 62 6,bP 63 .eql (.t 62) (.c (.int .u8 34)),mP 61 (.t 63)] (.t 61) (Sq c6l .ret) d2K
def d7R:=Ts [] [nP 48 6,bP 49 .eql (.t 48) (.c (.int .u8 45)),mP 50 (.t 49),gP 51 .mv [.v 6] 50 false,gP 52 (.call 98) [.t 51] 50 false,oP 53 .pick [.t 50,.c (.bool true),.t 52],mP 47 (.t 53)] (.t 47) (Sq d6K .ret) c7P
def c5o:=Ts [] [nP 15 6,oP 16 (.call 97) [.t 15],mP 14 (.t 16)] (.t 14) (Sq (Bk 1 (Lp (Sq e3F (Bk 2 d0O)))) (Sq d6a (Sq d0U .ret))) d7R
def d70:=Rg [] [oP 157 (.build [.int .u8 0,.str [],.int .i64 0,.int .i64 0] []) [],nP 158 1,xP (.stLc 2 4) [.l 2,.t 157] 2,vP 3 (.c (.int .i64 0)),vP 4 (.t 158),vP 5 (.c (.int .i64 4))]
def f6b:ACode :=
  (Sq e8J (Sq e4i (Sq e8W (Sq (Bk 0 c5o) (Sq d70 .ret)))))
def a53:AFn:={ np:=2,nv:=8,results:=[.bx 2 true 4,.v 3,.v 4,.v 5],code:=f6b }
def f4p:List Nat:=[0,1,4,5,6,7,8,9]
def f7h:List Nat:=[2]

def e1k:=Rg [] [vP 1 (.c (.bool false))]
def e5T:=Rg [] [nP 3 0,oP 4 .nilchk [.t 3],fP 5 2 (.t 4),oP 6 (.ldSt false 1) [.t 5],bP 7 .add (.t 6) (.c (.int .i64 1)),oP 8 .nilchk [.t 3],fP 9 2 (.t 8),op .none (.stSt 1) [.t 9,.t 7]]
def e3K:=Rg [] [nP 15 0,oP 16 (.call 18) [.t 15,.c (.int .i64 5)]]
def e8B:=Ts [] [nP 10 0,oP 11 .nilchk [.t 10],fP 12 2 (.t 11),oP 13 (.ldSt false 1) [.t 12],bP 14 .gtr (.t 13) (.c (.int .i64 24))] (.t 14) e3K .skip
def e5k:=Rg [] [nP 17 0,oP 18 .nilchk [.t 17],fP 19 4 (.t 18),oP 20 (.ldSt false 1) [.t 19],bP 21 .eql (.t 20) (.c (.int .i64 0)),vP 1 (.t 21)]
def f8D:ACode :=
  (Sq e1k (Sq e5T (Sq e8B (Sq e5k .ret))))
def a54:AFn:={ np:=1,nv:=2,results:=[.v 1],code:=f8D }
def f5A:List Nat:=[0,2]
def f2Z:List Nat:=[]

def e6z:=Rg [1] [⟨.bx,.alloc [.int .u8 0,.str [],.str [],.str [],.list true [],.list true [],.list true []],[],some 1,none⟩]
def e3b:=Rg [2] [nP 8 0,oP 9 (.call 19) [.t 8],oP 10 (.build [.int .u8 0,.str [],.str [],.str [],.list true [],.list true [],.list true []] [(0,1),(2,1)]) [.c (.int .u8 1),.t 9],⟨.bx,.alloc [.int .u8 0,.str [],.str [],.str [],.list true [],.list true [],.list true []],[],some 2,none⟩,xP (.stLc 2 7) [.l 2,.ts 10] 2]
def e20:=Rg [] [fP 13 2 (.l 2),lP 14 2 false 1 (.t 13),fP 15 1 (.l 2),xP (.stLc 2 1) [.t 15,.t 14] 2]
def e6V:=Rg [] [nP 16 0,oP 17 (.call 19) [.t 16],fP 18 2 (.l 2),xP (.stLc 2 1) [.t 18,.t 17] 2]
def d6p:=Ts [] [nP 11 0,oP 12 (.call 23) [.t 11,.c (.str [58])]] (.t 12) (Sq e20 e6V) .skip
def d6I:=Rg [] [nP 19 0,oP 20 (.call 101) [.t 19],fP 21 4 (.l 2),xP (.stLc 2 1) [.t 21,.ts 20] 2]
def c69:=Rg [] [nP 22 0,oP 23 (.call 102) [.t 22],fP 24 5 (.l 2),xP (.stLc 2 1) [.t 24,.ts 23] 2]
def d3C:=Rg [] [nP 27 0,oP 28 (.call 21) [.t 27],fP 29 6 (.l 2),xP (.stLc 2 1) [.t 29,.ts 28] 2]
def c5G:=Ts [] [nP 25 0,oP 26 (.call 22) [.t 25,.c (.str [123])]] (.t 26) d3C .skip
def d1R:=Rg [] [lP 30 2 true 7 (.l 2),xP (.stLc 1 7) [.l 1,.ts 30] 1]
def d66:=Ts [] [nP 5 0,oP 6 (.call 23) [.t 5,.c (.str [46,46,46])],oP 7 (.un .not) [.t 6]] (.t 7) (Sq e3b (Sq d6p (Sq d6I (Sq c69 (Sq c5G (Sq d1R .ret)))))) .skip
def c5X:=Rg [3] [oP 31 (.build [.int .u8 0,.str [],.str [],.str [],.list true [],.list true [],.list true []] [(0,1)]) [.c (.int .u8 3)],⟨.bx,.alloc [.int .u8 0,.str [],.str [],.str [],.list true [],.list true [],.list true []],[],some 3,none⟩,xP (.stLc 3 7) [.l 3,.ts 31] 3]
def c4I:=Rg [] [nP 34 0,oP 35 (.call 19) [.t 34],fP 36 3 (.l 3),xP (.stLc 3 1) [.t 36,.t 35] 3]
def d1d:=Rg [] [fP 39 0 (.l 3),xP (.stLc 3 1) [.t 39,.c (.int .u8 2)] 3]
def d06:=Rg [] [nP 40 0,oP 41 (.call 19) [.t 40],fP 42 2 (.l 3),xP (.stLc 3 1) [.t 42,.t 41] 3]
def d2R:=Rg [] [nP 43 0,oP 44 (.call 102) [.t 43],fP 45 5 (.l 3),xP (.stLc 3 1) [.t 45,.ts 44] 3]
def d6j:=Rg [] [lP 46 3 true 7 (.l 3),xP (.stLc 1 7) [.l 1,.ts 46] 1]
def d7i:=Ts [] [nP 37 0,oP 38 (.call 16) [.t 37,.c (.int .u8 1)]] (.t 38) (Sq d1d (Sq d06 (Sq d2R (Sq d6j .ret)))) .skip
def c4g:=Ts [] [nP 32 0,oP 33 (.call 23) [.t 32,.c (.str [111,110])]] (.t 33) c4I d7i
def c7v:=Rg [] [nP 47 0,oP 48 (.call 102) [.t 47],fP 49 5 (.l 3),xP (.stLc 3 1) [.t 49,.ts 48] 3]
def d3T:=Rg [] [nP 50 0,oP 51 (.call 21) [.t 50],fP 52 6 (.l 3),xP (.stLc 3 1) [.t 52,.ts 51] 3]
def c4P:=Rg [] [lP 53 3 true 7 (.l 3),xP (.stLc 1 7) [.l 1,.ts 53] 1]
def f4s:ACode :=
  (Sq e6z (Sq d66 (Sq c5X (Sq c4g (Sq c7v (Sq d3T (Sq c4P .ret)))))))
def a55:AFn:={ np:=1,nv:=4,results:=[.bx 1 true 7],code:=f4s }
def f5K:List Nat:=[0,2,3,4]
def f8j:List Nat:=[1,2,3]

def e8T:=Rg [1] [⟨.bx,.alloc [.str [],.list true [],.bool false],[],some 1,none⟩]
def e2O:=Rg [2] [⟨.bx,.alloc [.str [],.list true [],.bool false],[],some 2,none⟩]
def e39:=Rg [3] [nP 9 0,oP 10 (.call 56) [.t 9],⟨.bx,.alloc [.str [],.list true [],.bool false],[],some 3,none⟩,xP (.stLc 3 3) [.l 3,.ts 10] 3]
def e8g:=Rg [] [lP 11 3 true 3 (.l 3),oP 12 (.bslice 3 [[.str [],.list true [],.bool false]] [0]) [.t 11],fP 13 1 (.l 2),xP (.stLc 2 1) [.t 13,.ts 12] 2]
def c6I:=Rg [] [nP 14 0,oP 15 (.call 20) [.t 14,.c (.str [93])]]
def d6Z:=Rg [] [nP 16 0,oP 17 (.call 19) [.t 16],fP 18 0 (.l 2),xP (.stLc 2 1) [.t 18,.t 17] 2]
def d6T:=Ts [] [nP 7 0,oP 8 (.call 23) [.t 7,.c (.str [91])]] (.t 8) (Sq e39 (Sq e8g c6I)) d6Z
def d8K:=Rg [] [nP 19 0,oP 20 (.call 23) [.t 19,.c (.str [33])],fP 21 2 (.l 2),xP (.stLc 2 1) [.t 21,.t 20] 2]
def d0T:=Ts [] [nP 5 0,oP 6 (.call 54) [.t 5]] (.t 6) (Sq d6T d8K) .skip
def c7i:=Rg [] [nP 22 0,oP 23 .nilchk [.t 22],fP 24 2 (.t 23),oP 25 (.ldSt false 1) [.t 24],bP 26 .sub (.t 25) (.c (.int .i64 1)),oP 27 .nilchk [.t 22],fP 28 2 (.t 27),op .none (.stSt 1) [.t 28,.t 26]]
def d8r:=Rg [] [lP 29 2 true 3 (.l 2),xP (.stLc 1 3) [.l 1,.ts 29] 1]
def f5c:ACode :=
  (Sq e8T (Sq e2O (Sq d0T (Sq c7i (Sq d8r .ret)))))
def a56:AFn:={ np:=1,nv:=4,results:=[.bx 1 true 3],code:=f5c }
def f5O:List Nat:=[0,2,3,4]
def f4T:List Nat:=[1,2,3]

def e8Q:=Rg [2] [⟨.bx,.alloc [.int .u8 0,.int .i64 0,.str [],.list true [],.list true []],[],some 2,none⟩]
def e27:=Rg [3] [⟨.bx,.alloc [.int .u8 0,.int .i64 0,.str [],.list true [],.list true []],[],some 3,none⟩]
def f0g:=Rg [] [nP 8 0,nP 9 1,oP 10 (.call 103) [.t 8,.t 9],xP (.stLc 3 5) [.l 3,.ts 10] 3]
def e5J:=Ts [] [nP 6 0,oP 7 (.call 54) [.t 6]] (.t 7) f0g .skip
def e7Y:=Rg [] [nP 11 0,oP 12 .nilchk [.t 11],fP 13 2 (.t 12),oP 14 (.ldSt false 1) [.t 13],bP 15 .sub (.t 14) (.c (.int .i64 1)),oP 16 .nilchk [.t 11],fP 17 2 (.t 16),op .none (.stSt 1) [.t 17,.t 15]]
def c6N:=Rg [] [lP 18 3 true 5 (.l 3),xP (.stLc 2 5) [.l 2,.ts 18] 2]
def f5x:ACode :=
  (Sq e8Q (Sq e27 (Sq e5J (Sq e7Y (Sq c6N .ret)))))
def a57:AFn:={ np:=2,nv:=4,results:=[.bx 2 true 5],code:=f5x }
def f7x:List Nat:=[0,1,4,5]
def f8A:List Nat:=[2,3]

def a58s1:=Rg [2] [⟨.bx,.alloc [.str [],.str [],.list true []],[],some 2,none⟩,vP 3 (.c (.bool false))]
def a58s3:=Rg [] [nP 8 0,oP 9 .nilchk [.t 8],fP 10 1 (.t 9),fP 11 1 (.t 10),op (.v 5) (.ldSt false 1) [.t 11],op (.v 6) .lenL [.v 5],vP 7 (.c (.int .i64 0))]
def a58s5:=Ts [] [bP 15 .lss (.v 7) (.v 6)] (.t 15) .skip (.exit 0)
def a58s7:=Rg [4] [oP 16 (.iad 3) [.v 5,.v 7],oP 17 (.ldRo true 3) [.t 16],⟨.bx,.alloc [.str [],.str [],.list true []],[],some 4,none⟩,xP (.stLc 4 3) [.l 4,.ts 17] 4]
def a58s10:=Rg [] [lP 22 4 true 3 (.l 4),xP (.stLc 2 3) [.l 2,.ts 22] 2,vP 3 (.c (.bool true))]
def a58s12:=Ts [] [fP 18 0 (.l 4),lP 19 4 false 1 (.t 18),nP 20 1,bP 21 .eql (.t 19) (.t 20)] (.t 21) (Sq a58s10 .ret) .skip
def a58s16:=Rg [] [bP 23 .add (.v 7) (.c (.int .i64 1)),vP 7 (.t 23)]
def a58s23:=Rg [] [oP 24 (.build [.str [],.str [],.list true []] []) [],xP (.stLc 2 3) [.l 2,.ts 24] 2,vP 3 (.c (.bool false))]
def a58c:ACode :=
  (Sq a58s1 (Sq (Sq a58s3 (Bk 0 (Lp (Sq a58s5 (Sq (Bk 1 (Sq a58s7 a58s12)) a58s16))))) (Sq a58s23 .ret)))
def a58:AFn:={ np:=2,nv:=8,results:=[.bx 2 true 3,.v 3],code:=a58c }
def f8m:List Nat:=[0,1,4,5,7,12,13,14]
def f7l:List Nat:=[2,4]

def e53:=Rg [1] [⟨.bx,.boxV,[.v 0],some 1,none⟩,op (.v 2) .mv [.c (.str [])]]
def e1z:=Rg [] [op (.v 2) .mv [.c (.str [77,117,116,97,116,105,111,110])]]
def e61:=Ts [] [fP 3 0 (.l 1),lP 4 1 false 1 (.t 3)] (.t 4) (Sq e1z .ret) .skip
def e03:=Rg [] [op (.v 2) .mv [.c (.str [81,117,101,114,121])]]
def f1S:ACode :=
  (Sq e53 (Sq e61 (Sq e03 .ret)))
def a59:AFn:={ np:=1,nv:=3,results:=[.v 2],code:=f1S }
def f4w:List Nat:=[0,1,2]
def f7P:List Nat:=[1]

def d9s:=Rg [] [op (.v 2) .mv [.c (.list true [])]]
def e4U:=Rg [] [op (.v 3) .mv [.c (.list true [])]]
def e6x:=Rg [] [vP 5 (.v 0),op (.v 6) .lenL [.v 5],vP 7 (.c (.int .i64 0))]
def e6g:=Ts [] [bP 11 .lss (.v 7) (.v 6)] (.t 11) .skip (.exit 0)
def f0m:=Rg [4] [oP 12 (.iad 10) [.v 5,.v 7],oP 13 (.ldRo true 10) [.t 12],⟨.bx,.alloc [.str [],.str [],.list true [],.bool false,.bool false,.int .u8 0,.int .i64 0,.str [],.list true [],.list true []],[],some 4,none⟩,xP (.stLc 4 10) [.l 4,.ts 13] 4]
def d0L:=Rg [] [mP 14 (.vs 3),nP 15 1,lP 16 4 true 10 (.l 4),oP 17 .callV [.t 15,.t 16],oP 18 (.bslice 1 [[.str []]] [0]) [.t 17],oP 19 (.app 1 16) [.ts 14,.t 18],vP 3 (.ts 19)]
def d0B:=Rg [] [bP 20 .add (.v 7) (.c (.int .i64 1)),vP 7 (.t 20)]
def d77:=Rg [] [nP 21 3,vP 2 (.ts 21)]
def f7i:ACode :=
  (Sq d9s (Sq e4U (Sq (Sq e6x (Bk 0 (Lp (Sq e6g (Sq (Bk 1 (Sq f0m d0L)) d0B))))) (Sq d77 .ret))))
def a60:AFn:={ np:=2,nv:=8,results:=[.v 2],code:=f7i }
def f8v:List Nat:=[0,1,4,5,7,8,9,10]
def f4Q:List Nat:=[4]

def e3d:=Rg [1] [⟨.bx,.boxV,[.v 0],some 1,none⟩,op (.v 2) .mv [.c (.str [])]]
def e29:=Rg [] [fP 3 0 (.l 1),lP 4 1 false 1 (.t 3),vP 2 (.t 4)]
def f4S:ACode :=
  (Sq e3d (Sq e29 .ret))
def a61:AFn:={ np:=1,nv:=3,results:=[.v 2],code:=f4S }
def f6y:List Nat:=[0,1,2]
def f2F:List Nat:=[1]

def e8I:=Rg [1] [⟨.bx,.boxV,[.v 0],some 1,none⟩,op (.v 2) .mv [.c (.str [])]]
def e0f:=Ts [] [fP 3 1 (.l 1),lP 4 1 false 1 (.t 3),oP 5 .lenL [.t 4],bP 6 .gtr (.t 5) (.c (.int .i64 0))] (.t 6) .skip (.exit 0)
def e0A:=Rg [] [fP 7 1 (.l 1),lP 8 1 false 1 (.t 7),oP 9 (.iad 3) [.t 8,.c (.int .i64 0)],oP 10 (.ldRo true 3) [.t 9],xP (.stLc 1 3) [.l 1,.ts 10] 1]
def c66:=Rg [] [fP 11 0 (.l 1),lP 12 1 false 1 (.t 11),vP 2 (.t 12)]
def f3d:ACode :=
  (Sq e8I (Sq (Bk 0 (Lp (Sq e0f (Bk 1 e0A)))) (Sq c66 .ret)))
def a62:AFn:={ np:=1,nv:=3,results:=[.v 2],code:=f3d }
def f7p:List Nat:=[0,1,2]
def f8h:List Nat:=[1]

def e4H:=Rg [] [vP 2 (.c (.bool false))]
def e77:=Rg [] [nP 5 0,nP 6 1,oP 7 (.call 104) [.t 5,.t 6],mP 8 (.t 7),gP 9 .mv [.v 0] 8 false,gP 10 .mv [.v 1] 8 false,gP 11 (.call 105) [.t 9,.t 10] 8 false,oP 12 .pick [.t 8,.c (.bool true),.t 11],vP 2 (.t 12)]
def f3z:ACode :=
  (Sq e4H (Sq e77 .ret))
def a63:AFn:={ np:=2,nv:=3,results:=[.v 2],code:=f3z }
def f5T:List Nat:=[0,1,4]
def f5s:List Nat:=[]

def e8U:=Rg [] [vP 2 (.c (.bool false))]
def e48:=Rg [] [nP 5 0,nP 6 1,oP 7 (.call 106) [.t 5,.t 6,.c (.int .u8 5)],vP 2 (.t 7)]
def f5n:ACode :=
  (Sq e8U (Sq e48 .ret))
def a64:AFn:={ np:=2,nv:=3,results:=[.v 2],code:=f5n }
def f2g:List Nat:=[0,1,4]
def f4U:List Nat:=[]

def e5Q:=Rg [5] [op (.v 3) .boxO [.v 0],op (.v 4) .boxO [.v 1],⟨.bx,.boxV,[.v 2],some 5,none⟩,vP 6 (.c (.bool false))]
def e0U:=Rg [] [fP 12 2 (.v 4),oP 13 (.ldSt false 1) [.t 12],oP 14 (.un .not) [.t 13],vP 6 (.t 14)]
def e5S:=Ts [] [fP 9 0 (.l 5),lP 10 5 false 1 (.t 9),bP 11 .eql (.t 10) (.c (.int .u8 0))] (.t 11) (Sq e0U .ret) .skip
def d26:=Rg [] [oP 22 (.ldSt false 1) [.v 3],fP 23 1 (.v 4),oP 24 (.ldSt false 1) [.t 23],oP 25 (.iad 3) [.t 24,.c (.int .i64 0)],oP 26 (.ldRo true 3) [.t 25],lP 27 5 true 5 (.l 5),oP 28 (.call 65) [.t 22,.t 26,.t 27],vP 6 (.t 28)]
def c5U:=Ts [] [fP 19 0 (.l 5),lP 20 5 false 1 (.t 19),bP 21 .neq (.t 20) (.c (.int .u8 5))] (.t 21) (Sq d26 .ret) .skip
def d1q:=Rg [] [fP 29 4 (.l 5),lP 30 5 false 1 (.t 29),oP 31 (.mkF 108 0) [.v 3,.v 4],oP 32 (.call 107) [.t 30,.t 31],oP 33 (.un .not) [.t 32],vP 6 (.t 33)]
def d0x:=Ts [] [fP 15 1 (.v 4),oP 16 (.ldSt false 1) [.t 15],oP 17 .lenL [.t 16],bP 18 .gtr (.t 17) (.c (.int .i64 0))] (.t 18) (Sq c5U (Sq d1q .ret)) .skip
def c7M:=Rg [] [fP 34 0 (.v 4),op (.v 8) (.ldSt false 1) [.t 34]]
def d7j:=Rg [] [fP 38 0 (.l 5),lP 39 5 false 1 (.t 38),bP 40 .eql (.t 39) (.c (.int .u8 1)),mP 41 (.t 40),gP 42 (.fad 1) [.l 5] 41 true,⟨.t 43,.ldLc 5 false 1,[.t 42],some 5,some (.t 41,true)⟩,gP 44 (.fad 1) [.l 5] 41 true,⟨.t 45,.ldLc 5 false 1,[.t 44],some 5,some (.t 41,true)⟩,gP 46 (.conv .i32) [.t 45] 41 true,gP 47 (.conv .i64) [.t 46] 41 true,gP 48 (.bin .eql) [.t 43,.t 47] 41 true,oP 49 .pick [.t 41,.t 48,.c (.bool false)],vP 6 (.t 49)]
def d2s:=Rg [] [fP 52 0 (.l 5),lP 53 5 false 1 (.t 52),bP 54 .eql (.t 53) (.c (.int .u8 2)),vP 6 (.t 54)]
def d5k:=Rg [] [fP 57 0 (.l 5),lP 58 5 false 1 (.t 57),bP 59 .eql (.t 58) (.c (.int .u8 3)),vP 6 (.t 59)]
def d8j:=Rg [] [fP 62 0 (.l 5),lP 63 5 false 1 (.t 62),bP 64 .eql (.t 63) (.c (.int .u8 2)),mP 65 (.t 64),gP 66 (.fad 0) [.l 5] 65 false,⟨.t 67,.ldLc 5 false 1,[.t 66],some 5,some (.t 65,false)⟩,gP 68 (.bin .eql) [.t 67,.c (.int .u8 1)] 65 false,oP 69 .pick [.t 65,.c (.bool true),.t 68],vP 6 (.t 69)]
def d2l:=Ts [] [oP 61 (.bin .eql) [.v 8,.c (.str [73,68])],mP 60 (.t 61)] (.t 60) (Sq d8j .ret) .skip
def c8w:=Ts [] [oP 56 (.bin .eql) [.v 8,.c (.str [66,111,111,108,101,97,110])],mP 55 (.t 56)] (.t 55) (Sq d5k .ret) d2l
def d8X:=Ts [] [oP 51 (.bin .eql) [.v 8,.c (.str [83,116,114,105,110,103])],mP 50 (.t 51)] (.t 50) (Sq d2s .ret) c8w
def c6f:=Ts [] [oP 37 (.bin .eql) [.v 8,.c (.str [73,110,116])],mP 36 (.t 37)] (.t 36) (Sq d7j .ret) d8X
def c5I:=Rg [7] [oP 71 (.ldSt false 1) [.v 3],fP 72 0 (.v 4),oP 73 (.ldSt false 1) [.t 72],oP 74 (.call 45) [.t 71,.t 73],mP 70 (.t 74),oP 75 (.ext 0) [.t 70],oP 76 (.ext 1) [.t 70],⟨.bx,.alloc [.int .u8 0,.str [],.list true [],.list true []],[],some 7,none⟩,xP (.stLc 7 4) [.l 7,.ts 75] 7,mP 8 (.t 76)]
def c6e:=Rg [] [fP 77 0 (.l 7),⟨.v 9,.ldLc 7 false 1,[.t 77],some 7,none⟩]
def d4S:=Rg [] [fP 81 0 (.l 5),lP 82 5 false 1 (.t 81),bP 83 .eql (.t 82) (.c (.int .u8 4)),mP 84 (.t 83),gP 85 (.fad 3) [.l 7] 84 true,⟨.t 86,.ldLc 7 false 1,[.t 85],some 7,some (.t 84,true)⟩,gP 87 (.fad 2) [.l 5] 84 true,⟨.t 88,.ldLc 5 false 1,[.t 87],some 5,some (.t 84,true)⟩,gP 89 (.call 32) [.t 86,.t 88] 84 true,oP 90 .pick [.t 84,.t 89,.c (.bool false)],vP 6 (.t 90)]
def d30:=Rg [] [fP 93 0 (.l 5),lP 94 5 false 1 (.t 93),bP 95 .eql (.t 94) (.c (.int .u8 6)),mP 96 (.t 95),gP 97 (.ldSt false 1) [.v 3] 96 true,⟨.t 98,.ldLc 7 true 4,[.l 7],some 7,some (.t 96,true)⟩,⟨.t 99,.ldLc 5 true 5,[.l 5],some 5,some (.t 96,true)⟩,gP 100 (.call 109) [.t 97,.t 98,.t 99] 96 true,oP 101 .pick [.t 96,.t 100,.c (.bool false)],vP 6 (.t 101)]
def d86:=Ts [] [bP 92 .eql (.v 9) (.c (.int .u8 5)),mP 91 (.t 92)] (.t 91) (Sq d30 .ret) .skip
def d81:=Ts [] [bP 80 .eql (.v 9) (.c (.int .u8 4)),mP 79 (.t 80)] (.t 79) (Sq d4S .ret) d86
def d4H:=Rg [] [vP 6 (.c (.bool false))]
def f1i:ACode :=
  (Sq e5Q (Sq e5S (Sq d0x (Sq (Sq c7M (Bk 0 c6f)) (Sq c5I (Sq (Sq c6e (Bk 1 d81)) (Sq d4H .ret)))))))
def a65:AFn:={ np:=3,nv:=10,results:=[.v 6],code:=f1i }
def f2O:List Nat:=[0,1,2,3,4,5,6,7,35,78]
def f6h:List Nat:=[5,7]

def e2H:=Rg [] [vP 7 (.v 2),op (.v 8) .lenL [.v 7],vP 9 (.c (.int .i64 0))]
def e8s:=Ts [] [bP 16 .lss (.v 9) (.v 8)] (.t 16) .skip (.exit 0)
def e7j:=Rg [3] [oP 17 (.iad 7) [.v 7,.v 9],oP 18 (.ldAn true 7) [.t 17],⟨.bx,.alloc [.int .u8 0,.str [],.str [],.str [],.list true [],.list true [],.list true []],[],some 3,none⟩,xP (.stLc 3 7) [.l 3,.ts 18] 3]
def e6T:=Rg [] [fP 19 5 (.l 3),⟨.v 10,.ldLc 3 false 1,[.t 19],some 3,none⟩,op (.v 11) .lenL [.v 10],vP 12 (.c (.int .i64 0))]
def e31:=Ts [] [bP 23 .lss (.v 12) (.v 11)] (.t 23) .skip (.exit 2)
def c9v:=Rg [4] [oP 24 (.iad 2) [.v 10,.v 12],oP 25 (.ldRo true 2) [.t 24],⟨.bx,.alloc [.str [],.list true []],[],some 4,none⟩,xP (.stLc 4 2) [.l 4,.ts 25] 4]
def d3p:=Rg [] [nP 26 0,oP 27 .stuck [],fP 28 1 (.l 4),lP 29 4 false 1 (.t 28),oP 30 (.call 110) [.t 26,.t 27,.t 29]]
def c4x:=Rg [] [bP 31 .add (.v 12) (.c (.int .i64 1)),vP 12 (.t 31)]
def d6n:=Rg [] [nP 32 1,vP 5 (.t 32)]
def c96:=Rg [] [fP 41 3 (.l 3),lP 42 3 false 1 (.t 41),vP 5 (.t 42)]
def d4r:=Ts [] [fP 33 0 (.l 3),lP 34 3 false 1 (.t 33),bP 35 .eql (.t 34) (.c (.int .u8 3)),mP 36 (.t 35),gP 37 (.fad 3) [.l 3] 36 true,⟨.t 38,.ldLc 3 false 1,[.t 37],some 3,some (.t 36,true)⟩,gP 39 (.bin .neq) [.t 38,.c (.str [])] 36 true,oP 40 .pick [.t 36,.t 39,.c (.bool false)]] (.t 40) c96 .skip
def c5V:=Rg [6] [nP 47 0,oP 48 .nilchk [.t 47],fP 49 0 (.t 48),oP 50 (.ldSt false 1) [.t 49],oP 51 .nilchk [.t 50],fP 52 0 (.t 51),oP 53 (.ldSt false 1) [.t 52],nP 54 1,fP 55 2 (.l 3),lP 56 3 false 1 (.t 55),oP 57 (.call 111) [.t 53,.t 54,.t 56],mP 46 (.t 57),oP 58 (.ext 0) [.t 46],oP 59 (.ext 1) [.t 46],⟨.bx,.alloc [.str [],.list true [],.str [],.list true [],.bool false,.bool false,.int .u8 0,.int .i64 0,.str [],.list true [],.list true []],[],some 6,none⟩,xP (.stLc 6 11) [.l 6,.ts 58] 6,mP 12 (.t 59)]
def c6B:=Rg [] [nP 60 0,fP 61 1 (.l 6),lP 62 6 false 1 (.t 61),fP 63 4 (.l 3),lP 64 3 false 1 (.t 63),oP 65 (.call 110) [.t 60,.t 62,.t 64]]
def d5D:=Rg [] [fP 66 2 (.l 6),lP 67 6 true 3 (.t 66),oP 68 (.call 62) [.t 67],vP 5 (.t 68)]
def c8g:=Ts [] [fP 43 0 (.l 3),lP 44 3 false 1 (.t 43),bP 45 .eql (.t 44) (.c (.int .u8 1))] (.t 45) (Sq c5V (Sq c6B d5D)) .skip
def d6w:=Rg [] [nP 69 0,nP 70 5,fP 71 6 (.l 3),lP 72 3 false 1 (.t 71),oP 73 (.call 66) [.t 69,.t 70,.t 72]]
def c4K:=Rg [] [bP 74 .add (.v 9) (.c (.int .i64 1)),vP 9 (.t 74)]
def f3l:ACode :=
  (Sq e2H (Bk 0 (Lp (Sq e8s (Sq (Bk 1 (Sq e7j (Sq (Sq e6T (Bk 2 (Lp (Sq e31 (Sq (Bk 3 (Sq c9v d3p)) c4x))))) (Sq d6n (Sq d4r (Sq c8g d6w)))))) c4K)))))
def a66:AFn:={ np:=3,nv:=13,results:=[],code:=f3l }
def f5B:List Nat:=[0,1,2,7,9,10,11,13,14,15,20,21,22]
def f4J:List Nat:=[3,4,6]

def a67s1:=Rg [] [vP 2 (.c (.int .i64 0))]
def a67s3:=Rg [] [nP 6 0,op (.v 4) .lenL [.t 6],vP 5 (.c (.int .i64 0))]
def a67s5:=Ts [] [bP 9 .lss (.v 5) (.v 4)] (.t 9) .skip (.exit 0)
def a67s7:=Rg [] [nP 10 5,vP 3 (.t 10)]
def a67s10:=Rg [] [nP 17 3,vP 2 (.t 17)]
def a67s12:=Ts [] [nP 11 1,nP 12 0,nP 13 3,oP 14 (.iad 1) [.t 12,.t 13],oP 15 (.ldAn false 1) [.t 14],bP 16 .eql (.t 11) (.t 15)] (.t 16) (Sq a67s10 .ret) .skip
def a67s16:=Rg [] [bP 18 .add (.v 5) (.c (.int .i64 1)),vP 5 (.t 18)]
def a67s23:=Rg [] [vP 2 (.c (.int .i64 (-1)))]
def a67c:ACode :=
  (Sq a67s1 (Sq (Sq a67s3 (Bk 0 (Lp (Sq a67s5 (Sq (Bk 1 (Sq a67s7 a67s12)) a67s16))))) (Sq a67s23 .ret)))
def a67:AFn:={ np:=2,nv:=6,results:=[.v 2],code:=a67c }
def f4P:List Nat:=[0,1,4,5,7,8]
def f6K:List Nat:=[]

def a68s1:=Rg [] [op (.v 2) (.allocO [.list true []]) []]
def a68s3:=Rg [] [nP 9 0,nP 10 1,oP 11 (.call 112) [.t 9,.t 10,.v 2],vP 3 (.ts 11)]
def a68s5:=Rg [] [vP 7 (.v 3),op (.v 8) .lenL [.v 7],vP 9 (.c (.int .i64 0))]
def a68s7:=Ts [] [bP 15 .lss (.v 9) (.v 8)] (.t 15) .skip (.exit 0)
def a68s9:=Rg [] [nP 16 9,oP 17 (.iad 7) [.v 7,.v 9],oP 18 (.ldAn true 7) [.t 17],op (.v 5) (.allocO [.int .u8 0,.str [],.str [],.str [],.list true [],.list true [],.list true []]) [],vP 4 (.t 16),op .none (.stSt 7) [.v 5,.ts 18]]
def a68s11:=Rg [] [nP 19 3,oP 20 (.mkF 114 0) [.v 5],oP 21 (.call 113) [.t 19,.t 20],vP 6 (.t 21)]
def a68s14:=Rg [] [nP 34 0,oP 35 (.ldSt true 7) [.v 5],oP 36 (.call 9) [.t 35],oP 37 (.call 26) [.t 34,.c (.int .i64 21),.t 36]]
def a68s15:=Ts [] [nP 22 6,nP 23 4,bP 24 .lss (.t 22) (.t 23),mP 25 (.t 24),gP 26 (.ldSt true 7) [.v 5] 25 true,gP 27 .mv [.v 3] 25 true,gP 28 .mv [.v 6] 25 true,gP 29 (.iad 7) [.t 27,.t 28] 25 true,gP 30 (.ldAn true 7) [.t 29] 25 true,gP 31 (.call 115) [.t 26,.t 30] 25 true,gP 32 (.un .not) [.t 31] 25 true,oP 33 .pick [.t 25,.t 32,.c (.bool false)]] (.t 33) a68s14 .skip
def a68s20:=Rg [] [bP 38 .add (.v 9) (.c (.int .i64 1)),vP 9 (.t 38)]
def a68c:ACode :=
  (Sq a68s1 (Sq a68s3 (Sq a68s5 (Bk 0 (Lp (Sq a68s7 (Sq (Bk 1 (Sq a68s9 (Sq a68s11 a68s15))) a68s20)))))))
def a68:AFn:={ np:=2,nv:=10,results:=[],code:=a68c }
def f2n:List Nat:=[0,1,4,5,6,7,8,12,13,14]
def f7Y:List Nat:=[]

def e4v:=Rg [] [nP 6 0,nP 7 1,oP 8 (.call 116) [.t 7,.c (.func 117 [] [])],oP 9 (.call 27) [.t 6,.c (.int .i64 19),.t 8]]
def e6p:=Rg [] [vP 3 (.v 1),op (.v 4) .lenL [.v 3],vP 5 (.c (.int .i64 0))]
def e5s:=Ts [] [bP 13 .lss (.v 5) (.v 4)] (.t 13) .skip (.exit 0)
def e3z:=Rg [2] [oP 14 (.iad 2) [.v 3,.v 5],oP 15 (.ldRo true 2) [.t 14],⟨.bx,.alloc [.str [],.list true []],[],some 2,none⟩,xP (.stLc 2 2) [.l 2,.ts 15] 2]
def d21:=Rg [] [nP 24 0,fP 25 0 (.l 2),lP 26 2 false 1 (.t 25),oP 27 (.call 26) [.t 24,.c (.int .i64 19),.t 26]]
def d5X:=Ts [] [fP 16 0 (.l 2),lP 17 2 false 1 (.t 16),oP 18 (.bin .neq) [.t 17,.c (.str [115,107,105,112])],mP 19 (.t 18),gP 20 (.fad 0) [.l 2] 19 true,⟨.t 21,.ldLc 2 false 1,[.t 20],some 2,some (.t 19,true)⟩,gP 22 (.bin .neq) [.t 21,.c (.str [105,110,99,108,117,100,101])] 19 true,oP 23 .pick [.t 19,.t 22,.c (.bool false)]] (.t 23) (Sq d21 (.exit 1)) .skip
def c91:=Rg [] [nP 28 0,oP 29 .stuck [],fP 30 1 (.l 2),lP 31 2 false 1 (.t 30),oP 32 (.call 118) [.t 28,.t 29,.t 31]]
def c9Q:=Rg [] [bP 33 .add (.v 5) (.c (.int .i64 1)),vP 5 (.t 33)]
def f7z:ACode :=
  (Sq e4v (Sq e6p (Bk 0 (Lp (Sq e5s (Sq (Bk 1 (Sq e3z (Sq d5X c91))) c9Q))))))
def a69:AFn:={ np:=2,nv:=6,results:=[],code:=f7z }
def f1Z:List Nat:=[0,1,5,10,11,12]
def f5d:List Nat:=[2]

def e8K:=Rg [3] [⟨.bx,.boxV,[.v 2],some 3,none⟩]
def e3E:=Rg [4] [nP 10 0,oP 11 .nilchk [.t 10],fP 12 0 (.t 11),oP 13 (.ldSt false 1) [.t 12],nP 14 1,fP 15 2 (.l 3),lP 16 3 false 1 (.t 15),oP 17 (.call 111) [.t 13,.t 14,.t 16],mP 9 (.t 17),oP 18 (.ext 0) [.t 9],oP 19 (.ext 1) [.t 9],⟨.bx,.alloc [.str [],.list true [],.str [],.list true [],.bool false,.bool false,.int .u8 0,.int .i64 0,.str [],.list true [],.list true []],[],some 4,none⟩,xP (.stLc 4 11) [.l 4,.ts 18] 4,vP 5 (.t 19)]
def e6X:=Rg [] [nP 25 0,fP 26 2 (.l 3),lP 27 3 false 1 (.t 26),oP 28 (.call 26) [.t 25,.c (.int .i64 8),.t 27]]
def e6M:=Ts [] [nP 22 0,nP 23 1,oP 24 (.call 33) [.t 22,.t 23]] (.t 24) e6X .skip
def c4v:=Rg [] [nP 29 0,fP 30 6 (.l 3),lP 31 3 false 1 (.t 30),oP 32 (.call 34) [.t 29,.c (.str []),.t 31]]
def d0o:=Ts [] [nP 20 5,oP 21 (.un .not) [.t 20]] (.t 21) (Sq e6M (Sq c4v .ret)) .skip
def d9e:=Rg [] [fP 33 2 (.l 4),lP 34 4 true 3 (.t 33),oP 35 (.call 62) [.t 34],vP 6 (.t 35)]
def c7R:=Rg [] [nP 47 0,fP 48 2 (.l 3),lP 49 3 false 1 (.t 48),oP 50 (.call 26) [.t 47,.c (.int .i64 9),.t 49]]
def d1o:=Ts [] [nP 36 0,oP 37 .nilchk [.t 36],fP 38 0 (.t 37),oP 39 (.ldSt false 1) [.t 38],nP 40 6,oP 41 (.call 63) [.t 39,.t 40],fP 42 6 (.l 3),lP 43 3 false 1 (.t 42),oP 44 .lenL [.t 43],bP 45 .gtr (.t 44) (.c (.int .i64 0)),oP 46 (.binB .eql) [.t 41,.t 45]] (.t 46) c7R .skip
def d83:=Rg [] [nP 51 0,fP 52 1 (.l 4),lP 53 4 false 1 (.t 52),fP 54 4 (.l 3),lP 55 3 false 1 (.t 54),oP 56 (.call 118) [.t 51,.t 53,.t 55]]
def d1b:=Rg [] [nP 57 0,nP 58 6,fP 59 6 (.l 3),lP 60 3 false 1 (.t 59),oP 61 (.call 34) [.t 57,.t 58,.t 60]]
def f7O:ACode :=
  (Sq e8K (Sq e3E (Sq d0o (Sq d9e (Sq d1o (Sq d83 d1b))))))
def a70:AFn:={ np:=3,nv:=7,results:=[],code:=f7O }
def f7T:List Nat:=[0,1,2,5,6,7,8]
def f4m:List Nat:=[3,4]

def e9O:=Rg [] [vP 3 (.c (.bool false))]
def e2Y:=Rg [] [vP 3 (.c (.bool true))]
def f0z:=Ts [] [nP 8 0,nP 9 1,oP 10 (.call 33) [.t 8,.t 9],oP 11 (.un .not) [.t 10],mP 12 (.t 11),gP 13 .mv [.v 0] 12 false,gP 14 .mv [.v 2] 12 false,gP 15 (.call 33) [.t 13,.t 14] 12 false,gP 16 (.un .not) [.t 15] 12 false,oP 17 .pick [.t 12,.c (.bool true),.t 16]] (.t 17) (Sq e2Y .ret) .skip
def e3I:=Rg [] [nP 18 0,nP 19 2,oP 20 (.call 119) [.t 18,.t 19],op (.v 4) (.allocO [.list true []]) [],op .none (.stSt 1) [.v 4,.ts 20]]
def d5m:=Rg [] [nP 21 0,nP 22 1,oP 23 (.call 119) [.t 21,.t 22],oP 24 (.mkF 121 0) [.v 4],oP 25 (.call 120) [.t 23,.t 24],vP 3 (.t 25)]
def f1H:ACode :=
  (Sq e9O (Sq f0z (Sq e3I (Sq d5m .ret))))
def a71:AFn:={ np:=3,nv:=5,results:=[.v 3],code:=f1H }
def f4W:List Nat:=[0,1,2,6,7]
def f6n:List Nat:=[]

def e6O:=Rg [] [vP 5 (.c (.bool true))]
def d9V:=Rg [] [vP 6 (.c (.bool true))]
def e7n:=Rg [] [nP 21 2,nP 22 1,bP 23 .sub (.t 21) (.t 22),vP 7 (.t 23)]
def e7y:=Rg [] [nP 26 0,nP 27 1,nP 28 2,nP 29 4,oP 30 (.call 122) [.t 26,.t 27,.t 28,.t 29]]
def c7y:=Ts [] [nP 24 7,bP 25 .leq (.t 24) (.c (.int .i64 12))] (.t 25) (Sq e7y .ret) .skip
def d2o:=Rg [] [nP 33 0,nP 34 1,nP 35 2,nP 36 4,oP 37 (.call 123) [.t 33,.t 34,.t 35,.t 36]]
def c37:=Ts [] [nP 31 3,bP 32 .eql (.t 31) (.c (.int .i64 0))] (.t 32) (Sq d2o .ret) .skip
def d5b:=Rg [] [nP 40 0,nP 41 1,nP 42 2,nP 43 4,oP 44 (.call 124) [.t 40,.t 41,.t 42,.t 43]]
def d0K:=Rg [] [nP 45 3,bP 46 .sub (.t 45) (.c (.int .i64 1)),vP 3 (.t 46)]
def c5g:=Ts [] [nP 38 5,oP 39 (.un .not) [.t 38]] (.t 39) (Sq d5b d0K) .skip
def c62:=Rg [] [nP 48 0,nP 49 1,nP 50 2,nP 51 4,oP 52 (.call 125) [.t 48,.t 49,.t 50,.t 51],mP 47 (.t 52),oP 53 (.ext 0) [.t 47],oP 54 (.ext 1) [.t 47],vP 8 (.t 53),vP 9 (.t 54)]
def d02:=Rg [] [nP 57 0,nP 58 1,nP 59 2,nP 60 4,oP 61 (.call 126) [.t 57,.t 58,.t 59,.t 60]]
def d03:=Rg [] [nP 62 2,bP 63 .sub (.t 62) (.c (.int .i64 1)),nP 64 8,nP 65 1,bP 66 .sub (.t 64) (.t 65),bP 67 .sub (.t 63) (.t 66),vP 8 (.t 67)]
def c9R:=Rg [] [vP 9 (.c (.int .i64 1))]
def d0I:=Ts [] [nP 55 9,bP 56 .eql (.t 55) (.c (.int .i64 2))] (.t 56) (Sq d02 (Sq d03 c9R)) .skip
def d5a:=Ts [] [nP 76 0,nP 77 1,nP 78 2,nP 79 4,oP 80 (.call 127) [.t 76,.t 77,.t 78,.t 79]] (.t 80) .ret .skip
def d0y:=Ts [] [nP 68 5,mP 69 (.t 68),gP 70 .mv [.v 6] 69 true,oP 71 .pick [.t 69,.t 70,.c (.bool false)],mP 72 (.t 71),gP 73 .mv [.v 9] 72 true,gP 74 (.bin .eql) [.t 73,.c (.int .i64 1)] 72 true,oP 75 .pick [.t 72,.t 74,.c (.bool false)]] (.t 75) d5a .skip
def c61:=Rg [] [nP 98 0,nP 99 1,nP 100 2,nP 101 8,nP 102 4,oP 103 (.call 128) [.t 98,.t 99,.t 100,.t 101,.t 102],vP 10 (.t 103)]
def d56:=Rg [] [nP 104 10,vP 1 (.t 104)]
def d6m:=Ts [] [nP 81 1,bP 82 .gtr (.t 81) (.c (.int .i64 0)),mP 83 (.t 82),gP 84 .mv [.v 4] 83 true,gP 85 .mv [.v 0] 83 true,gP 86 .mv [.v 1] 83 true,gP 87 (.bin .sub) [.t 86,.c (.int .i64 1)] 83 true,gP 88 (.iad 2) [.t 85,.t 87] 83 true,gP 89 (.ldAn true 2) [.t 88] 83 true,gP 90 .mv [.v 0] 83 true,gP 91 .mv [.v 8] 83 true,gP 92 (.iad 2) [.t 90,.t 91] 83 true,gP 93 (.ldAn true 2) [.t 92] 83 true,gP 94 .callV [.t 84,.t 89,.t 93] 83 true,gP 95 (.bin .lss) [.t 94,.c (.int .i64 0)] 83 true,gP 96 (.un .not) [.t 95] 83 true,oP 97 .pick [.t 83,.t 96,.c (.bool false)]] (.t 97) (Sq c61 (Sq d56 (.exit 1))) .skip
def c5O:=Rg [] [nP 106 0,nP 107 1,nP 108 2,nP 109 8,nP 110 4,oP 111 (.call 129) [.t 106,.t 107,.t 108,.t 109,.t 110],mP 105 (.t 111),oP 112 (.ext 0) [.t 105],oP 113 (.ext 1) [.t 105],vP 11 (.t 112),vP 12 (.t 113)]
def c9h:=Rg [] [nP 114 12,vP 6 (.t 114)]
def d7l:=Rg [] [nP 115 11,nP 116 1,bP 117 .sub (.t 115) (.t 116),nP 118 2,nP 119 11,bP 120 .sub (.t 118) (.t 119),vP 13 (.t 117),vP 14 (.t 120)]
def d3z:=Rg [] [nP 121 7,bP 122 .quo (.t 121) (.c (.int .i64 8)),vP 15 (.t 122)]
def d6i:=Rg [] [nP 126 13,nP 127 15,bP 128 .geq (.t 126) (.t 127),vP 5 (.t 128)]
def c9r:=Rg [] [nP 129 0,nP 130 1,nP 131 11,nP 132 3,nP 133 4,oP 134 (.call 72) [.t 129,.t 130,.t 131,.t 132,.t 133]]
def d7A:=Rg [] [nP 135 11,bP 136 .add (.t 135) (.c (.int .i64 1)),vP 1 (.t 136)]
def c9V:=Rg [] [nP 137 14,nP 138 15,bP 139 .geq (.t 137) (.t 138),vP 5 (.t 139)]
def d8W:=Rg [] [nP 140 0,nP 141 11,bP 142 .add (.t 141) (.c (.int .i64 1)),nP 143 2,nP 144 3,nP 145 4,oP 146 (.call 72) [.t 140,.t 142,.t 143,.t 144,.t 145]]
def d5N:=Rg [] [nP 147 11,vP 2 (.t 147)]
def d4v:=Ts [] [nP 123 13,nP 124 14,bP 125 .lss (.t 123) (.t 124)] (.t 125) (Sq d6i (Sq c9r d7A)) (Sq c9V (Sq d8W d5N))
def f3f:ACode :=
  (Sq e6O (Sq d9V (Bk 0 (Lp (Bk 1 (Sq e7n (Sq c7y (Sq c37 (Sq c5g (Sq c62 (Sq d0I (Sq d0y (Sq d6m (Sq c5O (Sq c9h (Sq d7l (Sq d3z d4v)))))))))))))))))
def a72:AFn:={ np:=5,nv:=16,results:=[],code:=f3f }
def f5W:List Nat:=[0,1,2,3,4,10,11,12,13,14,15,16,17,18,19,20]
def f8k:List Nat:=[]

def e8c:=Rg [] [nP 3 0,oP 4 (.conv .u32) [.t 3],oP 5 (.call 130) [.t 4],vP 1 (.t 5)]
def e2J:=Ts [] [vP 1 (.c (.int .i64 0))] (.c (.bool false)) (Sq e8c .ret) .skip
def e6P:=Rg [] [nP 6 0,oP 7 (.call 131) [.t 6],vP 1 (.t 7)]
def f2v:ACode :=
  (Sq e2J (Sq e6P .ret))
def a73:AFn:={ np:=1,nv:=2,results:=[.v 1],code:=f2v }
def f4i:List Nat:=[0,2]
def f4Z:List Nat:=[]

def e2r:=Rg [] [vP 1 (.c (.bool false))]
def e6l:=Rg [] [nP 3 0,nP 4 0,bP 5 .neq (.t 3) (.t 4),vP 1 (.t 5)]
def f6z:ACode :=
  (Sq e2r (Sq e6l .ret))
def a74:AFn:={ np:=1,nv:=2,results:=[.v 1],code:=f6z }
def f8t:List Nat:=[0,2]
def f6R:List Nat:=[]

def e5a:=Rg [] [vP 1 (.c (.bool false))]
def e9H:=Rg [] [nP 3 0,nP 4 0,bP 5 .neq (.t 3) (.t 4),vP 1 (.t 5)]
def f5D:ACode :=
  (Sq e5a (Sq e9H .ret))
def a75:AFn:={ np:=1,nv:=2,results:=[.v 1],code:=f5D }
def f8F:List Nat:=[0,2]
def f4c:List Nat:=[]

def e6i:=Rg [] [op (.v 2) .mv [.c (.list true [])]]
def e7M:=Rg [] [nP 6 0,nP 7 1,oP 8 (.call 23) [.t 6,.t 7]]
def d96:=Rg [] [nP 9 0,oP 10 (.call 19) [.t 9],oP 11 (.bslice 1 [[.str []]] [0]) [.t 10],vP 3 (.ts 11)]
def e5Y:=Ts [] [nP 12 0,nP 13 1,oP 14 (.call 23) [.t 12,.t 13]] (.t 14) .skip (.exit 0)
def e7d:=Rg [] [mP 15 (.vs 3),nP 16 0,oP 17 (.call 19) [.t 16],oP 18 (.bslice 1 [[.str []]] [0]) [.t 17],oP 19 (.app 1 16) [.ts 15,.t 18],vP 3 (.ts 19)]
def c4D:=Rg [] [nP 20 3,vP 2 (.ts 20)]
def f1U:ACode :=
  (Sq e6i (Sq e7M (Sq d96 (Sq (Bk 0 (Lp (Sq e5Y (Bk 1 e7d)))) (Sq c4D .ret)))))
def a76:AFn:={ np:=2,nv:=4,results:=[.v 2],code:=f1U }
def f6A:List Nat:=[0,1,4,5]
def f3n:List Nat:=[]

def e0c:=Rg [] [op (.v 2) .mv [.c (.list true [])]]
def e0b:=Rg [] [op (.v 3) .mv [.c (.list true [])]]
def e4y:=Rg [] [vP 4 (.c (.bool true))]
def e5V:=Ts [] [nP 8 0,oP 9 .nilchk [.t 8],fP 10 4 (.t 9),oP 11 (.ldSt false 1) [.t 10],bP 12 .eql (.t 11) (.c (.int .i64 0)),mP 13 (.t 12),gP 14 .mv [.v 4] 13 true,gP 15 .mv [.t 14] 13 true,gP 16 .mv [.v 0] 15 false,gP 17 .mv [.v 1] 15 false,gP 18 (.call 23) [.t 16,.t 17] 15 false,gP 19 (.un .not) [.t 18] 15 false,gP 20 .pick [.t 15,.c (.bool true),.t 19] 13 true,oP 21 .pick [.t 13,.t 20,.c (.bool false)]] (.t 21) .skip (.exit 0)
def e1x:=Rg [5] [nP 22 0,oP 23 (.call 19) [.t 22],oP 24 (.build [.str [],.list true [],.str [],.list true [],.bool false,.bool false,.int .u8 0,.int .i64 0,.str [],.list true [],.list true []] [(0,1)]) [.t 23],⟨.bx,.alloc [.str [],.list true [],.str [],.list true [],.bool false,.bool false,.int .u8 0,.int .i64 0,.str [],.list true [],.list true []],[],some 5,none⟩,xP (.stLc 5 11) [.l 5,.ts 24] 5]
def d6y:=Rg [] [nP 25 0,oP 26 (.call 20) [.t 25,.c (.str [58])]]
def d31:=Rg [] [nP 27 0,oP 28 (.call 56) [.t 27],fP 29 2 (.l 5),xP (.stLc 5 3) [.t 29,.ts 28] 5]
def d8D:=Rg [] [fP 32 5 (.l 5),xP (.stLc 5 1) [.t 32,.c (.bool true)] 5]
def d6M:=Rg [] [nP 33 0,oP 34 (.call 57) [.t 33,.c (.bool true)],fP 35 6 (.l 5),xP (.stLc 5 5) [.t 35,.ts 34] 5]
def d3L:=Ts [] [nP 30 0,oP 31 (.call 23) [.t 30,.c (.str [61])]] (.t 31) (Sq d8D d6M) .skip
def c6q:=Rg [] [mP 36 (.vs 3),lP 37 5 true 11 (.l 5),oP 38 (.bslice 11 [[.str [],.list true [],.str [],.list true [],.bool false,.bool false,.int .u8 0,.int .i64 0,.str [],.list true [],.list true []]] [0]) [.t 37],oP 39 (.app 11 176) [.ts 36,.t 38],vP 3 (.ts 39)]
def c46:=Rg [] [vP 4 (.c (.bool false))]
def c8H:=Rg [] [nP 40 3,vP 2 (.ts 40)]
def f2a:ACode :=
  (Sq e0c (Sq e0b (Sq (Sq e4y (Bk 0 (Lp (Sq e5V (Sq (Bk 1 (Sq e1x (Sq d6y (Sq d31 (Sq d3L c6q))))) c46))))) (Sq c8H .ret))))
def a77:AFn:={ np:=2,nv:=6,results:=[.v 2],code:=f2a }
def f7J:List Nat:=[0,1,4,5,6,7]
def f2m:List Nat:=[5]

def e2U:=Rg [] [vP 2 (.c (.bool false))]
def e3D:=Rg [] [nP 5 0,oP 6 .lenS [.t 5],nP 7 1,oP 8 .lenS [.t 7],bP 9 .geq (.t 6) (.t 8),mP 10 (.t 9),gP 11 .mv [.v 0] 10 true,gP 12 .mv [.v 1] 10 true,gP 13 .lenS [.t 12] 10 true,gP 14 (.slS false true) [.t 11,.t 13] 10 true,gP 15 .mv [.v 1] 10 true,gP 16 (.bin .eql) [.t 14,.t 15] 10 true,oP 17 .pick [.t 10,.t 16,.c (.bool false)],vP 2 (.t 17)]
def f2D:ACode :=
  (Sq e2U (Sq e3D .ret))
def a78:AFn:={ np:=2,nv:=3,results:=[.v 2],code:=f2D }
def f2r:List Nat:=[0,1,4]
def f1C:List Nat:=[]

def d9r:=Rg [1] [⟨.bx,.alloc [.int .i64 0,.str []],[],some 1,none⟩]
def e67:=Rg [] [vP 4 (.v 0),op (.v 5) .lenL [.v 4],vP 6 (.c (.int .i64 0))]
def d9o:=Ts [] [bP 8 .lss (.v 6) (.v 5)] (.t 8) .skip (.exit 0)
def e4q:=Rg [] [nP 9 6,oP 10 (.iad 1) [.v 4,.v 6],oP 11 (.ldAn false 1) [.t 10],vP 2 (.t 9),vP 3 (.t 11)]
def c72:=Rg [] [nP 17 3,oP 18 (.build [.int .i64 0,.str []] [(0,1),(1,1)]) [.c (.int .i64 7),.t 17],xP (.stLc 1 2) [.l 1,.t 18] 1]
def d5n:=Ts [] [nP 12 0,nP 13 2,oP 14 (.slL 1 false true) [.t 12,.t 13],nP 15 3,oP 16 (.call 32) [.t 14,.t 15]] (.t 16) (Sq c72 .ret) .skip
def d3m:=Rg [] [nP 21 3,oP 22 (.build [.int .i64 0,.str []] [(0,1),(1,1)]) [.c (.int .i64 1),.t 21],xP (.stLc 1 2) [.l 1,.t 22] 1]
def c98:=Ts [] [nP 19 3,oP 20 (.call 43) [.t 19,.c (.str [95,95])]] (.t 20) (Sq d3m .ret) .skip
def d6q:=Rg [] [bP 23 .add (.v 6) (.c (.int .i64 1)),vP 6 (.t 23)]
def c3Z:=Rg [] [oP 24 (.build [.int .i64 0,.str []] []) [],xP (.stLc 1 2) [.l 1,.t 24] 1]
def f2L:ACode :=
  (Sq d9r (Sq (Sq e67 (Bk 0 (Lp (Sq d9o (Sq (Bk 1 (Sq e4q (Sq d5n c98))) d6q))))) (Sq c3Z .ret)))
def a79:AFn:={ np:=1,nv:=7,results:=[.bx 1 true 2],code:=f2L }
def f7N:List Nat:=[0,2,3,4,5,6,7]
def f2Y:List Nat:=[1]

def e56:=Rg [] [op (.v 1) .mv [.c (.list true [])]]
def e0q:=Rg [] [op (.v 2) .mv [.c (.list true [])]]
def e95:=Rg [] [vP 4 (.v 0),op (.v 5) .lenL [.v 4],vP 6 (.c (.int .i64 0))]
def e4c:=Ts [] [bP 9 .lss (.v 6) (.v 5)] (.t 9) .skip (.exit 0)
def e2v:=Rg [3] [oP 10 (.iad 11) [.v 4,.v 6],oP 11 (.ldRo true 11) [.t 10],⟨.bx,.alloc [.str [],.list true [],.str [],.list true [],.bool false,.bool false,.int .u8 0,.int .i64 0,.str [],.list true [],.list true []],[],some 3,none⟩,xP (.stLc 3 11) [.l 3,.ts 11] 3]
def d4s:=Rg [] [mP 12 (.vs 2),fP 13 0 (.l 3),lP 14 3 false 1 (.t 13),oP 15 (.bslice 1 [[.str []]] [0]) [.t 14],oP 16 (.app 1 16) [.ts 12,.t 15],vP 2 (.ts 16)]
def d3R:=Rg [] [bP 17 .add (.v 6) (.c (.int .i64 1)),vP 6 (.t 17)]
def d2U:=Rg [] [mP 18 (.vs 2),vP 1 (.ts 18)]
def f6m:ACode :=
  (Sq e56 (Sq e0q (Sq (Sq e95 (Bk 0 (Lp (Sq e4c (Sq (Bk 1 (Sq e2v d4s)) d3R))))) (Sq d2U .ret))))
def a80:AFn:={ np:=1,nv:=7,results:=[.vs 1],code:=f6m }
def f2j:List Nat:=[0,2,3,5,6,7,8]
def f1L:List Nat:=[3]

def e6Z:=Rg [3,4] [⟨.bx,.boxV,[.v 1],some 3,none⟩,⟨.bx,.alloc [.int .i64 0,.str []],[],some 4,none⟩]
def e75:=Rg [] [fP 15 2 (.l 3),lP 16 3 true 3 (.t 15),oP 17 (.call 62) [.t 16],vP 5 (.t 17)]
def e9w:=Rg [6] [nP 19 0,nP 20 5,oP 21 (.call 45) [.t 19,.t 20],mP 18 (.t 21),oP 22 (.ext 0) [.t 18],oP 23 (.ext 1) [.t 18],⟨.bx,.alloc [.int .u8 0,.str [],.list true [],.list true []],[],some 6,none⟩,xP (.stLc 6 4) [.l 6,.ts 22] 6,vP 7 (.t 23)]
def e5b:=Rg [] [nP 33 5,oP 34 (.build [.int .i64 0,.str []] [(0,1),(1,1)]) [.c (.int .i64 6),.t 33],xP (.stLc 4 2) [.l 4,.t 34] 4]
def d1m:=Rg [] [nP 56 5,oP 57 (.call 82) [.t 56],vP 12 (.t 57)]
def c7j:=Ts [] [nP 49 2,oP 50 (.un .not) [.t 49],mP 51 (.t 50),gP 52 .mv [.v 0] 51 true,gP 53 .mv [.v 5] 51 true,gP 54 (.call 64) [.t 52,.t 53] 51 true,oP 55 .pick [.t 51,.t 54,.c (.bool false)],vP 12 (.t 55)] (.v 12) .skip d1m
def c4M:=Ts [] [nP 36 2,mP 37 (.t 36),gP 38 .mv [.v 0] 37 true,gP 39 .mv [.v 5] 37 true,gP 40 (.call 104) [.t 38,.t 39] 37 true,gP 41 (.un .not) [.t 40] 37 true,oP 42 .pick [.t 37,.t 41,.c (.bool false)],mP 43 (.t 42),gP 44 .mv [.v 0] 43 true,gP 45 .mv [.v 5] 43 true,gP 46 (.call 105) [.t 44,.t 45] 43 true,gP 47 (.un .not) [.t 46] 43 true,oP 48 .pick [.t 43,.t 47,.c (.bool false)],vP 12 (.t 48)] (.v 12) .skip c7j
def c7U:=Rg [] [nP 58 5,oP 59 (.build [.int .i64 0,.str []] [(0,1),(1,1)]) [.c (.int .i64 8),.t 58],xP (.stLc 4 2) [.l 4,.t 59] 4]
def d8N:=Rg [] [fP 72 0 (.l 3),lP 73 3 false 1 (.t 72),oP 74 (.build [.int .i64 0,.str []] [(0,1),(1,1)]) [.c (.int .i64 8),.t 73],xP (.stLc 4 2) [.l 4,.t 74] 4]
def d72:=Ts [] [fP 61 5 (.l 3),lP 62 3 false 1 (.t 61),mP 63 (.t 62),gP 64 .mv [.v 0] 63 true,gP 65 (.fad 2) [.l 3] 63 true,⟨.t 66,.ldLc 3 true 3,[.t 65],some 3,some (.t 63,true)⟩,gP 67 (.fad 6) [.l 3] 63 true,⟨.t 68,.ldLc 3 true 5,[.t 67],some 3,some (.t 63,true)⟩,gP 69 (.call 65) [.t 64,.t 66,.t 68] 63 true,gP 70 (.un .not) [.t 69] 63 true,oP 71 .pick [.t 63,.t 70,.c (.bool false)],mP 60 (.t 71)] (.t 60) (Sq d8N .ret) .skip
def c5d:=Ts [] [] (.v 12) (Sq c7U .ret) d72
def d5l:=Ts [] [nP 25 7,oP 26 (.un .not) [.t 25],mP 27 (.t 26),gP 28 .mv [.v 0] 27 true,gP 29 .mv [.v 5] 27 true,gP 30 (.call 104) [.t 28,.t 29] 27 true,gP 31 (.un .not) [.t 30] 27 true,oP 32 .pick [.t 27,.t 31,.c (.bool false)],mP 24 (.t 32)] (.t 24) (Sq e5b .ret) (Sq c4M c5d)
def d51:=Rg [8] [fP 75 1 (.l 3),lP 76 3 false 1 (.t 75),oP 77 (.call 80) [.t 76],oP 78 (.call 79) [.t 77],⟨.bx,.alloc [.int .i64 0,.str []],[],some 8,none⟩,xP (.stLc 8 2) [.l 8,.t 78] 8]
def c9G:=Rg [] [lP 82 8 true 2 (.l 8),xP (.stLc 4 2) [.l 4,.t 82] 4]
def d6r:=Ts [] [fP 79 0 (.l 8),lP 80 8 false 1 (.t 79),bP 81 .neq (.t 80) (.c (.int .i64 0))] (.t 81) (Sq c9G .ret) .skip
def c8K:=Rg [] [fP 83 1 (.l 3),⟨.v 13,.ldLc 3 false 1,[.t 83],some 3,none⟩,op (.v 14) .lenL [.v 13],vP 15 (.c (.int .i64 0))]
def d12:=Ts [] [bP 87 .lss (.v 15) (.v 14)] (.t 87) .skip (.exit 1)
def c33:=Rg [9] [oP 88 (.iad 11) [.v 13,.v 15],oP 89 (.ldRo true 11) [.t 88],⟨.bx,.alloc [.str [],.list true [],.str [],.list true [],.bool false,.bool false,.int .u8 0,.int .i64 0,.str [],.list true [],.list true []],[],some 9,none⟩,xP (.stLc 9 11) [.l 9,.ts 89] 9]
def d0u:=Rg [] [fP 90 2 (.l 9),lP 91 9 true 3 (.t 90),oP 92 (.call 62) [.t 91],vP 10 (.t 92)]
def c7e:=Rg [] [fP 106 0 (.l 9),lP 107 9 false 1 (.t 106),oP 108 (.build [.int .i64 0,.str []] [(0,1),(1,1)]) [.c (.int .i64 8),.t 107],xP (.stLc 4 2) [.l 4,.t 108] 4]
def d6h:=Ts [] [fP 104 5 (.l 9),lP 105 9 false 1 (.t 104)] (.t 105) (Sq c7e .ret) .skip
def d0k:=Rg [11] [nP 93 0,lP 94 9 true 11 (.l 9),oP 95 (.call 81) [.t 93,.t 94,.c (.bool true)],⟨.bx,.alloc [.int .i64 0,.str []],[],some 11,none⟩,xP (.stLc 11 2) [.l 11,.t 95] 11]
def d1u:=Rg [] [lP 99 11 true 2 (.l 11),xP (.stLc 4 2) [.l 4,.t 99] 4]
def d2I:=Ts [] [fP 96 0 (.l 11),lP 97 11 false 1 (.t 96),bP 98 .neq (.t 97) (.c (.int .i64 0))] (.t 98) (Sq d1u .ret) .skip
def c7O:=Ts [] [nP 101 0,nP 102 10,oP 103 (.call 64) [.t 101,.t 102],mP 100 (.t 103)] (.t 100) d6h (Sq d0k d2I)
def d7M:=Rg [] [bP 109 .add (.v 15) (.c (.int .i64 1)),vP 15 (.t 109)]
def c3X:=Rg [] [oP 110 (.build [.int .i64 0,.str []] []) [],xP (.stLc 4 2) [.l 4,.t 110] 4]
def f6i:ACode :=
  (Sq e6Z (Sq e75 (Sq e9w (Sq (Bk 0 d5l) (Sq (Sq d51 d6r) (Sq (Sq c8K (Bk 1 (Lp (Sq d12 (Sq (Bk 2 (Sq c33 (Sq d0u (Bk 3 c7O)))) d7M))))) (Sq c3X .ret)))))))
def a81:AFn:={ np:=3,nv:=16,results:=[.bx 4 true 2],code:=f6i }
def f3j:List Nat:=[0,1,2,4,6,7,8,9,10,12,13,14,35,84,85,86]
def f6U:List Nat:=[3,4,6,8,9,11]

def e4e:=Rg [] [vP 1 (.c (.bool false))]
def d90:=Rg [] [nP 3 0,oP 4 (.bin .eql) [.t 3,.c (.str [81,117,101,114,121])],mP 5 (.t 4),gP 6 .mv [.v 0] 5 false,gP 7 (.bin .eql) [.t 6,.c (.str [77,117,116,97,116,105,111,110])] 5 false,oP 8 .pick [.t 5,.c (.bool true),.t 7],vP 1 (.t 8)]
def f1u:ACode :=
  (Sq e4e (Sq d90 .ret))
def a82:AFn:={ np:=1,nv:=2,results:=[.v 1],code:=f1u }
def f2h:List Nat:=[0,2]
def f6T:List Nat:=[]

def e54:=Rg [4] [op (.v 3) .boxO [.v 1],⟨.bx,.boxV,[.v 2],some 4,none⟩,vP 5 (.c (.bool false))]
def e1n:=Rg [] [fP 7 2 (.l 4),lP 8 4 false 1 (.t 7),oP 9 (.mkF 133 0) [.v 3],oP 10 (.call 132) [.t 8,.t 9],oP 11 (.un .not) [.t 10],vP 5 (.t 11)]
def f3R:ACode :=
  (Sq e54 (Sq e1n .ret))
def a83:AFn:={ np:=3,nv:=6,results:=[.v 5],code:=f3R }
def f1h:List Nat:=[0,1,2,4,5,6]
def f4M:List Nat:=[4]

def e4X:=Rg [2] [⟨.bx,.boxV,[.v 1],some 2,none⟩,vP 3 (.c (.bool false))]
def e6k:=Rg [] [fP 5 1 (.l 2),lP 6 2 false 1 (.t 5),oP 7 .lenL [.t 6],bP 8 .eql (.t 7) (.c (.int .i64 1)),mP 9 (.t 8),gP 10 (.fad 1) [.l 2] 9 true,⟨.t 11,.ldLc 2 false 1,[.t 10],some 2,some (.t 9,true)⟩,gP 12 (.iad 11) [.t 11,.c (.int .i64 0)] 9 true,gP 13 (.ldRo true 11) [.t 12] 9 true,gP 14 (.call 135) [.t 13] 9 true,oP 15 .pick [.t 9,.t 14,.c (.bool false)],mP 16 (.t 15),gP 17 (.fad 2) [.l 2] 16 true,gP 18 (.fad 1) [.t 17] 16 true,⟨.t 19,.ldLc 2 false 1,[.t 18],some 2,some (.t 16,true)⟩,gP 20 .lenL [.t 19] 16 true,gP 21 (.bin .eql) [.t 20,.c (.int .i64 0)] 16 true,oP 22 .pick [.t 16,.t 21,.c (.bool false)],mP 23 (.t 22),gP 24 (.fad 2) [.l 2] 23 true,gP 25 (.fad 2) [.t 24] 23 true,⟨.t 26,.ldLc 2 false 1,[.t 25],some 2,some (.t 23,true)⟩,gP 27 (.un .not) [.t 26] 23 true,oP 28 .pick [.t 23,.t 27,.c (.bool false)],mP 29 (.t 28),gP 30 .mv [.v 0] 29 true,gP 31 (.fad 2) [.l 2] 29 true,gP 32 (.fad 0) [.t 31] 29 true,⟨.t 33,.ldLc 2 false 1,[.t 32],some 2,some (.t 29,true)⟩,gP 34 (.call 136) [.t 30,.t 33] 29 true,oP 35 .pick [.t 29,.t 34,.c (.bool false)],vP 3 (.t 35)]
def f5h:ACode :=
  (Sq e4X (Sq e6k .ret))
def a84:AFn:={ np:=2,nv:=4,results:=[.v 3],code:=f5h }
def f2k:List Nat:=[0,1,3,4]
def f6a:List Nat:=[2]

def f03:=Rg [2] [⟨.bx,.boxV,[.v 1],some 2,none⟩,vP 3 (.c (.bool false))]
def e8j:=Rg [] [fP 5 1 (.l 2),lP 6 2 false 1 (.t 5),oP 7 .lenL [.t 6],bP 8 .eql (.t 7) (.c (.int .i64 0)),mP 9 (.t 8),gP 10 .mv [.v 0] 9 true,gP 11 (.fad 2) [.l 2] 9 true,⟨.t 12,.ldLc 2 true 3,[.t 11],some 2,some (.t 9,true)⟩,gP 13 (.call 62) [.t 12] 9 true,gP 14 (.call 136) [.t 10,.t 13] 9 true,oP 15 .pick [.t 9,.t 14,.c (.bool false)],mP 16 (.t 15),gP 17 (.fad 2) [.l 2] 16 true,⟨.t 18,.ldLc 2 true 3,[.t 17],some 2,some (.t 16,true)⟩,gP 19 (.fad 2) [.l 2] 16 true,⟨.t 20,.ldLc 2 true 3,[.t 19],some 2,some (.t 16,true)⟩,gP 21 (.call 62) [.t 20] 16 true,⟨.t 22,(.build [.str [],.list true [],.bool false] [(0,1),(2,1)]),[.t 21,.c (.bool true)],none,some (.t 16,true)⟩,⟨.t 23,.bslice 3 [[.str [],.list true [],.bool false]] [0],[.t 22],none,some (.t 16,true)⟩,⟨.t 24,(.build [.str [],.list true [],.bool false] [(1,1),(2,1)]),[.t 23,.c (.bool true)],none,some (.t 16,true)⟩,gP 25 (.call 134) [.t 18,.t 24] 16 true,oP 26 .pick [.t 16,.t 25,.c (.bool false)],vP 3 (.t 26)]
def f6u:ACode :=
  (Sq f03 (Sq e8j .ret))
def a85:AFn:={ np:=2,nv:=4,results:=[.v 3],code:=f6u }
def f5j:List Nat:=[0,1,3,4]
def f6O:List Nat:=[2]

def f0e:=Rg [3] [op (.v 2) .boxO [.v 0],⟨.bx,.boxV,[.v 1],some 3,none⟩,vP 4 (.c (.bool false))]
def e41:=Rg [] [fP 11 0 (.l 3),lP 12 3 false 1 (.t 11),oP 13 (.call 137) [.t 12],mP 10 (.t 13),oP 14 (.ext 0) [.t 10],oP 15 (.ext 1) [.t 10],vP 5 (.t 14),vP 6 (.t 15)]
def d94:=Rg [] [oP 17 (.ldSt false 1) [.v 2],nP 18 6,oP 19 (.call 45) [.t 17,.t 18],mP 16 (.t 19),oP 20 (.ext 0) [.t 16],oP 21 (.ext 1) [.t 16],op (.v 7) (.allocO [.int .u8 0,.str [],.list true [],.list true []]) [],op .none (.stSt 4) [.v 7,.ts 20],vP 8 (.t 21)]
def e3Q:=Rg [] [vP 4 (.c (.bool false))]
def c4o:=Ts [] [nP 22 8,oP 23 (.un .not) [.t 22],mP 24 (.t 23),gP 25 (.fad 0) [.v 7] 24 false,gP 26 (.ldSt false 1) [.t 25] 24 false,gP 27 (.bin .neq) [.t 26,.c (.int .u8 1)] 24 false,oP 28 .pick [.t 24,.c (.bool true),.t 27],mP 29 (.t 28),gP 30 .mv [.v 6] 29 false,gP 31 (.call 82) [.t 30] 29 false,oP 32 .pick [.t 29,.c (.bool true),.t 31],mP 33 (.t 32),gP 34 (.fad 2) [.l 3] 33 false,⟨.t 35,.ldLc 3 true 3,[.t 34],some 3,some (.t 33,false)⟩,gP 36 .mv [.v 6] 33 false,⟨.t 37,(.build [.str [],.list true [],.bool false] [(0,1)]),[.t 36],none,some (.t 33,false)⟩,gP 38 (.call 134) [.t 35,.t 37] 33 false,gP 39 (.un .not) [.t 38] 33 false,oP 40 .pick [.t 33,.c (.bool true),.t 39]] (.t 40) (Sq e3Q .ret) .skip
def d3u:=Rg [] [fP 43 1 (.l 3),lP 44 3 false 1 (.t 43),oP 45 .lenL [.t 44],bP 46 .eql (.t 45) (.c (.int .i64 1)),mP 47 (.t 46),gP 48 (.fad 1) [.l 3] 47 true,⟨.t 49,.ldLc 3 false 1,[.t 48],some 3,some (.t 47,true)⟩,gP 50 (.iad 11) [.t 49,.c (.int .i64 0)] 47 true,gP 51 (.ldRo true 11) [.t 50] 47 true,gP 52 (.call 135) [.t 51] 47 true,oP 53 .pick [.t 47,.t 52,.c (.bool false)],vP 4 (.t 53)]
end Go.Cb.CodeA
