import Derived.Test.YtdlgfdncpemcnaaGreatDoorStrD
set_option linter.all false
namespace Go.Cb.CodeA
open Go Go.Cb
open Go.Cb.ACode renaming seq→Sq,reg→Rg,test→Ts,blk→Bk,loop→Lp
abbrev op (d:Dst) (k:Kind) (a:List Opd):AOper:=⟨d,k,a,none,none⟩
abbrev oP (t:Nat) (k:Kind) (a:List Opd):AOper:=⟨.t t,k,a,none,none⟩
abbrev mP (t:Nat) (a:Opd):AOper:=⟨.t t,.mv,[a],none,none⟩
abbrev nP (t v:Nat):AOper:=⟨.t t,.mv,[.v v],none,none⟩
abbrev gP (t:Nat) (k:Kind) (a:List Opd) (x:Nat) (b:Bool):AOper:=⟨.t t,k,a,none,some (.t x,b)⟩
abbrev xP (k:Kind) (a:List Opd) (v:Nat):AOper:=⟨.none,k,a,some v,none⟩
abbrev vP (v:Nat) (a:Opd):AOper:=⟨.v v,.mv,[a],none,none⟩
abbrev lP (t v:Nat) (b:Bool) (n:Nat) (a:Opd):AOper:=⟨.t t,.ldLc v b n,[a],some v,none⟩
abbrev bP (t:Nat) (o:BinOp) (a b:Opd):AOper:=⟨.t t,.bin o,[a,b],none,none⟩
abbrev fP (t n:Nat) (a:Opd):AOper:=⟨.t t,.fad n,[a],none,none⟩
def a4s1:=Rg [] [vP 3 (.c (.bool false))]
def a4s4:=Rg [] [vP 3 (.c (.bool false))]
def a4s6:=Ts [] [oP 15 (.call 5) [],oP 16 (.un .not) [.t 15]] (.t 16) (Sq a4s4 .ret) .skip
def a4s8:=Rg [] [oP 18 (.call 6) [],mP 17 (.t 18),oP 19 (.ext 0) [.t 17],oP 20 (.ext 1) [.t 17],vP 4 (.t 19),mP 8 (.t 20)]
def a4s10:=Rg [5] [nP 21 0,oP 22 (.call 11) [.t 21],oP 23 (.call 7) [.t 22],⟨.bx,.alloc [.nils],[],some 5,none⟩,xP (.stLc 5 1) [.l 5,.ts 23] 5]
def a4s12:=Rg [] [nP 24 1,oP 25 (.build [.int .u8 0,.int .u8 0,.int .i32 0,.str [],.list true [],.int .u8 0] [(1,1)]) [.t 24],oP 26 (.call 12) [.t 25],oP 27 (.fld 1 1 false) [.t 26],vP 6 (.t 27)]
def a4s14:=Rg [7] [oP 28 (.call 9) [],⟨.bx,.alloc [.int .u8 0,.int .i64 0,.str [],.list true [],.list true []],[],some 7,none⟩,xP (.stLc 7 5) [.l 7,.ts 28] 7]
def a4s16:=Rg [] [oP 29 (.bslice 1 [[.str []],[.str []]] [0,1]) [.c (.str [105,100]),.c (.str [110])],fP 30 3 (.l 7),xP (.stLc 7 1) [.t 30,.ts 29] 7]
def a4s18:=Rg [] [nP 31 6,oP 32 (.build [.int .u8 0,.int .i64 0,.str [],.list true [],.list true []] [(0,1),(2,1)]) [.c (.int .u8 2),.t 31],nP 33 2,oP 34 (.conv .i64) [.t 33],oP 35 (.build [.int .u8 0,.int .i64 0,.str [],.list true [],.list true []] [(0,1),(1,1)]) [.c (.int .u8 1),.t 34],oP 36 (.bslice 5 [[.int .u8 0,.int .i64 0,.str [],.list true [],.list true []],[.int .u8 0,.int .i64 0,.str [],.list true [],.list true []]] [0,1]) [.t 32,.t 35],fP 37 4 (.l 7),xP (.stLc 7 1) [.t 37,.ts 36] 7]
def a4s20:=Rg [] [op (.v 8) .mv [.c (.str [109,117,116,97,116,105,111,110,32,77,40,36,105,100,58,32,73,68,33,44,32,36,110,58,32,73,110,116,41,32,123,97,58,32,99,114,101,97,116,101,80,101,114,115,111,110,40,105,100,58,32,34,110,101,119,34,44,32,105,110,112,117,116,58,32,123,110,97,109,101,58,32,34,110,34,44,32,97,103,101,58,32,36,110,125,41,32,123,97,103,101,125,32,98,58,32,117,112,100,97,116,101,80,101,114,115,111,110,40,105,100,58,32,36,105,100,44,32,105,110,112,117,116,58,32,123,97,103,101,58,32,36,110,44,32,110,97,109,101,58,32,34,109,34,125,41,32,123,110,97,109,101,125,32,99,58,32,100,101,108,101,116,101,80,101,114,115,111,110,40,105,100,58,32,34,110,111,98,111,100,121,34,41,32,123,110,97,109,101,125,125])]]
def a4s22:=Rg [9,10] [nP 39 4,lP 40 5 true 1 (.l 5),nP 41 8,lP 42 7 true 5 (.l 7),oP 43 (.call 8) [.t 39,.t 40,.t 41,.t 42],mP 38 (.t 43),oP 44 (.ext 0) [.t 38],oP 45 (.ext 1) [.t 38],⟨.bx,.alloc [.nils],[],some 9,none⟩,⟨.bx,.alloc [.int .i64 0,.int .u8 0,.int .i64 0,.str [],.list true [],.list true [],.list true []],[],some 10,none⟩,xP (.stLc 9 1) [.l 9,.ts 44] 9,xP (.stLc 10 7) [.l 10,.ts 45] 10]
def a4s24:=Rg [] [fP 46 0 (.l 10),lP 47 10 false 1 (.t 46),bP 48 .eql (.t 47) (.c (.int .i64 0)),mP 49 (.t 48),gP 50 (.fad 6) [.l 10] 49 true,⟨.t 51,.ldLc 10 false 1,[.t 50],some 10,some (.t 49,true)⟩,gP 52 .lenL [.t 51] 49 true,gP 53 (.bin .gtr) [.t 52,.c (.int .i64 0)] 49 true,oP 54 .pick [.t 49,.t 53,.c (.bool false)],mP 55 (.t 54),⟨.t 56,.ldLc 9 true 1,[.l 9],some 9,some (.t 55,true)⟩,gP 57 (.call 14) [.t 56] 55 true,⟨.t 58,.ldLc 5 true 1,[.l 5],some 5,some (.t 55,true)⟩,gP 59 (.call 14) [.t 58] 55 true,gP 60 (.call 13) [.t 57,.t 59] 55 true,oP 61 .pick [.t 55,.t 60,.c (.bool false)],vP 3 (.t 61)]
def a4c:ACode :=
  (Sq a4s1 (Sq a4s6 (Sq a4s8 (Sq a4s10 (Sq a4s12 (Sq a4s14 (Sq a4s16 (Sq a4s18 (Sq a4s20 (Sq a4s22 (Sq a4s24 .ret)))))))))))
def a4:AFn:={ np:=3,nv:=11,results:=[.v 3],code:=a4c }
def g5d:=Rg [] [vP 0 (.c (.bool false))]
def g3H:=Rg [] [oP 7 (.call 6) [],mP 6 (.t 7),oP 8 (.ext 0) [.t 6],oP 9 (.ext 1) [.t 6],vP 1 (.t 8),mP 2 (.t 9)]
def g7s:=Rg [2] [⟨.bx,.alloc [.nils],[],some 2,none⟩]
def g40:=Rg [3] [nP 11 1,lP 12 2 true 1 (.l 2),oP 13 (.call 9) [],oP 14 (.call 8) [.t 11,.t 12,.c (.str [109,117,116,97,116,105,111,110,32,123,99,114,101,97,116,101,68,111,103,40,105,100,58,32,49,44,32,105,110,112,117,116,58,32,123,125,41,32,123,98,97,114,107,115,125,125]),.t 13],mP 10 (.t 14),oP 15 (.ext 0) [.t 10],oP 16 (.ext 1) [.t 10],⟨.bx,.alloc [.int .i64 0,.int .u8 0,.int .i64 0,.str [],.list true [],.list true [],.list true []],[],some 3,none⟩,xP (.stLc 2 1) [.l 2,.ts 15] 2,xP (.stLc 3 7) [.l 3,.ts 16] 3]
def g57:=Rg [4] [nP 18 1,lP 19 2 true 1 (.l 2),oP 20 (.call 9) [],oP 21 (.call 8) [.t 18,.t 19,.c (.str [109,117,116,97,116,105,111,110,32,123,99,114,101,97,116,101,68,111,103,40,105,100,58,32,49,44,32,105,110,112,117,116,58,32,123,125,41,32,123,98,97,114,107,115,125,125]),.t 20],mP 17 (.t 21),oP 22 (.ext 0) [.t 17],oP 23 (.ext 1) [.t 17],⟨.bx,.alloc [.int .i64 0,.int .u8 0,.int .i64 0,.str [],.list true [],.list true [],.list true []],[],some 4,none⟩,xP (.stLc 2 1) [.l 2,.ts 22] 2,xP (.stLc 4 7) [.l 4,.ts 23] 4]
def f6x:=Rg [] [fP 24 0 (.l 3),lP 25 3 false 1 (.t 24),bP 26 .eql (.t 25) (.c (.int .i64 0)),mP 27 (.t 26),gP 28 (.fad 6) [.l 3] 27 true,⟨.t 29,.ldLc 3 false 1,[.t 28],some 3,some (.t 27,true)⟩,gP 30 .lenL [.t 29] 27 true,gP 31 (.bin .eql) [.t 30,.c (.int .i64 0)] 27 true,oP 32 .pick [.t 27,.t 31,.c (.bool false)],mP 33 (.t 32),⟨.t 34,.ldLc 2 true 1,[.l 2],some 2,some (.t 33,true)⟩,gP 35 (.call 10) [.t 34] 33 true,gP 36 (.bin .eql) [.t 35,.c (.int .i64 1)] 33 true,oP 37 .pick [.t 33,.t 36,.c (.bool false)],mP 38 (.t 37),gP 39 (.fad 6) [.l 4] 38 true,⟨.t 40,.ldLc 4 false 1,[.t 39],some 4,some (.t 38,true)⟩,gP 41 .lenL [.t 40] 38 true,gP 42 (.bin .eql) [.t 41,.c (.int .i64 1)] 38 true,oP 43 .pick [.t 38,.t 42,.c (.bool false)],mP 44 (.t 43),gP 45 (.fad 6) [.l 4] 44 true,⟨.t 46,.ldLc 4 false 1,[.t 45],some 4,some (.t 44,true)⟩,gP 47 (.iad 2) [.t 46,.c (.int .i64 0)] 44 true,gP 48 (.fad 1) [.t 47] 44 true,gP 49 (.ldSt false 1) [.t 48] 44 true,gP 50 (.bin .eql) [.t 49,.c (.int .i64 7)] 44 true,oP 51 .pick [.t 44,.t 50,.c (.bool false)],mP 52 (.t 51),oP 53 .pick [.t 52,.c (.bool true),.c (.bool false)],vP 0 (.t 53)]
def a5c:ACode :=
  (Sq g5d (Sq g3H (Sq g7s (Sq g40 (Sq g57 (Sq f6x .ret))))))
def a5:AFn:={ np:=0,nv:=5,results:=[.v 0],code:=a5c }
def g39:=Rg [] [vP 0 (.c (.nilp)),vP 1 (.c (.nilp))]
def g7e:=Rg [] [oP 12 (.call 15) [.c (.str [105,110,116,101,114,102,97,99,101,32,78,97,109,101,100,32,123,32,110,97,109,101,58,32,83,116,114,105,110,103,33,32,125,32,101,110,117,109,32,77,111,111,100,32,123,32,72,65,80,80,89,32,83,65,68,32,125,32,116,121,112,101,32,80,101,114,115,111,110,32,105,109,112,108,101,109,101,110,116,115,32,78,97,109,101,100,32,123,32,110,97,109,101,58,32,83,116,114,105,110,103,33,32,97,103,101,58,32,73,110,116,32,109,111,111,100,58,32,77,111,111,100,32,102,114,105,101,110,100,115,58,32,91,80,101,114,115,111,110,33,93,32,112,101,116,58,32,80,101,116,32,116,97,103,115,58,32,91,83,116,114,105,110,103,93,32,125,32,116,121,112,101,32,67,97,116,32,105,109,112,108,101,109,101,110,116,115,32,78,97,109,101,100,32,123,32,110,97,109,101,58,32,83,116,114,105,110,103,33,32,108,105,118,101,115,58,32,73,110,116,33,32,111,119,110,101,114,58,32,80,101,114,115,111,110,32,125,32,116,121,112,101,32,68,111,103,32,123,32,98,97,114,107,115,58,32,66,111,111,108,101,97,110,32,125,32,117,110,105,111,110,32,80,101,116,32,61,32,67,97,116,32,124,32,68,111,103,32,105,110,112,117,116,32,80,101,114,115,111,110,73,110,32,123,32,110,97,109,101,58,32,83,116,114,105,110,103,32,97,103,101,58,32,73,110,116,32,61,32,55,32,109,111,111,100,58,32,77,111,111,100,32,102,114,105,101,110,100,115,58,32,91,73,68,33,93,32,112,101,116,58,32,73,68,32,116,97,103,115,58,32,91,83,116,114,105,110,103,93,32,125,32,105,110,112,117,116,32,67,97,116,73,110,32,123,32,110,97,109,101,58,32,83,116,114,105,110,103,33,32,108,105,118,101,115,58,32,73,110,116,32,111,119,110,101,114,58,32,73,68,32,125,32,105,110,112,117,116,32,68,111,103,73,110,32,123,32,98,97,114,107,115,58,32,66,111,111,108,101,97,110,32,125,32,116,121,112,101,32,81,117,101,114,121,32,123,32,112,101,114,115,111,110,40,105,100,58,32,73,68,33,41,58,32,80,101,114,115,111,110,32,110,97,109,101,100,40,105,100,58,32,73,68,33,41,58,32,78,97,109,101,100,32,112,101,111,112,108,101,58,32,91,80,101,114,115,111,110,33,93,33,32,112,101,116,115,58,32,91,80,101,116,33,93,33,32,97,108,108,58,32,91,78,97,109,101,100,33,93,33,32,125,32,116,121,112,101,32,77,117,116,97,116,105,111,110,32,123,32,99,114,101,97,116,101,80,101,114,115,111,110,40,105,100,58,32,73,68,33,44,32,105,110,112,117,116,58,32,80,101,114,115,111,110,73,110,33,41,58,32,80,101,114,115,111,110,32,117,112,100,97,116,101,80,101,114,115,111,110,40,105,100,58,32,73,68,33,44,32,105,110,112,117,116,58,32,80,101,114,115,111,110,73,110,33,41,58,32,80,101,114,115,111,110,32,100,101,108,101,116,101,80,101,114,115,111,110,40,105,100,58,32,73,68,33,41,58,32,80,101,114,115,111,110,32,99,114,101,97,116,101,67,97,116,40,105,100,58,32,73,68,33,44,32,105,110,112,117,116,58,32,67,97,116,73,110,33,41,58,32,67,97,116,32,99,114,101,97,116,101,68,111,103,40,105,100,58,32,73,68,33,44,32,105,110,112,117,116,58,32,68,111,103,73,110,33,41,58,32,68,111,103,32,100,101,108,101,116,101,67,97,116,40,105,100,58,32,73,68,33,41,58,32,67,97,116,32,125])],mP 11 (.t 12),oP 13 (.ext 0) [.t 11],oP 14 (.ext 1) [.t 11],oP 15 (.ext 2) [.t 11],vP 2 (.ts 13),mP 3 (.t 14),vP 3 (.t 15)]
def g68:=Rg [] [vP 0 (.c (.nilp)),vP 1 (.c (.nilp))]
def g4O:=Ts [] [nP 16 3,bP 17 .neq (.t 16) (.c (.int .i64 0))] (.t 17) (Sq g68 .ret) .skip
def f8J:=Rg [] [nP 19 2,oP 20 (.call 16) [.t 19],mP 18 (.t 20),oP 21 (.ext 0) [.t 18],oP 22 (.ext 1) [.t 18],oP 23 (.ext 2) [.t 18],vP 4 (.t 21),mP 6 (.t 22),mP 7 (.t 23)]
def f9p:=Rg [] [nP 25 2,oP 26 (.call 17) [.t 25],mP 24 (.t 26),oP 27 (.ext 0) [.t 24],oP 28 (.ext 1) [.t 24],oP 29 (.ext 2) [.t 24],vP 5 (.t 27),mP 9 (.t 28),mP 10 (.t 29)]
def f8i:=Rg [] [nP 30 4,nP 31 5,vP 0 (.t 30),vP 1 (.t 31)]
def a6c:ACode :=
  (Sq g39 (Sq g7e (Sq g4O (Sq f8J (Sq f9p (Sq f8i .ret))))))
def a6:AFn:={ np:=0,nv:=6,results:=[.v 0,.v 1],code:=a6c }
def a7s1:=Rg [1] [⟨.bx,.alloc [.nils],[],some 1,none⟩]
def a7s3:=Rg [2] [⟨.bx,.alloc [.nils],[],some 2,none⟩]
def a7s5:=Rg [] [vP 4 (.v 0),op (.v 5) .lenL [.v 4],vP 6 (.c (.int .i64 0))]
def a7s7:=Ts [] [bP 9 .lss (.v 6) (.v 5)] (.t 9) .skip (.exit 0)
def a7s9:=Rg [3] [oP 10 (.iad 4) [.v 4,.v 6],oP 11 (.ldRo true 4) [.t 10],⟨.bx,.alloc [.str [],.str [],.list true [],.list true []],[],some 3,none⟩,xP (.stLc 3 4) [.l 3,.ts 11] 3]
def a7s11:=Rg [] [lP 12 2 true 1 (.l 2),lP 13 3 true 4 (.l 3),oP 14 (.call 18) [.t 12,.t 13],xP (.stLc 2 1) [.l 2,.ts 14] 2]
def a7s15:=Rg [] [bP 15 .add (.v 6) (.c (.int .i64 1)),vP 6 (.t 15)]
def a7s22:=Rg [] [lP 16 2 true 1 (.l 2),xP (.stLc 1 1) [.l 1,.ts 16] 1]
def a7c:ACode :=
  (Sq a7s1 (Sq a7s3 (Sq (Sq a7s5 (Bk 0 (Lp (Sq a7s7 (Sq (Bk 1 (Sq a7s9 a7s11)) a7s15))))) (Sq a7s22 .ret))))
def a7:AFn:={ np:=1,nv:=7,results:=[.bx 1 true 1],code:=a7c }
def a8s1:=Rg [4,5,6,7] [⟨.bx,.boxV,[.v 1],some 4,none⟩,⟨.bx,.boxV,[.v 3],some 5,none⟩,⟨.bx,.alloc [.nils],[],some 6,none⟩,⟨.bx,.alloc [.int .i64 0,.int .u8 0,.int .i64 0,.str [],.list true [],.list true [],.list true []],[],some 7,none⟩]
def a8s3:=Rg [8] [nP 13 0,nP 14 2,oP 15 (.call 19) [.t 13,.t 14],mP 12 (.t 15),oP 16 (.ext 0) [.t 12],oP 17 (.ext 1) [.t 12],⟨.bx,.alloc [.nils,.nils],[],some 8,none⟩,xP (.stLc 8 2) [.l 8,.ts 16] 8,vP 9 (.t 17)]
def a8s6:=Rg [] [lP 20 4 true 1 (.l 4),nP 21 9,oP 22 (.build [.int .i64 0,.int .u8 0,.int .i64 0,.str [],.list true [],.list true [],.list true []] [(0,1)]) [.t 21],xP (.stLc 6 1) [.l 6,.ts 20] 6,xP (.stLc 7 7) [.l 7,.ts 22] 7]
def a8s8:=Ts [] [nP 18 9,bP 19 .neq (.t 18) (.c (.int .i64 0))] (.t 19) (Sq a8s6 .ret) .skip
def a8s10:=Rg [] [nP 23 0,lP 24 4 true 1 (.l 4),lP 25 8 true 2 (.l 8),lP 26 5 true 5 (.l 5),oP 27 (.call 20) [.t 23,.t 24,.t 25,.c (.str []),.t 26],oP 28 (.ext 0) [.t 27],oP 29 (.ext 1) [.t 27],xP (.stLc 6 1) [.l 6,.ts 28] 6,xP (.stLc 7 7) [.l 7,.ts 29] 7]
def a8c:ACode :=
  (Sq a8s1 (Sq a8s3 (Sq a8s8 (Sq a8s10 .ret))))
def a8:AFn:={ np:=4,nv:=10,results:=[.bx 6 true 1,.bx 7 true 7],code:=a8c }
def g8w:=Rg [0] [⟨.bx,.alloc [.int .u8 0,.int .i64 0,.str [],.list true [],.list true []],[],some 0,none⟩]
def g5l:=Rg [] [oP 1 (.build [.int .u8 0,.int .i64 0,.str [],.list true [],.list true []] [(0,1)]) [.c (.int .u8 6)],xP (.stLc 0 5) [.l 0,.ts 1] 0]
def a9c:ACode :=
  (Sq g8w (Sq g5l .ret))
def a9:AFn:={ np:=0,nv:=1,results:=[.bx 0 true 5],code:=a9c }
def f6X:=Rg [1] [⟨.bx,.boxV,[.v 0],some 1,none⟩,vP 2 (.c (.int .i64 0))]
def g0r:=Rg [] [fP 3 0 (.l 1),lP 4 1 false 1 (.t 3),oP 5 .lenL [.t 4],vP 2 (.t 5)]
def g4W:ACode :=
  (Sq f6X (Sq g0r .ret))
def a10:AFn:={ np:=1,nv:=3,results:=[.v 2],code:=g4W }
def a11s1:=Rg [] [op (.v 1) .mv [.c (.list true [])]]
def a11s3:=Rg [] [op (.v 2) .mv [.c (.list true [])]]
def a11s5:=Rg [] [vP 3 (.c (.int .i64 0))]
def a11s7:=Ts [] [nP 5 3,nP 6 0,oP 7 .lenL [.t 6],bP 8 .lss (.t 5) (.t 7),mP 9 (.t 8),gP 10 .mv [.v 3] 9 true,gP 11 (.bin .lss) [.t 10,.c (.int .i64 12)] 9 true,oP 12 .pick [.t 9,.t 11,.c (.bool false)]] (.t 12) .skip (.exit 0)
def a11s9:=Rg [] [mP 15 (.vs 2),nP 16 0,nP 17 3,oP 18 (.iad 6) [.t 16,.t 17],oP 19 (.ldRo true 6) [.t 18],oP 20 (.call 12) [.t 19],oP 21 (.bslice 4 [[.str [],.str [],.list true [],.list true []]] [0]) [.t 20],oP 22 (.app 4 80) [.ts 15,.t 21],vP 2 (.ts 22)]
def a11s12:=Rg [] [nP 13 3,bP 14 .add (.t 13) (.c (.int .i64 1)),vP 3 (.t 14)]
def a11s19:=Rg [] [nP 23 2,vP 1 (.ts 23)]
def a11c:ACode :=
  (Sq a11s1 (Sq a11s3 (Sq (Sq a11s5 (Bk 0 (Lp (Sq a11s7 (Sq (Bk 1 a11s9) a11s12))))) (Sq a11s19 .ret))))
def a11:AFn:={ np:=1,nv:=4,results:=[.v 1],code:=a11c }
def a12s1:=Rg [1,2] [⟨.bx,.boxV,[.v 0],some 1,none⟩,⟨.bx,.alloc [.str [],.str [],.list true [],.list true []],[],some 2,none⟩]
def a12s3:=Rg [] [oP 15 (.bslice 1 [[.str []],[.str []],[.str []],[.str []],[.str []],[.str []],[.str []],[.str []]] [0,1,2,3,4,5,6,7]) [.c (.str [97]),.c (.str [98]),.c (.str [99]),.c (.str [100]),.c (.str [101]),.c (.str [49,48]),.c (.str [57]),.c (.str [])],vP 3 (.ts 15)]
def a12s5:=Rg [4] [nP 16 3,fP 17 1 (.l 1),lP 18 1 false 1 (.t 17),bP 19 .rem (.t 18) (.c (.int .u8 8)),oP 20 (.iad 1) [.t 16,.t 19],oP 21 (.ldAn false 1) [.t 20],oP 22 (.build [.str [],.str [],.list true [],.list true []] [(1,1)]) [.t 21],⟨.bx,.alloc [.str [],.str [],.list true [],.list true []],[],some 4,none⟩,xP (.stLc 4 4) [.l 4,.ts 22] 4]
def a12s7:=Rg [5] [fP 23 3 (.l 1),lP 24 1 false 1 (.t 23),oP 25 (.build [.int .u8 0,.int .i64 0,.str [],.list true [],.list true []] [(0,1),(2,1)]) [.c (.int .u8 2),.t 24],⟨.bx,.alloc [.int .u8 0,.int .i64 0,.str [],.list true [],.list true []],[],some 5,none⟩,xP (.stLc 5 5) [.l 5,.ts 25] 5]
def a12s9:=Rg [6] [fP 26 2 (.l 1),lP 27 1 false 1 (.t 26),oP 28 (.conv .i64) [.t 27],oP 29 (.build [.int .u8 0,.int .i64 0,.str [],.list true [],.list true []] [(0,1),(1,1)]) [.c (.int .u8 1),.t 28],⟨.bx,.alloc [.int .u8 0,.int .i64 0,.str [],.list true [],.list true []],[],some 6,none⟩,xP (.stLc 6 5) [.l 6,.ts 29] 6]
def a12s11:=Rg [7] [⟨.bx,.alloc [.int .u8 0,.int .i64 0,.str [],.list true [],.list true []],[],some 7,none⟩]
def a12s13:=Rg [] [fP 30 0 (.l 7),xP (.stLc 7 1) [.t 30,.c (.int .u8 5)] 7]
def a12s15:=Rg [8] [oP 31 (.build [.int .u8 0,.int .i64 0,.str [],.list true [],.list true []] []) [],⟨.bx,.alloc [.int .u8 0,.int .i64 0,.str [],.list true [],.list true []],[],some 8,none⟩,xP (.stLc 8 5) [.l 8,.ts 31] 8]
def a12s17:=Rg [] [vP 9 (.c (.int .i64 0))]
def a12s19:=Ts [] [nP 32 9,fP 33 4 (.l 1),lP 34 1 false 1 (.t 33),oP 35 .lenL [.t 34],bP 36 .lss (.t 32) (.t 35),mP 37 (.t 36),gP 38 .mv [.v 9] 37 true,gP 39 (.bin .lss) [.t 38,.c (.int .i64 6)] 37 true,oP 40 .pick [.t 37,.t 39,.c (.bool false)]] (.t 40) .skip (.exit 0)
def a12s21:=Rg [] [nP 43 3,fP 44 4 (.l 1),lP 45 1 false 1 (.t 44),nP 46 9,oP 47 (.iad 1) [.t 45,.t 46],oP 48 (.ldRo false 1) [.t 47],bP 49 .rem (.t 48) (.c (.int .u8 8)),oP 50 (.iad 1) [.t 43,.t 49],oP 51 (.ldAn false 1) [.t 50],oP 52 (.build [.int .u8 0,.int .i64 0,.str [],.list true [],.list true []] [(0,1),(2,1)]) [.c (.int .u8 8),.t 51],xP (.stLc 8 5) [.l 8,.ts 52] 8]
def a12s23:=Rg [] [fP 53 4 (.l 7),⟨.t 54,.ldLcS 7,[.t 53],some 7,none⟩,lP 55 8 true 5 (.l 8),oP 56 (.bslice 5 [[.int .u8 0,.int .i64 0,.str [],.list true [],.list true []]] [0]) [.t 55],oP 57 (.app 5 80) [.ts 54,.t 56],fP 58 4 (.l 7),xP (.stLc 7 1) [.t 58,.ts 57] 7]
def a12s27:=Rg [] [nP 41 9,bP 42 .add (.t 41) (.c (.int .i64 1)),vP 9 (.t 42)]
def a12s35:=Rg [] [lP 63 6 true 5 (.l 6),xP (.stLc 5 5) [.l 5,.ts 63] 5]
def a12s36:=Ts [] [fP 59 5 (.l 1),lP 60 1 false 1 (.t 59),bP 61 .rem (.t 60) (.c (.int .u8 16)),bP 62 .eql (.t 61) (.c (.int .u8 15))] (.t 62) a12s35 .skip
def a12s38:=Rg [] [fP 64 0 (.l 1),lP 65 1 false 1 (.t 64),op (.v 15) (.bin .rem) [.t 65,.c (.int .u8 4)]]
def a12s41:=Rg [] [bP 79 .eql (.v 15) (.c (.int .u8 1)),vP 16 (.t 79)]
def a12s42:=Ts [] [bP 78 .eql (.v 15) (.c (.int .u8 0)),vP 16 (.t 78)] (.v 16) .skip a12s41
def a12s44:=Rg [] [fP 80 0 (.l 4),xP (.stLc 4 1) [.t 80,.c (.str [80,101,114,115,111,110])] 4]
def a12s46:=Rg [] [oP 81 (.bslice 1 [[.str []],[.str []],[.str []],[.str []],[.str []],[.str []]] [0,1,2,3,4,5]) [.c (.str [97,103,101]),.c (.str [102,114,105,101,110,100,115]),.c (.str [109,111,111,100]),.c (.str [110,97,109,101]),.c (.str [112,101,116]),.c (.str [116,97,103,115])],fP 82 2 (.l 4),xP (.stLc 4 1) [.t 82,.ts 81] 4]
def a12s48:=Rg [10] [oP 83 (.build [.int .u8 0,.int .i64 0,.str [],.list true [],.list true []] [(0,1),(2,1)]) [.c (.int .u8 4),.c (.str [83,65,68])],⟨.bx,.alloc [.int .u8 0,.int .i64 0,.str [],.list true [],.list true []],[],some 10,none⟩,xP (.stLc 10 5) [.l 10,.ts 83] 10]
def a12s51:=Rg [] [fP 88 2 (.l 10),xP (.stLc 10 1) [.t 88,.c (.str [71,76,65,68])] 10]
def a12s52:=Ts [] [fP 84 2 (.l 1),lP 85 1 false 1 (.t 84),bP 86 .rem (.t 85) (.c (.int .i32 7)),bP 87 .eql (.t 86) (.c (.int .i32 0))] (.t 87) a12s51 .skip
def a12s54:=Rg [] [lP 89 6 true 5 (.l 6),lP 90 7 true 5 (.l 7),lP 91 10 true 5 (.l 10),lP 92 5 true 5 (.l 5),lP 93 8 true 5 (.l 8),lP 94 5 true 5 (.l 5),oP 95 (.build [.int .u8 0,.int .i64 0,.str [],.list true [],.list true []] []) [],oP 96 (.bslice 5 [[.int .u8 0,.int .i64 0,.str [],.list true [],.list true []],[.int .u8 0,.int .i64 0,.str [],.list true [],.list true []]] [0,1]) [.t 94,.t 95],oP 97 (.build [.int .u8 0,.int .i64 0,.str [],.list true [],.list true []] [(0,1),(4,1)]) [.c (.int .u8 5),.t 96],oP 98 (.bslice 5 [[.int .u8 0,.int .i64 0,.str [],.list true [],.list true []],[.int .u8 0,.int .i64 0,.str [],.list true [],.list true []],[.int .u8 0,.int .i64 0,.str [],.list true [],.list true []],[.int .u8 0,.int .i64 0,.str [],.list true [],.list true []],[.int .u8 0,.int .i64 0,.str [],.list true [],.list true []],[.int .u8 0,.int .i64 0,.str [],.list true [],.list true []]] [0,1,2,3,4,5]) [.t 89,.t 90,.t 91,.t 92,.t 93,.t 97],fP 99 3 (.l 4),xP (.stLc 4 1) [.t 99,.ts 98] 4]
def a12s61:=Rg [] [fP 102 0 (.l 4),xP (.stLc 4 1) [.t 102,.c (.str [67,97,116])] 4]
def a12s63:=Rg [] [oP 103 (.bslice 1 [[.str []],[.str []],[.str []]] [0,1,2]) [.c (.str [108,105,118,101,115]),.c (.str [110,97,109,101]),.c (.str [111,119,110,101,114])],fP 104 2 (.l 4),xP (.stLc 4 1) [.t 104,.ts 103] 4]
def a12s65:=Rg [] [lP 105 6 true 5 (.l 6),lP 106 5 true 5 (.l 5),lP 107 8 true 5 (.l 8),oP 108 (.bslice 5 [[.int .u8 0,.int .i64 0,.str [],.list true [],.list true []],[.int .u8 0,.int .i64 0,.str [],.list true [],.list true []],[.int .u8 0,.int .i64 0,.str [],.list true [],.list true []]] [0,1,2]) [.t 105,.t 106,.t 107],fP 109 3 (.l 4),xP (.stLc 4 1) [.t 109,.ts 108] 4]
def a12s69:=Rg [] [fP 67 0 (.l 4),xP (.stLc 4 1) [.t 67,.c (.str [68,111,103])] 4]
def a12s71:=Rg [] [oP 68 (.bslice 1 [[.str []]] [0]) [.c (.str [98,97,114,107,115])],fP 69 2 (.l 4),xP (.stLc 4 1) [.t 69,.ts 68] 4]
def a12s73:=Rg [] [fP 70 5 (.l 1),lP 71 1 false 1 (.t 70),bP 72 .rem (.t 71) (.c (.int .u8 2)),oP 73 (.conv .i64) [.t 72],oP 74 (.build [.int .u8 0,.int .i64 0,.str [],.list true [],.list true []] [(0,1),(1,1)]) [.c (.int .u8 3),.t 73],oP 75 (.bslice 5 [[.int .u8 0,.int .i64 0,.str [],.list true [],.list true []]] [0]) [.t 74],fP 76 3 (.l 4),xP (.stLc 4 1) [.t 76,.ts 75] 4]
def a12s76:=Ts [] [bP 101 .eql (.v 15) (.c (.int .u8 2)),mP 100 (.t 101)] (.t 100) (Sq a12s61 (Sq a12s63 a12s65)) (Sq a12s69 (Sq a12s71 a12s73))
def a12s77:=Ts [] [] (.v 16) (Sq a12s44 (Sq a12s46 (Sq a12s48 (Sq a12s52 a12s54)))) a12s76
def a12s83:=Rg [] [fP 120 5 (.l 1),lP 121 1 false 1 (.t 120),bP 122 .quo (.t 121) (.c (.int .u8 5)),oP 123 (.conv .i64) [.t 122],fP 124 2 (.l 4),lP 125 4 false 1 (.t 124),oP 126 .lenL [.t 125],bP 127 .rem (.t 123) (.t 126),vP 11 (.t 127)]
def a12s85:=Rg [] [op (.v 12) .mv [.c (.list true [])]]
def a12s87:=Rg [] [op (.v 13) .mv [.c (.list true [])]]
def a12s89:=Rg [] [vP 14 (.c (.int .i64 0))]
def a12s91:=Ts [] [nP 128 14,fP 129 2 (.l 4),lP 130 4 false 1 (.t 129),oP 131 .lenL [.t 130],bP 132 .lss (.t 128) (.t 131)] (.t 132) .skip (.exit 3)
def a12s94:=Rg [] [mP 138 (.vs 12),fP 139 2 (.l 4),lP 140 4 false 1 (.t 139),nP 141 14,oP 142 (.iad 1) [.t 140,.t 141],oP 143 (.ldAn false 1) [.t 142],oP 144 (.bslice 1 [[.str []]] [0]) [.t 143],oP 145 (.app 1 16) [.ts 138,.t 144],vP 12 (.ts 145)]
def a12s96:=Rg [] [mP 146 (.vs 13),fP 147 3 (.l 4),lP 148 4 false 1 (.t 147),nP 149 14,oP 150 (.iad 5) [.t 148,.t 149],oP 151 (.ldAn true 5) [.t 150],oP 152 (.bslice 5 [[.int .u8 0,.int .i64 0,.str [],.list true [],.list true []]] [0]) [.t 151],oP 153 (.app 5 80) [.ts 146,.t 152],vP 13 (.ts 153)]
def a12s98:=Ts [] [nP 135 14,nP 136 11,bP 137 .neq (.t 135) (.t 136)] (.t 137) (Sq a12s94 a12s96) .skip
def a12s101:=Rg [] [nP 133 14,bP 134 .add (.t 133) (.c (.int .i64 1)),vP 14 (.t 134)]
def a12s108:=Rg [] [nP 154 12,fP 155 2 (.l 4),xP (.stLc 4 1) [.t 155,.ts 154] 4]
def a12s110:=Rg [] [nP 156 13,fP 157 3 (.l 4),xP (.stLc 4 1) [.t 157,.ts 156] 4]
def a12s116:=Ts [] [fP 110 5 (.l 1),lP 111 1 false 1 (.t 110),bP 112 .rem (.t 111) (.c (.int .u8 5)),bP 113 .eql (.t 112) (.c (.int .u8 1)),mP 114 (.t 113),gP 115 (.fad 2) [.l 4] 114 true,⟨.t 116,.ldLc 4 false 1,[.t 115],some 4,some (.t 114,true)⟩,gP 117 .lenL [.t 116] 114 true,gP 118 (.bin .gtr) [.t 117,.c (.int .i64 1)] 114 true,oP 119 .pick [.t 114,.t 118,.c (.bool false)]] (.t 119) (Sq a12s83 (Sq a12s85 (Sq a12s87 (Sq (Sq a12s89 (Bk 3 (Lp (Sq a12s91 (Sq (Bk 4 a12s98) a12s101))))) (Sq a12s108 a12s110))))) .skip
def a12s118:=Rg [] [lP 158 4 true 4 (.l 4),xP (.stLc 2 4) [.l 2,.ts 158] 2]
def a12s120:=Sq a12s116 (Sq a12s118 .ret)
def a12s121:=Sq (Sq a12s38 (Bk 2 (Sq a12s42 a12s77))) a12s120
def a12c:ACode :=
  (Sq a12s1 (Sq a12s3 (Sq a12s5 (Sq a12s7 (Sq a12s9 (Sq a12s11 (Sq a12s13 (Sq a12s15 (Sq (Sq a12s17 (Bk 0 (Lp (Sq a12s19 (Sq (Bk 1 (Sq a12s21 a12s23)) a12s27))))) (Sq a12s36 a12s121))))))))))
def a12:AFn:={ np:=1,nv:=17,results:=[.bx 2 true 4],code:=a12c }
def a13s1:=Rg [] [vP 2 (.c (.bool false))]
def a13s4:=Rg [] [vP 2 (.c (.bool false))]
def a13s6:=Ts [] [nP 6 0,oP 7 .lenL [.t 6],nP 8 1,oP 9 .lenL [.t 8],bP 10 .neq (.t 7) (.t 9)] (.t 10) (Sq a13s4 .ret) .skip
def a13s8:=Rg [] [vP 3 (.c (.int .i64 0))]
def a13s10:=Ts [] [nP 11 3,nP 12 0,oP 13 .lenL [.t 12],bP 14 .lss (.t 11) (.t 13)] (.t 14) .skip (.exit 0)
def a13s13:=Rg [] [vP 2 (.c (.bool false))]
def a13s15:=Ts [] [nP 17 0,nP 18 3,oP 19 (.iad 4) [.t 17,.t 18],oP 20 (.ldAn true 4) [.t 19],nP 21 1,nP 22 3,oP 23 (.iad 4) [.t 21,.t 22],oP 24 (.ldAn true 4) [.t 23],oP 25 (.call 21) [.t 20,.t 24],oP 26 (.un .not) [.t 25]] (.t 26) (Sq a13s13 .ret) .skip
def a13s18:=Rg [] [nP 15 3,bP 16 .add (.t 15) (.c (.int .i64 1)),vP 3 (.t 16)]
def a13s25:=Rg [] [vP 2 (.c (.bool true))]
def a13c:ACode :=
  (Sq a13s1 (Sq a13s6 (Sq (Sq a13s8 (Bk 0 (Lp (Sq a13s10 (Sq (Bk 1 a13s15) a13s18))))) (Sq a13s25 .ret))))
def a13:AFn:={ np:=2,nv:=4,results:=[.v 2],code:=a13c }
def a14s1:=Rg [1] [⟨.bx,.boxV,[.v 0],some 1,none⟩,op (.v 2) .mv [.c (.list true [])]]
def a14s3:=Rg [] [fP 3 0 (.l 1),lP 4 1 false 1 (.t 3),oP 5 (.call 22) [.t 4],vP 2 (.ts 5)]
def a14c:ACode :=
  (Sq a14s1 (Sq a14s3 .ret))
def a14:AFn:={ np:=1,nv:=3,results:=[.v 2],code:=a14c }
def f57:=Rg [] [op (.v 1) .mv [.c (.list true [])],vP 2 (.c (.int .i64 0)),vP 3 (.c (.int .i64 0))]
def g0K:=Rg [] [nP 13 0,oP 14 (.call 23) [.t 13],mP 12 (.t 14),oP 15 (.ext 0) [.t 12],oP 16 (.ext 1) [.t 12],oP 17 (.ext 2) [.t 12],vP 4 (.ts 15),vP 5 (.t 16),vP 6 (.t 17)]
def f6N:=Rg [] [nP 20 5,nP 21 6,op (.v 1) .mv [.c (.list true [])],vP 2 (.t 20),vP 3 (.t 21)]
def g2m:=Ts [] [nP 18 6,bP 19 .neq (.t 18) (.c (.int .i64 0))] (.t 19) (Sq f6N .ret) .skip
def f3Y:=Rg [] [nP 22 4,oP 23 (.build [.list true [],.int .i64 0,.int .i64 0,.int .i64 0,.int .i64 0] [(0,1)]) [.t 22],oP 24 .boxO [.ts 23],vP 7 (.t 24)]
def d4B:=Rg [] [op (.v 8) .mv [.c (.list true [])]]
def f3m:=Rg [] [vP 9 (.c (.bool true))]
def f0J:=Ts [] [nP 25 9,mP 26 (.t 25),gP 27 .mv [.v 7] 26 false,gP 28 .nilchk [.t 27] 26 false,gP 29 (.fad 4) [.t 28] 26 false,gP 30 (.ldSt false 1) [.t 29] 26 false,gP 31 (.bin .eql) [.t 30,.c (.int .i64 0)] 26 false,gP 32 .mv [.t 31] 26 false,gP 33 .mv [.v 7] 32 true,gP 34 (.call 24) [.t 33,.c (.int .u8 0)] 32 true,gP 35 (.un .not) [.t 34] 32 true,gP 36 .pick [.t 32,.t 35,.c (.bool false)] 26 false,oP 37 .pick [.t 26,.c (.bool true),.t 36]] (.t 37) .skip (.exit 0)
def f1F:=Rg [10] [nP 38 7,oP 39 (.call 25) [.t 38],⟨.bx,.alloc [.int .u8 0,.str [],.list true [],.list true []],[],some 10,none⟩,xP (.stLc 10 4) [.l 10,.ts 39] 10]
def f3V:=Rg [] [mP 40 (.vs 8),lP 41 10 true 4 (.l 10),oP 42 (.bslice 4 [[.int .u8 0,.str [],.list true [],.list true []]] [0]) [.t 41],oP 43 (.app 4 72) [.ts 40,.t 42],vP 8 (.ts 43)]
def f1Y:=Rg [] [vP 9 (.c (.bool false))]
def e7a:=Rg [] [nP 49 7,oP 50 .nilchk [.t 49],fP 51 3 (.t 50),oP 52 (.ldSt false 1) [.t 51],nP 53 7,oP 54 .nilchk [.t 53],fP 55 4 (.t 54),oP 56 (.ldSt false 1) [.t 55],op (.v 1) .mv [.c (.list true [])],vP 2 (.t 52),vP 3 (.t 56)]
def d9A:=Ts [] [nP 44 7,oP 45 .nilchk [.t 44],fP 46 4 (.t 45),oP 47 (.ldSt false 1) [.t 46],bP 48 .neq (.t 47) (.c (.int .i64 0))] (.t 48) (Sq e7a .ret) .skip
def f30:=Rg [] [nP 57 8,vP 1 (.ts 57),vP 2 (.c (.int .i64 0)),vP 3 (.c (.int .i64 0))]
def g8E:ACode :=
  (Sq f57 (Sq g0K (Sq g2m (Sq f3Y (Sq d4B (Sq (Sq f3m (Bk 0 (Lp (Sq f0J (Sq (Bk 1 (Sq f1F f3V)) f1Y))))) (Sq d9A (Sq f30 .ret))))))))
def a15:AFn:={ np:=1,nv:=11,results:=[.v 1,.v 2,.v 3],code:=g8E }
def f7L:=Rg [] [vP 1 (.c (.nilp)),op (.v 2) .mv [.c (.str [])],vP 3 (.c (.int .i64 0))]
def f70:=Rg [] [nP 18 0,oP 19 (.call 26) [.t 18],oP 20 .mkM [],oP 21 (.build [.list true [],.nilm] [(0,1),(1,1)]) [.t 19,.t 20],oP 22 .boxO [.ts 21],vP 4 (.t 22)]
def f74:=Rg [] [vP 14 (.v 0),op (.v 15) .lenL [.v 14],vP 16 (.c (.int .i64 0))]
def g0g:=Ts [] [bP 26 .lss (.v 16) (.v 15)] (.t 26) .skip (.exit 0)
def g0k:=Rg [6] [nP 27 16,oP 28 (.iad 4) [.v 14,.v 16],oP 29 (.ldRo true 4) [.t 28],⟨.bx,.alloc [.int .u8 0,.str [],.list true [],.list true []],[],some 6,none⟩,vP 5 (.t 27),xP (.stLc 6 4) [.l 6,.ts 29] 6]
def e0m:=Rg [] [nP 31 4,oP 32 .nilchk [.t 31],fP 33 1 (.t 32),oP 34 (.ldSt false 1) [.t 33],fP 35 1 (.l 6),lP 36 6 false 1 (.t 35),oP 37 (.mget 1 [.int .i64 0] false true) [.t 34,.t 36],mP 30 (.t 37),oP 38 (.ext 0) [.t 30],oP 39 (.ext 1) [.t 30],mP 8 (.t 38),vP 7 (.t 39)]
def e3a:=Rg [] [fP 47 1 (.l 6),lP 48 6 false 1 (.t 47),vP 1 (.c (.nilp)),vP 2 (.t 48),vP 3 (.c (.int .i64 7))]
def e9L:=Ts [] [nP 40 7,mP 41 (.t 40),gP 42 (.slA 4 1 false false) [.c (.ro [.str [66,111,111,108,101,97,110],.str [73,68],.str [73,110,116],.str [83,116,114,105,110,103]])] 41 false,gP 43 (.fad 1) [.l 6] 41 false,⟨.t 44,.ldLc 6 false 1,[.t 43],some 6,some (.t 41,false)⟩,gP 45 (.call 27) [.t 42,.t 44] 41 false,oP 46 .pick [.t 41,.c (.bool true),.t 45]] (.t 46) (Sq e3a .ret) .skip
def e5e:=Rg [] [fP 52 1 (.l 6),lP 53 6 false 1 (.t 52),vP 1 (.c (.nilp)),vP 2 (.t 53),vP 3 (.c (.int .i64 1))]
def e1u:=Ts [] [fP 49 1 (.l 6),lP 50 6 false 1 (.t 49),oP 51 (.call 28) [.t 50,.c (.str [95,95])]] (.t 51) (Sq e5e .ret) .skip
def f0V:=Rg [] [nP 54 4,oP 55 .nilchk [.t 54],fP 56 1 (.t 55),oP 57 (.ldSt false 1) [.t 56],fP 58 1 (.l 6),lP 59 6 false 1 (.t 58),nP 60 5,op .none (.mset 1) [.t 57,.t 59,.t 60]]
def e29:=Rg [] [bP 61 .add (.v 16) (.c (.int .i64 1)),vP 16 (.t 61)]
def d47:=Rg [] [vP 17 (.v 0),op (.v 18) .lenL [.v 17],vP 19 (.c (.int .i64 0))]
def f2U:=Ts [] [bP 65 .lss (.v 19) (.v 18)] (.t 65) .skip (.exit 2)
def e5b:=Rg [8] [oP 66 (.iad 4) [.v 17,.v 19],oP 67 (.ldRo true 4) [.t 66],⟨.bx,.alloc [.int .u8 0,.str [],.list true [],.list true []],[],some 8,none⟩,xP (.stLc 8 4) [.l 8,.ts 67] 8]
def e61:=Rg [9] [nP 68 4,lP 69 8 true 4 (.l 8),oP 70 (.call 29) [.t 68,.t 69],⟨.bx,.alloc [.int .i64 0,.str []],[],some 9,none⟩,xP (.stLc 9 2) [.l 9,.t 70] 9]
def e2v:=Rg [] [fP 74 1 (.l 9),lP 75 9 false 1 (.t 74),fP 76 0 (.l 9),lP 77 9 false 1 (.t 76),vP 1 (.c (.nilp)),vP 2 (.t 75),vP 3 (.t 77)]
def f3Q:=Ts [] [fP 71 0 (.l 9),lP 72 9 false 1 (.t 71),bP 73 .neq (.t 72) (.c (.int .i64 0))] (.t 73) (Sq e2v .ret) .skip
def d8S:=Rg [] [bP 78 .add (.v 19) (.c (.int .i64 1)),vP 19 (.t 78)]
def d4P:=Rg [10] [nP 80 4,oP 81 (.call 30) [.t 80,.c (.str [81,117,101,114,121])],mP 79 (.t 81),oP 82 (.ext 0) [.t 79],oP 83 (.ext 1) [.t 79],⟨.bx,.alloc [.int .u8 0,.str [],.list true [],.list true []],[],some 10,none⟩,xP (.stLc 10 4) [.l 10,.ts 82] 10,vP 11 (.t 83)]
def f3A:=Rg [] [vP 1 (.c (.nilp)),op (.v 2) .mv [.c (.str [81,117,101,114,121])],vP 3 (.c (.int .i64 6))]
def e6m:=Ts [] [nP 84 11,oP 85 (.un .not) [.t 84],mP 86 (.t 85),gP 87 (.fad 0) [.l 10] 86 false,⟨.t 88,.ldLc 10 false 1,[.t 87],some 10,some (.t 86,false)⟩,gP 89 (.bin .neq) [.t 88,.c (.int .u8 1)] 86 false,oP 90 .pick [.t 86,.c (.bool true),.t 89]] (.t 90) (Sq f3A .ret) .skip
def e0M:=Rg [] [vP 20 (.v 0),op (.v 21) .lenL [.v 20],vP 22 (.c (.int .i64 0))]
def f1V:=Ts [] [bP 94 .lss (.v 22) (.v 21)] (.t 94) .skip (.exit 4)
def e5g:=Rg [12] [oP 95 (.iad 4) [.v 20,.v 22],oP 96 (.ldRo true 4) [.t 95],⟨.bx,.alloc [.int .u8 0,.str [],.list true [],.list true []],[],some 12,none⟩,xP (.stLc 12 4) [.l 12,.ts 96] 12]
def e76:=Rg [13] [nP 97 4,lP 98 12 true 4 (.l 12),oP 99 (.call 31) [.t 97,.t 98],⟨.bx,.alloc [.int .i64 0,.str []],[],some 13,none⟩,xP (.stLc 13 2) [.l 13,.t 99] 13]
def f1T:=Rg [] [fP 103 1 (.l 13),lP 104 13 false 1 (.t 103),fP 105 0 (.l 13),lP 106 13 false 1 (.t 105),vP 1 (.c (.nilp)),vP 2 (.t 104),vP 3 (.t 106)]
def e0N:=Ts [] [fP 100 0 (.l 13),lP 101 13 false 1 (.t 100),bP 102 .neq (.t 101) (.c (.int .i64 0))] (.t 102) (Sq f1T .ret) .skip
def e1n:=Rg [] [bP 107 .add (.v 22) (.c (.int .i64 1)),vP 22 (.t 107)]
def d9J:=Rg [] [nP 108 4,vP 1 (.t 108),op (.v 2) .mv [.c (.str [])],vP 3 (.c (.int .i64 0))]
def g8J:ACode :=
  (Sq f7L (Sq f70 (Sq (Sq f74 (Bk 0 (Lp (Sq g0g (Sq (Bk 1 (Sq g0k (Sq (Sq e0m e9L) (Sq e1u f0V)))) e29))))) (Sq (Sq d47 (Bk 2 (Lp (Sq f2U (Sq (Bk 3 (Sq e5b (Sq e61 f3Q))) d8S))))) (Sq (Sq d4P e6m) (Sq (Sq e0M (Bk 4 (Lp (Sq f1V (Sq (Bk 5 (Sq e5g (Sq e76 e0N))) e1n))))) (Sq d9J .ret)))))))
def a16:AFn:={ np:=1,nv:=23,results:=[.v 1,.v 2,.v 3],code:=g8J }
def g2e:=Rg [] [vP 1 (.c (.nilp)),op (.v 2) .mv [.c (.str [])],vP 3 (.c (.int .i64 0))]
def g2N:=Rg [] [nP 14 0,oP 15 (.build [.list true []] [(0,1)]) [.t 14],oP 16 .boxO [.ts 15],vP 4 (.t 16)]
def g3z:=Rg [] [op (.v 5) .mv [.c (.list true [])]]
def g2a:=Rg [] [vP 6 (.c (.int .i64 0))]
def f95:=Ts [] [nP 17 6,nP 18 0,oP 19 .lenL [.t 18],bP 20 .lss (.t 17) (.t 19)] (.t 20) .skip (.exit 0)
def e9F:=Rg [] [nP 23 0,nP 24 6,oP 25 (.iad 4) [.t 23,.t 24],fP 26 1 (.t 25),oP 27 (.ldRo false 1) [.t 26],vP 7 (.t 27)]
def e38:=Rg [] [nP 35 7,vP 1 (.c (.nilp)),vP 2 (.t 35),vP 3 (.c (.int .i64 7))]
def d8W:=Ts [] [nP 28 7,oP 29 (.call 32) [.t 28],mP 30 (.t 29),gP 31 .mv [.v 5] 30 false,gP 32 .mv [.v 7] 30 false,gP 33 (.call 33) [.t 31,.t 32] 30 false,oP 34 .pick [.t 30,.c (.bool true),.t 33]] (.t 34) (Sq e38 .ret) .skip
def d8V:=Rg [] [nP 38 7,vP 1 (.c (.nilp)),vP 2 (.t 38),vP 3 (.c (.int .i64 1))]
def f1e:=Ts [] [nP 36 7,oP 37 (.call 34) [.t 36,.c (.str [95,95])]] (.t 37) (Sq d8V .ret) .skip
def d4N:=Rg [] [mP 39 (.vs 5),nP 40 7,oP 41 (.bslice 1 [[.str []]] [0]) [.t 40],oP 42 (.app 1 16) [.ts 39,.t 41],vP 5 (.ts 42)]
def d9B:=Rg [] [nP 21 6,bP 22 .add (.t 21) (.c (.int .i64 1)),vP 6 (.t 22)]
def e2h:=Rg [] [vP 8 (.c (.int .i64 0))]
def f2d:=Ts [] [nP 43 8,nP 44 0,oP 45 .lenL [.t 44],bP 46 .lss (.t 43) (.t 45)] (.t 46) .skip (.exit 2)
def e3r:=Rg [] [nP 50 4,nP 51 0,nP 52 8,oP 53 (.iad 4) [.t 51,.t 52],oP 54 (.ldRo true 4) [.t 53],oP 55 (.call 35) [.t 50,.t 54],mP 49 (.t 55),oP 56 (.ext 0) [.t 49],oP 57 (.ext 1) [.t 49],vP 9 (.t 56),vP 10 (.t 57)]
def d90:=Rg [] [nP 60 9,nP 61 10,vP 1 (.c (.nilp)),vP 2 (.t 60),vP 3 (.t 61)]
def e3D:=Ts [] [nP 58 10,bP 59 .neq (.t 58) (.c (.int .i64 0))] (.t 59) (Sq d90 .ret) .skip
def d6w:=Rg [] [nP 47 8,bP 48 .add (.t 47) (.c (.int .i64 1)),vP 8 (.t 48)]
def e37:=Rg [] [vP 1 (.c (.nilp)),op (.v 2) .mv [.c (.str [81,117,101,114,121])],vP 3 (.c (.int .i64 6))]
def e4F:=Ts [] [nP 62 4,oP 63 (.call 36) [.t 62,.c (.str [81,117,101,114,121])],oP 64 (.fld 0 1 false) [.t 63],bP 65 .neq (.t 64) (.c (.int .u8 1))] (.t 65) (Sq e37 .ret) .skip
def e6G:=Rg [] [vP 11 (.c (.int .i64 0))]
def d8X:=Ts [] [nP 66 11,nP 67 0,oP 68 .lenL [.t 67],bP 69 .lss (.t 66) (.t 68)] (.t 69) .skip (.exit 4)
def e5z:=Ts [] [nP 72 0,nP 73 11,oP 74 (.iad 4) [.t 72,.t 73],fP 75 0 (.t 74),oP 76 (.ldRo false 1) [.t 75],bP 77 .neq (.t 76) (.c (.int .u8 1)),mP 78 (.t 77),gP 79 .mv [.v 0] 78 true,gP 80 .mv [.v 11] 78 true,gP 81 (.iad 4) [.t 79,.t 80] 78 true,gP 82 (.fad 0) [.t 81] 78 true,gP 83 (.ldRo false 1) [.t 82] 78 true,gP 84 (.bin .neq) [.t 83,.c (.int .u8 2)] 78 true,oP 85 .pick [.t 78,.t 84,.c (.bool false)]] (.t 85) (.exit 5) .skip
def d7J:=Rg [] [vP 12 (.c (.int .i64 0))]
def d4r:=Ts [] [nP 86 12,nP 87 0,nP 88 11,oP 89 (.iad 4) [.t 87,.t 88],fP 90 2 (.t 89),oP 91 (.ldRo false 1) [.t 90],oP 92 .lenL [.t 91],bP 93 .lss (.t 86) (.t 92)] (.t 93) .skip (.exit 6)
def d4Q:=Rg [] [nP 111 0,nP 112 11,oP 113 (.iad 4) [.t 111,.t 112],fP 114 2 (.t 113),oP 115 (.ldRo false 1) [.t 114],nP 116 12,oP 117 (.iad 11) [.t 115,.t 116],fP 118 0 (.t 117),oP 119 (.ldRo false 1) [.t 118],vP 1 (.c (.nilp)),vP 2 (.t 119),vP 3 (.c (.int .i64 3))]
def f37:=Ts [] [nP 96 4,nP 97 0,nP 98 11,oP 99 (.iad 4) [.t 97,.t 98],oP 100 (.ldRo true 4) [.t 99],nP 101 0,nP 102 11,oP 103 (.iad 4) [.t 101,.t 102],fP 104 2 (.t 103),oP 105 (.ldRo false 1) [.t 104],nP 106 12,oP 107 (.iad 11) [.t 105,.t 106],oP 108 (.ldRo true 11) [.t 107],oP 109 (.call 37) [.t 96,.t 100,.t 108],oP 110 (.un .not) [.t 109]] (.t 110) (Sq d4Q .ret) .skip
def d4V:=Rg [] [nP 94 12,bP 95 .add (.t 94) (.c (.int .i64 1)),vP 12 (.t 95)]
def e3T:=Rg [] [nP 70 11,bP 71 .add (.t 70) (.c (.int .i64 1)),vP 11 (.t 71)]
def e5q:=Rg [] [nP 120 4,vP 1 (.t 120),op (.v 2) .mv [.c (.str [])],vP 3 (.c (.int .i64 0))]
def g9q:ACode :=
  (Sq g2e (Sq g2N (Sq g3z (Sq (Sq g2a (Bk 0 (Lp (Sq f95 (Sq (Bk 1 (Sq e9F (Sq d8W (Sq f1e d4N)))) d9B))))) (Sq (Sq e2h (Bk 2 (Lp (Sq f2d (Sq (Bk 3 (Sq e3r e3D)) d6w))))) (Sq e4F (Sq (Sq e6G (Bk 4 (Lp (Sq d8X (Sq (Bk 5 (Sq e5z (Sq d7J (Bk 6 (Lp (Sq d4r (Sq (Bk 7 f37) d4V))))))) e3T))))) (Sq e5q .ret))))))))
def a17:AFn:={ np:=1,nv:=13,results:=[.v 1,.v 2,.v 3],code:=g9q }
def a18s1:=Rg [2,3,4] [⟨.bx,.boxV,[.v 0],some 2,none⟩,⟨.bx,.boxV,[.v 1],some 3,none⟩,⟨.bx,.alloc [.nils],[],some 4,none⟩]
def a18s3:=Rg [] [fP 8 0 (.l 2),lP 9 2 false 1 (.t 8),oP 10 (.call 22) [.t 9],vP 5 (.ts 10)]
def a18s5:=Rg [] [lP 12 2 true 1 (.l 2),fP 13 1 (.l 3),lP 14 3 false 1 (.t 13),oP 15 (.call 38) [.t 12,.t 14],mP 11 (.t 15),oP 16 (.ext 0) [.t 11],oP 17 (.ext 1) [.t 11],vP 6 (.t 16),vP 7 (.t 17)]
def a18s8:=Rg [] [nP 19 5,nP 20 6,lP 21 3 true 4 (.l 3),oP 22 (.iad 4) [.t 19,.t 20],op .none (.stSt 4) [.t 22,.ts 21]]
def a18s10:=Rg [] [nP 23 5,nP 24 6,lP 25 3 true 4 (.l 3),oP 26 (.bslice 4 [[.str [],.str [],.list true [],.list true []]] [0]) [.t 25],oP 27 (.call 39) [.t 23,.t 24,.t 26],vP 5 (.ts 27)]
def a18s11:=Ts [] [nP 18 7] (.t 18) a18s8 a18s10
def a18s13:=Rg [] [nP 28 5,oP 29 (.build [.nils] [(0,1)]) [.t 28],xP (.stLc 4 1) [.l 4,.ts 29] 4]
def a18c:ACode :=
  (Sq a18s1 (Sq a18s3 (Sq a18s5 (Sq a18s11 (Sq a18s13 .ret)))))
def a18:AFn:={ np:=2,nv:=8,results:=[.bx 4 true 1],code:=a18c }
def g1u:=Rg [2] [⟨.bx,.alloc [.nils,.nils],[],some 2,none⟩,vP 3 (.c (.int .i64 0))]
def f7i:=Rg [4] [nP 10 1,oP 11 (.call 40) [.t 10],mP 9 (.t 11),oP 12 (.ext 0) [.t 9],oP 13 (.ext 1) [.t 9],oP 14 (.ext 2) [.t 9],⟨.bx,.alloc [.nils,.nils],[],some 4,none⟩,xP (.stLc 4 2) [.l 4,.ts 12] 4,mP 7 (.t 13),vP 5 (.t 14)]
def f6g:=Rg [] [oP 17 (.build [.nils,.nils] []) [],nP 18 5,xP (.stLc 2 2) [.l 2,.ts 17] 2,vP 3 (.t 18)]
def g07:=Ts [] [nP 15 5,bP 16 .neq (.t 15) (.c (.int .i64 0))] (.t 16) (Sq f6g .ret) .skip
def e9c:=Rg [] [oP 24 (.build [.nils,.nils] []) [],xP (.stLc 2 2) [.l 2,.ts 24] 2,vP 3 (.c (.int .i64 10))]
def e6E:=Ts [] [nP 19 0,lP 20 4 true 2 (.l 4),oP 21 (.call 41) [.t 19,.t 20],oP 22 .lenL [.t 21],bP 23 .gtr (.t 22) (.c (.int .i64 0))] (.t 23) (Sq e9c .ret) .skip
def e8C:=Rg [] [lP 25 4 true 2 (.l 4),xP (.stLc 2 2) [.l 2,.ts 25] 2,vP 3 (.c (.int .i64 0))]
def g86:ACode :=
  (Sq g1u (Sq f7i (Sq g07 (Sq e6E (Sq e8C .ret)))))
def a19:AFn:={ np:=2,nv:=6,results:=[.bx 2 true 2,.v 3],code:=g86 }
def a20s1:=Rg [5,6,7,8,9] [⟨.bx,.boxV,[.v 1],some 5,none⟩,⟨.bx,.boxV,[.v 2],some 6,none⟩,⟨.bx,.boxV,[.v 4],some 7,none⟩,⟨.bx,.alloc [.nils],[],some 8,none⟩,⟨.bx,.alloc [.int .i64 0,.int .u8 0,.int .i64 0,.str [],.list true [],.list true [],.list true []],[],some 9,none⟩]
def a20s3:=Rg [10] [lP 24 6 true 2 (.l 6),nP 25 3,oP 26 (.call 42) [.t 24,.t 25],mP 23 (.t 26),oP 27 (.ext 0) [.t 23],oP 28 (.ext 1) [.t 23],⟨.bx,.alloc [.bool false,.str [],.list true [],.list true []],[],some 10,none⟩,xP (.stLc 10 4) [.l 10,.ts 27] 10,vP 11 (.t 28)]
def a20s6:=Rg [] [lP 31 5 true 1 (.l 5),nP 32 11,oP 33 (.build [.int .i64 0,.int .u8 0,.int .i64 0,.str [],.list true [],.list true [],.list true []] [(0,1)]) [.t 32],xP (.stLc 8 1) [.l 8,.ts 31] 8,xP (.stLc 9 7) [.l 9,.ts 33] 9]
def a20s8:=Ts [] [nP 29 11,bP 30 .neq (.t 29) (.c (.int .i64 0))] (.t 30) (Sq a20s6 .ret) .skip
def a20s11:=Rg [] [lP 37 5 true 1 (.l 5),oP 38 (.build [.int .i64 0,.int .u8 0,.int .i64 0,.str [],.list true [],.list true [],.list true []] [(0,1)]) [.c (.int .i64 15)],xP (.stLc 8 1) [.l 8,.ts 37] 8,xP (.stLc 9 7) [.l 9,.ts 38] 9]
def a20s13:=Ts [] [fP 34 0 (.l 10),lP 35 10 false 1 (.t 34),oP 36 (.un .not) [.t 35]] (.t 36) (Sq a20s11 .ret) .skip
def a20s15:=Rg [12] [nP 40 0,fP 41 2 (.l 10),lP 42 10 false 1 (.t 41),lP 43 7 true 5 (.l 7),oP 44 (.call 43) [.t 40,.t 42,.t 43],mP 39 (.t 44),oP 45 (.ext 0) [.t 39],oP 46 (.ext 1) [.t 39],oP 47 (.ext 2) [.t 39],⟨.bx,.alloc [.int .u8 0,.int .i64 0,.str [],.list true [],.list true []],[],some 12,none⟩,xP (.stLc 12 5) [.l 12,.ts 45] 12,mP 15 (.t 46),vP 11 (.t 47)]
def a20s18:=Rg [] [lP 50 5 true 1 (.l 5),nP 51 11,oP 52 (.build [.int .i64 0,.int .u8 0,.int .i64 0,.str [],.list true [],.list true [],.list true []] [(0,1)]) [.t 51],xP (.stLc 8 1) [.l 8,.ts 50] 8,xP (.stLc 9 7) [.l 9,.ts 52] 9]
def a20s20:=Ts [] [nP 48 11,bP 49 .neq (.t 48) (.c (.int .i64 0))] (.t 49) (Sq a20s18 .ret) .skip
def a20s22:=Rg [] [nP 53 0,lP 54 6 true 2 (.l 6),lP 55 5 true 1 (.l 5),lP 56 12 true 5 (.l 12),oP 57 (.build [.nilp,.nils,.nils,.nils,.int .u8 0,.int .i64 0,.str [],.nils,.nils,.nils,.int .i64 0] [(0,1),(1,2),(3,1),(4,5)]) [.t 53,.t 54,.t 55,.t 56],oP 58 .boxO [.ts 57],vP 13 (.t 58)]
def a20s24:=Rg [] [oP 59 (.build [.int .u8 0,.int .i64 0,.str [],.list true [],.list true []] [(0,1)]) [.c (.int .u8 6)],op (.v 14) (.allocO [.int .u8 0,.int .i64 0,.str [],.list true [],.list true []]) [],op .none (.stSt 5) [.v 14,.ts 59]]
def a20s26:=Rg [] [nP 60 0,lP 61 6 true 2 (.l 6),fP 62 3 (.l 10),lP 63 10 false 1 (.t 62),lP 64 12 true 5 (.l 12),op (.v 19) (.call 44) [.t 60,.t 61,.c (.str [77,117,116,97,116,105,111,110]),.t 63,.t 64],op (.v 20) .lenL [.v 19],vP 21 (.c (.int .i64 0))]
def a20s28:=Ts [] [bP 68 .lss (.v 21) (.v 20)] (.t 68) .skip (.exit 0)
def a20s30:=Rg [15] [oP 69 (.iad 2) [.v 19,.v 21],oP 70 (.ldSt true 2) [.t 69],⟨.bx,.alloc [.str [],.list true []],[],some 15,none⟩,xP (.stLc 15 2) [.l 15,.ts 70] 15]
def a20s32:=Rg [16] [nP 72 0,fP 73 1 (.l 15),lP 74 15 false 1 (.t 73),oP 75 (.iad 7) [.t 74,.c (.int .i64 0)],fP 76 2 (.t 75),oP 77 (.ldAn false 1) [.t 76],oP 78 (.call 45) [.t 72,.c (.str [77,117,116,97,116,105,111,110]),.t 77],mP 71 (.t 78),oP 79 (.ext 0) [.t 71],oP 80 (.ext 1) [.t 71],⟨.bx,.alloc [.str [],.list true [],.str [],.list true [],.bool false,.bool false,.int .u8 0,.int .i64 0,.str [],.list true [],.list true []],[],some 16,none⟩,xP (.stLc 16 11) [.l 16,.ts 79] 16,vP 17 (.t 80)]
def a20s34:=Ts [] [nP 81 17,oP 82 (.un .not) [.t 81]] (.t 82) (.exit 1) .skip
def a20s36:=Rg [] [nP 83 13,oP 84 .nilchk [.t 83],fP 85 10 (.t 84),oP 86 (.ldSt false 1) [.t 85],bP 87 .add (.t 86) (.c (.int .i64 1)),oP 88 .nilchk [.t 83],fP 89 10 (.t 88),op .none (.stSt 1) [.t 89,.t 87]]
def a20s38:=Rg [18] [nP 90 13,lP 91 16 true 11 (.l 16),lP 92 15 true 2 (.l 15),oP 93 (.call 46) [.t 90,.t 91,.t 92],⟨.bx,.alloc [.int .u8 0,.int .i64 0,.str [],.list true [],.list true []],[],some 18,none⟩,xP (.stLc 18 5) [.l 18,.ts 93] 18]
def a20s41:=Rg [] [lP 99 5 true 1 (.l 5),oP 100 (.build [.int .i64 0,.int .u8 0,.int .i64 0,.str [],.list true [],.list true [],.list true []] [(0,1)]) [.c (.int .i64 2)],xP (.stLc 8 1) [.l 8,.ts 99] 8,xP (.stLc 9 7) [.l 9,.ts 100] 9]
def a20s43:=Ts [] [nP 94 13,oP 95 .nilchk [.t 94],fP 96 10 (.t 95),oP 97 (.ldSt false 1) [.t 96],bP 98 .gtr (.t 97) (.c (.int .i64 5000))] (.t 98) (Sq a20s41 .ret) .skip
def a20s45:=Rg [] [fP 101 3 (.v 14),oP 102 (.ldStSR 3) [.t 101,.v 14],fP 103 0 (.l 15),lP 104 15 false 1 (.t 103),oP 105 (.bslice 1 [[.str []]] [0]) [.t 104],oP 106 (.app 1 16) [.ts 102,.t 105],fP 107 4 (.v 14),oP 108 (.ldStSR 4) [.t 107,.v 14],lP 109 18 true 5 (.l 18),oP 110 (.bslice 5 [[.int .u8 0,.int .i64 0,.str [],.list true [],.list true []]] [0]) [.t 109],oP 111 (.app 5 80) [.ts 108,.t 110],fP 112 3 (.v 14),op .none (.stSt 1) [.t 112,.ts 106],fP 113 4 (.v 14),op .none (.stSt 1) [.t 113,.ts 111]]
def a20s54:=Rg [] [bP 114 .add (.v 21) (.c (.int .i64 1)),vP 21 (.t 114)]
def a20s62:=Rg [] [lP 121 5 true 1 (.l 5),oP 122 (.ldSt true 5) [.v 14],nP 123 13,oP 124 .nilchk [.t 123],fP 125 9 (.t 124),oP 126 (.ldSt false 1) [.t 125],oP 127 (.build [.int .i64 0,.int .u8 0,.int .i64 0,.str [],.list true [],.list true [],.list true []] [(1,5),(6,1)]) [.t 122,.t 126],xP (.stLc 8 1) [.l 8,.ts 121] 8,xP (.stLc 9 7) [.l 9,.ts 127] 9]
def a20s64:=Ts [] [nP 115 13,oP 116 .nilchk [.t 115],fP 117 9 (.t 116),oP 118 (.ldSt false 1) [.t 117],oP 119 .lenL [.t 118],bP 120 .gtr (.t 119) (.c (.int .i64 0))] (.t 120) (Sq a20s62 .ret) .skip
def a20s66:=Rg [] [nP 128 13,oP 129 .nilchk [.t 128],fP 130 3 (.t 129),oP 131 (.ldSt true 1) [.t 130],oP 132 (.ldSt true 5) [.v 14],oP 133 (.build [.int .i64 0,.int .u8 0,.int .i64 0,.str [],.list true [],.list true [],.list true []] [(1,5)]) [.t 132],xP (.stLc 8 1) [.l 8,.ts 131] 8,xP (.stLc 9 7) [.l 9,.ts 133] 9]
def a20c:ACode :=
  (Sq a20s1 (Sq a20s3 (Sq a20s8 (Sq a20s13 (Sq a20s15 (Sq a20s20 (Sq a20s22 (Sq a20s24 (Sq (Sq a20s26 (Bk 0 (Lp (Sq a20s28 (Sq (Bk 1 (Sq a20s30 (Sq a20s32 (Sq a20s34 (Sq a20s36 (Sq a20s38 (Sq a20s43 a20s45))))))) a20s54))))) (Sq a20s64 (Sq a20s66 .ret)))))))))))
def a20:AFn:={ np:=5,nv:=22,results:=[.bx 8 true 1,.bx 9 true 7],code:=a20c }
def a21s1:=Rg [2,3] [⟨.bx,.boxV,[.v 0],some 2,none⟩,⟨.bx,.boxV,[.v 1],some 3,none⟩,vP 4 (.c (.bool false))]
def a21s3:=Rg [] [fP 5 0 (.l 2),lP 6 2 false 1 (.t 5),fP 7 0 (.l 3),lP 8 3 false 1 (.t 7),bP 9 .eql (.t 6) (.t 8),mP 10 (.t 9),gP 11 (.fad 1) [.l 2] 10 true,⟨.t 12,.ldLc 2 false 1,[.t 11],some 2,some (.t 10,true)⟩,gP 13 (.fad 1) [.l 3] 10 true,⟨.t 14,.ldLc 3 false 1,[.t 13],some 3,some (.t 10,true)⟩,gP 15 (.bin .eql) [.t 12,.t 14] 10 true,oP 16 .pick [.t 10,.t 15,.c (.bool false)],mP 17 (.t 16),gP 18 (.fad 2) [.l 2] 17 true,⟨.t 19,.ldLc 2 false 1,[.t 18],some 2,some (.t 17,true)⟩,gP 20 (.fad 3) [.l 2] 17 true,⟨.t 21,.ldLc 2 false 1,[.t 20],some 2,some (.t 17,true)⟩,⟨.t 22,(.build [.int .u8 0,.int .i64 0,.str [],.list true [],.list true []] [(3,1),(4,1)]),[.t 19,.t 21],none,some (.t 17,true)⟩,gP 23 (.fad 2) [.l 3] 17 true,⟨.t 24,.ldLc 3 false 1,[.t 23],some 3,some (.t 17,true)⟩,gP 25 (.fad 3) [.l 3] 17 true,⟨.t 26,.ldLc 3 false 1,[.t 25],some 3,some (.t 17,true)⟩,⟨.t 27,(.build [.int .u8 0,.int .i64 0,.str [],.list true [],.list true []] [(3,1),(4,1)]),[.t 24,.t 26],none,some (.t 17,true)⟩,gP 28 (.call 47) [.t 22,.t 27] 17 true,oP 29 .pick [.t 17,.t 28,.c (.bool false)],vP 4 (.t 29)]
def a21c:ACode :=
  (Sq a21s1 (Sq a21s3 .ret))
def a21:AFn:={ np:=2,nv:=5,results:=[.v 4],code:=a21c }
def a22:AFn:={ np:=1,nv:=0,results:=[],code:=.skip,ext:=some (T4 4 80) }
def f6i:=Rg [] [op (.v 1) .mv [.c (.list true [])],vP 2 (.c (.int .i64 0)),vP 3 (.c (.int .i64 0))]
def f5r:=Rg [] [op (.v 1) .mv [.c (.list true [])],vP 2 (.c (.int .i64 0)),vP 3 (.c (.int .i64 2))]
def f6n:=Ts [] [nP 12 0,oP 13 .lenS [.t 12],bP 14 .gtr (.t 13) (.c (.int .i64 2000))] (.t 14) (Sq f5r .ret) .skip
def f6A:=Rg [] [op (.v 4) .mv [.c (.list true [])]]
def f0N:=Rg [] [vP 5 (.c (.int .i64 0))]
def f4p:=Ts [] [nP 15 5,nP 16 0,oP 17 .lenS [.t 16],bP 18 .lss (.t 15) (.t 17)] (.t 18) .skip (.exit 0)
def d4T:=Rg [] [nP 19 0,nP 20 5,oP 21 .idxS [.t 19,.t 20],vP 6 (.t 21)]
def f03:=Rg [] [nP 41 5,bP 42 .add (.t 41) (.c (.int .i64 1)),vP 5 (.t 42)]
def d85:=Ts [] [nP 46 5,nP 47 0,oP 48 .lenS [.t 47],bP 49 .lss (.t 46) (.t 48),mP 50 (.t 49),gP 51 .mv [.v 0] 50 true,gP 52 .mv [.v 5] 50 true,gP 53 .idxS [.t 51,.t 52] 50 true,gP 54 (.bin .neq) [.t 53,.c (.int .u8 10)] 50 true,oP 55 .pick [.t 50,.t 54,.c (.bool false)]] (.t 55) .skip (.exit 3)
def e7f:=Rg [] [nP 56 5,bP 57 .add (.t 56) (.c (.int .i64 1)),vP 5 (.t 57)]
def f2e:=Ts [] [nP 44 6,bP 45 .eql (.t 44) (.c (.int .u8 35)),mP 43 (.t 45)] (.t 43) (Sq (Bk 3 (Lp (Sq d85 (Bk 4 e7f)))) (.exit 1)) .skip
def f4F:=Ts [] [nP 23 6,bP 24 .eql (.t 23) (.c (.int .u8 32)),mP 25 (.t 24),gP 26 .mv [.v 6] 25 false,gP 27 (.bin .eql) [.t 26,.c (.int .u8 10)] 25 false,oP 28 .pick [.t 25,.c (.bool true),.t 27],mP 29 (.t 28),gP 30 .mv [.v 6] 29 false,gP 31 (.bin .eql) [.t 30,.c (.int .u8 9)] 29 false,oP 32 .pick [.t 29,.c (.bool true),.t 31],mP 33 (.t 32),gP 34 .mv [.v 6] 33 false,gP 35 (.bin .eql) [.t 34,.c (.int .u8 13)] 33 false,oP 36 .pick [.t 33,.c (.bool true),.t 35],mP 37 (.t 36),gP 38 .mv [.v 6] 37 false,gP 39 (.bin .eql) [.t 38,.c (.int .u8 44)] 37 false,oP 40 .pick [.t 37,.c (.bool true),.t 39],mP 22 (.t 40)] (.t 22) (Sq f03 (.exit 1)) f2e
def d75:=Rg [7] [nP 59 0,nP 60 5,oP 61 (.call 48) [.t 59,.t 60],mP 58 (.t 61),oP 62 (.ext 0) [.t 58],oP 63 (.ext 1) [.t 58],oP 64 (.ext 2) [.t 58],oP 65 (.ext 3) [.t 58],⟨.bx,.alloc [.int .u8 0,.str [],.int .i64 0,.int .i64 0],[],some 7,none⟩,xP (.stLc 7 4) [.l 7,.t 62] 7,vP 8 (.t 63),vP 9 (.t 64),vP 10 (.t 65)]
def e46:=Rg [] [nP 68 9,nP 69 10,op (.v 1) .mv [.c (.list true [])],vP 2 (.t 68),vP 3 (.t 69)]
def f3g:=Ts [] [nP 66 10,bP 67 .neq (.t 66) (.c (.int .i64 0))] (.t 67) (Sq e46 .ret) .skip
def d7K:=Rg [] [nP 70 5,fP 71 3 (.l 7),xP (.stLc 7 1) [.t 71,.t 70] 7]
def f2y:=Rg [] [mP 72 (.vs 4),lP 73 7 true 4 (.l 7),oP 74 (.bslice 4 [[.int .u8 0,.str [],.int .i64 0,.int .i64 0]] [0]) [.t 73],oP 75 (.app 4 40) [.ts 72,.t 74],vP 4 (.ts 75)]
def f2g:=Rg [] [nP 76 8,vP 5 (.t 76)]
def d9d:=Rg [] [mP 77 (.vs 4),nP 78 5,oP 79 (.build [.int .u8 0,.str [],.int .i64 0,.int .i64 0] [(3,1)]) [.t 78],oP 80 (.bslice 4 [[.int .u8 0,.str [],.int .i64 0,.int .i64 0]] [0]) [.t 79],oP 81 (.app 4 40) [.ts 77,.t 80],vP 1 (.ts 81),vP 2 (.c (.int .i64 0)),vP 3 (.c (.int .i64 0))]
def g9b:ACode :=
  (Sq f6i (Sq f6n (Sq f6A (Sq f0N (Sq (Bk 0 (Lp (Sq f4p (Bk 1 (Sq d4T (Sq (Bk 2 f4F) (Sq d75 (Sq f3g (Sq d7K (Sq f2y f2g)))))))))) (Sq d9d .ret))))))
def a23:AFn:={ np:=1,nv:=11,results:=[.v 1,.v 2,.v 3],code:=g9b }
def f9P:=Rg [] [vP 2 (.c (.bool false))]
def f8X:=Rg [] [nP 5 0,oP 6 .nilchk [.t 5],fP 7 4 (.t 6),oP 8 (.ldSt false 1) [.t 7],bP 9 .eql (.t 8) (.c (.int .i64 0)),mP 10 (.t 9),gP 11 .mv [.v 0] 10 true,gP 12 .nilchk [.t 11] 10 true,gP 13 (.fad 0) [.t 12] 10 true,gP 14 (.ldSt false 1) [.t 13] 10 true,gP 15 .mv [.v 0] 10 true,gP 16 .nilchk [.t 15] 10 true,gP 17 (.fad 1) [.t 16] 10 true,gP 18 (.ldSt false 1) [.t 17] 10 true,gP 19 (.iad 4) [.t 14,.t 18] 10 true,gP 20 (.fad 0) [.t 19] 10 true,gP 21 (.ldRo false 1) [.t 20] 10 true,gP 22 .mv [.v 1] 10 true,gP 23 (.bin .eql) [.t 21,.t 22] 10 true,oP 24 .pick [.t 10,.t 23,.c (.bool false)],vP 2 (.t 24)]
def g5k:ACode :=
  (Sq f9P (Sq f8X .ret))
def a24:AFn:={ np:=2,nv:=3,results:=[.v 2],code:=g5k }
def g0e:=Rg [1] [⟨.bx,.alloc [.int .u8 0,.str [],.list true [],.list true []],[],some 1,none⟩]
def f48:=Rg [2] [⟨.bx,.alloc [.int .u8 0,.str [],.list true [],.list true []],[],some 2,none⟩]
def g2O:=Rg [] [fP 13 0 (.l 2),xP (.stLc 2 1) [.t 13,.c (.int .u8 1)] 2]
def g2A:=Rg [] [fP 17 0 (.l 2),xP (.stLc 2 1) [.t 17,.c (.int .u8 2)] 2]
def d94:=Rg [] [fP 21 0 (.l 2),xP (.stLc 2 1) [.t 21,.c (.int .u8 3)] 2]
def f3J:=Rg [] [fP 25 0 (.l 2),xP (.stLc 2 1) [.t 25,.c (.int .u8 4)] 2]
def d76:=Rg [] [fP 29 0 (.l 2),xP (.stLc 2 1) [.t 29,.c (.int .u8 5)] 2]
def d4w:=Rg [] [nP 7 0,oP 8 (.call 50) [.t 7,.c (.int .i64 4)]]
def e69:=Rg [] [lP 9 2 true 4 (.l 2),xP (.stLc 1 4) [.l 1,.ts 9] 1]
def e6i:=Ts [] [nP 27 0,oP 28 (.call 49) [.t 27,.c (.str [105,110,112,117,116])],mP 26 (.t 28)] (.t 26) d76 (Sq d4w (Sq e69 .ret))
def e66:=Ts [] [nP 23 0,oP 24 (.call 49) [.t 23,.c (.str [101,110,117,109])],mP 22 (.t 24)] (.t 22) f3J e6i
def f02:=Ts [] [nP 19 0,oP 20 (.call 49) [.t 19,.c (.str [117,110,105,111,110])],mP 18 (.t 20)] (.t 18) d94 e66
def d7t:=Ts [] [nP 15 0,oP 16 (.call 49) [.t 15,.c (.str [105,110,116,101,114,102,97,99,101])],mP 14 (.t 16)] (.t 14) g2A f02
def f0P:=Ts [] [nP 11 0,oP 12 (.call 49) [.t 11,.c (.str [116,121,112,101])],mP 10 (.t 12)] (.t 10) g2O d7t
def e8o:=Rg [] [nP 30 0,oP 31 .nilchk [.t 30],fP 32 1 (.t 31),oP 33 (.ldSt false 1) [.t 32],bP 34 .add (.t 33) (.c (.int .i64 1)),oP 35 .nilchk [.t 30],fP 36 1 (.t 35),op .none (.stSt 1) [.t 36,.t 34]]
def f4o:=Rg [] [nP 37 0,oP 38 (.call 51) [.t 37],fP 39 1 (.l 2),xP (.stLc 2 1) [.t 39,.t 38] 2]
def d6K:=Rg [] [fP 40 0 (.l 2),⟨.v 6,.ldLc 2 false 1,[.t 40],some 2,none⟩]
def e8i:=Rg [] [nP 88 0,oP 89 (.call 52) [.t 88,.c (.str [61])]]
def f1S:=Rg [] [nP 90 0,oP 91 (.call 53) [.t 90,.c (.str [124])],fP 92 3 (.l 2),xP (.stLc 2 1) [.t 92,.ts 91] 2]
def e16:=Rg [] [nP 95 0,oP 96 (.call 52) [.t 95,.c (.str [123])]]
def f2N:=Rg [] [vP 3 (.c (.bool true))]
def f4D:=Ts [] [nP 97 0,oP 98 .nilchk [.t 97],fP 99 4 (.t 98),oP 100 (.ldSt false 1) [.t 99],bP 101 .eql (.t 100) (.c (.int .i64 0)),mP 102 (.t 101),gP 103 .mv [.v 3] 102 true,gP 104 .mv [.t 103] 102 true,gP 105 .mv [.v 0] 104 false,gP 106 (.call 54) [.t 105,.c (.str [125])] 104 false,gP 107 (.un .not) [.t 106] 104 false,gP 108 .pick [.t 104,.c (.bool true),.t 107] 102 true,oP 109 .pick [.t 102,.t 108,.c (.bool false)]] (.t 109) .skip (.exit 4)
def e1i:=Rg [] [nP 120 0,oP 121 (.call 50) [.t 120,.c (.int .i64 4)]]
def f3o:=Ts [] [nP 110 0,oP 111 (.call 49) [.t 110,.c (.str [116,114,117,101])],mP 112 (.t 111),gP 113 .mv [.v 0] 112 false,gP 114 (.call 49) [.t 113,.c (.str [102,97,108,115,101])] 112 false,oP 115 .pick [.t 112,.c (.bool true),.t 114],mP 116 (.t 115),gP 117 .mv [.v 0] 116 false,gP 118 (.call 49) [.t 117,.c (.str [110,117,108,108])] 116 false,oP 119 .pick [.t 116,.c (.bool true),.t 118]] (.t 119) e1i .skip
def e8H:=Rg [] [fP 122 3 (.l 2),⟨.t 123,.ldLcS 2,[.t 122],some 2,none⟩,nP 124 0,oP 125 (.call 51) [.t 124],oP 126 (.bslice 1 [[.str []]] [0]) [.t 125],oP 127 (.app 1 16) [.ts 123,.t 126],fP 128 3 (.l 2),xP (.stLc 2 1) [.t 128,.ts 127] 2]
def f2t:=Rg [] [vP 3 (.c (.bool false))]
def f1E:=Rg [] [nP 131 0,oP 132 (.call 52) [.t 131,.c (.str [123])]]
def e9o:=Rg [] [nP 133 0,oP 134 (.call 55) [.t 133,.c (.str [125])],fP 135 2 (.l 2),xP (.stLc 2 1) [.t 135,.ts 134] 2]
def e6J:=Rg [] [nP 49 0,oP 50 (.call 53) [.t 49,.c (.str [38])],fP 51 3 (.l 2),xP (.stLc 2 1) [.t 51,.ts 50] 2]
def e75:=Ts [] [fP 42 0 (.l 2),lP 43 2 false 1 (.t 42),bP 44 .eql (.t 43) (.c (.int .u8 1)),mP 45 (.t 44),gP 46 .mv [.v 0] 45 true,gP 47 (.call 54) [.t 46,.c (.str [105,109,112,108,101,109,101,110,116,115])] 45 true,oP 48 .pick [.t 45,.t 47,.c (.bool false)]] (.t 48) e6J .skip
def e1U:=Rg [] [nP 52 0,oP 53 (.call 52) [.t 52,.c (.str [123])]]
def e5P:=Rg [] [vP 4 (.c (.bool true))]
def e2e:=Ts [] [nP 54 0,oP 55 .nilchk [.t 54],fP 56 4 (.t 55),oP 57 (.ldSt false 1) [.t 56],bP 58 .eql (.t 57) (.c (.int .i64 0)),mP 59 (.t 58),gP 60 .mv [.v 4] 59 true,gP 61 .mv [.t 60] 59 true,gP 62 .mv [.v 0] 61 false,gP 63 (.call 54) [.t 62,.c (.str [125])] 61 false,gP 64 (.un .not) [.t 63] 61 false,gP 65 .pick [.t 61,.c (.bool true),.t 64] 59 true,oP 66 .pick [.t 59,.t 65,.c (.bool false)]] (.t 66) .skip (.exit 2)
def d7O:=Rg [5] [nP 67 0,oP 68 (.call 51) [.t 67],oP 69 (.build [.str [],.list true [],.str [],.list true [],.bool false,.bool false,.int .u8 0,.int .i64 0,.str [],.list true [],.list true []] [(0,1)]) [.t 68],⟨.bx,.alloc [.str [],.list true [],.str [],.list true [],.bool false,.bool false,.int .u8 0,.int .i64 0,.str [],.list true [],.list true []],[],some 5,none⟩,xP (.stLc 5 11) [.l 5,.ts 69] 5]
def d96:=Rg [] [nP 72 0,oP 73 (.call 55) [.t 72,.c (.str [41])],fP 74 1 (.l 5),xP (.stLc 5 1) [.t 74,.ts 73] 5]
def e2W:=Ts [] [nP 70 0,oP 71 (.call 54) [.t 70,.c (.str [40])]] (.t 71) d96 .skip
def e5t:=Rg [] [nP 75 0,oP 76 (.call 52) [.t 75,.c (.str [58])]]
def e2y:=Rg [] [nP 77 0,oP 78 (.call 56) [.t 77],fP 79 2 (.l 5),xP (.stLc 5 3) [.t 79,.ts 78] 5]
def e3Q:=Rg [] [fP 80 2 (.l 2),⟨.t 81,.ldLcS 2,[.t 80],some 2,none⟩,lP 82 5 true 11 (.l 5),oP 83 (.bslice 11 [[.str [],.list true [],.str [],.list true [],.bool false,.bool false,.int .u8 0,.int .i64 0,.str [],.list true [],.list true []]] [0]) [.t 82],oP 84 (.app 11 176) [.ts 81,.t 83],fP 85 2 (.l 2),xP (.stLc 2 1) [.t 85,.ts 84] 2]
def c57:=Rg [] [vP 4 (.c (.bool false))]
def c6x:=Ts [] [bP 130 .eql (.v 6) (.c (.int .u8 5)),mP 129 (.t 130)] (.t 129) (Sq f1E e9o) (Sq e75 (Sq e1U (Sq e5P (Bk 2 (Lp (Sq e2e (Sq (Bk 3 (Sq d7O (Sq e2W (Sq e5t (Sq e2y e3Q))))) c57)))))))
def c6v:=Ts [] [bP 94 .eql (.v 6) (.c (.int .u8 4)),mP 93 (.t 94)] (.t 93) (Sq e16 (Sq f2N (Bk 4 (Lp (Sq f4D (Sq (Bk 5 (Sq f3o e8H)) f2t)))))) c6x
def c7a:=Ts [] [bP 87 .eql (.v 6) (.c (.int .u8 3)),mP 86 (.t 87)] (.t 86) (Sq e8i f1S) c6v
def c42:=Rg [] [lP 136 2 true 4 (.l 2),xP (.stLc 1 4) [.l 1,.ts 136] 1]
def g6H:ACode :=
  (Sq g0e (Sq f48 (Sq (Bk 0 f0P) (Sq e8o (Sq f4o (Sq (Sq d6K (Bk 1 c7a)) (Sq c42 .ret)))))))
def a25:AFn:={ np:=1,nv:=7,results:=[.bx 1 true 4],code:=g6H }
def a26:AFn:={ np:=1,nv:=0,results:=[],code:=.skip,ext:=some (Y2 4 72) }
def f54:=Rg [] [vP 2 (.c (.bool false))]
def f9t:=Rg [] [nP 5 0,nP 6 1,oP 7 (.call 57) [.t 5,.t 6],bP 8 .geq (.t 7) (.c (.int .i64 0)),vP 2 (.t 8)]
def g8x:ACode :=
  (Sq f54 (Sq f9t .ret))
def a27:AFn:={ np:=2,nv:=3,results:=[.v 2],code:=g8x }
def f8C:=Rg [] [vP 2 (.c (.bool false))]
def f8T:=Rg [] [nP 5 0,nP 6 1,oP 7 (.call 58) [.t 5,.t 6],vP 2 (.t 7)]
def g81:ACode :=
  (Sq f8C (Sq f8T .ret))
def a28:AFn:={ np:=2,nv:=3,results:=[.v 2],code:=g81 }
def g1p:=Rg [2,3] [⟨.bx,.boxV,[.v 1],some 2,none⟩,⟨.bx,.alloc [.int .i64 0,.str []],[],some 3,none⟩]
def f6t:=Rg [4] [fP 16 2 (.l 2),lP 17 2 false 1 (.t 16),oP 18 (.call 60) [.t 17],fP 19 3 (.l 2),lP 20 2 false 1 (.t 19),oP 21 (.app 1 16) [.ts 18,.t 20],oP 22 (.call 59) [.t 21],⟨.bx,.alloc [.int .i64 0,.str []],[],some 4,none⟩,xP (.stLc 4 2) [.l 4,.t 22] 4]
def f9G:=Rg [] [lP 31 4 true 2 (.l 4),xP (.stLc 3 2) [.l 3,.t 31] 3]
def f9w:=Ts [] [fP 23 0 (.l 4),lP 24 4 false 1 (.t 23),bP 25 .neq (.t 24) (.c (.int .i64 0)),mP 26 (.t 25),gP 27 (.fad 0) [.l 2] 26 true,⟨.t 28,.ldLc 2 false 1,[.t 27],some 2,some (.t 26,true)⟩,gP 29 (.bin .neq) [.t 28,.c (.int .u8 1)] 26 true,oP 30 .pick [.t 26,.t 29,.c (.bool false)]] (.t 30) (Sq f9G .ret) .skip
def e27:=Rg [5] [fP 32 2 (.l 2),lP 33 2 false 1 (.t 32),oP 34 (.call 60) [.t 33],oP 35 (.call 59) [.t 34],⟨.bx,.alloc [.int .i64 0,.str []],[],some 5,none⟩,xP (.stLc 5 2) [.l 5,.t 35] 5]
def d98:=Rg [] [lP 39 5 true 2 (.l 5),xP (.stLc 3 2) [.l 3,.t 39] 3]
def d7Y:=Ts [] [fP 36 0 (.l 5),lP 37 5 false 1 (.t 36),bP 38 .neq (.t 37) (.c (.int .i64 0))] (.t 38) (Sq d98 .ret) .skip
def e3m:=Rg [6] [fP 40 3 (.l 2),lP 41 2 false 1 (.t 40),oP 42 (.call 59) [.t 41],⟨.bx,.alloc [.int .i64 0,.str []],[],some 6,none⟩,xP (.stLc 6 2) [.l 6,.t 42] 6]
def e6w:=Rg [] [lP 46 6 true 2 (.l 6),xP (.stLc 3 2) [.l 3,.t 46] 3]
def e7F:=Ts [] [fP 43 0 (.l 6),lP 44 6 false 1 (.t 43),bP 45 .neq (.t 44) (.c (.int .i64 0))] (.t 45) (Sq e6w .ret) .skip
def e4t:=Rg [] [fP 47 2 (.l 2),⟨.v 13,.ldLc 2 false 1,[.t 47],some 2,none⟩,op (.v 14) .lenL [.v 13],vP 15 (.c (.int .i64 0))]
def d55:=Ts [] [bP 51 .lss (.v 15) (.v 14)] (.t 51) .skip (.exit 0)
def e8t:=Rg [7] [oP 52 (.iad 11) [.v 13,.v 15],oP 53 (.ldRo true 11) [.t 52],⟨.bx,.alloc [.str [],.list true [],.str [],.list true [],.bool false,.bool false,.int .u8 0,.int .i64 0,.str [],.list true [],.list true []],[],some 7,none⟩,xP (.stLc 7 11) [.l 7,.ts 53] 7]
def d42:=Rg [8] [nP 54 0,lP 55 7 true 11 (.l 7),fP 56 0 (.l 2),lP 57 2 false 1 (.t 56),bP 58 .eql (.t 57) (.c (.int .u8 5)),oP 59 (.call 61) [.t 54,.t 55,.t 58],⟨.bx,.alloc [.int .i64 0,.str []],[],some 8,none⟩,xP (.stLc 8 2) [.l 8,.t 59] 8]
def e10:=Rg [] [lP 63 8 true 2 (.l 8),xP (.stLc 3 2) [.l 3,.t 63] 3]
def e96:=Ts [] [fP 60 0 (.l 8),lP 61 8 false 1 (.t 60),bP 62 .neq (.t 61) (.c (.int .i64 0))] (.t 62) (Sq e10 .ret) .skip
def f3C:=Rg [] [bP 64 .add (.v 15) (.c (.int .i64 1)),vP 15 (.t 64)]
def e0Y:=Rg [] [oP 65 .mkM [],op .none (.mset 0) [.t 65,.c (.int .u8 1),.c (.int .u8 2)],op .none (.mset 0) [.t 65,.c (.int .u8 3),.c (.int .u8 1)],mP 66 (.t 65),fP 67 0 (.l 2),lP 68 2 false 1 (.t 67),oP 69 (.mget 0 [.int .u8 0] false false) [.t 66,.t 68],vP 9 (.t 69)]
def d4f:=Rg [] [fP 70 3 (.l 2),⟨.v 16,.ldLc 2 false 1,[.t 70],some 2,none⟩,op (.v 17) .lenL [.v 16],vP 18 (.c (.int .i64 0))]
def d5D:=Ts [] [bP 74 .lss (.v 18) (.v 17)] (.t 74) .skip (.exit 2)
def f0q:=Rg [] [oP 75 (.iad 1) [.v 16,.v 18],oP 76 (.ldAn false 1) [.t 75],vP 10 (.t 76)]
def f0O:=Rg [11] [nP 78 0,nP 79 10,oP 80 (.call 30) [.t 78,.t 79],mP 77 (.t 80),oP 81 (.ext 0) [.t 77],oP 82 (.ext 1) [.t 77],⟨.bx,.alloc [.int .u8 0,.str [],.list true [],.list true []],[],some 11,none⟩,xP (.stLc 11 4) [.l 11,.ts 81] 11,vP 12 (.t 82)]
def d8r:=Rg [] [nP 90 10,oP 91 (.build [.int .i64 0,.str []] [(0,1),(1,1)]) [.c (.int .i64 6),.t 90],xP (.stLc 3 2) [.l 3,.t 91] 3]
def e8E:=Rg [] [nP 101 10,oP 102 (.build [.int .i64 0,.str []] [(0,1),(1,1)]) [.c (.int .i64 8),.t 101],xP (.stLc 3 2) [.l 3,.t 102] 3]
def d7d:=Rg [] [nP 114 10,oP 115 (.build [.int .i64 0,.str []] [(0,1),(1,1)]) [.c (.int .i64 3),.t 114],xP (.stLc 3 2) [.l 3,.t 115] 3]
def e2c:=Ts [] [fP 104 0 (.l 2),lP 105 2 false 1 (.t 104),bP 106 .eql (.t 105) (.c (.int .u8 1)),mP 107 (.t 106),gP 108 .mv [.v 0] 107 true,⟨.t 109,.ldLc 2 true 4,[.l 2],some 2,some (.t 107,true)⟩,⟨.t 110,.ldLc 11 true 4,[.l 11],some 11,some (.t 107,true)⟩,gP 111 (.call 63) [.t 108,.t 109,.t 110] 107 true,gP 112 (.un .not) [.t 111] 107 true,oP 113 .pick [.t 107,.t 112,.c (.bool false)],mP 103 (.t 113)] (.t 103) (Sq d7d .ret) .skip
def d7X:=Ts [] [fP 93 0 (.l 11),lP 94 11 false 1 (.t 93),nP 95 9,bP 96 .neq (.t 94) (.t 95),mP 97 (.t 96),gP 98 .mv [.v 10] 97 false,gP 99 (.call 62) [.t 98] 97 false,oP 100 .pick [.t 97,.c (.bool true),.t 99],mP 92 (.t 100)] (.t 92) (Sq e8E .ret) e2c
def f0a:=Ts [] [nP 88 12,oP 89 (.un .not) [.t 88],mP 87 (.t 89)] (.t 87) (Sq d8r .ret) d7X
def e8X:=Ts [] [fP 84 0 (.l 2),lP 85 2 false 1 (.t 84),bP 86 .eql (.t 85) (.c (.int .u8 4)),mP 83 (.t 86)] (.t 83) .skip f0a
def e4r:=Rg [] [bP 116 .add (.v 18) (.c (.int .i64 1)),vP 18 (.t 116)]
def d5c:=Rg [] [oP 117 (.build [.int .i64 0,.str []] []) [],xP (.stLc 3 2) [.l 3,.t 117] 3]
def g7X:ACode :=
  (Sq g1p (Sq (Sq f6t f9w) (Sq (Sq e27 d7Y) (Sq (Sq e3m e7F) (Sq (Sq e4t (Bk 0 (Lp (Sq d55 (Sq (Bk 1 (Sq e8t (Sq d42 e96))) f3C))))) (Sq e0Y (Sq (Sq d4f (Bk 2 (Lp (Sq d5D (Sq (Bk 3 (Sq f0q (Sq f0O (Bk 4 e8X)))) e4r))))) (Sq d5c .ret))))))))
def a29:AFn:={ np:=2,nv:=19,results:=[.bx 3 true 2],code:=g7X }
def f77:=Rg [2] [⟨.bx,.alloc [.int .u8 0,.str [],.list true [],.list true []],[],some 2,none⟩,vP 3 (.c (.bool false))]
def g0S:=Rg [] [oP 10 (.build [.int .u8 0,.str [],.list true [],.list true []] []) [],xP (.stLc 2 4) [.l 2,.ts 10] 2,vP 3 (.c (.bool false))]
def g0d:=Ts [] [nP 8 0,oP 9 (.binP .eql) [.t 8,.c (.nilp)]] (.t 9) (Sq g0S .ret) .skip
def f7M:=Rg [] [nP 12 0,oP 13 .nilchk [.t 12],fP 14 1 (.t 13),oP 15 (.ldSt false 1) [.t 14],nP 16 1,oP 17 (.mget 1 [.int .i64 0] false true) [.t 15,.t 16],mP 11 (.t 17),oP 18 (.ext 0) [.t 11],oP 19 (.ext 1) [.t 11],vP 4 (.t 18),vP 5 (.t 19)]
def e7E:=Rg [] [oP 22 (.build [.int .u8 0,.str [],.list true [],.list true []] []) [],xP (.stLc 2 4) [.l 2,.ts 22] 2,vP 3 (.c (.bool false))]
def e2Q:=Ts [] [nP 20 5,oP 21 (.un .not) [.t 20]] (.t 21) (Sq e7E .ret) .skip
def d9r:=Rg [] [nP 23 0,oP 24 .nilchk [.t 23],fP 25 0 (.t 24),oP 26 (.ldSt false 1) [.t 25],nP 27 4,oP 28 (.iad 4) [.t 26,.t 27],oP 29 (.ldRo true 4) [.t 28],xP (.stLc 2 4) [.l 2,.ts 29] 2,vP 3 (.c (.bool true))]
def g6k:ACode :=
  (Sq f77 (Sq g0d (Sq f7M (Sq e2Q (Sq d9r .ret)))))
def a30:AFn:={ np:=2,nv:=6,results:=[.bx 2 true 4,.v 3],code:=g6k }
def f5K:=Rg [2,3] [⟨.bx,.boxV,[.v 1],some 2,none⟩,⟨.bx,.alloc [.int .i64 0,.str []],[],some 3,none⟩]
def g2G:=Rg [] [oP 16 (.build [.int .i64 0,.str []] []) [],xP (.stLc 3 2) [.l 3,.t 16] 3]
def g03:=Ts [] [fP 8 0 (.l 2),lP 9 2 false 1 (.t 8),bP 10 .neq (.t 9) (.c (.int .u8 1)),mP 11 (.t 10),gP 12 (.fad 0) [.l 2] 11 true,⟨.t 13,.ldLc 2 false 1,[.t 12],some 2,some (.t 11,true)⟩,gP 14 (.bin .neq) [.t 13,.c (.int .u8 2)] 11 true,oP 15 .pick [.t 11,.t 14,.c (.bool false)]] (.t 15) (Sq g2G .ret) .skip
def g1W:=Rg [] [fP 17 2 (.l 2),⟨.v 6,.ldLc 2 false 1,[.t 17],some 2,none⟩,op (.v 7) .lenL [.v 6],vP 8 (.c (.int .i64 0))]
def d4g:=Ts [] [bP 21 .lss (.v 8) (.v 7)] (.t 21) .skip (.exit 0)
def d4R:=Rg [4] [oP 22 (.iad 11) [.v 6,.v 8],oP 23 (.ldRo true 11) [.t 22],⟨.bx,.alloc [.str [],.list true [],.str [],.list true [],.bool false,.bool false,.int .u8 0,.int .i64 0,.str [],.list true [],.list true []],[],some 4,none⟩,xP (.stLc 4 11) [.l 4,.ts 23] 4]
def f2L:=Rg [] [fP 24 1 (.l 4),lP 25 4 false 1 (.t 24),oP 26 .lenL [.t 25],bP 27 .eql (.t 26) (.c (.int .i64 0)),vP 5 (.t 27)]
def e0c:=Rg [] [fP 28 1 (.l 2),⟨.v 9,.ldLc 2 false 1,[.t 28],some 2,none⟩]
def e8S:=Rg [] [nP 32 0,lP 33 4 true 11 (.l 4),oP 34 (.call 64) [.t 32,.t 33],mP 35 (.t 34),gP 36 .mv [.v 0] 35 false,⟨.t 37,.ldLc 4 true 11,[.l 4],some 4,some (.t 35,false)⟩,gP 38 (.call 65) [.t 36,.t 37] 35 false,oP 39 .pick [.t 35,.c (.bool true),.t 38],vP 5 (.t 39)]
def e4Q:=Rg [] [fP 42 0 (.l 2),lP 43 2 false 1 (.t 42),bP 44 .eql (.t 43) (.c (.int .u8 1)),mP 45 (.t 44),gP 46 .mv [.v 0] 45 true,⟨.t 47,.ldLc 4 true 11,[.l 4],some 4,some (.t 45,true)⟩,gP 48 (.call 66) [.t 46,.t 47] 45 true,oP 49 .pick [.t 45,.t 48,.c (.bool false)],vP 5 (.t 49)]
def e3N:=Ts [] [oP 41 (.bin .eql) [.v 9,.c (.str [77,117,116,97,116,105,111,110])],mP 40 (.t 41)] (.t 40) e4Q .skip
def e6u:=Ts [] [oP 31 (.bin .eql) [.v 9,.c (.str [81,117,101,114,121])],mP 30 (.t 31)] (.t 30) e8S e3N
def d46:=Rg [] [fP 52 0 (.l 4),lP 53 4 false 1 (.t 52),oP 54 (.build [.int .i64 0,.str []] [(0,1),(1,1)]) [.c (.int .i64 3),.t 53],xP (.stLc 3 2) [.l 3,.t 54] 3]
def f0A:=Ts [] [nP 50 5,oP 51 (.un .not) [.t 50]] (.t 51) (Sq d46 .ret) .skip
def e0F:=Rg [] [bP 55 .add (.v 8) (.c (.int .i64 1)),vP 8 (.t 55)]
def f0E:=Rg [] [oP 56 (.build [.int .i64 0,.str []] []) [],xP (.stLc 3 2) [.l 3,.t 56] 3]
def g6X:ACode :=
  (Sq f5K (Sq g03 (Sq (Sq g1W (Bk 0 (Lp (Sq d4g (Sq (Bk 1 (Sq d4R (Sq f2L (Sq (Sq e0c (Bk 2 e6u)) f0A)))) e0F))))) (Sq f0E .ret))))
def a31:AFn:={ np:=2,nv:=10,results:=[.bx 3 true 2],code:=g6X }
def f5h:=Rg [] [vP 1 (.c (.bool false))]
def g1c:=Rg [] [nP 3 0,oP 4 (.bin .eql) [.t 3,.c (.str [66,111,111,108,101,97,110])],mP 5 (.t 4),gP 6 .mv [.v 0] 5 false,gP 7 (.bin .eql) [.t 6,.c (.str [73,68])] 5 false,oP 8 .pick [.t 5,.c (.bool true),.t 7],mP 9 (.t 8),gP 10 .mv [.v 0] 9 false,gP 11 (.bin .eql) [.t 10,.c (.str [73,110,116])] 9 false,oP 12 .pick [.t 9,.c (.bool true),.t 11],mP 13 (.t 12),gP 14 .mv [.v 0] 13 false,gP 15 (.bin .eql) [.t 14,.c (.str [83,116,114,105,110,103])] 13 false,oP 16 .pick [.t 13,.c (.bool true),.t 15],vP 1 (.t 16)]
def g5T:ACode :=
  (Sq f5h (Sq g1c .ret))
def a32:AFn:={ np:=1,nv:=2,results:=[.v 1],code:=g5T }
def f5b:=Rg [] [vP 2 (.c (.bool false))]
def f6D:=Rg [] [vP 3 (.c (.int .i64 0))]
def g10:=Ts [] [nP 6 3,nP 7 0,oP 8 .lenL [.t 7],bP 9 .lss (.t 6) (.t 8)] (.t 9) .skip (.exit 0)
def f90:=Rg [] [vP 2 (.c (.bool true))]
def d9f:=Ts [] [nP 12 0,nP 13 3,oP 14 (.iad 1) [.t 12,.t 13],oP 15 (.ldAn false 1) [.t 14],nP 16 1,bP 17 .eql (.t 15) (.t 16)] (.t 17) (Sq f90 .ret) .skip
def e1c:=Rg [] [nP 10 3,bP 11 .add (.t 10) (.c (.int .i64 1)),vP 3 (.t 11)]
def e3l:=Rg [] [vP 2 (.c (.bool false))]
def g6B:ACode :=
  (Sq f5b (Sq (Sq f6D (Bk 0 (Lp (Sq g10 (Sq (Bk 1 d9f) e1c))))) (Sq e3l .ret)))
def a33:AFn:={ np:=2,nv:=4,results:=[.v 2],code:=g6B }
def f9b:=Rg [] [vP 2 (.c (.bool false))]
def f5v:=Rg [] [nP 5 0,oP 6 .lenS [.t 5],nP 7 1,oP 8 .lenS [.t 7],bP 9 .geq (.t 6) (.t 8),mP 10 (.t 9),gP 11 .mv [.v 0] 10 true,gP 12 .mv [.v 1] 10 true,gP 13 .lenS [.t 12] 10 true,gP 14 (.slS false true) [.t 11,.t 13] 10 true,gP 15 .mv [.v 1] 10 true,gP 16 (.bin .eql) [.t 14,.t 15] 10 true,oP 17 .pick [.t 10,.t 16,.c (.bool false)],vP 2 (.t 17)]
def g7Z:ACode :=
  (Sq f9b (Sq f5v .ret))
def a34:AFn:={ np:=2,nv:=3,results:=[.v 2],code:=g7Z }
def f5w:=Rg [2] [⟨.bx,.boxV,[.v 1],some 2,none⟩,op (.v 3) .mv [.c (.str [])],vP 4 (.c (.int .i64 0))]
def g2I:=Rg [] [fP 23 2 (.l 2),lP 24 2 false 1 (.t 23),oP 25 (.call 68) [.t 24],oP 26 (.call 67) [.t 25],mP 22 (.t 26),oP 27 (.ext 0) [.t 22],oP 28 (.ext 1) [.t 22],vP 5 (.t 27),vP 6 (.t 28)]
def f9j:=Rg [] [nP 31 5,nP 32 6,vP 3 (.t 31),vP 4 (.t 32)]
def f7Z:=Ts [] [nP 29 6,bP 30 .neq (.t 29) (.c (.int .i64 0))] (.t 30) (Sq f9j .ret) .skip
def e8O:=Rg [] [fP 34 3 (.l 2),lP 35 2 false 1 (.t 34),oP 36 (.call 67) [.t 35],mP 33 (.t 36),oP 37 (.ext 0) [.t 33],oP 38 (.ext 1) [.t 33],vP 5 (.t 37),vP 6 (.t 38)]
def e3v:=Rg [] [nP 41 5,nP 42 6,vP 3 (.t 41),vP 4 (.t 42)]
def e3X:=Ts [] [nP 39 6,bP 40 .neq (.t 39) (.c (.int .i64 0))] (.t 40) (Sq e3v .ret) .skip
def e2s:=Rg [] [op (.v 7) .mv [.c (.list true [])]]
def f0R:=Rg [] [mP 43 (.vs 7),fP 44 2 (.l 2),lP 45 2 false 1 (.t 44),oP 46 (.call 68) [.t 45],oP 47 (.app 1 16) [.ts 43,.t 46],vP 7 (.ts 47)]
def e7U:=Rg [] [mP 49 (.vs 7),fP 50 3 (.l 2),lP 51 2 false 1 (.t 50),oP 52 (.app 1 16) [.ts 49,.t 51],oP 53 (.call 67) [.t 52],mP 48 (.t 53),oP 54 (.ext 0) [.t 48],oP 55 (.ext 1) [.t 48],vP 8 (.t 54),vP 9 (.t 55)]
def e8n:=Rg [] [nP 58 8,nP 59 9,vP 3 (.t 58),vP 4 (.t 59)]
def f3S:=Ts [] [nP 56 9,bP 57 .neq (.t 56) (.c (.int .i64 0))] (.t 57) (Sq e8n .ret) .skip
def e0P:=Ts [] [fP 19 0 (.l 2),lP 20 2 false 1 (.t 19),bP 21 .eql (.t 20) (.c (.int .u8 1))] (.t 21) (Sq g2I (Sq f7Z (Sq e8O e3X))) (Sq e2s (Sq f0R (Sq e7U f3S)))
def e7P:=Rg [] [vP 10 (.c (.int .i64 0))]
def e8k:=Ts [] [nP 60 10,fP 61 2 (.l 2),lP 62 2 false 1 (.t 61),oP 63 .lenL [.t 62],bP 64 .lss (.t 60) (.t 63)] (.t 64) .skip (.exit 0)
def e5n:=Rg [] [nP 68 0,fP 69 2 (.l 2),lP 70 2 false 1 (.t 69),nP 71 10,oP 72 (.iad 11) [.t 70,.t 71],oP 73 (.ldRo true 11) [.t 72],fP 74 0 (.l 2),lP 75 2 false 1 (.t 74),bP 76 .eql (.t 75) (.c (.int .u8 5)),oP 77 (.call 69) [.t 68,.t 73,.t 76],mP 67 (.t 77),oP 78 (.ext 0) [.t 67],oP 79 (.ext 1) [.t 67],vP 11 (.t 78),vP 12 (.t 79)]
def e6Q:=Rg [] [nP 82 11,nP 83 12,vP 3 (.t 82),vP 4 (.t 83)]
def e20:=Ts [] [nP 80 12,bP 81 .neq (.t 80) (.c (.int .i64 0))] (.t 81) (Sq e6Q .ret) .skip
def d92:=Rg [] [nP 65 10,bP 66 .add (.t 65) (.c (.int .i64 1)),vP 10 (.t 66)]
def e6C:=Rg [] [vP 13 (.c (.int .i64 0))]
def e36:=Ts [] [nP 84 13,fP 85 3 (.l 2),lP 86 2 false 1 (.t 85),oP 87 .lenL [.t 86],bP 88 .lss (.t 84) (.t 87),mP 89 (.t 88),gP 90 (.fad 0) [.l 2] 89 true,⟨.t 91,.ldLc 2 false 1,[.t 90],some 2,some (.t 89,true)⟩,gP 92 (.bin .neq) [.t 91,.c (.int .u8 4)] 89 true,oP 93 .pick [.t 89,.t 92,.c (.bool false)]] (.t 93) .skip (.exit 2)
def e3U:=Rg [] [fP 96 3 (.l 2),lP 97 2 false 1 (.t 96),nP 98 13,oP 99 (.iad 1) [.t 97,.t 98],oP 100 (.ldAn false 1) [.t 99],vP 14 (.t 100)]
def e9N:=Rg [15] [nP 101 0,nP 102 14,oP 103 (.call 36) [.t 101,.t 102],⟨.bx,.alloc [.int .u8 0,.str [],.list true [],.list true []],[],some 15,none⟩,xP (.stLc 15 4) [.l 15,.ts 103] 15]
def e54:=Rg [] [nP 108 14,vP 3 (.t 108),vP 4 (.c (.int .i64 6))]
def e2t:=Rg [] [nP 137 14,vP 3 (.t 137),vP 4 (.c (.int .i64 8))]
def d9Q:=Ts [] [fP 110 0 (.l 2),lP 111 2 false 1 (.t 110),bP 112 .eql (.t 111) (.c (.int .u8 1)),mP 113 (.t 112),gP 114 (.fad 0) [.l 15] 113 true,⟨.t 115,.ldLc 15 false 1,[.t 114],some 15,some (.t 113,true)⟩,gP 116 (.bin .neq) [.t 115,.c (.int .u8 2)] 113 true,oP 117 .pick [.t 113,.t 116,.c (.bool false)],mP 118 (.t 117),gP 119 (.fad 0) [.l 2] 118 false,⟨.t 120,.ldLc 2 false 1,[.t 119],some 2,some (.t 118,false)⟩,gP 121 (.bin .eql) [.t 120,.c (.int .u8 3)] 118 false,gP 122 .mv [.t 121] 118 false,gP 123 (.fad 0) [.l 15] 122 true,⟨.t 124,.ldLc 15 false 1,[.t 123],some 15,some (.t 122,true)⟩,gP 125 (.bin .neq) [.t 124,.c (.int .u8 1)] 122 true,gP 126 .pick [.t 122,.t 125,.c (.bool false)] 118 false,oP 127 .pick [.t 118,.c (.bool true),.t 126],mP 128 (.t 127),gP 129 (.fad 0) [.l 2] 128 false,⟨.t 130,.ldLc 2 false 1,[.t 129],some 2,some (.t 128,false)⟩,gP 131 (.bin .eql) [.t 130,.c (.int .u8 2)] 128 false,oP 132 .pick [.t 128,.c (.bool true),.t 131],mP 133 (.t 132),gP 134 .mv [.v 14] 133 false,gP 135 (.call 70) [.t 134] 133 false,oP 136 .pick [.t 133,.c (.bool true),.t 135],mP 109 (.t 136)] (.t 109) (Sq e2t .ret) .skip
def d6Q:=Ts [] [fP 105 0 (.l 15),lP 106 15 false 1 (.t 105),bP 107 .eql (.t 106) (.c (.int .u8 0)),mP 104 (.t 107)] (.t 104) (Sq e54 .ret) d9Q
def f2P:=Rg [] [vP 16 (.c (.int .i64 0))]
def e1E:=Ts [] [nP 138 16,fP 139 2 (.l 15),lP 140 15 false 1 (.t 139),oP 141 .lenL [.t 140],bP 142 .lss (.t 138) (.t 141),mP 143 (.t 142),gP 144 (.fad 0) [.l 2] 143 true,⟨.t 145,.ldLc 2 false 1,[.t 144],some 2,some (.t 143,true)⟩,gP 146 (.bin .eql) [.t 145,.c (.int .u8 1)] 143 true,oP 147 .pick [.t 143,.t 146,.c (.bool false)]] (.t 147) .skip (.exit 5)
def e2E:=Rg [] [fP 150 2 (.l 2),lP 151 2 false 1 (.t 150),fP 152 2 (.l 15),lP 153 15 false 1 (.t 152),nP 154 16,oP 155 (.iad 11) [.t 153,.t 154],fP 156 0 (.t 155),oP 157 (.ldRo false 1) [.t 156],oP 158 (.call 71) [.t 151,.t 157],vP 17 (.t 158)]
def f0M:=Rg [] [nP 177 14,vP 3 (.t 177),vP 4 (.c (.int .i64 3))]
def f31:=Ts [] [nP 159 17,bP 160 .lss (.t 159) (.c (.int .i64 0)),mP 161 (.t 160),gP 162 (.fad 2) [.l 2] 161 false,⟨.t 163,.ldLc 2 false 1,[.t 162],some 2,some (.t 161,false)⟩,gP 164 .mv [.v 17] 161 false,gP 165 (.iad 11) [.t 163,.t 164] 161 false,gP 166 (.fad 2) [.t 165] 161 false,gP 167 (.ldRo true 3) [.t 166] 161 false,gP 168 (.fad 2) [.l 15] 161 false,⟨.t 169,.ldLc 15 false 1,[.t 168],some 15,some (.t 161,false)⟩,gP 170 .mv [.v 16] 161 false,gP 171 (.iad 11) [.t 169,.t 170] 161 false,gP 172 (.fad 2) [.t 171] 161 false,gP 173 (.ldRo true 3) [.t 172] 161 false,gP 174 (.call 72) [.t 167,.t 173] 161 false,gP 175 (.un .not) [.t 174] 161 false,oP 176 .pick [.t 161,.c (.bool true),.t 175]] (.t 176) (Sq f0M .ret) .skip
def f0K:=Rg [] [nP 148 16,bP 149 .add (.t 148) (.c (.int .i64 1)),vP 16 (.t 149)]
def e1l:=Rg [] [nP 94 13,bP 95 .add (.t 94) (.c (.int .i64 1)),vP 13 (.t 95)]
def d2J:=Rg [] [op (.v 3) .mv [.c (.str [])],vP 4 (.c (.int .i64 0))]
def g7c:ACode :=
  (Sq f5w (Sq e0P (Sq (Sq e7P (Bk 0 (Lp (Sq e8k (Sq (Bk 1 (Sq e5n e20)) d92))))) (Sq (Sq e6C (Bk 2 (Lp (Sq e36 (Sq (Bk 3 (Sq e3U (Sq e9N (Sq (Bk 4 d6Q) (Sq f2P (Bk 5 (Lp (Sq e1E (Sq (Bk 6 (Sq e2E f31)) f0K))))))))) e1l))))) (Sq d2J .ret)))))
def a35:AFn:={ np:=2,nv:=18,results:=[.v 3,.v 4],code:=g7c }
def f75:=Rg [2] [⟨.bx,.alloc [.int .u8 0,.str [],.list true [],.list true []],[],some 2,none⟩]
def g29:=Rg [] [vP 3 (.c (.int .i64 0))]
def f7T:=Ts [] [nP 6 3,nP 7 0,oP 8 .nilchk [.t 7],fP 9 0 (.t 8),oP 10 (.ldSt false 1) [.t 9],oP 11 .lenL [.t 10],bP 12 .lss (.t 6) (.t 11)] (.t 12) .skip (.exit 0)
def g1e:=Rg [] [nP 25 0,oP 26 .nilchk [.t 25],fP 27 0 (.t 26),oP 28 (.ldSt false 1) [.t 27],nP 29 3,oP 30 (.iad 4) [.t 28,.t 29],oP 31 (.ldRo true 4) [.t 30],xP (.stLc 2 4) [.l 2,.ts 31] 2]
def e9Z:=Ts [] [nP 15 0,oP 16 .nilchk [.t 15],fP 17 0 (.t 16),oP 18 (.ldSt false 1) [.t 17],nP 19 3,oP 20 (.iad 4) [.t 18,.t 19],fP 21 1 (.t 20),oP 22 (.ldRo false 1) [.t 21],nP 23 1,bP 24 .eql (.t 22) (.t 23)] (.t 24) (Sq g1e .ret) .skip
def d8G:=Rg [] [nP 13 3,bP 14 .add (.t 13) (.c (.int .i64 1)),vP 3 (.t 14)]
def d8N:=Rg [] [oP 32 (.build [.int .u8 0,.str [],.list true [],.list true []] []) [],xP (.stLc 2 4) [.l 2,.ts 32] 2]
def g5X:ACode :=
  (Sq f75 (Sq (Sq g29 (Bk 0 (Lp (Sq f7T (Sq (Bk 1 e9Z) d8G))))) (Sq d8N .ret)))
def a36:AFn:={ np:=2,nv:=4,results:=[.bx 2 true 4],code:=g5X }
def g0I:=Rg [3,4] [⟨.bx,.boxV,[.v 1],some 3,none⟩,⟨.bx,.boxV,[.v 2],some 4,none⟩,vP 5 (.c (.bool false))]
def g3w:=Rg [] [fP 8 1 (.l 3),⟨.v 7,.ldLc 3 false 1,[.t 8],some 3,none⟩]
def g2w:=Rg [] [fP 12 2 (.l 4),lP 13 4 true 3 (.t 12),oP 14 (.call 73) [.t 13],vP 6 (.t 14)]
def g0w:=Rg [] [vP 5 (.c (.bool false))]
def f4U:=Ts [] [nP 15 0,nP 16 6,oP 17 (.call 74) [.t 15,.t 16],oP 18 (.un .not) [.t 17]] (.t 18) (Sq g0w .ret) .skip
def e1Q:=Rg [] [fP 23 1 (.l 4),lP 24 4 false 1 (.t 23),oP 25 (.iad 11) [.t 24,.c (.int .i64 0)],oP 26 (.ldRo true 11) [.t 25],oP 27 (.call 75) [.t 26],mP 28 (.t 27),gP 29 (.fad 2) [.l 4] 28 true,gP 30 (.fad 1) [.t 29] 28 true,⟨.t 31,.ldLc 4 false 1,[.t 30],some 4,some (.t 28,true)⟩,gP 32 .lenL [.t 31] 28 true,gP 33 (.bin .eql) [.t 32,.c (.int .i64 0)] 28 true,oP 34 .pick [.t 28,.t 33,.c (.bool false)],mP 35 (.t 34),gP 36 (.fad 2) [.l 4] 35 true,gP 37 (.fad 2) [.t 36] 35 true,⟨.t 38,.ldLc 4 false 1,[.t 37],some 4,some (.t 35,true)⟩,gP 39 (.un .not) [.t 38] 35 true,oP 40 .pick [.t 35,.t 39,.c (.bool false)],vP 5 (.t 40)]
def e9W:=Ts [] [fP 19 1 (.l 4),lP 20 4 false 1 (.t 19),oP 21 .lenL [.t 20],bP 22 .eql (.t 21) (.c (.int .i64 1))] (.t 22) (Sq e1Q .ret) .skip
def e90:=Rg [] [fP 41 1 (.l 4),lP 42 4 false 1 (.t 41),oP 43 .lenL [.t 42],bP 44 .eql (.t 43) (.c (.int .i64 0)),mP 45 (.t 44),gP 46 (.fad 2) [.l 4] 45 true,gP 47 (.fad 1) [.t 46] 45 true,⟨.t 48,.ldLc 4 false 1,[.t 47],some 4,some (.t 45,true)⟩,gP 49 .lenL [.t 48] 45 true,gP 50 (.bin .gtr) [.t 49,.c (.int .i64 0)] 45 true,oP 51 .pick [.t 45,.t 50,.c (.bool false)],mP 52 (.t 51),gP 53 (.fad 2) [.l 4] 52 true,gP 54 (.fad 2) [.t 53] 52 true,⟨.t 55,.ldLc 4 false 1,[.t 54],some 4,some (.t 52,true)⟩,oP 56 .pick [.t 52,.t 55,.c (.bool false)],mP 57 (.t 56),gP 58 (.fad 2) [.l 4] 57 true,gP 59 (.fad 0) [.t 58] 57 true,⟨.t 60,.ldLc 4 false 1,[.t 59],some 4,some (.t 57,true)⟩,gP 61 (.bin .eql) [.t 60,.c (.str [])] 57 true,oP 62 .pick [.t 57,.t 61,.c (.bool false)],mP 63 (.t 62),gP 64 (.fad 2) [.l 4] 63 true,gP 65 (.fad 1) [.t 64] 63 true,⟨.t 66,.ldLc 4 false 1,[.t 65],some 4,some (.t 63,true)⟩,gP 67 (.iad 3) [.t 66,.c (.int .i64 0)] 63 true,gP 68 (.fad 1) [.t 67] 63 true,gP 69 (.ldRo false 1) [.t 68] 63 true,gP 70 .lenL [.t 69] 63 true,gP 71 (.bin .eql) [.t 70,.c (.int .i64 0)] 63 true,oP 72 .pick [.t 63,.t 71,.c (.bool false)],mP 73 (.t 72),gP 74 (.fad 2) [.l 4] 73 true,gP 75 (.fad 1) [.t 74] 73 true,⟨.t 76,.ldLc 4 false 1,[.t 75],some 4,some (.t 73,true)⟩,gP 77 (.iad 3) [.t 76,.c (.int .i64 0)] 73 true,gP 78 (.fad 2) [.t 77] 73 true,gP 79 (.ldRo false 1) [.t 78] 73 true,oP 80 .pick [.t 73,.t 79,.c (.bool false)],vP 5 (.t 80)]
def f3v:=Rg [] [fP 83 0 (.l 3),lP 84 3 false 1 (.t 83),bP 85 .eql (.t 84) (.c (.int .u8 1)),mP 86 (.t 85),gP 87 .mv [.v 0] 86 true,⟨.t 88,.ldLc 4 true 11,[.l 4],some 4,some (.t 86,true)⟩,gP 89 (.call 76) [.t 87,.t 88] 86 true,oP 90 .pick [.t 86,.t 89,.c (.bool false)],vP 5 (.t 90)]
def d79:=Ts [] [oP 82 (.bin .eql) [.v 7,.c (.str [77,117,116,97,116,105,111,110])],mP 81 (.t 82)] (.t 81) (Sq f3v .ret) .skip
def e1R:=Ts [] [oP 11 (.bin .eql) [.v 7,.c (.str [81,117,101,114,121])],mP 10 (.t 11)] (.t 10) (Sq g2w (Sq f4U (Sq e9W (Sq e90 .ret)))) d79
def e5A:=Rg [] [fP 91 1 (.l 4),lP 92 4 false 1 (.t 91),oP 93 .lenL [.t 92],bP 94 .eql (.t 93) (.c (.int .i64 0)),vP 5 (.t 94)]
def g7z:ACode :=
  (Sq g0I (Sq (Sq g3w (Bk 0 e1R)) (Sq e5A .ret)))
def a37:AFn:={ np:=3,nv:=8,results:=[.v 5],code:=g7z }
def a38s1:=Rg [2] [⟨.bx,.boxV,[.v 0],some 2,none⟩,vP 3 (.c (.int .i64 0)),vP 4 (.c (.bool false))]
def a38s3:=Rg [] [fP 6 0 (.l 2),lP 7 2 false 1 (.t 6),nP 8 1,oP 9 (.call 77) [.t 7,.t 8,.c (.func 78 [] [])],oP 10 (.ext 0) [.t 9],oP 11 (.ext 1) [.t 9],vP 3 (.t 10),vP 4 (.t 11)]
def a38c:ACode :=
  (Sq a38s1 (Sq a38s3 .ret))
def a38:AFn:={ np:=2,nv:=5,results:=[.v 3,.v 4],code:=a38c }
def a39:AFn:={ np:=3,nv:=0,results:=[],code:=.skip,ext:=some (J6 4 80) }
def f6b:=Rg [] [op (.v 1) (.allocO [.nils,.nils]) [],op (.v 2) (.allocO [.int .i64 0]) [],op (.v 3) (.allocO [.int .i64 0]) []]
def g2l:=Rg [] [nP 9 0,oP 10 (.call 81) [.t 9],mP 8 (.t 10),oP 11 (.ext 0) [.t 8],oP 12 (.ext 1) [.t 8],oP 13 (.ext 2) [.t 8],vP 4 (.ts 11),op .none (.stSt 1) [.v 2,.t 12],op .none (.stSt 1) [.v 3,.t 13]]
def f7Y:=Rg [] [oP 16 (.build [.nils,.nils] []) [],oP 17 (.ldStR false 1) [.v 2,.v 2],oP 18 (.ldStR false 1) [.v 3,.v 3],op .none (.stStA 2) [.v 1,.t 16,.v 1,.v 2,.v 3],op .none (.stStA 1) [.v 2,.t 17,.v 2,.v 3],op .none (.stSt 1) [.v 3,.t 18]]
def g3t:=Ts [] [oP 14 (.ldSt false 1) [.v 3],bP 15 .neq (.t 14) (.c (.int .i64 0))] (.t 15) (Sq f7Y .ret) .skip
def e8g:=Rg [] [nP 19 4,oP 20 (.build [.list true [],.int .i64 0,.int .i64 0] [(0,1)]) [.t 19],oP 21 .boxO [.ts 20],op (.v 5) (.allocO [.nilp]) [],op .none (.stSt 1) [.v 5,.t 21]]
def f1n:=Rg [] [op .none (.call 82) [.v 3,.v 5,.v 1,.v 2]]
def d4K:=Rg [] []
def e56:=Rg [] []
def e5C:=Rg [] [vP 6 (.c (.bool true))]
def e01:=Ts [] [nP 23 6] (.t 23) .skip (.exit 0)
def f0n:=Rg [] [fP 37 0 (.v 1),oP 38 (.ldStR false 1) [.t 37,.v 1],oP 39 (.ldSt false 1) [.v 5],oP 40 (.callA 86 1) [.t 39,.v 1],oP 41 (.build [.bool false,.str [],.list true [],.list true []] [(3,1)]) [.t 40],oP 42 (.bsliceM 4 [[.bool false,.str [],.list true [],.list true []]] [0]) [.ts 41],oP 43 (.appM 4 72) [.ts 38,.t 42],fP 44 0 (.v 1),op .none (.stSt 1) [.t 44,.t 43]]
def e5M:=Rg [] [fP 48 1 (.v 1),oP 49 (.ldStR false 1) [.t 48,.v 1],oP 50 (.ldSt false 1) [.v 5],oP 51 (.callA 88 1) [.t 50,.v 1],oP 52 (.bsliceM 3 [[.str [],.str [],.list true []]] [0]) [.ts 51],oP 53 (.appM 3 56) [.ts 49,.t 52],fP 54 1 (.v 1),op .none (.stSt 1) [.t 54,.t 53]]
def f1p:=Rg [] [fP 27 0 (.v 1),oP 28 (.ldStR false 1) [.t 27,.v 1],oP 29 (.ldSt false 1) [.v 5],oP 30 (.callA 89 1) [.t 29,.v 1],oP 31 (.bsliceM 4 [[.bool false,.str [],.list true [],.list true []]] [0]) [.ts 30],oP 32 (.appM 4 72) [.ts 28,.t 31],fP 33 0 (.v 1),op .none (.stSt 1) [.t 33,.t 32]]
def f2I:=Ts [] [oP 46 (.ldSt false 1) [.v 5],oP 47 (.call 87) [.t 46,.c (.str [102,114,97,103,109,101,110,116])],mP 45 (.t 47)] (.t 45) e5M f1p
def e9y:=Ts [] [oP 35 (.ldSt false 1) [.v 5],oP 36 (.call 85) [.t 35,.c (.str [123])],mP 34 (.t 36)] (.t 34) f0n f2I
def f0p:=Rg [] [oP 24 (.ldSt false 1) [.v 5],oP 25 (.call 84) [.t 24,.c (.int .u8 0)],oP 26 (.un .not) [.t 25],vP 6 (.t 26)]
def d5O:=Rg [] [oP 55 (.ldSt true 2) [.v 1],op .none (.stSt 2) [.v 1,.ts 55],op .none (.stSt 1) [.v 2,.c (.int .i64 0)],op .none (.stSt 1) [.v 3,.c (.int .i64 0)]]
def g9c:ACode :=
  (Sq f6b (Sq g2l (Sq g3t (Sq e8g (Sq d4K (Sq (Bk 900000 (Sq e56 (Sq (Bk 900001 (Sq (Sq e5C (Bk 0 (Lp (Sq e01 (Sq (Bk 1 (Bk 2 e9y)) f0p))))) (Sq d5O (.exit 900001)))) .skip))) f1n))))))
def a40:AFn:={ np:=1,nv:=7,results:=[.po 1 true 2,.po 2 false 1,.po 3 false 1],code:=g9c }
def f94:=Rg [2] [⟨.bx,.boxV,[.v 1],some 2,none⟩,op (.v 3) .mv [.c (.list true [])]]
def g3i:=Rg [] [nP 14 0,lP 15 2 true 2 (.l 2),oP 16 (.build [.nilp,.nils,.nils,.list true []] [(0,1),(1,2)]) [.t 14,.t 15],oP 17 .boxO [.ts 16],vP 4 (.t 17)]
def f7A:=Rg [] [op (.v 5) .mv [.c (.list true [])]]
def g0T:=Rg [] [fP 18 0 (.l 2),⟨.v 10,.ldLc 2 false 1,[.t 18],some 2,none⟩,op (.v 11) .lenL [.v 10],vP 12 (.c (.int .i64 0))]
def f5L:=Ts [] [bP 22 .lss (.v 12) (.v 11)] (.t 22) .skip (.exit 0)
def f4e:=Rg [6] [oP 23 (.iad 4) [.v 10,.v 12],oP 24 (.ldAn true 4) [.t 23],⟨.bx,.alloc [.bool false,.str [],.list true [],.list true []],[],some 6,none⟩,xP (.stLc 6 4) [.l 6,.ts 24] 6]
def f1f:=Rg [] [nP 34 4,oP 35 (.call 90) [.t 34,.c (.int .i64 2),.c (.str [])]]
def e3Y:=Ts [] [fP 25 1 (.l 6),lP 26 6 false 1 (.t 25),oP 27 (.bin .eql) [.t 26,.c (.str [])],mP 28 (.t 27),gP 29 (.fad 0) [.l 2] 28 true,⟨.t 30,.ldLc 2 false 1,[.t 29],some 2,some (.t 28,true)⟩,gP 31 .lenL [.t 30] 28 true,gP 32 (.bin .gtr) [.t 31,.c (.int .i64 1)] 28 true,oP 33 .pick [.t 28,.t 32,.c (.bool false)]] (.t 33) f1f .skip
def f0v:=Rg [] [mP 39 (.vs 5),fP 40 1 (.l 6),lP 41 6 false 1 (.t 40),oP 42 (.bslice 1 [[.str []]] [0]) [.t 41],oP 43 (.app 1 16) [.ts 39,.t 42],vP 5 (.ts 43)]
def e2k:=Ts [] [fP 36 1 (.l 6),lP 37 6 false 1 (.t 36),oP 38 (.bin .neq) [.t 37,.c (.str [])]] (.t 38) f0v .skip
def e2n:=Rg [] [bP 44 .add (.v 12) (.c (.int .i64 1)),vP 12 (.t 44)]
def d6m:=Rg [] [nP 45 4,nP 46 5,oP 47 (.call 91) [.t 45,.c (.int .i64 1),.t 46]]
def f0y:=Rg [] [nP 48 4,fP 49 1 (.l 2),lP 50 2 false 1 (.t 49),oP 51 (.call 92) [.t 50,.c (.func 93 [] [])],oP 52 (.call 91) [.t 48,.c (.int .i64 3),.t 51]]
def e8c:=Rg [] [op (.v 7) .mv [.c (.list true [])]]
def e0v:=Rg [] [fP 53 0 (.l 2),⟨.v 13,.ldLc 2 false 1,[.t 53],some 2,none⟩,op (.v 14) .lenL [.v 13],vP 15 (.c (.int .i64 0))]
def d5n:=Ts [] [bP 57 .lss (.v 15) (.v 14)] (.t 57) .skip (.exit 2)
def f4i:=Rg [8] [oP 58 (.iad 4) [.v 13,.v 15],oP 59 (.ldAn true 4) [.t 58],⟨.bx,.alloc [.bool false,.str [],.list true [],.list true []],[],some 8,none⟩,xP (.stLc 8 4) [.l 8,.ts 59] 8]
def f2o:=Rg [] [mP 60 (.vs 7),nP 61 4,fP 62 3 (.l 8),lP 63 8 false 1 (.t 62),oP 64 (.call 94) [.t 61,.t 63,.c (.nils)],oP 65 (.appA 16) [.ts 60,.t 64],vP 7 (.ts 65)]
def d4l:=Rg [] [nP 66 4,lP 67 8 true 4 (.l 8),oP 68 (.call 95) [.t 66,.t 67]]
def f36:=Rg [] [bP 69 .add (.v 15) (.c (.int .i64 1)),vP 15 (.t 69)]
def e14:=Rg [] [fP 70 1 (.l 2),⟨.v 16,.ldLc 2 false 1,[.t 70],some 2,none⟩,op (.v 17) .lenL [.v 16],vP 18 (.c (.int .i64 0))]
def d9l:=Ts [] [bP 74 .lss (.v 18) (.v 17)] (.t 74) .skip (.exit 4)
def e45:=Rg [9] [oP 75 (.iad 3) [.v 16,.v 18],oP 76 (.ldAn true 3) [.t 75],⟨.bx,.alloc [.str [],.str [],.list true []],[],some 9,none⟩,xP (.stLc 9 3) [.l 9,.ts 76] 9]
def e08:=Rg [] [nP 82 4,fP 83 0 (.l 9),lP 84 9 false 1 (.t 83),oP 85 (.call 90) [.t 82,.c (.int .i64 6),.t 84]]
def e64:=Ts [] [nP 77 7,fP 78 0 (.l 9),lP 79 9 false 1 (.t 78),oP 80 (.call 27) [.t 77,.t 79],oP 81 (.un .not) [.t 80]] (.t 81) e08 .skip
def d5S:=Rg [] [nP 93 4,fP 94 0 (.l 9),lP 95 9 false 1 (.t 94),oP 96 (.call 90) [.t 93,.c (.int .i64 7),.t 95]]
def e8U:=Ts [] [nP 86 4,fP 87 2 (.l 9),lP 88 9 false 1 (.t 87),oP 89 (.call 94) [.t 86,.t 88,.c (.nils)],fP 90 0 (.l 9),lP 91 9 false 1 (.t 90),oP 92 (.call 27) [.t 89,.t 91]] (.t 92) d5S .skip
def e5I:=Rg [] [nP 102 4,fP 103 1 (.l 9),lP 104 9 false 1 (.t 103),oP 105 (.call 90) [.t 102,.c (.int .i64 4),.t 104]]
def e1a:=Ts [] [nP 97 4,fP 98 1 (.l 9),lP 99 9 false 1 (.t 98),oP 100 (.call 96) [.t 97,.t 99],oP 101 (.un .not) [.t 100]] (.t 101) e5I .skip
def e7q:=Rg [] [nP 106 4,fP 107 1 (.l 9),lP 108 9 false 1 (.t 107),fP 109 2 (.l 9),lP 110 9 false 1 (.t 109),oP 111 (.call 97) [.t 106,.t 108,.t 110]]
def e5D:=Rg [] [bP 112 .add (.v 18) (.c (.int .i64 1)),vP 18 (.t 112)]
def d9e:=Rg [] [nP 113 4,oP 114 .nilchk [.t 113],fP 115 3 (.t 114),oP 116 (.ldSt false 1) [.t 115],oP 117 (.call 98) [.t 116,.c (.func 99 [] [])]]
def d9q:=Rg [] [nP 118 4,nP 119 4,oP 120 .nilchk [.t 119],fP 121 3 (.t 120),oP 122 (.ldSt false 1) [.t 121],oP 123 (.call 103) [.t 122],oP 124 .nilchk [.t 118],fP 125 3 (.t 124),op .none (.stSt 1) [.t 125,.t 123]]
def e7w:=Rg [] [nP 126 4,oP 127 .nilchk [.t 126],fP 128 3 (.t 127),oP 129 (.ldSt false 1) [.t 128],nP 130 4,oP 131 .nilchk [.t 130],fP 132 3 (.t 131),oP 133 (.ldSt false 1) [.t 132],oP 134 .lenL [.t 133],oP 135 .min2 [.t 134,.c (.int .i64 50)],oP 136 (.slL 2 false true) [.t 129,.t 135],vP 3 (.ts 136)]
def g5J:ACode :=
  (Sq f94 (Sq g3i (Sq f7A (Sq (Sq g0T (Bk 0 (Lp (Sq f5L (Sq (Bk 1 (Sq f4e (Sq e3Y e2k))) e2n))))) (Sq d6m (Sq f0y (Sq e8c (Sq (Sq e0v (Bk 2 (Lp (Sq d5n (Sq (Bk 3 (Sq f4i (Sq f2o d4l))) f36))))) (Sq (Sq e14 (Bk 4 (Lp (Sq d9l (Sq (Bk 5 (Sq e45 (Sq e64 (Sq e8U (Sq e1a e7q))))) e5D))))) (Sq d9e (Sq d9q (Sq e7w .ret))))))))))))
def a41:AFn:={ np:=2,nv:=19,results:=[.v 3],code:=g5J }
def f47:=Rg [2,4] [⟨.bx,.boxV,[.v 0],some 2,none⟩,op (.v 3) .boxO [.v 1],⟨.bx,.alloc [.bool false,.str [],.list true [],.list true []],[],some 4,none⟩,vP 5 (.c (.int .i64 0))]
def g2b:=Rg [] [fP 15 0 (.l 2),lP 16 2 false 1 (.t 15),oP 17 (.iad 4) [.t 16,.c (.int .i64 0)],oP 18 (.ldAn true 4) [.t 17],xP (.stLc 4 4) [.l 4,.ts 18] 4,vP 5 (.c (.int .i64 0))]
def f60:=Ts [] [oP 7 (.ldSt false 1) [.v 3],oP 8 (.bin .eql) [.t 7,.c (.str [])],mP 9 (.t 8),gP 10 (.fad 0) [.l 2] 9 true,⟨.t 11,.ldLc 2 false 1,[.t 10],some 2,some (.t 9,true)⟩,gP 12 .lenL [.t 11] 9 true,gP 13 (.bin .eql) [.t 12,.c (.int .i64 1)] 9 true,oP 14 .pick [.t 9,.t 13,.c (.bool false)]] (.t 14) (Sq g2b .ret) .skip
def g1v:=Rg [] [fP 19 0 (.l 2),lP 20 2 false 1 (.t 19),oP 21 (.mkF 105 0) [.v 3],oP 22 (.call 104) [.t 20,.t 21],vP 6 (.t 22)]
def e4H:=Rg [] [oP 29 (.build [.bool false,.str [],.list true [],.list true []] []) [],xP (.stLc 4 4) [.l 4,.ts 29] 4,vP 5 (.c (.int .i64 6))]
def d5f:=Ts [] [nP 23 6,bP 24 .lss (.t 23) (.c (.int .i64 0)),mP 25 (.t 24),gP 26 (.ldSt false 1) [.v 3] 25 false,gP 27 (.bin .eql) [.t 26,.c (.str [])] 25 false,oP 28 .pick [.t 25,.c (.bool true),.t 27]] (.t 28) (Sq e4H .ret) .skip
def e1q:=Rg [] [fP 30 0 (.l 2),lP 31 2 false 1 (.t 30),nP 32 6,oP 33 (.iad 4) [.t 31,.t 32],oP 34 (.ldAn true 4) [.t 33],xP (.stLc 4 4) [.l 4,.ts 34] 4,vP 5 (.c (.int .i64 0))]
def g8B:ACode :=
  (Sq f47 (Sq f60 (Sq g1v (Sq d5f (Sq e1q .ret)))))
def a42:AFn:={ np:=2,nv:=7,results:=[.bx 4 true 4,.v 5],code:=g8B }
def a43s1:=Rg [3,4] [⟨.bx,.boxV,[.v 2],some 3,none⟩,⟨.bx,.alloc [.int .u8 0,.int .i64 0,.str [],.list true [],.list true []],[],some 4,none⟩,op (.v 5) .mv [.c (.str [])],vP 6 (.c (.int .i64 0))]
def a43s3:=Rg [] [oP 15 (.build [.int .u8 0,.int .i64 0,.str [],.list true [],.list true []] [(0,1)]) [.c (.int .u8 6)],op (.v 7) (.allocO [.int .u8 0,.int .i64 0,.str [],.list true [],.list true []]) [],op .none (.stSt 5) [.v 7,.ts 15]]
def a43s5:=Rg [] [vP 12 (.v 1),op (.v 13) .lenL [.v 12],vP 14 (.c (.int .i64 0))]
def a43s7:=Ts [] [bP 19 .lss (.v 14) (.v 13)] (.t 19) .skip (.exit 0)
def a43s9:=Rg [8] [oP 20 (.iad 10) [.v 12,.v 14],oP 21 (.ldRo true 10) [.t 20],⟨.bx,.alloc [.str [],.str [],.list true [],.bool false,.bool false,.int .u8 0,.int .i64 0,.str [],.list true [],.list true []],[],some 8,none⟩,xP (.stLc 8 10) [.l 8,.ts 21] 8]
def a43s11:=Rg [9] [lP 23 3 true 5 (.l 3),fP 24 0 (.l 8),lP 25 8 false 1 (.t 24),oP 26 (.call 106) [.t 23,.t 25],mP 22 (.t 26),oP 27 (.ext 0) [.t 22],oP 28 (.ext 1) [.t 22],⟨.bx,.alloc [.int .u8 0,.int .i64 0,.str [],.list true [],.list true []],[],some 9,none⟩,xP (.stLc 9 5) [.l 9,.ts 27] 9,vP 10 (.t 28)]
def a43s13:=Rg [] [vP 11 (.c (.int .i64 0))]
def a43s16:=Rg [] [nP 32 0,fP 33 1 (.l 8),lP 34 8 true 3 (.t 33),lP 35 9 true 5 (.l 9),oP 36 (.call 107) [.t 32,.t 34,.t 35],mP 31 (.t 36),oP 37 (.ext 0) [.t 31],oP 38 (.ext 1) [.t 31],xP (.stLc 9 5) [.l 9,.ts 37] 9,vP 11 (.t 38)]
def a43s19:=Rg [] [nP 43 0,fP 44 1 (.l 8),lP 45 8 true 3 (.t 44),fP 46 5 (.l 8),lP 47 8 true 5 (.t 46),oP 48 (.build [.int .u8 0,.int .i64 0,.str [],.list true [],.list true []] []) [],oP 49 (.call 108) [.t 43,.t 45,.t 47,.t 48],mP 42 (.t 49),oP 50 (.ext 0) [.t 42],oP 51 (.ext 1) [.t 42],oP 52 (.ext 2) [.t 42],xP (.stLc 9 5) [.l 9,.ts 50] 9,vP 10 (.t 51),vP 11 (.t 52)]
def a43s22:=Rg [] [vP 11 (.c (.int .i64 9))]
def a43s23:=Ts [] [fP 54 1 (.l 8),fP 55 2 (.t 54),lP 56 8 false 1 (.t 55),mP 53 (.t 56)] (.t 53) a43s22 .skip
def a43s24:=Ts [] [fP 40 4 (.l 8),lP 41 8 false 1 (.t 40),mP 39 (.t 41)] (.t 39) a43s19 a43s23
def a43s25:=Ts [] [nP 30 10,mP 29 (.t 30)] (.t 29) a43s16 a43s24
def a43s29:=Rg [] [oP 59 (.build [.int .u8 0,.int .i64 0,.str [],.list true [],.list true []] []) [],fP 60 0 (.l 8),lP 61 8 false 1 (.t 60),nP 62 11,xP (.stLc 4 5) [.l 4,.ts 59] 4,vP 5 (.t 61),vP 6 (.t 62)]
def a43s31:=Ts [] [nP 57 11,bP 58 .neq (.t 57) (.c (.int .i64 0))] (.t 58) (Sq a43s29 .ret) .skip
def a43s34:=Rg [] [fP 64 0 (.l 8),lP 65 8 false 1 (.t 64),lP 66 9 true 5 (.l 9),oP 67 (.call 109) [.v 7,.t 65,.t 66]]
def a43s35:=Ts [] [nP 63 10] (.t 63) a43s34 .skip
def a43s43:=Rg [] [bP 68 .add (.v 14) (.c (.int .i64 1)),vP 14 (.t 68)]
def a43s50:=Rg [] [oP 69 (.ldSt true 5) [.v 7],xP (.stLc 4 5) [.l 4,.ts 69] 4,op (.v 5) .mv [.c (.str [])],vP 6 (.c (.int .i64 0))]
def a43c:ACode :=
  (Sq a43s1 (Sq a43s3 (Sq (Sq a43s5 (Bk 0 (Lp (Sq a43s7 (Sq (Bk 1 (Sq a43s9 (Sq a43s11 (Sq a43s13 (Sq (Bk 2 a43s25) (Sq a43s31 a43s35)))))) a43s43))))) (Sq a43s50 .ret))))
def a43:AFn:={ np:=3,nv:=15,results:=[.bx 4 true 5,.v 5,.v 6],code:=a43c }
def a44s1:=Rg [5,6] [⟨.bx,.boxV,[.v 1],some 5,none⟩,⟨.bx,.boxV,[.v 4],some 6,none⟩,op (.v 7) .mv [.c (.list true [])]]
def a44s3:=Rg [] [nP 12 0,lP 13 5 true 2 (.l 5),nP 14 2,lP 15 6 true 5 (.l 6),oP 16 (.build [.nilp,.nils,.nils,.str [],.int .u8 0,.int .i64 0,.str [],.list true [],.list true [],.list true [],.list true []] [(0,1),(1,2),(3,1),(4,5)]) [.t 12,.t 13,.t 14,.t 15],oP 17 .boxO [.ts 16],vP 8 (.t 17)]
def a44s5:=Rg [] [nP 18 8,nP 19 3,oP 20 (.call 110) [.t 18,.t 19]]
def a44s7:=Rg [] [nP 21 8,oP 22 .nilchk [.t 21],fP 23 10 (.t 22),oP 24 (.ldSt false 1) [.t 23],vP 7 (.ts 24)]
def a44c:ACode :=
  (Sq a44s1 (Sq a44s3 (Sq a44s5 (Sq a44s7 .ret))))
def a44:AFn:={ np:=5,nv:=9,results:=[.v 7],code:=a44c }
def f6J:=Rg [3] [⟨.bx,.alloc [.str [],.list true [],.str [],.list true [],.bool false,.bool false,.int .u8 0,.int .i64 0,.str [],.list true [],.list true []],[],some 3,none⟩,vP 4 (.c (.bool false))]
def f5V:=Rg [5] [nP 12 0,nP 13 1,oP 14 (.call 30) [.t 12,.t 13],mP 11 (.t 14),oP 15 (.ext 0) [.t 11],oP 16 (.ext 1) [.t 11],⟨.bx,.alloc [.int .u8 0,.str [],.list true [],.list true []],[],some 5,none⟩,xP (.stLc 5 4) [.l 5,.ts 15] 5,vP 6 (.t 16)]
def g1q:=Rg [] [nP 31 2,oP 32 (.build [.str [],.list true [],.bool false] [(0,1),(2,1)]) [.c (.str [83,116,114,105,110,103]),.c (.bool true)],oP 33 (.build [.str [],.list true [],.str [],.list true [],.bool false,.bool false,.int .u8 0,.int .i64 0,.str [],.list true [],.list true []] [(0,1),(2,3)]) [.t 31,.t 32],xP (.stLc 3 11) [.l 3,.ts 33] 3,vP 4 (.c (.bool true))]
def g3x:=Ts [] [nP 17 6,mP 18 (.t 17),gP 19 .mv [.v 2] 18 true,gP 20 (.bin .eql) [.t 19,.c (.str [95,95,116,121,112,101,110,97,109,101])] 18 true,oP 21 .pick [.t 18,.t 20,.c (.bool false)],mP 22 (.t 21),gP 23 .mv [.v 0] 22 true,gP 24 .mv [.v 1] 22 true,gP 25 (.call 111) [.t 23,.t 24] 22 true,gP 26 .mv [.t 25] 22 true,gP 27 .mv [.v 1] 26 false,gP 28 (.call 62) [.t 27] 26 false,gP 29 .pick [.t 26,.c (.bool true),.t 28] 22 true,oP 30 .pick [.t 22,.t 29,.c (.bool false)]] (.t 30) (Sq g1q .ret) .skip
def e83:=Rg [] [fP 34 2 (.l 5),lP 35 5 false 1 (.t 34),oP 36 (.call 60) [.t 35],nP 37 2,oP 38 (.call 57) [.t 36,.t 37],vP 7 (.t 38)]
def d6i:=Rg [] [fP 46 2 (.l 5),lP 47 5 false 1 (.t 46),nP 48 7,oP 49 (.iad 11) [.t 47,.t 48],oP 50 (.ldRo true 11) [.t 49],xP (.stLc 3 11) [.l 3,.ts 50] 3,vP 4 (.c (.bool true))]
def e9E:=Ts [] [nP 39 7,bP 40 .geq (.t 39) (.c (.int .i64 0)),mP 41 (.t 40),gP 42 (.fad 0) [.l 5] 41 true,⟨.t 43,.ldLc 5 false 1,[.t 42],some 5,some (.t 41,true)⟩,gP 44 (.bin .neq) [.t 43,.c (.int .u8 5)] 41 true,oP 45 .pick [.t 41,.t 44,.c (.bool false)]] (.t 45) (Sq d6i .ret) .skip
def e1z:=Rg [] [oP 51 (.build [.str [],.list true [],.str [],.list true [],.bool false,.bool false,.int .u8 0,.int .i64 0,.str [],.list true [],.list true []] []) [],xP (.stLc 3 11) [.l 3,.ts 51] 3,vP 4 (.c (.bool false))]
def g5M:ACode :=
  (Sq f6J (Sq f5V (Sq g3x (Sq (Sq e83 e9E) (Sq e1z .ret)))))
def a45:AFn:={ np:=3,nv:=8,results:=[.bx 3 true 11,.v 4],code:=g5M }
def a46s1:=Rg [3,4,5] [⟨.bx,.boxV,[.v 1],some 3,none⟩,⟨.bx,.boxV,[.v 2],some 4,none⟩,⟨.bx,.alloc [.int .u8 0,.int .i64 0,.str [],.list true [],.list true []],[],some 5,none⟩]
def a46s4:=Rg [] [oP 21 (.build [.int .u8 0,.int .i64 0,.str [],.list true [],.list true []] [(0,1),(2,1)]) [.c (.int .u8 2),.c (.str [77,117,116,97,116,105,111,110])],xP (.stLc 5 5) [.l 5,.ts 21] 5]
def a46s6:=Ts [] [fP 18 0 (.l 3),lP 19 3 false 1 (.t 18),oP 20 (.bin .eql) [.t 19,.c (.str [95,95,116,121,112,101,110,97,109,101])]] (.t 20) (Sq a46s4 .ret) .skip
def a46s8:=Rg [6] [nP 23 0,oP 24 .nilchk [.t 23],fP 25 0 (.t 24),oP 26 (.ldSt false 1) [.t 25],lP 27 3 true 11 (.l 3),fP 28 1 (.l 4),lP 29 4 false 1 (.t 28),oP 30 (.iad 7) [.t 29,.c (.int .i64 0)],fP 31 4 (.t 30),oP 32 (.ldAn false 1) [.t 31],nP 33 0,oP 34 .nilchk [.t 33],fP 35 4 (.t 34),oP 36 (.ldSt true 5) [.t 35],oP 37 (.call 112) [.t 26,.t 27,.t 32,.t 36],mP 22 (.t 37),oP 38 (.ext 0) [.t 22],oP 39 (.ext 1) [.t 22],oP 40 (.ext 2) [.t 22],⟨.bx,.alloc [.int .u8 0,.int .i64 0,.str [],.list true [],.list true []],[],some 6,none⟩,xP (.stLc 6 5) [.l 6,.ts 38] 6,mP 8 (.t 39),vP 7 (.t 40)]
def a46s10:=Rg [] [op (.v 8) .mv [.c (.str [])]]
def a46s13:=Rg [9] [lP 44 6 true 5 (.l 6),oP 45 (.call 106) [.t 44,.c (.str [105,100])],mP 43 (.t 45),oP 46 (.ext 0) [.t 43],oP 47 (.ext 1) [.t 43],⟨.bx,.alloc [.int .u8 0,.int .i64 0,.str [],.list true [],.list true []],[],some 9,none⟩,xP (.stLc 9 5) [.l 9,.ts 46] 9,mP 12 (.t 47)]
def a46s15:=Rg [] [fP 48 2 (.l 9),lP 49 9 false 1 (.t 48),vP 8 (.t 49)]
def a46s17:=Rg [] [nP 50 0,lP 51 3 true 11 (.l 3),nP 52 8,lP 53 6 true 5 (.l 6),oP 54 (.call 113) [.t 50,.t 51,.t 52,.t 53],vP 7 (.t 54)]
def a46s20:=Ts [] [nP 41 7,bP 42 .eql (.t 41) (.c (.int .i64 0))] (.t 42) (Sq a46s13 (Sq a46s15 a46s17)) .skip
def a46s23:=Rg [] [nP 57 0,nP 58 0,oP 59 .nilchk [.t 58],fP 60 9 (.t 59),oP 61 .ldStS [.t 60],fP 62 0 (.l 4),lP 63 4 false 1 (.t 62),oP 64 (.bslice 1 [[.str []]] [0]) [.t 63],nP 65 7,oP 66 (.build [.list true [],.int .i64 0] [(0,1),(1,1)]) [.t 64,.t 65],oP 67 (.bsliceM 2 [[.list true [],.int .i64 0]] [0]) [.ts 66],oP 68 (.appM 2 32) [.ts 61,.t 67],oP 69 .nilchk [.t 57],fP 70 9 (.t 69),op .none (.stSt 1) [.t 70,.t 68]]
def a46s25:=Rg [] [oP 71 (.build [.int .u8 0,.int .i64 0,.str [],.list true [],.list true []] []) [],xP (.stLc 5 5) [.l 5,.ts 71] 5]
def a46s28:=Ts [] [nP 55 7,bP 56 .neq (.t 55) (.c (.int .i64 0))] (.t 56) (Sq a46s23 (Sq a46s25 .ret)) .skip
def a46s30:=Rg [10] [nP 73 0,oP 74 .nilchk [.t 73],fP 75 0 (.t 74),oP 76 (.ldSt false 1) [.t 75],nP 77 0,oP 78 .nilchk [.t 77],fP 79 3 (.t 78),oP 80 (.ldSt true 1) [.t 79],oP 81 (.build [.nils,.bool false,.list true []] [(0,1),(1,1)]) [.t 80,.c (.bool true)],nP 82 0,oP 83 .nilchk [.t 82],fP 84 1 (.t 83),oP 85 (.ldSt true 2) [.t 84],nP 86 0,oP 87 .nilchk [.t 86],fP 88 4 (.t 87),oP 89 (.ldSt true 5) [.t 88],fP 90 2 (.l 3),lP 91 3 true 3 (.t 90),lP 92 4 true 2 (.l 4),nP 93 8,nP 94 0,oP 95 .nilchk [.t 94],fP 96 10 (.t 95),oP 97 (.ldSt false 1) [.t 96],oP 98 (.call 114) [.t 76,.t 81,.t 85,.t 89,.t 91,.t 92,.t 93,.t 97],mP 72 (.t 98),oP 99 (.ext 0) [.t 72],oP 100 (.ext 1) [.t 72],oP 101 (.ext 2) [.t 72],⟨.bx,.alloc [.int .u8 0,.int .i64 0,.str [],.list true [],.list true []],[],some 10,none⟩,xP (.stLc 10 5) [.l 10,.ts 99] 10,vP 11 (.ts 100),vP 12 (.t 101)]
def a46s32:=Rg [] [nP 102 0,nP 103 0,nP 104 0,oP 105 .nilchk [.t 104],fP 106 9 (.t 105),oP 107 .ldStS [.t 106],nP 108 11,oP 109 (.appM 2 32) [.ts 107,.t 108],nP 110 12,oP 111 .nilchk [.t 102],fP 112 9 (.t 111),op .none (.stSt 1) [.t 112,.t 109],oP 113 .nilchk [.t 103],fP 114 10 (.t 113),op .none (.stSt 1) [.t 114,.t 110]]
def a46s34:=Rg [] [fP 116 0 (.l 3),lP 117 3 false 1 (.t 116),oP 118 (.call 115) [.t 117],mP 115 (.t 118),oP 119 (.ext 0) [.t 115],oP 120 (.ext 1) [.t 115],vP 13 (.t 119),mP 17 (.t 120)]
def a46s37:=Rg [] [nP 123 0,nP 124 0,oP 125 .nilchk [.t 124],fP 126 3 (.t 125),oP 127 (.ldSt true 1) [.t 126],nP 128 8,oP 129 (.call 116) [.t 127,.t 128],oP 130 .nilchk [.t 123],fP 131 3 (.t 130),op .none (.stSt 1) [.t 131,.ts 129]]
def a46s38:=Ts [] [nP 121 13,oP 122 (.bin .eql) [.t 121,.c (.str [100,101,108,101,116,101])]] (.t 122) a46s37 .skip
def a46s41:=Rg [] [lP 132 10 true 5 (.l 10),xP (.stLc 5 5) [.l 5,.ts 132] 5]
def a46c:ACode :=
  (Sq a46s1 (Sq a46s6 (Sq a46s8 (Sq a46s10 (Sq a46s20 (Sq a46s28 (Sq a46s30 (Sq a46s32 (Sq (Sq a46s34 a46s38) (Sq a46s41 .ret))))))))))
def a46:AFn:={ np:=3,nv:=14,results:=[.bx 5 true 5],code:=a46c }
def a47s1:=Rg [2,3] [⟨.bx,.boxV,[.v 0],some 2,none⟩,⟨.bx,.boxV,[.v 1],some 3,none⟩,vP 4 (.c (.bool false))]
def a47s4:=Rg [] [vP 4 (.c (.bool false))]
def a47s6:=Ts [] [fP 7 0 (.l 2),lP 8 2 false 1 (.t 7),fP 9 0 (.l 3),lP 10 3 false 1 (.t 9),bP 11 .neq (.t 8) (.t 10),mP 12 (.t 11),gP 13 (.fad 1) [.l 2] 12 false,⟨.t 14,.ldLc 2 false 1,[.t 13],some 2,some (.t 12,false)⟩,gP 15 (.fad 1) [.l 3] 12 false,⟨.t 16,.ldLc 3 false 1,[.t 15],some 3,some (.t 12,false)⟩,gP 17 (.bin .neq) [.t 14,.t 16] 12 false,oP 18 .pick [.t 12,.c (.bool true),.t 17],mP 19 (.t 18),gP 20 (.fad 2) [.l 2] 19 false,⟨.t 21,.ldLc 2 false 1,[.t 20],some 2,some (.t 19,false)⟩,gP 22 (.fad 2) [.l 3] 19 false,⟨.t 23,.ldLc 3 false 1,[.t 22],some 3,some (.t 19,false)⟩,gP 24 (.bin .neq) [.t 21,.t 23] 19 false,oP 25 .pick [.t 19,.c (.bool true),.t 24],mP 26 (.t 25),gP 27 (.fad 3) [.l 2] 26 false,⟨.t 28,.ldLc 2 false 1,[.t 27],some 2,some (.t 26,false)⟩,gP 29 .lenL [.t 28] 26 false,gP 30 (.fad 3) [.l 3] 26 false,⟨.t 31,.ldLc 3 false 1,[.t 30],some 3,some (.t 26,false)⟩,gP 32 .lenL [.t 31] 26 false,gP 33 (.bin .neq) [.t 29,.t 32] 26 false,oP 34 .pick [.t 26,.c (.bool true),.t 33],mP 35 (.t 34),gP 36 (.fad 4) [.l 2] 35 false,⟨.t 37,.ldLc 2 false 1,[.t 36],some 2,some (.t 35,false)⟩,gP 38 .lenL [.t 37] 35 false,gP 39 (.fad 4) [.l 3] 35 false,⟨.t 40,.ldLc 3 false 1,[.t 39],some 3,some (.t 35,false)⟩,gP 41 .lenL [.t 40] 35 false,gP 42 (.bin .neq) [.t 38,.t 41] 35 false,oP 43 .pick [.t 35,.c (.bool true),.t 42]] (.t 43) (Sq a47s4 .ret) .skip
def a47s8:=Rg [] [vP 5 (.c (.int .i64 0))]
def a47s10:=Ts [] [nP 44 5,fP 45 3 (.l 2),lP 46 2 false 1 (.t 45),oP 47 .lenL [.t 46],bP 48 .lss (.t 44) (.t 47)] (.t 48) .skip (.exit 0)
def a47s13:=Rg [] [vP 4 (.c (.bool false))]
def a47s15:=Ts [] [fP 51 3 (.l 2),lP 52 2 false 1 (.t 51),nP 53 5,oP 54 (.iad 1) [.t 52,.t 53],oP 55 (.ldAn false 1) [.t 54],fP 56 3 (.l 3),lP 57 3 false 1 (.t 56),nP 58 5,oP 59 (.iad 1) [.t 57,.t 58],oP 60 (.ldAn false 1) [.t 59],bP 61 .neq (.t 55) (.t 60)] (.t 61) (Sq a47s13 .ret) .skip
def a47s18:=Rg [] [nP 49 5,bP 50 .add (.t 49) (.c (.int .i64 1)),vP 5 (.t 50)]
def a47s25:=Rg [] [vP 6 (.c (.int .i64 0))]
def a47s27:=Ts [] [nP 62 6,fP 63 4 (.l 2),lP 64 2 false 1 (.t 63),oP 65 .lenL [.t 64],bP 66 .lss (.t 62) (.t 65)] (.t 66) .skip (.exit 2)
def a47s30:=Rg [] [vP 4 (.c (.bool false))]
def a47s32:=Ts [] [fP 69 4 (.l 2),lP 70 2 false 1 (.t 69),nP 71 6,oP 72 (.iad 5) [.t 70,.t 71],oP 73 (.ldAn true 5) [.t 72],fP 74 4 (.l 3),lP 75 3 false 1 (.t 74),nP 76 6,oP 77 (.iad 5) [.t 75,.t 76],oP 78 (.ldAn true 5) [.t 77],oP 79 (.call 47) [.t 73,.t 78],oP 80 (.un .not) [.t 79]] (.t 80) (Sq a47s30 .ret) .skip
def a47s35:=Rg [] [nP 67 6,bP 68 .add (.t 67) (.c (.int .i64 1)),vP 6 (.t 68)]
def a47s42:=Rg [] [vP 4 (.c (.bool true))]
def a47c:ACode :=
  (Sq a47s1 (Sq a47s6 (Sq (Sq a47s8 (Bk 0 (Lp (Sq a47s10 (Sq (Bk 1 a47s15) a47s18))))) (Sq (Sq a47s25 (Bk 2 (Lp (Sq a47s27 (Sq (Bk 3 a47s32) a47s35))))) (Sq a47s42 .ret)))))
def a47:AFn:={ np:=2,nv:=7,results:=[.v 4],code:=a47c }
def f80:=Rg [2] [⟨.bx,.alloc [.int .u8 0,.str [],.int .i64 0,.int .i64 0],[],some 2,none⟩,vP 3 (.c (.int .i64 0)),vP 4 (.c (.int .i64 0)),vP 5 (.c (.int .i64 0))]
def g1x:=Rg [] [nP 10 0,nP 11 1,oP 12 .idxS [.t 10,.t 11],vP 6 (.t 12)]
def g2D:=Rg [] [nP 13 1,vP 7 (.t 13)]
def g1B:=Ts [] [nP 17 7,nP 18 0,oP 19 .lenS [.t 18],bP 20 .lss (.t 17) (.t 19),mP 21 (.t 20),gP 22 .mv [.v 0] 21 true,gP 23 .mv [.v 7] 21 true,gP 24 .idxS [.t 22,.t 23] 21 true,gP 25 (.call 117) [.t 24] 21 true,gP 26 .mv [.t 25] 21 true,gP 27 .mv [.v 0] 26 false,gP 28 .mv [.v 7] 26 false,gP 29 .idxS [.t 27,.t 28] 26 false,gP 30 (.call 118) [.t 29] 26 false,gP 31 .pick [.t 26,.c (.bool true),.t 30] 21 true,oP 32 .pick [.t 21,.t 31,.c (.bool false)]] (.t 32) .skip (.exit 1)
def e55:=Rg [] [nP 33 7,bP 34 .add (.t 33) (.c (.int .i64 1)),vP 7 (.t 34)]
def d8L:=Rg [] [oP 39 (.build [.int .u8 0,.str [],.int .i64 0,.int .i64 0] []) [],nP 40 1,xP (.stLc 2 4) [.l 2,.t 39] 2,vP 3 (.c (.int .i64 0)),vP 4 (.t 40),vP 5 (.c (.int .i64 2))]
def d5H:=Ts [] [nP 35 7,nP 36 1,bP 37 .sub (.t 35) (.t 36),bP 38 .gtr (.t 37) (.c (.int .i64 32))] (.t 38) (Sq d8L .ret) .skip
def e9S:=Rg [] [nP 41 0,nP 42 1,nP 43 7,oP 44 (.slS true true) [.t 41,.t 42,.t 43],oP 45 (.build [.int .u8 0,.str [],.int .i64 0,.int .i64 0] [(0,1),(1,1)]) [.c (.int .u8 1),.t 44],nP 46 7,xP (.stLc 2 4) [.l 2,.t 45] 2,vP 3 (.t 46),vP 4 (.c (.int .i64 0)),vP 5 (.c (.int .i64 0))]
def e67:=Rg [] [nP 54 0,nP 55 1,oP 56 (.call 119) [.t 54,.t 55],oP 57 (.ext 0) [.t 56],oP 58 (.ext 1) [.t 56],oP 59 (.ext 2) [.t 56],oP 60 (.ext 3) [.t 56],xP (.stLc 2 4) [.l 2,.t 57] 2,vP 3 (.t 58),vP 4 (.t 59),vP 5 (.t 60)]
def d6R:=Rg [] [nP 64 0,nP 65 1,oP 66 (.call 120) [.t 64,.t 65],oP 67 (.ext 0) [.t 66],oP 68 (.ext 1) [.t 66],oP 69 (.ext 2) [.t 66],oP 70 (.ext 3) [.t 66],xP (.stLc 2 4) [.l 2,.t 67] 2,vP 3 (.t 68),vP 4 (.t 69),vP 5 (.t 70)]
def e6D:=Rg [] [oP 93 (.build [.int .u8 0,.str [],.int .i64 0,.int .i64 0] [(0,1),(1,1)]) [.c (.int .u8 4),.c (.str [46,46,46])],nP 94 1,bP 95 .add (.t 94) (.c (.int .i64 3)),xP (.stLc 2 4) [.l 2,.t 93] 2,vP 3 (.t 95),vP 4 (.c (.int .i64 0)),vP 5 (.c (.int .i64 0))]
def f2v:=Ts [] [nP 74 0,oP 75 .lenS [.t 74],nP 76 1,bP 77 .sub (.t 75) (.t 76),bP 78 .geq (.t 77) (.c (.int .i64 3)),mP 79 (.t 78),gP 80 .mv [.v 0] 79 true,gP 81 .mv [.v 1] 79 true,gP 82 (.bin .add) [.t 81,.c (.int .i64 1)] 79 true,gP 83 .idxS [.t 80,.t 82] 79 true,gP 84 (.bin .eql) [.t 83,.c (.int .u8 46)] 79 true,oP 85 .pick [.t 79,.t 84,.c (.bool false)],mP 86 (.t 85),gP 87 .mv [.v 0] 86 true,gP 88 .mv [.v 1] 86 true,gP 89 (.bin .add) [.t 88,.c (.int .i64 2)] 86 true,gP 90 .idxS [.t 87,.t 89] 86 true,gP 91 (.bin .eql) [.t 90,.c (.int .u8 46)] 86 true,oP 92 .pick [.t 86,.t 91,.c (.bool false)]] (.t 92) (Sq e6D .ret) .skip
def e3h:=Rg [] [oP 96 (.build [.int .u8 0,.str [],.int .i64 0,.int .i64 0] []) [],nP 97 1,xP (.stLc 2 4) [.l 2,.t 96] 2,vP 3 (.c (.int .i64 0)),vP 4 (.t 97),vP 5 (.c (.int .i64 4))]
def d6O:=Rg [] [nP 149 0,nP 150 1,nP 151 1,bP 152 .add (.t 151) (.c (.int .i64 1)),oP 153 (.slS true true) [.t 149,.t 150,.t 152],oP 154 (.build [.int .u8 0,.str [],.int .i64 0,.int .i64 0] [(0,1),(1,1)]) [.c (.int .u8 4),.t 153],nP 155 1,bP 156 .add (.t 155) (.c (.int .i64 1)),xP (.stLc 2 4) [.l 2,.t 154] 2,vP 3 (.t 156),vP 4 (.c (.int .i64 0)),vP 5 (.c (.int .i64 0))]
def f3q:=Ts [] [nP 99 6,bP 100 .eql (.t 99) (.c (.int .u8 33)),mP 101 (.t 100),gP 102 .mv [.v 6] 101 false,gP 103 (.bin .eql) [.t 102,.c (.int .u8 36)] 101 false,oP 104 .pick [.t 101,.c (.bool true),.t 103],mP 105 (.t 104),gP 106 .mv [.v 6] 105 false,gP 107 (.bin .eql) [.t 106,.c (.int .u8 40)] 105 false,oP 108 .pick [.t 105,.c (.bool true),.t 107],mP 109 (.t 108),gP 110 .mv [.v 6] 109 false,gP 111 (.bin .eql) [.t 110,.c (.int .u8 41)] 109 false,oP 112 .pick [.t 109,.c (.bool true),.t 111],mP 113 (.t 112),gP 114 .mv [.v 6] 113 false,gP 115 (.bin .eql) [.t 114,.c (.int .u8 58)] 113 false,oP 116 .pick [.t 113,.c (.bool true),.t 115],mP 117 (.t 116),gP 118 .mv [.v 6] 117 false,gP 119 (.bin .eql) [.t 118,.c (.int .u8 61)] 117 false,oP 120 .pick [.t 117,.c (.bool true),.t 119],mP 121 (.t 120),gP 122 .mv [.v 6] 121 false,gP 123 (.bin .eql) [.t 122,.c (.int .u8 64)] 121 false,oP 124 .pick [.t 121,.c (.bool true),.t 123],mP 125 (.t 124),gP 126 .mv [.v 6] 125 false,gP 127 (.bin .eql) [.t 126,.c (.int .u8 91)] 125 false,oP 128 .pick [.t 125,.c (.bool true),.t 127],mP 129 (.t 128),gP 130 .mv [.v 6] 129 false,gP 131 (.bin .eql) [.t 130,.c (.int .u8 93)] 129 false,oP 132 .pick [.t 129,.c (.bool true),.t 131],mP 133 (.t 132),gP 134 .mv [.v 6] 133 false,gP 135 (.bin .eql) [.t 134,.c (.int .u8 123)] 133 false,oP 136 .pick [.t 133,.c (.bool true),.t 135],mP 137 (.t 136),gP 138 .mv [.v 6] 137 false,gP 139 (.bin .eql) [.t 138,.c (.int .u8 124)] 137 false,oP 140 .pick [.t 137,.c (.bool true),.t 139],mP 141 (.t 140),gP 142 .mv [.v 6] 141 false,gP 143 (.bin .eql) [.t 142,.c (.int .u8 125)] 141 false,oP 144 .pick [.t 141,.c (.bool true),.t 143],mP 145 (.t 144),gP 146 .mv [.v 6] 145 false,gP 147 (.bin .eql) [.t 146,.c (.int .u8 38)] 145 false,oP 148 .pick [.t 145,.c (.bool true),.t 147],mP 98 (.t 148)] (.t 98) (Sq d6O .ret) .skip
def e7C:=Ts [] [nP 72 6,bP 73 .eql (.t 72) (.c (.int .u8 46)),mP 71 (.t 73)] (.t 71) (Sq f2v (Sq e3h .ret)) f3q
def e7G:=Ts [] [nP 62 6,bP 63 .eql (.t 62) (.c (.int .u8 34)),mP 61 (.t 63)] (.t 61) (Sq d6R .ret) e7C
def f2S:=Ts [] [nP 48 6,bP 49 .eql (.t 48) (.c (.int .u8 45)),mP 50 (.t 49),gP 51 .mv [.v 6] 50 false,gP 52 (.call 118) [.t 51] 50 false,oP 53 .pick [.t 50,.c (.bool true),.t 52],mP 47 (.t 53)] (.t 47) (Sq e67 .ret) e7G
def e9v:=Ts [] [nP 15 6,oP 16 (.call 117) [.t 15],mP 14 (.t 16)] (.t 14) (Sq (Bk 1 (Lp (Sq g1B (Bk 2 e55)))) (Sq d5H (Sq e9S .ret))) f2S
def d6T:=Rg [] [oP 157 (.build [.int .u8 0,.str [],.int .i64 0,.int .i64 0] []) [],nP 158 1,xP (.stLc 2 4) [.l 2,.t 157] 2,vP 3 (.c (.int .i64 0)),vP 4 (.t 158),vP 5 (.c (.int .i64 4))]
def g6s:ACode :=
  (Sq f80 (Sq g1x (Sq g2D (Sq (Bk 0 e9v) (Sq d6T .ret)))))
def a48:AFn:={ np:=2,nv:=8,results:=[.bx 2 true 4,.v 3,.v 4,.v 5],code:=g6s }
def f5H:=Rg [] [vP 2 (.c (.bool false))]
def g2u:=Rg [] [nP 5 0,oP 6 .nilchk [.t 5],fP 7 4 (.t 6),oP 8 (.ldSt false 1) [.t 7],bP 9 .eql (.t 8) (.c (.int .i64 0)),mP 10 (.t 9),gP 11 .mv [.v 0] 10 true,gP 12 .nilchk [.t 11] 10 true,gP 13 (.fad 0) [.t 12] 10 true,gP 14 (.ldSt false 1) [.t 13] 10 true,gP 15 .mv [.v 0] 10 true,gP 16 .nilchk [.t 15] 10 true,gP 17 (.fad 1) [.t 16] 10 true,gP 18 (.ldSt false 1) [.t 17] 10 true,gP 19 (.iad 4) [.t 14,.t 18] 10 true,gP 20 (.fad 0) [.t 19] 10 true,gP 21 (.ldRo false 1) [.t 20] 10 true,gP 22 (.bin .eql) [.t 21,.c (.int .u8 1)] 10 true,oP 23 .pick [.t 10,.t 22,.c (.bool false)],mP 24 (.t 23),gP 25 .mv [.v 0] 24 true,gP 26 .nilchk [.t 25] 24 true,gP 27 (.fad 0) [.t 26] 24 true,gP 28 (.ldSt false 1) [.t 27] 24 true,gP 29 .mv [.v 0] 24 true,gP 30 .nilchk [.t 29] 24 true,gP 31 (.fad 1) [.t 30] 24 true,gP 32 (.ldSt false 1) [.t 31] 24 true,gP 33 (.iad 4) [.t 28,.t 32] 24 true,gP 34 (.fad 1) [.t 33] 24 true,gP 35 (.ldRo false 1) [.t 34] 24 true,gP 36 .mv [.v 1] 24 true,gP 37 (.bin .eql) [.t 35,.t 36] 24 true,oP 38 .pick [.t 24,.t 37,.c (.bool false)],vP 2 (.t 38)]
def g8n:ACode :=
  (Sq f5H (Sq g2u .ret))
def a49:AFn:={ np:=2,nv:=3,results:=[.v 2],code:=g8n }
def f6R:=Rg [] [nP 9 0,nP 10 0,oP 11 .nilchk [.t 10],fP 12 0 (.t 11),oP 13 (.ldSt false 1) [.t 12],nP 14 0,oP 15 .nilchk [.t 14],fP 16 1 (.t 15),oP 17 (.ldSt false 1) [.t 16],oP 18 (.iad 4) [.t 13,.t 17],fP 19 3 (.t 18),oP 20 (.ldRo false 1) [.t 19],oP 21 .nilchk [.t 9],fP 22 3 (.t 21),op .none (.stSt 1) [.t 22,.t 20]]
def g0b:=Rg [] [nP 23 0,nP 24 1,oP 25 .nilchk [.t 23],fP 26 4 (.t 25),op .none (.stSt 1) [.t 26,.t 24]]
def g1D:=Ts [] [nP 4 0,oP 5 .nilchk [.t 4],fP 6 4 (.t 5),oP 7 (.ldSt false 1) [.t 6],bP 8 .eql (.t 7) (.c (.int .i64 0))] (.t 8) (Sq f6R g0b) .skip
def g9e:ACode :=
  g1D
def a50:AFn:={ np:=2,nv:=2,results:=[],code:=g9e }
def g0Y:=Rg [] [op (.v 1) .mv [.c (.str [])]]
def f46:=Rg [] [nP 6 0,oP 7 (.call 50) [.t 6,.c (.int .i64 4)]]
def g01:=Rg [] [op (.v 1) .mv [.c (.str [])]]
def f7z:=Ts [] [nP 3 0,oP 4 (.call 24) [.t 3,.c (.int .u8 1)],oP 5 (.un .not) [.t 4]] (.t 5) (Sq f46 (Sq g01 .ret)) .skip
def e6H:=Rg [] [nP 8 0,oP 9 .nilchk [.t 8],fP 10 1 (.t 9),oP 11 (.ldSt false 1) [.t 10],bP 12 .add (.t 11) (.c (.int .i64 1)),oP 13 .nilchk [.t 8],fP 14 1 (.t 13),op .none (.stSt 1) [.t 14,.t 12]]
def d7W:=Rg [] [nP 15 0,oP 16 .nilchk [.t 15],fP 17 0 (.t 16),oP 18 (.ldSt false 1) [.t 17],nP 19 0,oP 20 .nilchk [.t 19],fP 21 1 (.t 20),oP 22 (.ldSt false 1) [.t 21],bP 23 .sub (.t 22) (.c (.int .i64 1)),oP 24 (.iad 4) [.t 18,.t 23],fP 25 1 (.t 24),oP 26 (.ldRo false 1) [.t 25],vP 1 (.t 26)]
def g4U:ACode :=
  (Sq g0Y (Sq f7z (Sq e6H (Sq d7W .ret))))
def a51:AFn:={ np:=1,nv:=2,results:=[.v 1],code:=g4U }
def f9z:=Rg [] [nP 15 0,oP 16 (.call 50) [.t 15,.c (.int .i64 4)]]
def g0c:=Ts [] [nP 4 0,oP 5 .nilchk [.t 4],fP 6 4 (.t 5),oP 7 (.ldSt false 1) [.t 6],bP 8 .eql (.t 7) (.c (.int .i64 0)),mP 9 (.t 8),gP 10 .mv [.v 0] 9 true,gP 11 .mv [.v 1] 9 true,gP 12 (.call 54) [.t 10,.t 11] 9 true,gP 13 (.un .not) [.t 12] 9 true,oP 14 .pick [.t 9,.t 13,.c (.bool false)]] (.t 14) f9z .skip
def g4V:ACode :=
  g0c
def a52:AFn:={ np:=2,nv:=2,results:=[],code:=g4V }
def f7X:=Rg [] [op (.v 2) .mv [.c (.list true [])]]
def f73:=Rg [] [nP 6 0,nP 7 1,oP 8 (.call 54) [.t 6,.t 7]]
def f5Y:=Rg [] [nP 9 0,oP 10 (.call 51) [.t 9],oP 11 (.bslice 1 [[.str []]] [0]) [.t 10],vP 3 (.ts 11)]
def f5X:=Ts [] [nP 12 0,nP 13 1,oP 14 (.call 54) [.t 12,.t 13]] (.t 14) .skip (.exit 0)
def g0j:=Rg [] [mP 15 (.vs 3),nP 16 0,oP 17 (.call 51) [.t 16],oP 18 (.bslice 1 [[.str []]] [0]) [.t 17],oP 19 (.app 1 16) [.ts 15,.t 18],vP 3 (.ts 19)]
def d78:=Rg [] [nP 20 3,vP 2 (.ts 20)]
def g5C:ACode :=
  (Sq f7X (Sq f73 (Sq f5Y (Sq (Bk 0 (Lp (Sq f5X (Bk 1 g0j)))) (Sq d78 .ret)))))
def a53:AFn:={ np:=2,nv:=4,results:=[.v 2],code:=g5C }
def g2K:=Rg [] [vP 2 (.c (.bool false))]
def g0s:=Rg [] [nP 13 0,oP 14 .nilchk [.t 13],fP 15 1 (.t 14),oP 16 (.ldSt false 1) [.t 15],bP 17 .add (.t 16) (.c (.int .i64 1)),oP 18 .nilchk [.t 13],fP 19 1 (.t 18),op .none (.stSt 1) [.t 19,.t 17]]
def g1H:=Rg [] [vP 2 (.c (.bool true))]
def g3g:=Ts [] [nP 5 0,nP 6 1,oP 7 (.call 121) [.t 5,.t 6],mP 8 (.t 7),gP 9 .mv [.v 0] 8 false,gP 10 .mv [.v 1] 8 false,gP 11 (.call 49) [.t 9,.t 10] 8 false,oP 12 .pick [.t 8,.c (.bool true),.t 11]] (.t 12) (Sq g0s (Sq g1H .ret)) .skip
def e2S:=Rg [] [vP 2 (.c (.bool false))]
def g83:ACode :=
  (Sq g2K (Sq g3g (Sq e2S .ret)))
def a54:AFn:={ np:=2,nv:=3,results:=[.v 2],code:=g83 }
def g2y:=Rg [] [op (.v 2) .mv [.c (.list true [])]]
def f8W:=Rg [] [op (.v 3) .mv [.c (.list true [])]]
def f8r:=Rg [] [vP 4 (.c (.bool true))]
def g0x:=Ts [] [nP 8 0,oP 9 .nilchk [.t 8],fP 10 4 (.t 9),oP 11 (.ldSt false 1) [.t 10],bP 12 .eql (.t 11) (.c (.int .i64 0)),mP 13 (.t 12),gP 14 .mv [.v 4] 13 true,gP 15 .mv [.t 14] 13 true,gP 16 .mv [.v 0] 15 false,gP 17 .mv [.v 1] 15 false,gP 18 (.call 54) [.t 16,.t 17] 15 false,gP 19 (.un .not) [.t 18] 15 false,gP 20 .pick [.t 15,.c (.bool true),.t 19] 13 true,oP 21 .pick [.t 13,.t 20,.c (.bool false)]] (.t 21) .skip (.exit 0)
def g3a:=Rg [5] [nP 22 0,oP 23 (.call 51) [.t 22],oP 24 (.build [.str [],.list true [],.str [],.list true [],.bool false,.bool false,.int .u8 0,.int .i64 0,.str [],.list true [],.list true []] [(0,1)]) [.t 23],⟨.bx,.alloc [.str [],.list true [],.str [],.list true [],.bool false,.bool false,.int .u8 0,.int .i64 0,.str [],.list true [],.list true []],[],some 5,none⟩,xP (.stLc 5 11) [.l 5,.ts 24] 5]
def e4O:=Rg [] [nP 25 0,oP 26 (.call 52) [.t 25,.c (.str [58])]]
def e4W:=Rg [] [nP 27 0,oP 28 (.call 56) [.t 27],fP 29 2 (.l 5),xP (.stLc 5 3) [.t 29,.ts 28] 5]
def e5R:=Rg [] [fP 32 5 (.l 5),xP (.stLc 5 1) [.t 32,.c (.bool true)] 5]
def e1T:=Rg [] [nP 33 0,oP 34 (.call 122) [.t 33,.c (.bool true)],fP 35 6 (.l 5),xP (.stLc 5 5) [.t 35,.ts 34] 5]
def f4V:=Ts [] [nP 30 0,oP 31 (.call 54) [.t 30,.c (.str [61])]] (.t 31) (Sq e5R e1T) .skip
def e7y:=Rg [] [mP 36 (.vs 3),lP 37 5 true 11 (.l 5),oP 38 (.bslice 11 [[.str [],.list true [],.str [],.list true [],.bool false,.bool false,.int .u8 0,.int .i64 0,.str [],.list true [],.list true []]] [0]) [.t 37],oP 39 (.app 11 176) [.ts 36,.t 38],vP 3 (.ts 39)]
def e1m:=Rg [] [vP 4 (.c (.bool false))]
def e4u:=Rg [] [nP 40 3,vP 2 (.ts 40)]
def g36:ACode :=
  (Sq g2y (Sq f8W (Sq (Sq f8r (Bk 0 (Lp (Sq g0x (Sq (Bk 1 (Sq g3a (Sq e4O (Sq e4W (Sq f4V e7y))))) e1m))))) (Sq e4u .ret))))
def a55:AFn:={ np:=2,nv:=6,results:=[.v 2],code:=g36 }
def f8u:=Rg [1] [⟨.bx,.alloc [.str [],.list true [],.bool false],[],some 1,none⟩]
def f8j:=Rg [2] [⟨.bx,.alloc [.str [],.list true [],.bool false],[],some 2,none⟩]
def f8d:=Rg [3] [nP 9 0,oP 10 (.call 56) [.t 9],⟨.bx,.alloc [.str [],.list true [],.bool false],[],some 3,none⟩,xP (.stLc 3 3) [.l 3,.ts 10] 3]
def f8E:=Rg [] [lP 11 3 true 3 (.l 3),oP 12 (.bslice 3 [[.str [],.list true [],.bool false]] [0]) [.t 11],fP 13 1 (.l 2),xP (.stLc 2 1) [.t 13,.ts 12] 2]
def e1X:=Rg [] [nP 14 0,oP 15 (.call 52) [.t 14,.c (.str [93])]]
def d5A:=Rg [] [nP 16 0,oP 17 (.call 51) [.t 16],fP 18 0 (.l 2),xP (.stLc 2 1) [.t 18,.t 17] 2]
def e2X:=Ts [] [nP 7 0,oP 8 (.call 54) [.t 7,.c (.str [91])]] (.t 8) (Sq f8d (Sq f8E e1X)) d5A
def d8C:=Rg [] [nP 19 0,oP 20 (.call 54) [.t 19,.c (.str [33])],fP 21 2 (.l 2),xP (.stLc 2 1) [.t 21,.t 20] 2]
def d5q:=Ts [] [nP 5 0,oP 6 (.call 123) [.t 5]] (.t 6) (Sq e2X d8C) .skip
def e40:=Rg [] [nP 22 0,oP 23 .nilchk [.t 22],fP 24 2 (.t 23),oP 25 (.ldSt false 1) [.t 24],bP 26 .sub (.t 25) (.c (.int .i64 1)),oP 27 .nilchk [.t 22],fP 28 2 (.t 27),op .none (.stSt 1) [.t 28,.t 26]]
def e9K:=Rg [] [lP 29 2 true 3 (.l 2),xP (.stLc 1 3) [.l 1,.ts 29] 1]
def g6b:ACode :=
  (Sq f8u (Sq f8j (Sq d5q (Sq e40 (Sq e9K .ret)))))
def a56:AFn:={ np:=1,nv:=4,results:=[.bx 1 true 3],code:=g6b }
def g0v:=Rg [] [vP 2 (.c (.int .i64 0))]
def g25:=Rg [] [nP 6 0,op (.v 4) .lenL [.t 6],vP 5 (.c (.int .i64 0))]
def f9Z:=Ts [] [bP 9 .lss (.v 5) (.v 4)] (.t 9) .skip (.exit 0)
def f7v:=Rg [] [nP 10 5,vP 3 (.t 10)]
def e9i:=Rg [] [nP 17 3,vP 2 (.t 17)]
def f4a:=Ts [] [nP 11 1,nP 12 0,nP 13 3,oP 14 (.iad 1) [.t 12,.t 13],oP 15 (.ldAn false 1) [.t 14],bP 16 .eql (.t 11) (.t 15)] (.t 16) (Sq e9i .ret) .skip
def e6Z:=Rg [] [bP 18 .add (.v 5) (.c (.int .i64 1)),vP 5 (.t 18)]
def d86:=Rg [] [vP 2 (.c (.int .i64 (-1)))]
def g4J:ACode :=
  (Sq g0v (Sq (Sq g25 (Bk 0 (Lp (Sq f9Z (Sq (Bk 1 (Sq f7v f4a)) e6Z))))) (Sq d86 .ret)))
def a57:AFn:={ np:=2,nv:=6,results:=[.v 2],code:=g4J }
def g2s:=Rg [] [vP 2 (.c (.bool false))]
def f7J:=Rg [] [nP 5 0,oP 6 .lenS [.t 5],nP 7 1,oP 8 .lenS [.t 7],bP 9 .geq (.t 6) (.t 8),mP 10 (.t 9),gP 11 .mv [.v 0] 10 true,gP 12 .mv [.v 1] 10 true,gP 13 .lenS [.t 12] 10 true,gP 14 (.slS false true) [.t 11,.t 13] 10 true,gP 15 .mv [.v 1] 10 true,gP 16 (.bin .eql) [.t 14,.t 15] 10 true,oP 17 .pick [.t 10,.t 16,.c (.bool false)],vP 2 (.t 17)]
def g33:ACode :=
  (Sq g2s (Sq f7J .ret))
def a58:AFn:={ np:=2,nv:=3,results:=[.v 2],code:=g33 }
def g2C:=Rg [1] [⟨.bx,.alloc [.int .i64 0,.str []],[],some 1,none⟩]
def f8c:=Rg [] [vP 4 (.v 0),op (.v 5) .lenL [.v 4],vP 6 (.c (.int .i64 0))]
def f8g:=Ts [] [bP 8 .lss (.v 6) (.v 5)] (.t 8) .skip (.exit 0)
def f9R:=Rg [] [nP 9 6,oP 10 (.iad 1) [.v 4,.v 6],oP 11 (.ldAn false 1) [.t 10],vP 2 (.t 9),vP 3 (.t 11)]
def e30:=Rg [] [nP 17 3,oP 18 (.build [.int .i64 0,.str []] [(0,1),(1,1)]) [.c (.int .i64 7),.t 17],xP (.stLc 1 2) [.l 1,.t 18] 1]
def e60:=Ts [] [nP 12 0,nP 13 2,oP 14 (.slL 1 false true) [.t 12,.t 13],nP 15 3,oP 16 (.call 27) [.t 14,.t 15]] (.t 16) (Sq e30 .ret) .skip
def f1G:=Rg [] [nP 21 3,oP 22 (.build [.int .i64 0,.str []] [(0,1),(1,1)]) [.c (.int .i64 1),.t 21],xP (.stLc 1 2) [.l 1,.t 22] 1]
def e6z:=Ts [] [nP 19 3,oP 20 (.call 28) [.t 19,.c (.str [95,95])]] (.t 20) (Sq f1G .ret) .skip
def d63:=Rg [] [bP 23 .add (.v 6) (.c (.int .i64 1)),vP 6 (.t 23)]
def e3x:=Rg [] [oP 24 (.build [.int .i64 0,.str []] []) [],xP (.stLc 1 2) [.l 1,.t 24] 1]
def g69:ACode :=
  (Sq g2C (Sq (Sq f8c (Bk 0 (Lp (Sq f8g (Sq (Bk 1 (Sq f9R (Sq e60 e6z))) d63))))) (Sq e3x .ret)))
def a59:AFn:={ np:=1,nv:=7,results:=[.bx 1 true 2],code:=g69 }
def f9F:=Rg [] [op (.v 1) .mv [.c (.list true [])]]
def g1R:=Rg [] [op (.v 2) .mv [.c (.list true [])]]
def f5l:=Rg [] [vP 4 (.v 0),op (.v 5) .lenL [.v 4],vP 6 (.c (.int .i64 0))]
def g2F:=Ts [] [bP 9 .lss (.v 6) (.v 5)] (.t 9) .skip (.exit 0)
def g2n:=Rg [3] [oP 10 (.iad 11) [.v 4,.v 6],oP 11 (.ldRo true 11) [.t 10],⟨.bx,.alloc [.str [],.list true [],.str [],.list true [],.bool false,.bool false,.int .u8 0,.int .i64 0,.str [],.list true [],.list true []],[],some 3,none⟩,xP (.stLc 3 11) [.l 3,.ts 11] 3]
def e49:=Rg [] [mP 12 (.vs 2),fP 13 0 (.l 3),lP 14 3 false 1 (.t 13),oP 15 (.bslice 1 [[.str []]] [0]) [.t 14],oP 16 (.app 1 16) [.ts 12,.t 15],vP 2 (.ts 16)]
def f0k:=Rg [] [bP 17 .add (.v 6) (.c (.int .i64 1)),vP 6 (.t 17)]
def f3p:=Rg [] [mP 18 (.vs 2),vP 1 (.ts 18)]
def g8l:ACode :=
  (Sq f9F (Sq g1R (Sq (Sq f5l (Bk 0 (Lp (Sq g2F (Sq (Bk 1 (Sq g2n e49)) f0k))))) (Sq f3p .ret))))
def a60:AFn:={ np:=1,nv:=7,results:=[.vs 1],code:=g8l }
def f9D:=Rg [3,4] [⟨.bx,.boxV,[.v 1],some 3,none⟩,⟨.bx,.alloc [.int .i64 0,.str []],[],some 4,none⟩]
def f9V:=Rg [] [fP 15 2 (.l 3),lP 16 3 true 3 (.t 15),oP 17 (.call 124) [.t 16],vP 5 (.t 17)]
def f5g:=Rg [6] [nP 19 0,nP 20 5,oP 21 (.call 30) [.t 19,.t 20],mP 18 (.t 21),oP 22 (.ext 0) [.t 18],oP 23 (.ext 1) [.t 18],⟨.bx,.alloc [.int .u8 0,.str [],.list true [],.list true []],[],some 6,none⟩,xP (.stLc 6 4) [.l 6,.ts 22] 6,vP 7 (.t 23)]
def g0m:=Rg [] [nP 33 5,oP 34 (.build [.int .i64 0,.str []] [(0,1),(1,1)]) [.c (.int .i64 6),.t 33],xP (.stLc 4 2) [.l 4,.t 34] 4]
def d59:=Rg [] [nP 56 5,oP 57 (.call 62) [.t 56],vP 12 (.t 57)]
def f1v:=Ts [] [nP 49 2,oP 50 (.un .not) [.t 49],mP 51 (.t 50),gP 52 .mv [.v 0] 51 true,gP 53 .mv [.v 5] 51 true,gP 54 (.call 127) [.t 52,.t 53] 51 true,oP 55 .pick [.t 51,.t 54,.c (.bool false)],vP 12 (.t 55)] (.v 12) .skip d59
def e8M:=Ts [] [nP 36 2,mP 37 (.t 36),gP 38 .mv [.v 0] 37 true,gP 39 .mv [.v 5] 37 true,gP 40 (.call 125) [.t 38,.t 39] 37 true,gP 41 (.un .not) [.t 40] 37 true,oP 42 .pick [.t 37,.t 41,.c (.bool false)],mP 43 (.t 42),gP 44 .mv [.v 0] 43 true,gP 45 .mv [.v 5] 43 true,gP 46 (.call 126) [.t 44,.t 45] 43 true,gP 47 (.un .not) [.t 46] 43 true,oP 48 .pick [.t 43,.t 47,.c (.bool false)],vP 12 (.t 48)] (.v 12) .skip f1v
def d67:=Rg [] [nP 58 5,oP 59 (.build [.int .i64 0,.str []] [(0,1),(1,1)]) [.c (.int .i64 8),.t 58],xP (.stLc 4 2) [.l 4,.t 59] 4]
def e2m:=Rg [] [fP 72 0 (.l 3),lP 73 3 false 1 (.t 72),oP 74 (.build [.int .i64 0,.str []] [(0,1),(1,1)]) [.c (.int .i64 8),.t 73],xP (.stLc 4 2) [.l 4,.t 74] 4]
def e8e:=Ts [] [fP 61 5 (.l 3),lP 62 3 false 1 (.t 61),mP 63 (.t 62),gP 64 .mv [.v 0] 63 true,gP 65 (.fad 2) [.l 3] 63 true,⟨.t 66,.ldLc 3 true 3,[.t 65],some 3,some (.t 63,true)⟩,gP 67 (.fad 6) [.l 3] 63 true,⟨.t 68,.ldLc 3 true 5,[.t 67],some 3,some (.t 63,true)⟩,gP 69 (.call 128) [.t 64,.t 66,.t 68] 63 true,gP 70 (.un .not) [.t 69] 63 true,oP 71 .pick [.t 63,.t 70,.c (.bool false)],mP 60 (.t 71)] (.t 60) (Sq e2m .ret) .skip
def e2V:=Ts [] [] (.v 12) (Sq d67 .ret) e8e
def d7j:=Ts [] [nP 25 7,oP 26 (.un .not) [.t 25],mP 27 (.t 26),gP 28 .mv [.v 0] 27 true,gP 29 .mv [.v 5] 27 true,gP 30 (.call 125) [.t 28,.t 29] 27 true,gP 31 (.un .not) [.t 30] 27 true,oP 32 .pick [.t 27,.t 31,.c (.bool false)],mP 24 (.t 32)] (.t 24) (Sq g0m .ret) (Sq e8M e2V)
def e6r:=Rg [8] [fP 75 1 (.l 3),lP 76 3 false 1 (.t 75),oP 77 (.call 60) [.t 76],oP 78 (.call 59) [.t 77],⟨.bx,.alloc [.int .i64 0,.str []],[],some 8,none⟩,xP (.stLc 8 2) [.l 8,.t 78] 8]
def e9z:=Rg [] [lP 82 8 true 2 (.l 8),xP (.stLc 4 2) [.l 4,.t 82] 4]
def e7u:=Ts [] [fP 79 0 (.l 8),lP 80 8 false 1 (.t 79),bP 81 .neq (.t 80) (.c (.int .i64 0))] (.t 81) (Sq e9z .ret) .skip
def d51:=Rg [] [fP 83 1 (.l 3),⟨.v 13,.ldLc 3 false 1,[.t 83],some 3,none⟩,op (.v 14) .lenL [.v 13],vP 15 (.c (.int .i64 0))]
def e9p:=Ts [] [bP 87 .lss (.v 15) (.v 14)] (.t 87) .skip (.exit 1)
def e4a:=Rg [9] [oP 88 (.iad 11) [.v 13,.v 15],oP 89 (.ldRo true 11) [.t 88],⟨.bx,.alloc [.str [],.list true [],.str [],.list true [],.bool false,.bool false,.int .u8 0,.int .i64 0,.str [],.list true [],.list true []],[],some 9,none⟩,xP (.stLc 9 11) [.l 9,.ts 89] 9]
def d8u:=Rg [] [fP 90 2 (.l 9),lP 91 9 true 3 (.t 90),oP 92 (.call 124) [.t 91],vP 10 (.t 92)]
def e7b:=Rg [] [fP 106 0 (.l 9),lP 107 9 false 1 (.t 106),oP 108 (.build [.int .i64 0,.str []] [(0,1),(1,1)]) [.c (.int .i64 8),.t 107],xP (.stLc 4 2) [.l 4,.t 108] 4]
def e22:=Ts [] [fP 104 5 (.l 9),lP 105 9 false 1 (.t 104)] (.t 105) (Sq e7b .ret) .skip
def d8a:=Rg [11] [nP 93 0,lP 94 9 true 11 (.l 9),oP 95 (.call 61) [.t 93,.t 94,.c (.bool true)],⟨.bx,.alloc [.int .i64 0,.str []],[],some 11,none⟩,xP (.stLc 11 2) [.l 11,.t 95] 11]
def d7Z:=Rg [] [lP 99 11 true 2 (.l 11),xP (.stLc 4 2) [.l 4,.t 99] 4]
def e4i:=Ts [] [fP 96 0 (.l 11),lP 97 11 false 1 (.t 96),bP 98 .neq (.t 97) (.c (.int .i64 0))] (.t 98) (Sq d7Z .ret) .skip
def d7z:=Ts [] [nP 101 0,nP 102 10,oP 103 (.call 127) [.t 101,.t 102],mP 100 (.t 103)] (.t 100) e22 (Sq d8a e4i)
def f4E:=Rg [] [bP 109 .add (.v 15) (.c (.int .i64 1)),vP 15 (.t 109)]
def e2w:=Rg [] [oP 110 (.build [.int .i64 0,.str []] []) [],xP (.stLc 4 2) [.l 4,.t 110] 4]
def g7k:ACode :=
  (Sq f9D (Sq f9V (Sq f5g (Sq (Bk 0 d7j) (Sq (Sq e6r e7u) (Sq (Sq d51 (Bk 1 (Lp (Sq e9p (Sq (Bk 2 (Sq e4a (Sq d8u (Bk 3 d7z)))) f4E))))) (Sq e2w .ret)))))))
def a61:AFn:={ np:=3,nv:=16,results:=[.bx 4 true 2],code:=g7k }
def g2c:=Rg [] [vP 1 (.c (.bool false))]
def f7E:=Rg [] [nP 3 0,oP 4 (.bin .eql) [.t 3,.c (.str [81,117,101,114,121])],mP 5 (.t 4),gP 6 .mv [.v 0] 5 false,gP 7 (.bin .eql) [.t 6,.c (.str [77,117,116,97,116,105,111,110])] 5 false,oP 8 .pick [.t 5,.c (.bool true),.t 7],vP 1 (.t 8)]
def g4F:ACode :=
  (Sq g2c (Sq f7E .ret))
def a62:AFn:={ np:=1,nv:=2,results:=[.v 1],code:=g4F }
def f9u:=Rg [4] [op (.v 3) .boxO [.v 1],⟨.bx,.boxV,[.v 2],some 4,none⟩,vP 5 (.c (.bool false))]
def g1j:=Rg [] [fP 7 2 (.l 4),lP 8 4 false 1 (.t 7),oP 9 (.mkF 130 0) [.v 3],oP 10 (.call 129) [.t 8,.t 9],oP 11 (.un .not) [.t 10],vP 5 (.t 11)]
def g3O:ACode :=
  (Sq f9u (Sq g1j .ret))
def a63:AFn:={ np:=3,nv:=6,results:=[.v 5],code:=g3O }
def f9M:=Rg [2] [⟨.bx,.boxV,[.v 1],some 2,none⟩,vP 3 (.c (.bool false))]
def g2i:=Rg [] [fP 5 1 (.l 2),lP 6 2 false 1 (.t 5),oP 7 .lenL [.t 6],bP 8 .eql (.t 7) (.c (.int .i64 1)),mP 9 (.t 8),gP 10 (.fad 1) [.l 2] 9 true,⟨.t 11,.ldLc 2 false 1,[.t 10],some 2,some (.t 9,true)⟩,gP 12 (.iad 11) [.t 11,.c (.int .i64 0)] 9 true,gP 13 (.ldRo true 11) [.t 12] 9 true,gP 14 (.call 132) [.t 13] 9 true,oP 15 .pick [.t 9,.t 14,.c (.bool false)],mP 16 (.t 15),gP 17 (.fad 2) [.l 2] 16 true,gP 18 (.fad 1) [.t 17] 16 true,⟨.t 19,.ldLc 2 false 1,[.t 18],some 2,some (.t 16,true)⟩,gP 20 .lenL [.t 19] 16 true,gP 21 (.bin .eql) [.t 20,.c (.int .i64 0)] 16 true,oP 22 .pick [.t 16,.t 21,.c (.bool false)],mP 23 (.t 22),gP 24 (.fad 2) [.l 2] 23 true,gP 25 (.fad 2) [.t 24] 23 true,⟨.t 26,.ldLc 2 false 1,[.t 25],some 2,some (.t 23,true)⟩,gP 27 (.un .not) [.t 26] 23 true,oP 28 .pick [.t 23,.t 27,.c (.bool false)],mP 29 (.t 28),gP 30 .mv [.v 0] 29 true,gP 31 (.fad 2) [.l 2] 29 true,gP 32 (.fad 0) [.t 31] 29 true,⟨.t 33,.ldLc 2 false 1,[.t 32],some 2,some (.t 29,true)⟩,gP 34 (.call 111) [.t 30,.t 33] 29 true,oP 35 .pick [.t 29,.t 34,.c (.bool false)],vP 3 (.t 35)]
def g61:ACode :=
  (Sq f9M (Sq g2i .ret))
def a64:AFn:={ np:=2,nv:=4,results:=[.v 3],code:=g61 }
def f65:=Rg [2] [⟨.bx,.boxV,[.v 1],some 2,none⟩,vP 3 (.c (.bool false))]
def f6W:=Rg [] [fP 5 1 (.l 2),lP 6 2 false 1 (.t 5),oP 7 .lenL [.t 6],bP 8 .eql (.t 7) (.c (.int .i64 0)),mP 9 (.t 8),gP 10 .mv [.v 0] 9 true,gP 11 (.fad 2) [.l 2] 9 true,⟨.t 12,.ldLc 2 true 3,[.t 11],some 2,some (.t 9,true)⟩,gP 13 (.call 124) [.t 12] 9 true,gP 14 (.call 111) [.t 10,.t 13] 9 true,oP 15 .pick [.t 9,.t 14,.c (.bool false)],mP 16 (.t 15),gP 17 (.fad 2) [.l 2] 16 true,⟨.t 18,.ldLc 2 true 3,[.t 17],some 2,some (.t 16,true)⟩,gP 19 (.fad 2) [.l 2] 16 true,⟨.t 20,.ldLc 2 true 3,[.t 19],some 2,some (.t 16,true)⟩,gP 21 (.call 124) [.t 20] 16 true,⟨.t 22,(.build [.str [],.list true [],.bool false] [(0,1),(2,1)]),[.t 21,.c (.bool true)],none,some (.t 16,true)⟩,⟨.t 23,.bslice 3 [[.str [],.list true [],.bool false]] [0],[.t 22],none,some (.t 16,true)⟩,⟨.t 24,(.build [.str [],.list true [],.bool false] [(1,1),(2,1)]),[.t 23,.c (.bool true)],none,some (.t 16,true)⟩,gP 25 (.call 131) [.t 18,.t 24] 16 true,oP 26 .pick [.t 16,.t 25,.c (.bool false)],vP 3 (.t 26)]
def g8D:ACode :=
  (Sq f65 (Sq f6W .ret))
def a65:AFn:={ np:=2,nv:=4,results:=[.v 3],code:=g8D }
def g23:=Rg [3] [op (.v 2) .boxO [.v 0],⟨.bx,.boxV,[.v 1],some 3,none⟩,vP 4 (.c (.bool false))]
def f6K:=Rg [] [fP 11 0 (.l 3),lP 12 3 false 1 (.t 11),oP 13 (.call 115) [.t 12],mP 10 (.t 13),oP 14 (.ext 0) [.t 10],oP 15 (.ext 1) [.t 10],vP 5 (.t 14),vP 6 (.t 15)]
def f8M:=Rg [] [oP 17 (.ldSt false 1) [.v 2],nP 18 6,oP 19 (.call 30) [.t 17,.t 18],mP 16 (.t 19),oP 20 (.ext 0) [.t 16],oP 21 (.ext 1) [.t 16],op (.v 7) (.allocO [.int .u8 0,.str [],.list true [],.list true []]) [],op .none (.stSt 4) [.v 7,.ts 20],vP 8 (.t 21)]
def f5Z:=Rg [] [vP 4 (.c (.bool false))]
def e6e:=Ts [] [nP 22 8,oP 23 (.un .not) [.t 22],mP 24 (.t 23),gP 25 (.fad 0) [.v 7] 24 false,gP 26 (.ldSt false 1) [.t 25] 24 false,gP 27 (.bin .neq) [.t 26,.c (.int .u8 1)] 24 false,oP 28 .pick [.t 24,.c (.bool true),.t 27],mP 29 (.t 28),gP 30 .mv [.v 6] 29 false,gP 31 (.call 62) [.t 30] 29 false,oP 32 .pick [.t 29,.c (.bool true),.t 31],mP 33 (.t 32),gP 34 (.fad 2) [.l 3] 33 false,⟨.t 35,.ldLc 3 true 3,[.t 34],some 3,some (.t 33,false)⟩,gP 36 .mv [.v 6] 33 false,⟨.t 37,(.build [.str [],.list true [],.bool false] [(0,1)]),[.t 36],none,some (.t 33,false)⟩,gP 38 (.call 131) [.t 35,.t 37] 33 false,gP 39 (.un .not) [.t 38] 33 false,oP 40 .pick [.t 33,.c (.bool true),.t 39]] (.t 40) (Sq f5Z .ret) .skip
def e11:=Rg [] [fP 43 1 (.l 3),lP 44 3 false 1 (.t 43),oP 45 .lenL [.t 44],bP 46 .eql (.t 45) (.c (.int .i64 1)),mP 47 (.t 46),gP 48 (.fad 1) [.l 3] 47 true,⟨.t 49,.ldLc 3 false 1,[.t 48],some 3,some (.t 47,true)⟩,gP 50 (.iad 11) [.t 49,.c (.int .i64 0)] 47 true,gP 51 (.ldRo true 11) [.t 50] 47 true,gP 52 (.call 132) [.t 51] 47 true,oP 53 .pick [.t 47,.t 52,.c (.bool false)],vP 4 (.t 53)]
def f3y:=Ts [] [nP 41 5,oP 42 (.bin .eql) [.t 41,.c (.str [100,101,108,101,116,101])]] (.t 42) (Sq e11 .ret) .skip
def e5J:=Rg [] [vP 4 (.c (.bool false))]
def f2B:=Ts [] [fP 54 1 (.l 3),lP 55 3 false 1 (.t 54),oP 56 .lenL [.t 55],bP 57 .neq (.t 56) (.c (.int .i64 2)),mP 58 (.t 57),gP 59 (.fad 1) [.l 3] 58 false,⟨.t 60,.ldLc 3 false 1,[.t 59],some 3,some (.t 58,false)⟩,gP 61 (.iad 11) [.t 60,.c (.int .i64 0)] 58 false,gP 62 (.ldRo true 11) [.t 61] 58 false,gP 63 (.call 132) [.t 62] 58 false,gP 64 (.un .not) [.t 63] 58 false,oP 65 .pick [.t 58,.c (.bool true),.t 64],mP 66 (.t 65),gP 67 (.fad 1) [.l 3] 66 false,⟨.t 68,.ldLc 3 false 1,[.t 67],some 3,some (.t 66,false)⟩,gP 69 (.iad 11) [.t 68,.c (.int .i64 1)] 66 false,gP 70 (.fad 0) [.t 69] 66 false,gP 71 (.ldRo false 1) [.t 70] 66 false,gP 72 (.bin .neq) [.t 71,.c (.str [105,110,112,117,116])] 66 false,oP 73 .pick [.t 66,.c (.bool true),.t 72],mP 74 (.t 73),gP 75 (.fad 1) [.l 3] 74 false,⟨.t 76,.ldLc 3 false 1,[.t 75],some 3,some (.t 74,false)⟩,gP 77 (.iad 11) [.t 76,.c (.int .i64 1)] 74 false,gP 78 (.fad 2) [.t 77] 74 false,gP 79 (.fad 2) [.t 78] 74 false,gP 80 (.ldRo false 1) [.t 79] 74 false,gP 81 (.un .not) [.t 80] 74 false,oP 82 .pick [.t 74,.c (.bool true),.t 81],mP 83 (.t 82),gP 84 (.fad 1) [.l 3] 83 false,⟨.t 85,.ldLc 3 false 1,[.t 84],some 3,some (.t 83,false)⟩,gP 86 (.iad 11) [.t 85,.c (.int .i64 1)] 83 false,gP 87 (.fad 2) [.t 86] 83 false,gP 88 (.fad 1) [.t 87] 83 false,gP 89 (.ldRo false 1) [.t 88] 83 false,gP 90 .lenL [.t 89] 83 false,gP 91 (.bin .gtr) [.t 90,.c (.int .i64 0)] 83 false,oP 92 .pick [.t 83,.c (.bool true),.t 91]] (.t 92) (Sq e5J .ret) .skip
def d50:=Rg [9] [oP 94 (.ldSt false 1) [.v 2],fP 95 1 (.l 3),lP 96 3 false 1 (.t 95),oP 97 (.iad 11) [.t 96,.c (.int .i64 1)],fP 98 2 (.t 97),fP 99 0 (.t 98),oP 100 (.ldRo false 1) [.t 99],oP 101 (.call 30) [.t 94,.t 100],mP 93 (.t 101),oP 102 (.ext 0) [.t 93],oP 103 (.ext 1) [.t 93],⟨.bx,.alloc [.int .u8 0,.str [],.list true [],.list true []],[],some 9,none⟩,xP (.stLc 9 4) [.l 9,.ts 102] 9,vP 8 (.t 103)]
def d4d:=Rg [] [vP 4 (.c (.bool false))]
def e47:=Ts [] [nP 104 8,oP 105 (.un .not) [.t 104],mP 106 (.t 105),gP 107 (.fad 0) [.l 9] 106 false,⟨.t 108,.ldLc 9 false 1,[.t 107],some 9,some (.t 106,false)⟩,gP 109 (.bin .neq) [.t 108,.c (.int .u8 5)] 106 false,oP 110 .pick [.t 106,.c (.bool true),.t 109]] (.t 110) (Sq d4d .ret) .skip
def d6U:=Rg [] [fP 111 2 (.l 9),lP 112 9 false 1 (.t 111),oP 113 (.mkF 133 0) [.v 7,.v 2],oP 114 (.call 129) [.t 112,.t 113],oP 115 (.un .not) [.t 114],vP 4 (.t 115)]
def g3W:ACode :=
  (Sq g23 (Sq f6K (Sq f8M (Sq e6e (Sq f3y (Sq f2B (Sq d50 (Sq e47 (Sq d6U .ret)))))))))
def a66:AFn:={ np:=2,nv:=10,results:=[.v 4],code:=g3W }
def g1r:=Rg [] [op (.v 1) .mv [.c (.str [])],vP 2 (.c (.int .i64 0))]
def f7G:=Rg [] [vP 3 (.c (.int .i64 0))]
def g0E:=Ts [] [nP 5 3,nP 6 0,oP 7 .lenL [.t 6],bP 8 .lss (.t 5) (.t 7)] (.t 8) .skip (.exit 0)
def g0O:=Rg [] [nP 19 0,nP 20 3,oP 21 (.iad 1) [.t 19,.t 20],oP 22 (.ldAn false 1) [.t 21],vP 1 (.t 22),vP 2 (.c (.int .i64 7))]
def d5w:=Ts [] [nP 11 0,nP 12 3,oP 13 (.slL 1 false true) [.t 11,.t 12],nP 14 0,nP 15 3,oP 16 (.iad 1) [.t 14,.t 15],oP 17 (.ldAn false 1) [.t 16],oP 18 (.call 33) [.t 13,.t 17]] (.t 18) (Sq g0O .ret) .skip
def e1w:=Rg [] [nP 28 0,nP 29 3,oP 30 (.iad 1) [.t 28,.t 29],oP 31 (.ldAn false 1) [.t 30],vP 1 (.t 31),vP 2 (.c (.int .i64 1))]
def e2l:=Ts [] [nP 23 0,nP 24 3,oP 25 (.iad 1) [.t 23,.t 24],oP 26 (.ldAn false 1) [.t 25],oP 27 (.call 34) [.t 26,.c (.str [95,95])]] (.t 27) (Sq e1w .ret) .skip
def e0C:=Rg [] [nP 9 3,bP 10 .add (.t 9) (.c (.int .i64 1)),vP 3 (.t 10)]
def f2x:=Rg [] [op (.v 1) .mv [.c (.str [])],vP 2 (.c (.int .i64 0))]
def g8A:ACode :=
  (Sq g1r (Sq (Sq f7G (Bk 0 (Lp (Sq g0E (Sq (Bk 1 (Sq d5w e2l)) e0C))))) (Sq f2x .ret)))
def a67:AFn:={ np:=1,nv:=4,results:=[.v 1,.v 2],code:=g8A }
def f62:=Rg [] [op (.v 1) .mv [.c (.list true [])]]
def f96:=Rg [] [op (.v 2) .mv [.c (.list true [])]]
def g2f:=Rg [] [vP 3 (.c (.int .i64 0))]
def f69:=Ts [] [nP 5 3,nP 6 0,oP 7 .lenL [.t 6],bP 8 .lss (.t 5) (.t 7)] (.t 8) .skip (.exit 0)
def f6O:=Rg [] [mP 11 (.vs 2),nP 12 0,nP 13 3,oP 14 (.iad 11) [.t 12,.t 13],fP 15 0 (.t 14),oP 16 (.ldRo false 1) [.t 15],oP 17 (.bslice 1 [[.str []]] [0]) [.t 16],oP 18 (.app 1 16) [.ts 11,.t 17],vP 2 (.ts 18)]
def d8R:=Rg [] [nP 9 3,bP 10 .add (.t 9) (.c (.int .i64 1)),vP 3 (.t 10)]
def f13:=Rg [] [nP 19 2,vP 1 (.ts 19)]
def g4p:ACode :=
  (Sq f62 (Sq f96 (Sq (Sq g2f (Bk 0 (Lp (Sq f69 (Sq (Bk 1 f6O) d8R))))) (Sq f13 .ret))))
def a68:AFn:={ np:=1,nv:=4,results:=[.v 1],code:=g4p }
def f6e:=Rg [3] [⟨.bx,.boxV,[.v 1],some 3,none⟩,op (.v 4) .mv [.c (.str [])],vP 5 (.c (.int .i64 0))]
def f6l:=Rg [] [fP 14 2 (.l 3),lP 15 3 true 3 (.t 14),oP 16 (.call 73) [.t 15],vP 6 (.t 16)]
def f7y:=Rg [] [nP 17 0,nP 18 6,oP 19 (.call 36) [.t 17,.t 18],oP 20 (.fld 0 1 false) [.t 19],vP 7 (.t 20)]
def f5M:=Rg [] [nP 28 6,vP 4 (.t 28),vP 5 (.c (.int .i64 6))]
def d6e:=Ts [] [nP 21 6,oP 22 (.call 32) [.t 21],oP 23 (.un .not) [.t 22],mP 24 (.t 23),gP 25 .mv [.v 7] 24 true,gP 26 (.bin .eql) [.t 25,.c (.int .u8 0)] 24 true,oP 27 .pick [.t 24,.t 26,.c (.bool false)]] (.t 27) (Sq f5M .ret) .skip
def e5W:=Rg [] [nP 48 6,vP 4 (.t 48),vP 5 (.c (.int .i64 8))]
def e1P:=Ts [] [nP 29 2,mP 30 (.t 29),gP 31 .mv [.v 0] 30 true,gP 32 .mv [.v 6] 30 true,gP 33 (.call 135) [.t 31,.t 32] 30 true,gP 34 (.un .not) [.t 33] 30 true,oP 35 .pick [.t 30,.t 34,.c (.bool false)],mP 36 (.t 35),gP 37 .mv [.v 2] 36 false,gP 38 (.un .not) [.t 37] 36 false,gP 39 .mv [.t 38] 36 false,gP 40 .mv [.v 7] 39 true,gP 41 (.bin .eql) [.t 40,.c (.int .u8 5)] 39 true,gP 42 .pick [.t 39,.t 41,.c (.bool false)] 36 false,oP 43 .pick [.t 36,.c (.bool true),.t 42],mP 44 (.t 43),gP 45 .mv [.v 6] 44 false,gP 46 (.call 70) [.t 45] 44 false,oP 47 .pick [.t 44,.c (.bool true),.t 46]] (.t 47) (Sq e5W .ret) .skip
def e15:=Rg [] [fP 60 0 (.l 3),lP 61 3 false 1 (.t 60),vP 4 (.t 61),vP 5 (.c (.int .i64 8))]
def e5c:=Ts [] [fP 49 5 (.l 3),lP 50 3 false 1 (.t 49),mP 51 (.t 50),gP 52 .mv [.v 0] 51 true,gP 53 (.fad 2) [.l 3] 51 true,⟨.t 54,.ldLc 3 true 3,[.t 53],some 3,some (.t 51,true)⟩,gP 55 (.fad 6) [.l 3] 51 true,⟨.t 56,.ldLc 3 true 5,[.t 55],some 3,some (.t 51,true)⟩,gP 57 (.call 136) [.t 52,.t 54,.t 56,.c (.bool false)] 51 true,gP 58 (.un .not) [.t 57] 51 true,oP 59 .pick [.t 51,.t 58,.c (.bool false)]] (.t 59) (Sq e15 .ret) .skip
def f00:=Rg [] [fP 63 1 (.l 3),lP 64 3 false 1 (.t 63),oP 65 (.call 68) [.t 64],oP 66 (.call 67) [.t 65],mP 62 (.t 66),oP 67 (.ext 0) [.t 62],oP 68 (.ext 1) [.t 62],vP 8 (.t 67),vP 9 (.t 68)]
def d74:=Rg [] [nP 71 8,nP 72 9,vP 4 (.t 71),vP 5 (.t 72)]
def f3d:=Ts [] [nP 69 9,bP 70 .neq (.t 69) (.c (.int .i64 0))] (.t 70) (Sq d74 .ret) .skip
def e62:=Rg [] [vP 10 (.c (.int .i64 0))]
def e8l:=Ts [] [nP 73 10,fP 74 1 (.l 3),lP 75 3 false 1 (.t 74),oP 76 .lenL [.t 75],bP 77 .lss (.t 73) (.t 76)] (.t 77) .skip (.exit 0)
def e35:=Rg [11] [fP 80 1 (.l 3),lP 81 3 false 1 (.t 80),nP 82 10,oP 83 (.iad 11) [.t 81,.t 82],oP 84 (.ldRo true 11) [.t 83],⟨.bx,.alloc [.str [],.list true [],.str [],.list true [],.bool false,.bool false,.int .u8 0,.int .i64 0,.str [],.list true [],.list true []],[],some 11,none⟩,xP (.stLc 11 11) [.l 11,.ts 84] 11]
def d4S:=Rg [] [fP 94 0 (.l 11),lP 95 11 false 1 (.t 94),vP 4 (.t 95),vP 5 (.c (.int .i64 8))]
def e3S:=Ts [] [fP 92 5 (.l 11),lP 93 11 false 1 (.t 92)] (.t 93) (Sq d4S .ret) .skip
def d9F:=Ts [] [nP 85 0,fP 86 2 (.l 11),lP 87 11 true 3 (.t 86),oP 88 (.call 73) [.t 87],oP 89 (.call 36) [.t 85,.t 88],oP 90 (.fld 0 1 false) [.t 89],bP 91 .eql (.t 90) (.c (.int .u8 5))] (.t 91) (Sq e3S (.exit 1)) .skip
def f4L:=Rg [] [nP 97 0,lP 98 11 true 11 (.l 11),oP 99 (.call 69) [.t 97,.t 98,.c (.bool true)],mP 96 (.t 99),oP 100 (.ext 0) [.t 96],oP 101 (.ext 1) [.t 96],vP 8 (.t 100),vP 9 (.t 101)]
def f4c:=Rg [] [nP 104 8,nP 105 9,vP 4 (.t 104),vP 5 (.t 105)]
def e1S:=Ts [] [nP 102 9,bP 103 .neq (.t 102) (.c (.int .i64 0))] (.t 103) (Sq f4c .ret) .skip
def d5T:=Rg [] [nP 78 10,bP 79 .add (.t 78) (.c (.int .i64 1)),vP 10 (.t 79)]
def f4I:=Rg [] [op (.v 4) .mv [.c (.str [])],vP 5 (.c (.int .i64 0))]
def g8g:ACode :=
  (Sq f6e (Sq f6l (Sq f7y (Sq d6e (Sq e1P (Sq e5c (Sq f00 (Sq f3d (Sq (Sq e62 (Bk 0 (Lp (Sq e8l (Sq (Bk 1 (Sq e35 (Sq d9F (Sq f4L e1S)))) d5T))))) (Sq f4I .ret))))))))))
def a69:AFn:={ np:=3,nv:=12,results:=[.v 4,.v 5],code:=g8g }
def f5n:=Rg [] [vP 1 (.c (.bool false))]
def g2W:=Rg [] [nP 3 0,oP 4 (.bin .eql) [.t 3,.c (.str [81,117,101,114,121])],mP 5 (.t 4),gP 6 .mv [.v 0] 5 false,gP 7 (.bin .eql) [.t 6,.c (.str [77,117,116,97,116,105,111,110])] 5 false,oP 8 .pick [.t 5,.c (.bool true),.t 7],vP 1 (.t 8)]
def g8u:ACode :=
  (Sq f5n (Sq g2W .ret))
def a70:AFn:={ np:=1,nv:=2,results:=[.v 1],code:=g8u }
def f8x:=Rg [] [vP 2 (.c (.int .i64 0))]
def f7P:=Rg [] [vP 3 (.c (.int .i64 0))]
def g2d:=Ts [] [nP 6 3,nP 7 0,oP 8 .lenL [.t 7],bP 9 .lss (.t 6) (.t 8)] (.t 9) .skip (.exit 0)
def g3p:=Rg [] [nP 19 3,vP 2 (.t 19)]
def d9w:=Ts [] [nP 12 0,nP 13 3,oP 14 (.iad 11) [.t 12,.t 13],fP 15 0 (.t 14),oP 16 (.ldRo false 1) [.t 15],nP 17 1,bP 18 .eql (.t 16) (.t 17)] (.t 18) (Sq g3p .ret) .skip
def e07:=Rg [] [nP 10 3,bP 11 .add (.t 10) (.c (.int .i64 1)),vP 3 (.t 11)]
def d4O:=Rg [] [vP 2 (.c (.int .i64 (-1)))]
def g7B:ACode :=
  (Sq f8x (Sq (Sq f7P (Bk 0 (Lp (Sq g2d (Sq (Bk 1 d9w) e07))))) (Sq d4O .ret)))
def a71:AFn:={ np:=2,nv:=4,results:=[.v 2],code:=g7B }
def g0Z:=Rg [2,3] [⟨.bx,.boxV,[.v 0],some 2,none⟩,⟨.bx,.boxV,[.v 1],some 3,none⟩,vP 4 (.c (.bool false))]
def f5f:=Rg [] [vP 4 (.c (.bool false))]
def g09:=Ts [] [fP 5 0 (.l 2),lP 6 2 false 1 (.t 5),fP 7 0 (.l 3),lP 8 3 false 1 (.t 7),bP 9 .neq (.t 6) (.t 8),mP 10 (.t 9),gP 11 (.fad 2) [.l 2] 10 false,⟨.t 12,.ldLc 2 false 1,[.t 11],some 2,some (.t 10,false)⟩,gP 13 (.fad 2) [.l 3] 10 false,⟨.t 14,.ldLc 3 false 1,[.t 13],some 3,some (.t 10,false)⟩,gP 15 (.binB .neq) [.t 12,.t 14] 10 false,oP 16 .pick [.t 10,.c (.bool true),.t 15],mP 17 (.t 16),gP 18 (.fad 1) [.l 2] 17 false,⟨.t 19,.ldLc 2 false 1,[.t 18],some 2,some (.t 17,false)⟩,gP 20 .lenL [.t 19] 17 false,gP 21 (.fad 1) [.l 3] 17 false,⟨.t 22,.ldLc 3 false 1,[.t 21],some 3,some (.t 17,false)⟩,gP 23 .lenL [.t 22] 17 false,gP 24 (.bin .neq) [.t 20,.t 23] 17 false,oP 25 .pick [.t 17,.c (.bool true),.t 24]] (.t 25) (Sq f5f .ret) .skip
def f5a:=Rg [] [fP 26 1 (.l 2),lP 27 2 false 1 (.t 26),oP 28 .lenL [.t 27],bP 29 .eql (.t 28) (.c (.int .i64 0)),mP 30 (.t 29),gP 31 (.fad 1) [.l 2] 30 false,⟨.t 32,.ldLc 2 false 1,[.t 31],some 2,some (.t 30,false)⟩,gP 33 (.iad 3) [.t 32,.c (.int .i64 0)] 30 false,gP 34 (.ldRo true 3) [.t 33] 30 false,gP 35 (.fad 1) [.l 3] 30 false,⟨.t 36,.ldLc 3 false 1,[.t 35],some 3,some (.t 30,false)⟩,gP 37 (.iad 3) [.t 36,.c (.int .i64 0)] 30 false,gP 38 (.ldRo true 3) [.t 37] 30 false,gP 39 (.call 72) [.t 34,.t 38] 30 false,oP 40 .pick [.t 30,.c (.bool true),.t 39],vP 4 (.t 40)]
def g6K:ACode :=
  (Sq g0Z (Sq g09 (Sq f5a .ret)))
def a72:AFn:={ np:=2,nv:=5,results:=[.v 4],code:=g6K }
def g1L:=Rg [1] [⟨.bx,.boxV,[.v 0],some 1,none⟩,op (.v 2) .mv [.c (.str [])]]
def f5y:=Rg [] [fP 7 1 (.l 1),lP 8 1 false 1 (.t 7),oP 9 (.iad 3) [.t 8,.c (.int .i64 0)],oP 10 (.ldRo true 3) [.t 9],oP 11 (.call 73) [.t 10],vP 2 (.t 11)]
def f5B:=Ts [] [fP 3 1 (.l 1),lP 4 1 false 1 (.t 3),oP 5 .lenL [.t 4],bP 6 .gtr (.t 5) (.c (.int .i64 0))] (.t 6) (Sq f5y .ret) .skip
def f5D:=Rg [] [fP 12 0 (.l 1),lP 13 1 false 1 (.t 12),vP 2 (.t 13)]
def g7m:ACode :=
  (Sq g1L (Sq f5B (Sq f5D .ret)))
def a73:AFn:={ np:=1,nv:=3,results:=[.v 2],code:=g7m }
def g0t:=Rg [] [vP 2 (.c (.bool false))]
def f9J:=Rg [] [nP 6 0,nP 7 1,oP 8 (.call 36) [.t 6,.t 7],oP 9 (.fld 0 1 false) [.t 8],vP 3 (.t 9)]
def g2v:=Rg [] [nP 10 1,oP 11 (.call 70) [.t 10],oP 12 (.un .not) [.t 11],mP 13 (.t 12),gP 14 .mv [.v 3] 13 true,gP 15 (.bin .eql) [.t 14,.c (.int .u8 1)] 13 true,gP 16 .mv [.t 15] 13 true,gP 17 .mv [.v 3] 16 false,gP 18 (.bin .eql) [.t 17,.c (.int .u8 2)] 16 false,gP 19 .pick [.t 16,.c (.bool true),.t 18] 13 true,gP 20 .mv [.t 19] 13 true,gP 21 .mv [.v 3] 20 false,gP 22 (.bin .eql) [.t 21,.c (.int .u8 3)] 20 false,gP 23 .pick [.t 20,.c (.bool true),.t 22] 13 true,oP 24 .pick [.t 13,.t 23,.c (.bool false)],vP 2 (.t 24)]
def g54:ACode :=
  (Sq g0t (Sq f9J (Sq g2v .ret)))
def a74:AFn:={ np:=2,nv:=4,results:=[.v 2],code:=g54 }
def f9d:=Rg [1] [⟨.bx,.boxV,[.v 0],some 1,none⟩,vP 2 (.c (.bool false))]
def f8Z:=Rg [] [fP 3 0 (.l 1),lP 4 1 false 1 (.t 3),oP 5 (.bin .eql) [.t 4,.c (.str [105,100])],mP 6 (.t 5),gP 7 (.fad 2) [.l 1] 6 true,gP 8 (.fad 0) [.t 7] 6 true,⟨.t 9,.ldLc 1 false 1,[.t 8],some 1,some (.t 6,true)⟩,gP 10 (.bin .eql) [.t 9,.c (.str [73,68])] 6 true,oP 11 .pick [.t 6,.t 10,.c (.bool false)],mP 12 (.t 11),gP 13 (.fad 2) [.l 1] 12 true,gP 14 (.fad 2) [.t 13] 12 true,⟨.t 15,.ldLc 1 false 1,[.t 14],some 1,some (.t 12,true)⟩,oP 16 .pick [.t 12,.t 15,.c (.bool false)],mP 17 (.t 16),gP 18 (.fad 2) [.l 1] 17 true,gP 19 (.fad 1) [.t 18] 17 true,⟨.t 20,.ldLc 1 false 1,[.t 19],some 1,some (.t 17,true)⟩,gP 21 .lenL [.t 20] 17 true,gP 22 (.bin .eql) [.t 21,.c (.int .i64 0)] 17 true,oP 23 .pick [.t 17,.t 22,.c (.bool false)],mP 24 (.t 23),gP 25 (.fad 5) [.l 1] 24 true,⟨.t 26,.ldLc 1 false 1,[.t 25],some 1,some (.t 24,true)⟩,gP 27 (.un .not) [.t 26] 24 true,oP 28 .pick [.t 24,.t 27,.c (.bool false)],vP 2 (.t 28)]
def g75:ACode :=
  (Sq f9d (Sq f8Z .ret))
def a75:AFn:={ np:=1,nv:=3,results:=[.v 2],code:=g75 }
def f61:=Rg [2] [⟨.bx,.boxV,[.v 1],some 2,none⟩,vP 3 (.c (.bool false))]
def f8R:=Rg [] [fP 12 0 (.l 2),lP 13 2 false 1 (.t 12),oP 14 (.call 137) [.t 13],mP 11 (.t 14),oP 15 (.ext 0) [.t 11],oP 16 (.ext 1) [.t 11],vP 4 (.t 15),vP 5 (.t 16)]
def f6w:=Rg [6] [nP 17 0,nP 18 5,oP 19 (.call 36) [.t 17,.t 18],⟨.bx,.alloc [.int .u8 0,.str [],.list true [],.list true []],[],some 6,none⟩,xP (.stLc 6 4) [.l 6,.ts 19] 6]
def f8B:=Rg [] [vP 3 (.c (.bool false))]
def d44:=Ts [] [nP 20 4,oP 21 (.bin .eql) [.t 20,.c (.str [])],mP 22 (.t 21),gP 23 (.fad 0) [.l 6] 22 false,⟨.t 24,.ldLc 6 false 1,[.t 23],some 6,some (.t 22,false)⟩,gP 25 (.bin .neq) [.t 24,.c (.int .u8 1)] 22 false,oP 26 .pick [.t 22,.c (.bool true),.t 25],mP 27 (.t 26),gP 28 .mv [.v 5] 27 false,gP 29 (.call 70) [.t 28] 27 false,oP 30 .pick [.t 27,.c (.bool true),.t 29],mP 31 (.t 30),gP 32 (.fad 2) [.l 2] 31 false,gP 33 (.fad 1) [.t 32] 31 false,⟨.t 34,.ldLc 2 false 1,[.t 33],some 2,some (.t 31,false)⟩,gP 35 .lenL [.t 34] 31 false,gP 36 (.bin .gtr) [.t 35,.c (.int .i64 0)] 31 false,oP 37 .pick [.t 31,.c (.bool true),.t 36],mP 38 (.t 37),gP 39 (.fad 2) [.l 2] 38 false,gP 40 (.fad 2) [.t 39] 38 false,⟨.t 41,.ldLc 2 false 1,[.t 40],some 2,some (.t 38,false)⟩,oP 42 .pick [.t 38,.c (.bool true),.t 41],mP 43 (.t 42),gP 44 (.fad 2) [.l 2] 43 false,gP 45 (.fad 0) [.t 44] 43 false,⟨.t 46,.ldLc 2 false 1,[.t 45],some 2,some (.t 43,false)⟩,gP 47 .mv [.v 5] 43 false,gP 48 (.bin .neq) [.t 46,.t 47] 43 false,oP 49 .pick [.t 43,.c (.bool true),.t 48],mP 50 (.t 49),gP 51 (.fad 1) [.l 2] 50 false,⟨.t 52,.ldLc 2 false 1,[.t 51],some 2,some (.t 50,false)⟩,gP 53 .lenL [.t 52] 50 false,gP 54 (.bin .eql) [.t 53,.c (.int .i64 0)] 50 false,oP 55 .pick [.t 50,.c (.bool true),.t 54],mP 56 (.t 55),gP 57 (.fad 1) [.l 2] 56 false,⟨.t 58,.ldLc 2 false 1,[.t 57],some 2,some (.t 56,false)⟩,gP 59 (.iad 11) [.t 58,.c (.int .i64 0)] 56 false,gP 60 (.ldRo true 11) [.t 59] 56 false,gP 61 (.call 75) [.t 60] 56 false,gP 62 (.un .not) [.t 61] 56 false,oP 63 .pick [.t 56,.c (.bool true),.t 62]] (.t 63) (Sq f8B .ret) .skip
def d6P:=Rg [] [fP 66 1 (.l 2),lP 67 2 false 1 (.t 66),oP 68 .lenL [.t 67],bP 69 .eql (.t 68) (.c (.int .i64 1)),vP 3 (.t 69)]
def e7e:=Ts [] [nP 64 4,oP 65 (.bin .eql) [.t 64,.c (.str [100,101,108,101,116,101])]] (.t 65) (Sq d6P .ret) .skip
def d6J:=Rg [] [vP 3 (.c (.bool false))]
def d8f:=Ts [] [fP 70 1 (.l 2),lP 71 2 false 1 (.t 70),oP 72 .lenL [.t 71],bP 73 .neq (.t 72) (.c (.int .i64 2)),mP 74 (.t 73),gP 75 (.fad 1) [.l 2] 74 false,⟨.t 76,.ldLc 2 false 1,[.t 75],some 2,some (.t 74,false)⟩,gP 77 (.iad 11) [.t 76,.c (.int .i64 1)] 74 false,gP 78 (.fad 0) [.t 77] 74 false,gP 79 (.ldRo false 1) [.t 78] 74 false,gP 80 (.bin .neq) [.t 79,.c (.str [105,110,112,117,116])] 74 false,oP 81 .pick [.t 74,.c (.bool true),.t 80],mP 82 (.t 81),gP 83 (.fad 1) [.l 2] 82 false,⟨.t 84,.ldLc 2 false 1,[.t 83],some 2,some (.t 82,false)⟩,gP 85 (.iad 11) [.t 84,.c (.int .i64 1)] 82 false,gP 86 (.fad 2) [.t 85] 82 false,gP 87 (.fad 2) [.t 86] 82 false,gP 88 (.ldRo false 1) [.t 87] 82 false,gP 89 (.un .not) [.t 88] 82 false,oP 90 .pick [.t 82,.c (.bool true),.t 89],mP 91 (.t 90),gP 92 (.fad 1) [.l 2] 91 false,⟨.t 93,.ldLc 2 false 1,[.t 92],some 2,some (.t 91,false)⟩,gP 94 (.iad 11) [.t 93,.c (.int .i64 1)] 91 false,gP 95 (.fad 2) [.t 94] 91 false,gP 96 (.fad 1) [.t 95] 91 false,gP 97 (.ldRo false 1) [.t 96] 91 false,gP 98 .lenL [.t 97] 91 false,gP 99 (.bin .gtr) [.t 98,.c (.int .i64 0)] 91 false,oP 100 .pick [.t 91,.c (.bool true),.t 99]] (.t 100) (Sq d6J .ret) .skip
def d7s:=Rg [7] [nP 101 0,fP 102 1 (.l 2),lP 103 2 false 1 (.t 102),oP 104 (.iad 11) [.t 103,.c (.int .i64 1)],fP 105 2 (.t 104),fP 106 0 (.t 105),oP 107 (.ldRo false 1) [.t 106],oP 108 (.call 36) [.t 101,.t 107],⟨.bx,.alloc [.int .u8 0,.str [],.list true [],.list true []],[],some 7,none⟩,xP (.stLc 7 4) [.l 7,.ts 108] 7]
def e5E:=Rg [] [vP 3 (.c (.bool false))]
def d5u:=Ts [] [fP 109 0 (.l 7),lP 110 7 false 1 (.t 109),bP 111 .neq (.t 110) (.c (.int .u8 5))] (.t 111) (Sq e5E .ret) .skip
def d8c:=Rg [] [vP 8 (.c (.int .i64 0))]
def e1H:=Ts [] [nP 112 8,fP 113 2 (.l 7),lP 114 7 false 1 (.t 113),oP 115 .lenL [.t 114],bP 116 .lss (.t 112) (.t 115)] (.t 116) .skip (.exit 0)
def e5H:=Rg [] [fP 119 2 (.l 6),lP 120 6 false 1 (.t 119),fP 121 2 (.l 7),lP 122 7 false 1 (.t 121),nP 123 8,oP 124 (.iad 11) [.t 122,.t 123],fP 125 0 (.t 124),oP 126 (.ldRo false 1) [.t 125],oP 127 (.call 71) [.t 120,.t 126],vP 9 (.t 127)]
def d7u:=Rg [] [vP 3 (.c (.bool false))]
def d8q:=Ts [] [nP 128 9,bP 129 .lss (.t 128) (.c (.int .i64 0)),mP 130 (.t 129),gP 131 .mv [.v 0] 130 false,gP 132 (.fad 2) [.l 6] 130 false,⟨.t 133,.ldLc 6 false 1,[.t 132],some 6,some (.t 130,false)⟩,gP 134 .mv [.v 9] 130 false,gP 135 (.iad 11) [.t 133,.t 134] 130 false,gP 136 (.fad 2) [.t 135] 130 false,gP 137 (.ldRo true 3) [.t 136] 130 false,gP 138 (.fad 2) [.l 7] 130 false,⟨.t 139,.ldLc 7 false 1,[.t 138],some 7,some (.t 130,false)⟩,gP 140 .mv [.v 8] 130 false,gP 141 (.iad 11) [.t 139,.t 140] 130 false,gP 142 (.fad 2) [.t 141] 130 false,gP 143 (.ldRo true 3) [.t 142] 130 false,gP 144 (.call 138) [.t 131,.t 137,.t 143] 130 false,gP 145 (.un .not) [.t 144] 130 false,oP 146 .pick [.t 130,.c (.bool true),.t 145]] (.t 146) (Sq d7u .ret) .skip
def d8F:=Rg [] [nP 117 8,bP 118 .add (.t 117) (.c (.int .i64 1)),vP 8 (.t 118)]
def e8d:=Rg [] [vP 3 (.c (.bool true))]
def g5c:ACode :=
  (Sq f61 (Sq f8R (Sq f6w (Sq d44 (Sq e7e (Sq d8f (Sq d7s (Sq d5u (Sq (Sq d8c (Bk 0 (Lp (Sq e1H (Sq (Bk 1 (Sq e5H d8q)) d8F))))) (Sq e8d .ret))))))))))
def a76:AFn:={ np:=2,nv:=10,results:=[.v 3],code:=g5c }
def a77s1:=Rg [] [vP 3 (.c (.int .i64 0)),vP 4 (.c (.bool false))]
def a77s3:=Rg [] [nP 12 0,oP 13 .lenL [.t 12],vP 5 (.t 13)]
def a77s5:=Rg [] [nP 14 5,vP 6 (.c (.int .i64 0)),vP 7 (.t 14)]
def a77s7:=Ts [] [nP 15 6,nP 16 7,bP 17 .lss (.t 15) (.t 16)] (.t 17) .skip (.exit 0)
def a77s9:=Rg [] [nP 18 6,nP 19 7,bP 20 .add (.t 18) (.t 19),oP 21 (.conv .u64) [.t 20],bP 22 .shr (.t 21) (.c (.int .u64 1)),oP 23 (.conv .i64) [.t 22],vP 8 (.t 23)]
def a77s12:=Rg [] [nP 32 8,bP 33 .add (.t 32) (.c (.int .i64 1)),vP 6 (.t 33)]
def a77s14:=Rg [] [nP 34 8,vP 7 (.t 34)]
def a77s15:=Ts [] [nP 24 2,nP 25 0,nP 26 8,oP 27 (.iad 4) [.t 25,.t 26],oP 28 (.ldAn true 4) [.t 27],nP 29 1,oP 30 .callV [.t 24,.t 28,.t 29],bP 31 .lss (.t 30) (.c (.int .i64 0))] (.t 31) a77s12 a77s14
def a77s22:=Rg [] [nP 35 6,nP 36 6,nP 37 5,bP 38 .lss (.t 36) (.t 37),mP 39 (.t 38),gP 40 .mv [.v 2] 39 true,gP 41 .mv [.v 0] 39 true,gP 42 .mv [.v 6] 39 true,gP 43 (.iad 4) [.t 41,.t 42] 39 true,gP 44 (.ldAn true 4) [.t 43] 39 true,gP 45 .mv [.v 1] 39 true,gP 46 .callV [.t 40,.t 44,.t 45] 39 true,gP 47 (.bin .eql) [.t 46,.c (.int .i64 0)] 39 true,oP 48 .pick [.t 39,.t 47,.c (.bool false)],vP 3 (.t 35),vP 4 (.t 48)]
def a77c:ACode :=
  (Sq a77s1 (Sq a77s3 (Sq a77s5 (Sq (Bk 0 (Lp (Sq a77s7 (Bk 1 (Sq a77s9 a77s15))))) (Sq a77s22 .ret)))))
def a77:AFn:={ np:=3,nv:=9,results:=[.v 3,.v 4],code:=a77c }
def a78s1:=Rg [2] [⟨.bx,.boxV,[.v 0],some 2,none⟩,vP 3 (.c (.int .i64 0))]
def a78s4:=Rg [] [vP 3 (.c (.int .i64 (-1)))]
def a78s8:=Rg [] [vP 3 (.c (.int .i64 1))]
def a78s10:=Ts [] [fP 11 1 (.l 2),lP 12 2 false 1 (.t 11),nP 13 1,bP 14 .gtr (.t 12) (.t 13),mP 10 (.t 14)] (.t 10) (Sq a78s8 .ret) .skip
def a78s11:=Ts [] [fP 6 1 (.l 2),lP 7 2 false 1 (.t 6),nP 8 1,bP 9 .lss (.t 7) (.t 8),mP 5 (.t 9)] (.t 5) (Sq a78s4 .ret) a78s10
def a78s14:=Rg [] [vP 3 (.c (.int .i64 0))]
def a78c:ACode :=
  (Sq a78s1 (Sq (Bk 0 a78s11) (Sq a78s14 .ret)))
def a78:AFn:={ np:=2,nv:=4,results:=[.v 3],code:=a78c }
def f5N:=Rg [] [op (.v 1) .mv [.c (.list true [])],vP 2 (.c (.int .i64 0)),vP 3 (.c (.int .i64 0))]
def f8h:=Rg [] [op (.v 1) .mv [.c (.list true [])],vP 2 (.c (.int .i64 0)),vP 3 (.c (.int .i64 2))]
def f9s:=Ts [] [nP 11 0,oP 12 .lenS [.t 11],bP 13 .gtr (.t 12) (.c (.int .i64 2000))] (.t 13) (Sq f8h .ret) .skip
def f7u:=Rg [] [op (.v 4) .mv [.c (.list true [])]]
def f08:=Rg [] [vP 5 (.c (.int .i64 0))]
def d8B:=Rg [] [nP 14 5,nP 15 0,nP 16 5,oP 17 (.slS true false) [.t 15,.t 16],oP 18 (.call 140) [.t 17,.c (.func 141 [] [])],bP 19 .add (.t 14) (.t 18),vP 5 (.t 19)]
def d7r:=Rg [] [mP 25 (.vs 4),nP 26 5,oP 27 (.build [.int .u8 0,.str [],.int .i64 0,.int .i64 0] [(3,1)]) [.t 26],oP 28 (.bslice 4 [[.int .u8 0,.str [],.int .i64 0,.int .i64 0]] [0]) [.t 27],oP 29 (.app 4 40) [.ts 25,.t 28],vP 1 (.ts 29),vP 2 (.c (.int .i64 0)),vP 3 (.c (.int .i64 0))]
def d6z:=Rg [] [nP 35 5,nP 36 0,nP 37 5,oP 38 (.slS true false) [.t 36,.t 37],oP 39 (.call 140) [.t 38,.c (.func 143 [] [])],bP 40 .add (.t 35) (.t 39),vP 5 (.t 40)]
def e7W:=Ts [] [nP 31 0,nP 32 5,oP 33 .idxS [.t 31,.t 32],bP 34 .eql (.t 33) (.c (.int .u8 35)),mP 30 (.t 34)] (.t 30) (Sq d6z (.exit 1)) .skip
def f0u:=Ts [] [nP 21 5,nP 22 0,oP 23 .lenS [.t 22],bP 24 .eql (.t 21) (.t 23),mP 20 (.t 24)] (.t 20) (Sq d7r .ret) e7W
def d6Y:=Rg [6] [nP 42 0,nP 43 5,oP 44 (.slS true false) [.t 42,.t 43],oP 45 (.call 144) [.t 44],mP 41 (.t 45),oP 46 (.ext 0) [.t 41],oP 47 (.ext 1) [.t 41],oP 48 (.ext 2) [.t 41],oP 49 (.ext 3) [.t 41],⟨.bx,.alloc [.int .u8 0,.str [],.int .i64 0,.int .i64 0],[],some 6,none⟩,xP (.stLc 6 4) [.l 6,.t 46] 6,vP 7 (.t 47),vP 8 (.t 48),vP 9 (.t 49)]
def e1j:=Rg [] [nP 52 5,nP 53 8,bP 54 .add (.t 52) (.t 53),nP 55 9,op (.v 1) .mv [.c (.list true [])],vP 2 (.t 54),vP 3 (.t 55)]
def e5w:=Ts [] [nP 50 9,bP 51 .neq (.t 50) (.c (.int .i64 0))] (.t 51) (Sq e1j .ret) .skip
def d5r:=Rg [] [nP 56 5,fP 57 3 (.l 6),xP (.stLc 6 1) [.t 57,.t 56] 6]
def d6s:=Rg [] [mP 58 (.vs 4),lP 59 6 true 4 (.l 6),oP 60 (.bslice 4 [[.int .u8 0,.str [],.int .i64 0,.int .i64 0]] [0]) [.t 59],oP 61 (.app 4 40) [.ts 58,.t 60],nP 62 5,nP 63 7,bP 64 .add (.t 62) (.t 63),vP 4 (.ts 61),vP 5 (.t 64)]
def g8f:ACode :=
  (Sq f5N (Sq f9s (Sq f7u (Sq f08 (Bk 0 (Lp (Bk 1 (Sq d8B (Sq (Bk 2 f0u) (Sq d6Y (Sq e5w (Sq d5r d6s))))))))))))
def a81:AFn:={ np:=1,nv:=10,results:=[.v 1,.v 2,.v 3],code:=g8f }
def f7n:=Rg [] [oP 6 (.build [.nils,.nils] []) [],oP 7 (.ldSt false 1) [.v 1],oP 8 .nilchk [.t 7],fP 9 0 (.t 8),oP 10 (.ldSt false 1) [.t 9],oP 11 (.ldSt false 1) [.v 1],oP 12 .nilchk [.t 11],fP 13 1 (.t 12),oP 14 (.ldSt false 1) [.t 13],oP 15 (.iad 4) [.t 10,.t 14],fP 16 3 (.t 15),oP 17 (.ldRo false 1) [.t 16],op .none (.stSt 2) [.v 2,.ts 6],op .none (.stSt 1) [.v 3,.t 17]]
def g1w:=Ts [] [oP 4 (.ldSt false 1) [.v 0],bP 5 .neq (.t 4) (.c (.int .i64 0))] (.t 5) f7n .skip
def g7G:ACode :=
  g1w
def a82:AFn:={ np:=4,nv:=4,results:=[],code:=g7G }
def g2Z:=Rg [] [vP 2 (.c (.bool false))]
def f7f:=Rg [] [nP 5 0,oP 6 .nilchk [.t 5],fP 7 0 (.t 6),oP 8 (.ldSt false 1) [.t 7],nP 9 0,oP 10 .nilchk [.t 9],fP 11 1 (.t 10),oP 12 (.ldSt false 1) [.t 11],oP 13 (.iad 4) [.t 8,.t 12],fP 14 0 (.t 13),oP 15 (.ldRo false 1) [.t 14],nP 16 1,bP 17 .eql (.t 15) (.t 16),vP 2 (.t 17)]
def g3I:ACode :=
  (Sq g2Z (Sq f7f .ret))
def a84:AFn:={ np:=2,nv:=3,results:=[.v 2],code:=g3I }
def g1P:=Rg [] [vP 2 (.c (.bool false))]
def f5O:=Rg [] [nP 5 0,oP 6 .nilchk [.t 5],fP 7 0 (.t 6),oP 8 (.ldSt false 1) [.t 7],nP 9 0,oP 10 .nilchk [.t 9],fP 11 1 (.t 10),oP 12 (.ldSt false 1) [.t 11],oP 13 (.iad 4) [.t 8,.t 12],fP 14 0 (.t 13),oP 15 (.ldRo false 1) [.t 14],bP 16 .eql (.t 15) (.c (.int .u8 4)),mP 17 (.t 16),gP 18 .mv [.v 0] 17 true,gP 19 .nilchk [.t 18] 17 true,gP 20 (.fad 0) [.t 19] 17 true,gP 21 (.ldSt false 1) [.t 20] 17 true,gP 22 .mv [.v 0] 17 true,gP 23 .nilchk [.t 22] 17 true,gP 24 (.fad 1) [.t 23] 17 true,gP 25 (.ldSt false 1) [.t 24] 17 true,gP 26 (.iad 4) [.t 21,.t 25] 17 true,gP 27 (.fad 1) [.t 26] 17 true,gP 28 (.ldRo false 1) [.t 27] 17 true,gP 29 .mv [.v 1] 17 true,gP 30 (.bin .eql) [.t 28,.t 29] 17 true,oP 31 .pick [.t 17,.t 30,.c (.bool false)],vP 2 (.t 31)]
def g7p:ACode :=
  (Sq g1P (Sq f5O .ret))
def a85:AFn:={ np:=2,nv:=3,results:=[.v 2],code:=g7p }
def g08:=Rg [] [op (.v 1) .mv [.c (.list true [])]]
def f5F:=Rg [] [nP 3 0,oP 4 (.call 145) [.t 3]]
def f5P:=Rg [] [op .none (.call 146) [.v 2]]
def g3B:=Rg [] [vP 2 (.v 0)]
def f7B:=Rg [] [nP 6 0,nP 7 0,oP 8 (.mkF 148 1) [.t 7],oP 9 (.call 147) [.t 6,.c (.str [123]),.c (.str [125]),.t 8],vP 1 (.ts 9)]
def g6z:ACode :=
  (Sq g08 (Sq f5F (Sq g3B (Sq (Bk 900000 (Sq f7B (.exit 900000))) f5P))))
def a86:AFn:={ np:=1,nv:=3,results:=[.v 1],code:=g6z }
def f6s:=Rg [] [vP 2 (.c (.bool false))]
def f51:=Rg [] [nP 13 0,oP 14 .nilchk [.t 13],fP 15 1 (.t 14),oP 16 (.ldSt false 1) [.t 15],bP 17 .add (.t 16) (.c (.int .i64 1)),oP 18 .nilchk [.t 13],fP 19 1 (.t 18),op .none (.stSt 1) [.t 19,.t 17]]
def f7s:=Rg [] [vP 2 (.c (.bool true))]
def g3D:=Ts [] [nP 5 0,nP 6 1,oP 7 (.call 85) [.t 5,.t 6],mP 8 (.t 7),gP 9 .mv [.v 0] 8 false,gP 10 .mv [.v 1] 8 false,gP 11 (.call 149) [.t 9,.t 10] 8 false,oP 12 .pick [.t 8,.c (.bool true),.t 11]] (.t 12) (Sq f51 (Sq f7s .ret)) .skip
def d7m:=Rg [] [vP 2 (.c (.bool false))]
def g8R:ACode :=
  (Sq f6s (Sq g3D (Sq d7m .ret)))
def a87:AFn:={ np:=2,nv:=3,results:=[.v 2],code:=g8R }
def g2X:=Rg [1] [⟨.bx,.alloc [.str [],.str [],.list true []],[],some 1,none⟩]
def f5Q:=Rg [] [nP 6 0,oP 7 (.call 150) [.t 6,.c (.int .i64 4)]]
def f6u:=Ts [] [nP 4 0,oP 5 (.call 149) [.t 4,.c (.str [111,110])]] (.t 5) f5Q .skip
def g00:=Rg [2] [nP 8 0,oP 9 (.call 151) [.t 8],oP 10 (.build [.str [],.str [],.list true []] [(0,1)]) [.t 9],⟨.bx,.alloc [.str [],.str [],.list true []],[],some 2,none⟩,xP (.stLc 2 3) [.l 2,.ts 10] 2]
def f9A:=Rg [] [nP 11 0,oP 12 (.call 152) [.t 11,.c (.str [111,110])]]
def e8r:=Rg [] [nP 13 0,oP 14 (.call 151) [.t 13],fP 15 1 (.l 2),xP (.stLc 2 1) [.t 15,.t 14] 2]
def d6L:=Rg [] [nP 16 0,oP 17 (.call 86) [.t 16],fP 18 2 (.l 2),xP (.stLc 2 1) [.t 18,.ts 17] 2]
def e42:=Rg [] [lP 19 2 true 3 (.l 2),xP (.stLc 1 3) [.l 1,.ts 19] 1]
def g77:ACode :=
  (Sq g2X (Sq f6u (Sq g00 (Sq f9A (Sq e8r (Sq d6L (Sq e42 .ret)))))))
def a88:AFn:={ np:=1,nv:=3,results:=[.bx 1 true 3],code:=g77 }
def f9y:=Rg [1] [⟨.bx,.alloc [.bool false,.str [],.list true [],.list true []],[],some 1,none⟩]
def g0a:=Rg [2] [nP 4 0,oP 5 (.call 87) [.t 4,.c (.str [109,117,116,97,116,105,111,110])],oP 6 (.build [.bool false,.str [],.list true [],.list true []] [(0,1)]) [.t 5],⟨.bx,.alloc [.bool false,.str [],.list true [],.list true []],[],some 2,none⟩,xP (.stLc 2 4) [.l 2,.ts 6] 2]
def g26:=Rg [] [nP 10 0,oP 11 (.call 152) [.t 10,.c (.str [113,117,101,114,121])]]
def f9x:=Ts [] [fP 7 0 (.l 2),lP 8 2 false 1 (.t 7),oP 9 (.un .not) [.t 8]] (.t 9) g26 .skip
def d7a:=Rg [] [nP 14 0,oP 15 (.call 151) [.t 14],fP 16 1 (.l 2),xP (.stLc 2 1) [.t 16,.t 15] 2]
def f3W:=Ts [] [nP 12 0,oP 13 (.call 84) [.t 12,.c (.int .u8 1)]] (.t 13) d7a .skip
def e6P:=Rg [] [nP 19 0,nP 20 0,oP 21 (.mkF 154 1) [.t 20],oP 22 (.call 153) [.t 19,.c (.str [40]),.c (.str [41]),.t 21],fP 23 2 (.l 2),xP (.stLc 2 1) [.t 23,.ts 22] 2]
def e5y:=Ts [] [nP 17 0,oP 18 (.call 85) [.t 17,.c (.str [40])]] (.t 18) e6P .skip
def e3o:=Rg [] [nP 24 0,oP 25 (.call 86) [.t 24],fP 26 3 (.l 2),xP (.stLc 2 1) [.t 26,.ts 25] 2]
def f1q:=Rg [] [lP 27 2 true 4 (.l 2),xP (.stLc 1 4) [.l 1,.ts 27] 1]
def g7x:ACode :=
  (Sq f9y (Sq g0a (Sq f9x (Sq f3W (Sq e5y (Sq e3o (Sq f1q .ret)))))))
def a89:AFn:={ np:=1,nv:=3,results:=[.bx 1 true 4],code:=g7x }
def f9q:=Rg [] [nP 6 0,nP 7 0,oP 8 .nilchk [.t 7],fP 9 3 (.t 8),oP 10 .ldStS [.t 9],nP 11 1,nP 12 2,oP 13 (.build [.int .i64 0,.str []] [(0,1),(1,1)]) [.t 11,.t 12],oP 14 (.bsliceM 2 [[.int .i64 0,.str []]] [0]) [.t 13],oP 15 (.appM 2 24) [.ts 10,.t 14],oP 16 .nilchk [.t 6],fP 17 3 (.t 16),op .none (.stSt 1) [.t 17,.t 15]]
def g8L:ACode :=
  f9q
def a90:AFn:={ np:=3,nv:=3,results:=[],code:=g8L }
def f79:=Rg [] [vP 5 (.v 2),op (.v 6) .lenL [.v 5],vP 7 (.c (.int .i64 0))]
def f5S:=Ts [] [bP 11 .lss (.v 7) (.v 6)] (.t 11) .skip (.exit 0)
def g1N:=Rg [] [nP 12 7,oP 13 (.iad 1) [.v 5,.v 7],oP 14 (.ldAn false 1) [.t 13],vP 3 (.t 12),vP 4 (.t 14)]
def g3m:=Rg [] [nP 20 0,nP 21 1,nP 22 4,oP 23 (.call 90) [.t 20,.t 21,.t 22]]
def f5I:=Ts [] [nP 15 2,nP 16 3,oP 17 (.slL 1 false true) [.t 15,.t 16],nP 18 4,oP 19 (.call 27) [.t 17,.t 18]] (.t 19) g3m .skip
def d5o:=Rg [] [bP 24 .add (.v 7) (.c (.int .i64 1)),vP 7 (.t 24)]
def g55:ACode :=
  (Sq f79 (Bk 0 (Lp (Sq f5S (Sq (Bk 1 (Sq g1N f5I)) d5o)))))
def a91:AFn:={ np:=3,nv:=8,results:=[],code:=g55 }
def f9c:=Rg [] [op (.v 2) .mv [.c (.list true [])]]
def f81:=Rg [] [op (.v 3) .mv [.c (.list true [])]]
def f9O:=Rg [] [vP 5 (.v 0),op (.v 6) .lenL [.v 5],vP 7 (.c (.int .i64 0))]
def f5t:=Ts [] [bP 11 .lss (.v 7) (.v 6)] (.t 11) .skip (.exit 0)
def f59:=Rg [4] [oP 12 (.iad 3) [.v 5,.v 7],oP 13 (.ldAn true 3) [.t 12],⟨.bx,.alloc [.str [],.str [],.list true []],[],some 4,none⟩,xP (.stLc 4 3) [.l 4,.ts 13] 4]
def e71:=Rg [] [mP 14 (.vs 3),nP 15 1,lP 16 4 true 3 (.l 4),oP 17 .callV [.t 15,.t 16],oP 18 (.bslice 1 [[.str []]] [0]) [.t 17],oP 19 (.app 1 16) [.ts 14,.t 18],vP 3 (.ts 19)]
def f2Y:=Rg [] [bP 20 .add (.v 7) (.c (.int .i64 1)),vP 7 (.t 20)]
def d6H:=Rg [] [nP 21 3,vP 2 (.ts 21)]
def g7o:ACode :=
  (Sq f9c (Sq f81 (Sq (Sq f9O (Bk 0 (Lp (Sq f5t (Sq (Bk 1 (Sq f59 e71)) f2Y))))) (Sq d6H .ret))))
def a92:AFn:={ np:=2,nv:=8,results:=[.v 2],code:=g7o }
def f98:=Rg [1] [⟨.bx,.boxV,[.v 0],some 1,none⟩,op (.v 2) .mv [.c (.str [])]]
def f63:=Rg [] [fP 3 0 (.l 1),lP 4 1 false 1 (.t 3),vP 2 (.t 4)]
def g6n:ACode :=
  (Sq f98 (Sq f63 .ret))
def a93:AFn:={ np:=1,nv:=3,results:=[.v 2],code:=g6n }
def f6d:=Rg [] [op (.v 3) .mv [.c (.list true [])]]
def g28:=Rg [] [vP 7 (.v 1),op (.v 8) .lenL [.v 7],vP 9 (.c (.int .i64 0))]
def f6Y:=Ts [] [bP 14 .lss (.v 9) (.v 8)] (.t 14) .skip (.exit 0)
def f8N:=Rg [4] [oP 15 (.iad 7) [.v 7,.v 9],oP 16 (.ldAn true 7) [.t 15],⟨.bx,.alloc [.int .u8 0,.str [],.str [],.str [],.list true [],.list true [],.list true []],[],some 4,none⟩,xP (.stLc 4 7) [.l 4,.ts 16] 4]
def f6c:=Rg [5] [nP 18 0,fP 19 2 (.l 4),lP 20 4 false 1 (.t 19),oP 21 (.call 155) [.t 18,.t 20],mP 17 (.t 21),oP 22 (.ext 0) [.t 17],oP 23 (.ext 1) [.t 17],⟨.bx,.alloc [.str [],.str [],.list true []],[],some 5,none⟩,xP (.stLc 5 3) [.l 5,.ts 22] 5,vP 6 (.t 23)]
def d4W:=Rg [] [nP 37 0,fP 38 2 (.l 5),lP 39 5 false 1 (.t 38),mP 40 (.vs 2),fP 41 2 (.l 4),lP 42 4 false 1 (.t 41),oP 43 (.bsliceM 1 [[.str []]] [0]) [.t 42],oP 44 (.appM 1 16) [.ts 40,.t 43],oP 45 (.call 94) [.t 37,.t 39,.t 44],vP 2 (.ts 45)]
def e3d:=Ts [] [fP 24 0 (.l 4),lP 25 4 false 1 (.t 24),bP 26 .eql (.t 25) (.c (.int .u8 2)),mP 27 (.t 26),gP 28 .mv [.v 6] 27 true,oP 29 .pick [.t 27,.t 28,.c (.bool false)],mP 30 (.t 29),gP 31 .mv [.v 2] 30 true,gP 32 (.fad 2) [.l 4] 30 true,⟨.t 33,.ldLc 4 false 1,[.t 32],some 4,some (.t 30,true)⟩,gP 34 (.call 27) [.t 31,.t 33] 30 true,gP 35 (.un .not) [.t 34] 30 true,oP 36 .pick [.t 30,.t 35,.c (.bool false)]] (.t 36) d4W .skip
def e91:=Rg [] [nP 49 0,fP 50 6 (.l 4),lP 51 4 false 1 (.t 50),nP 52 2,oP 53 (.call 94) [.t 49,.t 51,.t 52],vP 2 (.ts 53)]
def e5Q:=Ts [] [fP 46 0 (.l 4),lP 47 4 false 1 (.t 46),bP 48 .neq (.t 47) (.c (.int .u8 2))] (.t 48) e91 .skip
def e3F:=Rg [] [bP 54 .add (.v 9) (.c (.int .i64 1)),vP 9 (.t 54)]
def e0A:=Rg [] [nP 55 2,vP 3 (.ts 55)]
def g4H:ACode :=
  (Sq f6d (Sq (Sq g28 (Bk 0 (Lp (Sq f6Y (Sq (Bk 1 (Sq f8N (Sq (Sq f6c e3d) e5Q))) e3F))))) (Sq e0A .ret)))
def a94:AFn:={ np:=3,nv:=10,results:=[.v 3],code:=g4H }
def f93:=Rg [2] [⟨.bx,.boxV,[.v 1],some 2,none⟩]
def g1i:=Rg [3] [nP 17 0,oP 18 .nilchk [.t 17],fP 19 0 (.t 18),oP 20 (.ldStR false 1) [.t 19,.v 0],lP 21 2 true 4 (.l 2),oP 22 (.callA 156 1) [.t 21,.v 0],oP 23 (.call 30) [.t 20,.t 22],mP 16 (.t 23),oP 24 (.ext 0) [.t 16],oP 25 (.ext 1) [.t 16],⟨.bx,.alloc [.int .u8 0,.str [],.list true [],.list true []],[],some 3,none⟩,xP (.stLc 3 4) [.l 3,.ts 24] 3,vP 4 (.t 25)]
def f7t:=Rg [] [nP 28 0,lP 29 2 true 4 (.l 2),oP 30 (.call 156) [.t 29],oP 31 (.call 90) [.t 28,.c (.int .i64 22),.t 30]]
def g2z:=Ts [] [nP 26 4,oP 27 (.un .not) [.t 26]] (.t 27) f7t .skip
def f2M:=Rg [] [nP 32 0,fP 33 2 (.l 2),lP 34 2 false 1 (.t 33),oP 35 (.call 157) [.t 34,.c (.func 158 [] [])],oP 36 (.call 91) [.t 32,.c (.int .i64 14),.t 35]]
def e6a:=Rg [] [fP 37 2 (.l 2),⟨.v 11,.ldLc 2 false 1,[.t 37],some 2,none⟩,op (.v 12) .lenL [.v 11],vP 13 (.c (.int .i64 0))]
def e2A:=Ts [] [bP 41 .lss (.v 13) (.v 12)] (.t 41) .skip (.exit 0)
def f28:=Rg [5] [oP 42 (.iad 10) [.v 11,.v 13],oP 43 (.ldRo true 10) [.t 42],⟨.bx,.alloc [.str [],.str [],.list true [],.bool false,.bool false,.int .u8 0,.int .i64 0,.str [],.list true [],.list true []],[],some 5,none⟩,xP (.stLc 5 10) [.l 5,.ts 43] 5]
def e0D:=Rg [] [fP 44 1 (.l 5),lP 45 5 true 3 (.t 44),oP 46 (.call 124) [.t 45],vP 6 (.t 46)]
def d54:=Rg [] [nP 63 0,fP 64 0 (.l 5),lP 65 5 false 1 (.t 64),oP 66 (.call 90) [.t 63,.c (.int .i64 15),.t 65]]
def f4G:=Ts [] [nP 47 0,oP 48 .nilchk [.t 47],fP 49 0 (.t 48),oP 50 (.ldSt false 1) [.t 49],nP 51 6,oP 52 (.call 159) [.t 50,.t 51],oP 53 (.un .not) [.t 52],mP 54 (.t 53),gP 55 .mv [.v 0] 54 true,gP 56 .nilchk [.t 55] 54 true,gP 57 (.fad 0) [.t 56] 54 true,gP 58 (.ldSt false 1) [.t 57] 54 true,gP 59 .mv [.v 6] 54 true,gP 60 (.call 127) [.t 58,.t 59] 54 true,gP 61 (.un .not) [.t 60] 54 true,oP 62 .pick [.t 54,.t 61,.c (.bool false)]] (.t 62) d54 .skip
def d9g:=Rg [] [nP 81 0,fP 82 0 (.l 5),lP 83 5 false 1 (.t 82),oP 84 (.call 90) [.t 81,.c (.int .i64 13),.t 83]]
def d4Y:=Ts [] [fP 67 4 (.l 5),lP 68 5 false 1 (.t 67),mP 69 (.t 68),gP 70 .mv [.v 0] 69 true,gP 71 .nilchk [.t 70] 69 true,gP 72 (.fad 0) [.t 71] 69 true,gP 73 (.ldSt false 1) [.t 72] 69 true,gP 74 (.fad 1) [.l 5] 69 true,⟨.t 75,.ldLc 5 true 3,[.t 74],some 5,some (.t 69,true)⟩,gP 76 (.fad 5) [.l 5] 69 true,⟨.t 77,.ldLc 5 true 5,[.t 76],some 5,some (.t 69,true)⟩,gP 78 (.call 128) [.t 73,.t 75,.t 77] 69 true,gP 79 (.un .not) [.t 78] 69 true,oP 80 .pick [.t 69,.t 79,.c (.bool false)]] (.t 80) d9g .skip
def e7Y:=Rg [] [bP 85 .add (.v 13) (.c (.int .i64 1)),vP 13 (.t 85)]
def f4N:=Rg [] [nP 86 0,lP 87 2 true 4 (.l 2),oP 88 (.call 156) [.t 87],fP 89 3 (.l 2),lP 90 2 false 1 (.t 89),oP 91 (.call 97) [.t 86,.t 88,.t 90]]
def e89:=Rg [] [nP 92 0,lP 93 2 true 4 (.l 2),oP 94 (.build [.nilp,.bool false,.str [],.list true [],.list true [],.list true []] [(0,1),(1,4)]) [.t 92,.t 93],oP 95 .boxO [.ts 94],vP 7 (.t 95)]
def d6Z:=Rg [] [nP 96 7,lP 97 2 true 4 (.l 2),oP 98 (.call 156) [.t 97],fP 99 3 (.l 2),lP 100 2 false 1 (.t 99),oP 101 (.call 160) [.t 96,.t 98,.t 100]]
def f0X:=Rg [] [nP 102 0,fP 103 3 (.l 2),lP 104 2 false 1 (.t 103),op (.v 14) (.call 94) [.t 102,.t 104,.c (.nils)],op (.v 15) .lenL [.v 14],vP 16 (.c (.int .i64 0))]
def d7N:=Ts [] [bP 108 .lss (.v 16) (.v 15)] (.t 108) .skip (.exit 2)
def d5C:=Rg [] [oP 109 (.iad 1) [.v 14,.v 16],oP 110 (.ldAn false 1) [.t 109],vP 8 (.t 110)]
def e8R:=Rg [9] [nP 112 0,nP 113 8,oP 114 (.call 155) [.t 112,.t 113],mP 111 (.t 114),oP 115 (.ext 0) [.t 111],oP 116 (.ext 1) [.t 111],⟨.bx,.alloc [.str [],.str [],.list true []],[],some 9,none⟩,xP (.stLc 9 3) [.l 9,.ts 115] 9,mP 13 (.t 116)]
def d8g:=Rg [] [nP 117 7,fP 118 1 (.l 9),lP 119 9 false 1 (.t 118),fP 120 2 (.l 9),lP 121 9 false 1 (.t 120),oP 122 (.call 160) [.t 117,.t 119,.t 121]]
def d8o:=Rg [] [bP 123 .add (.v 16) (.c (.int .i64 1)),vP 16 (.t 123)]
def f0G:=Rg [] [fP 124 2 (.l 2),⟨.v 17,.ldLc 2 false 1,[.t 124],some 2,none⟩,op (.v 18) .lenL [.v 17],vP 19 (.c (.int .i64 0))]
def f0g:=Ts [] [bP 128 .lss (.v 19) (.v 18)] (.t 128) .skip (.exit 4)
def e98:=Rg [10] [oP 129 (.iad 10) [.v 17,.v 19],oP 130 (.ldRo true 10) [.t 129],⟨.bx,.alloc [.str [],.str [],.list true [],.bool false,.bool false,.int .u8 0,.int .i64 0,.str [],.list true [],.list true []],[],some 10,none⟩,xP (.stLc 10 10) [.l 10,.ts 130] 10]
def d40:=Rg [] [nP 139 0,fP 140 0 (.l 10),lP 141 10 false 1 (.t 140),oP 142 (.call 90) [.t 139,.c (.int .i64 17),.t 141]]
def e3j:=Ts [] [nP 131 7,oP 132 .nilchk [.t 131],fP 133 5 (.t 132),oP 134 (.ldSt false 1) [.t 133],fP 135 0 (.l 10),lP 136 10 false 1 (.t 135),oP 137 (.call 27) [.t 134,.t 136],oP 138 (.un .not) [.t 137]] (.t 138) d40 .skip
def d6k:=Rg [] [bP 143 .add (.v 19) (.c (.int .i64 1)),vP 19 (.t 143)]
def g6J:ACode :=
  (Sq f93 (Sq (Sq g1i g2z) (Sq f2M (Sq (Sq e6a (Bk 0 (Lp (Sq e2A (Sq (Bk 1 (Sq f28 (Sq e0D (Sq f4G d4Y)))) e7Y))))) (Sq f4N (Sq e89 (Sq d6Z (Sq (Sq f0X (Bk 2 (Lp (Sq d7N (Sq (Bk 3 (Sq d5C (Sq e8R d8g))) d8o))))) (Sq f0G (Bk 4 (Lp (Sq f0g (Sq (Bk 5 (Sq e98 e3j)) d6k)))))))))))))
def a95:AFn:={ np:=2,nv:=20,results:=[],code:=g6J }
def g1h:=Rg [] [vP 2 (.c (.bool false))]
def f8q:=Rg [3] [nP 8 0,oP 9 .nilchk [.t 8],fP 10 0 (.t 9),oP 11 (.ldSt false 1) [.t 10],nP 12 1,oP 13 (.call 30) [.t 11,.t 12],mP 7 (.t 13),oP 14 (.ext 0) [.t 7],oP 15 (.ext 1) [.t 7],⟨.bx,.alloc [.int .u8 0,.str [],.list true [],.list true []],[],some 3,none⟩,xP (.stLc 3 4) [.l 3,.ts 14] 3,vP 4 (.t 15)]
def g1F:=Rg [] [nP 16 4,mP 17 (.t 16),gP 18 (.fad 0) [.l 3] 17 true,⟨.t 19,.ldLc 3 false 1,[.t 18],some 3,some (.t 17,true)⟩,gP 20 (.bin .leq) [.t 19,.c (.int .u8 3)] 17 true,oP 21 .pick [.t 17,.t 20,.c (.bool false)],vP 2 (.t 21)]
def g9s:ACode :=
  (Sq g1h (Sq f8q (Sq g1F .ret)))
def a96:AFn:={ np:=2,nv:=5,results:=[.v 2],code:=g9s }
def g3n:=Rg [] [nP 11 0,nP 12 2,oP 13 (.call 161) [.t 11,.t 12]]
def f67:=Rg [] [vP 7 (.v 2),op (.v 8) .lenL [.v 7],vP 9 (.c (.int .i64 0))]
def g14:=Ts [] [bP 17 .lss (.v 9) (.v 8)] (.t 17) .skip (.exit 0)
def g1K:=Rg [3] [oP 18 (.iad 7) [.v 7,.v 9],oP 19 (.ldAn true 7) [.t 18],⟨.bx,.alloc [.int .u8 0,.str [],.str [],.str [],.list true [],.list true [],.list true []],[],some 3,none⟩,xP (.stLc 3 7) [.l 3,.ts 19] 3]
def f8l:=Rg [] [nP 20 0,fP 21 5 (.l 3),lP 22 3 false 1 (.t 21),oP 23 (.call 162) [.t 20,.t 22]]
def f3H:=Rg [] [fP 24 0 (.l 3),⟨.v 10,.ldLc 3 false 1,[.t 24],some 3,none⟩]
def d7U:=Rg [] [nP 54 0,nP 55 1,lP 56 3 true 7 (.l 3),oP 57 (.call 163) [.t 54,.t 55,.t 56]]
def f1m:=Rg [4] [nP 61 0,fP 62 2 (.l 3),lP 63 3 false 1 (.t 62),oP 64 (.call 155) [.t 61,.t 63],mP 60 (.t 64),oP 65 (.ext 0) [.t 60],oP 66 (.ext 1) [.t 60],⟨.bx,.alloc [.str [],.str [],.list true []],[],some 4,none⟩,xP (.stLc 4 3) [.l 4,.ts 65] 4,vP 5 (.t 66)]
def e3G:=Rg [] [nP 69 0,fP 70 2 (.l 3),lP 71 3 false 1 (.t 70),oP 72 (.call 90) [.t 69,.c (.int .i64 5),.t 71]]
def e1e:=Rg [] [nP 79 0,fP 80 1 (.l 4),lP 81 4 false 1 (.t 80),oP 82 (.call 90) [.t 79,.c (.int .i64 20),.t 81]]
def d4t:=Ts [] [nP 73 0,nP 74 1,fP 75 1 (.l 4),lP 76 4 false 1 (.t 75),oP 77 (.call 164) [.t 73,.t 74,.t 76],oP 78 (.un .not) [.t 77]] (.t 78) e1e .skip
def e3c:=Ts [] [nP 67 5,oP 68 (.un .not) [.t 67]] (.t 68) e3G d4t
def e0k:=Rg [] [nP 26 1,vP 6 (.t 26)]
def e05:=Rg [] [fP 30 3 (.l 3),lP 31 3 false 1 (.t 30),vP 6 (.t 31)]
def f1P:=Rg [] [nP 36 0,nP 37 6,oP 38 (.call 90) [.t 36,.c (.int .i64 4),.t 37]]
def d4x:=Rg [] [nP 44 0,nP 45 6,oP 46 (.call 90) [.t 44,.c (.int .i64 20),.t 45]]
def e84:=Ts [] [nP 39 0,nP 40 1,nP 41 6,oP 42 (.call 164) [.t 39,.t 40,.t 41],oP 43 (.un .not) [.t 42]] (.t 43) d4x .skip
def f2u:=Ts [] [nP 32 0,nP 33 6,oP 34 (.call 96) [.t 32,.t 33],oP 35 (.un .not) [.t 34]] (.t 35) f1P e84
def e04:=Ts [] [fP 27 3 (.l 3),lP 28 3 false 1 (.t 27),oP 29 (.bin .neq) [.t 28,.c (.str [])]] (.t 29) (Sq e05 f2u) .skip
def e5a:=Rg [] [nP 47 0,nP 48 6,fP 49 6 (.l 3),lP 50 3 false 1 (.t 49),oP 51 (.call 97) [.t 47,.t 48,.t 50]]
def f4d:=Ts [] [bP 59 .eql (.v 10) (.c (.int .u8 2)),mP 58 (.t 59)] (.t 58) (Sq f1m e3c) (Sq e0k (Sq e04 e5a))
def f4f:=Ts [] [bP 53 .eql (.v 10) (.c (.int .u8 1)),mP 52 (.t 53)] (.t 52) d7U f4d
def e02:=Rg [] [bP 83 .add (.v 9) (.c (.int .i64 1)),vP 9 (.t 83)]
def g8h:ACode :=
  (Sq g3n (Sq f67 (Bk 0 (Lp (Sq g14 (Sq (Bk 1 (Sq g1K (Sq f8l (Sq f3H (Bk 2 f4f))))) e02))))))
def a97:AFn:={ np:=3,nv:=11,results:=[],code:=g8h }
def g1U:=Rg [] [nP 5 0,oP 6 .lenL [.t 5],vP 2 (.t 6)]
def f6o:=Rg [] [nP 7 0,nP 8 2,nP 9 2,oP 10 (.conv .u64) [.t 9],oP 11 (.call 166) [.t 10],nP 12 1,oP 13 (.call 165) [.t 7,.c (.int .i64 0),.t 8,.t 11,.t 12]]
def g7g:ACode :=
  (Sq g1U f6o)
def a98:AFn:={ np:=2,nv:=3,results:=[],code:=g7g }
def f7H:=Rg [2,3] [⟨.bx,.boxV,[.v 0],some 2,none⟩,⟨.bx,.boxV,[.v 1],some 3,none⟩,vP 4 (.c (.int .i64 0))]
def f7c:=Rg [] [fP 5 0 (.l 2),lP 6 2 false 1 (.t 5),fP 7 0 (.l 3),lP 8 3 false 1 (.t 7),oP 9 (.call 101) [.t 6,.t 8],fP 10 1 (.l 2),lP 11 2 false 1 (.t 10),fP 12 1 (.l 3),lP 13 3 false 1 (.t 12),oP 14 (.call 102) [.t 11,.t 13],oP 15 (.bslice 1 [[.int .i64 0],[.int .i64 0]] [0,1]) [.t 9,.t 14],oP 16 (.call 100) [.t 15],vP 4 (.t 16)]
def g5Y:ACode :=
  (Sq f7H (Sq f7c .ret))
def a99:AFn:={ np:=2,nv:=5,results:=[.v 4],code:=g5Y }
def e1b:=Rg [] [vP 1 (.c (.int .i64 0))]
def e6n:=Rg [] [vP 2 (.c (.int .i64 0))]
def d7C:=Rg [] [vP 4 (.v 0),op (.v 5) .lenL [.v 4],vP 6 (.c (.int .i64 0))]
def d7e:=Ts [] [bP 9 .lss (.v 6) (.v 5)] (.t 9) .skip (.exit 0)
def e1O:=Rg [] [oP 10 (.iad 1) [.v 4,.v 6],oP 11 (.ldRo false 1) [.t 10],vP 3 (.t 11)]
def c8V:=Rg [] [nP 15 3,vP 1 (.t 15)]
def d0n:=Ts [] [nP 12 3,nP 13 2,bP 14 .neq (.t 12) (.t 13)] (.t 14) (Sq c8V .ret) .skip
def d2B:=Rg [] [bP 16 .add (.v 6) (.c (.int .i64 1)),vP 6 (.t 16)]
def d1i:=Rg [] [nP 17 2,vP 1 (.t 17)]
def f7m:ACode :=
  (Sq e1b (Sq e6n (Sq (Sq d7C (Bk 0 (Lp (Sq d7e (Sq (Bk 1 (Sq e1O d0n)) d2B))))) (Sq d1i .ret))))
def g6S:AFn:={ np:=1,nv:=7,results:=[.v 1],code:=f7m }
def f2Q:=Rg [] [vP 2 (.c (.int .i64 0))]
def f0x:=Rg [] [nP 7 0,oP 8 (.call 167) [.t 7],vP 3 (.t 8)]
def e8J:=Rg [] [nP 9 1,oP 10 (.call 167) [.t 9],vP 4 (.t 10)]
def f2R:=Rg [] [vP 2 (.c (.int .i64 0))]
def c8n:=Ts [] [nP 12 4] (.t 12) (Sq f2R .ret) .skip
def c2t:=Rg [] [vP 2 (.c (.int .i64 (-1)))]
def c6p:=Ts [] [nP 11 3] (.t 11) (Sq c8n (Sq c2t .ret)) .skip
def c7C:=Rg [] [vP 2 (.c (.int .i64 1))]
def c01:=Ts [] [nP 13 4] (.t 13) (Sq c7C .ret) .skip
def d24:=Rg [] [vP 2 (.c (.int .i64 (-1)))]
def c5l:=Ts [] [nP 14 0,nP 15 1,bP 16 .lss (.t 14) (.t 15)] (.t 16) (Sq d24 .ret) .skip
def c4G:=Rg [] [vP 2 (.c (.int .i64 1))]
def c0Y:=Ts [] [nP 17 0,nP 18 1,bP 19 .gtr (.t 17) (.t 18)] (.t 19) (Sq c4G .ret) .skip
def c3Z:=Rg [] [vP 2 (.c (.int .i64 0))]
def g1k:ACode :=
  (Sq f2Q (Sq f0x (Sq e8J (Sq c6p (Sq c01 (Sq c5l (Sq c0Y (Sq c3Z .ret))))))))
def g7H:AFn:={ np:=2,nv:=5,results:=[.v 2],code:=g1k }
def d9E:=Rg [] [vP 2 (.c (.int .i64 0))]
def e2z:=Rg [] [nP 7 0,oP 8 (.call 168) [.t 7],vP 3 (.t 8)]
def e0b:=Rg [] [nP 9 1,oP 10 (.call 168) [.t 9],vP 4 (.t 10)]
def e4h:=Rg [] [vP 2 (.c (.int .i64 0))]
def c6Z:=Ts [] [nP 12 4] (.t 12) (Sq e4h .ret) .skip
def c2L:=Rg [] [vP 2 (.c (.int .i64 (-1)))]
def c7H:=Ts [] [nP 11 3] (.t 11) (Sq c6Z (Sq c2L .ret)) .skip
def c3t:=Rg [] [vP 2 (.c (.int .i64 1))]
def c78:=Ts [] [nP 13 4] (.t 13) (Sq c3t .ret) .skip
def c98:=Rg [] [vP 2 (.c (.int .i64 (-1)))]
def d0P:=Ts [] [nP 14 0,nP 15 1,bP 16 .lss (.t 14) (.t 15)] (.t 16) (Sq c98 .ret) .skip
def c0I:=Rg [] [vP 2 (.c (.int .i64 1))]
def c6c:=Ts [] [nP 17 0,nP 18 1,bP 19 .gtr (.t 17) (.t 18)] (.t 19) (Sq c0I .ret) .skip
def c95:=Rg [] [vP 2 (.c (.int .i64 0))]
def g1Z:ACode :=
  (Sq d9E (Sq e2z (Sq e0b (Sq c7H (Sq c78 (Sq d0P (Sq c6c (Sq c95 .ret))))))))
def g4N:AFn:={ np:=2,nv:=5,results:=[.v 2],code:=g1Z }
def d8M:=Rg [] [op (.v 1) .mv [.c (.list true [])]]
def e4g:=Rg [] [nP 9 0,vP 1 (.ts 9)]
def f1X:=Ts [] [nP 6 0,oP 7 .lenL [.t 6],bP 8 .lss (.t 7) (.c (.int .i64 2))] (.t 8) (Sq e4g .ret) .skip
def d5J:=Rg [] [vP 2 (.c (.int .i64 1))]
def d2H:=Ts [] [nP 10 2,nP 11 0,oP 12 .lenL [.t 11],bP 13 .lss (.t 10) (.t 12)] (.t 13) .skip (.exit 0)
def c5r:=Rg [] [nP 26 0,nP 27 2,oP 28 (.slL 2 true false) [.t 26,.t 27],vP 3 (.ts 28)]
def d1T:=Rg [] [vP 4 (.c (.int .i64 1))]
def d2C:=Ts [] [nP 29 4,nP 30 3,oP 31 .lenL [.t 30],bP 32 .lss (.t 29) (.t 31)] (.t 32) .skip (.exit 2)
def c3O:=Rg [] [nP 45 0,nP 46 2,nP 47 3,nP 48 4,oP 49 (.iad 2) [.t 47,.t 48],oP 50 (.ldAn true 2) [.t 49],oP 51 (.iad 2) [.t 45,.t 46],op .none (.stSt 2) [.t 51,.t 50]]
def c3F:=Rg [] [nP 52 2,bP 53 .add (.t 52) (.c (.int .i64 1)),vP 2 (.t 53)]
def c2B:=Ts [] [nP 35 3,nP 36 4,oP 37 (.iad 2) [.t 35,.t 36],oP 38 (.ldAn true 2) [.t 37],nP 39 3,nP 40 4,bP 41 .sub (.t 40) (.c (.int .i64 1)),oP 42 (.iad 2) [.t 39,.t 41],oP 43 (.ldAn true 2) [.t 42],oP 44 (.eqIS true) [.t 38,.t 43]] (.t 44) (Sq c3O c3F) .skip
def d0J:=Rg [] [nP 33 4,bP 34 .add (.t 33) (.c (.int .i64 1)),vP 4 (.t 34)]
def c6U:=Rg [] [nP 54 0,nP 55 2,oP 56 (.slL 2 true false) [.t 54,.t 55],op .none .stuck []]
def c7r:=Rg [] [nP 57 0,nP 58 2,oP 59 (.slL 2 false true) [.t 57,.t 58],vP 1 (.ts 59)]
def d32:=Ts [] [nP 16 0,nP 17 2,oP 18 (.iad 2) [.t 16,.t 17],oP 19 (.ldAn true 2) [.t 18],nP 20 0,nP 21 2,bP 22 .sub (.t 21) (.c (.int .i64 1)),oP 23 (.iad 2) [.t 20,.t 22],oP 24 (.ldAn true 2) [.t 23],oP 25 (.eqIS false) [.t 19,.t 24]] (.t 25) (Sq c5r (Sq (Sq d1T (Bk 2 (Lp (Sq d2C (Sq (Bk 3 c2B) d0J))))) (Sq c6U (Sq c7r .ret)))) .skip
def c3I:=Rg [] [nP 14 2,bP 15 .add (.t 14) (.c (.int .i64 1)),vP 2 (.t 15)]
def c6f:=Rg [] [nP 60 0,vP 1 (.ts 60)]
def g1b:ACode :=
  (Sq d8M (Sq f1X (Sq (Sq d5J (Bk 0 (Lp (Sq d2H (Sq (Bk 1 d32) c3I))))) (Sq c6f .ret))))
def g5j:AFn:={ np:=1,nv:=5,results:=[.v 1],code:=g1b }
def d5s:=Rg [] [vP 2 (.c (.int .i64 0))]
def e6A:=Rg [] [nP 6 0,op (.v 4) .lenL [.t 6],vP 5 (.c (.int .i64 0))]
def f20:=Ts [] [bP 9 .lss (.v 5) (.v 4)] (.t 9) .skip (.exit 0)
def e4E:=Rg [] [nP 10 5,vP 3 (.t 10)]
def d0L:=Rg [] [nP 17 3,vP 2 (.t 17)]
def d1l:=Ts [] [nP 11 1,nP 12 0,nP 13 3,oP 14 (.iad 4) [.t 12,.t 13],oP 15 (.ldAn true 4) [.t 14],oP 16 .callV [.t 11,.t 15]] (.t 16) (Sq d0L .ret) .skip
def d0W:=Rg [] [bP 18 .add (.v 5) (.c (.int .i64 1)),vP 5 (.t 18)]
def d3l:=Rg [] [vP 2 (.c (.int .i64 (-1)))]
def f8t:ACode :=
  (Sq d5s (Sq (Sq e6A (Bk 0 (Lp (Sq f20 (Sq (Bk 1 (Sq e4E d1l)) d0W))))) (Sq d3l .ret)))
def g8a:AFn:={ np:=2,nv:=6,results:=[.v 2],code:=f8t }
def d82:=Rg [2] [⟨.bx,.boxV,[.v 0],some 2,none⟩,vP 3 (.c (.bool false))]
def e5B:=Rg [] [fP 4 1 (.l 2),lP 5 2 false 1 (.t 4),oP 6 (.ldSt false 1) [.v 1],bP 7 .eql (.t 5) (.t 6),vP 3 (.t 7)]
def f44:ACode :=
  (Sq d82 (Sq e5B .ret))
def g3T:AFn:={ np:=2,nv:=4,results:=[.v 3],code:=f44 }
def d5i:=Rg [2,3] [⟨.bx,.boxV,[.v 0],some 2,none⟩,⟨.bx,.alloc [.int .u8 0,.int .i64 0,.str [],.list true [],.list true []],[],some 3,none⟩,vP 4 (.c (.bool false))]
def d5R:=Rg [] [fP 7 3 (.l 2),lP 8 2 false 1 (.t 7),nP 9 1,oP 10 (.call 57) [.t 8,.t 9],vP 5 (.t 10)]
def e0T:=Rg [] [oP 18 (.build [.int .u8 0,.int .i64 0,.str [],.list true [],.list true []] []) [],xP (.stLc 3 5) [.l 3,.ts 18] 3,vP 4 (.c (.bool false))]
def f1l:=Ts [] [nP 11 5,bP 12 .lss (.t 11) (.c (.int .i64 0)),mP 13 (.t 12),gP 14 (.fad 0) [.l 2] 13 false,⟨.t 15,.ldLc 2 false 1,[.t 14],some 2,some (.t 13,false)⟩,gP 16 (.bin .neq) [.t 15,.c (.int .u8 6)] 13 false,oP 17 .pick [.t 13,.c (.bool true),.t 16]] (.t 17) (Sq e0T .ret) .skip
def d0Z:=Rg [] [fP 19 4 (.l 2),lP 20 2 false 1 (.t 19),nP 21 5,oP 22 (.iad 5) [.t 20,.t 21],oP 23 (.ldAn true 5) [.t 22],xP (.stLc 3 5) [.l 3,.ts 23] 3,vP 4 (.c (.bool true))]
def g02:ACode :=
  (Sq d5i (Sq d5R (Sq f1l (Sq d0Z .ret))))
def g59:AFn:={ np:=2,nv:=6,results:=[.bx 3 true 5,.v 4],code:=g02 }
def a107s1:=Rg [3,4,5] [⟨.bx,.boxV,[.v 1],some 3,none⟩,⟨.bx,.boxV,[.v 2],some 4,none⟩,⟨.bx,.alloc [.int .u8 0,.int .i64 0,.str [],.list true [],.list true []],[],some 5,none⟩,vP 6 (.c (.int .i64 0))]
def a107s3:=Rg [7] [nP 12 0,oP 13 (.build [.int .u8 0,.int .i64 0,.str [],.list true [],.list true []] []) [],oP 14 (.build [.nilp,.int .u8 0,.int .i64 0,.str [],.list true [],.list true [],.bool false] [(0,1),(1,5),(6,1)]) [.t 12,.t 13,.c (.bool true)],⟨.bx,.alloc [.nilp,.int .u8 0,.int .i64 0,.str [],.list true [],.list true [],.bool false],[],some 7,none⟩,xP (.stLc 7 7) [.l 7,.ts 14] 7]
def a107s5:=Rg [8] [lP 16 7 true 7 (.l 7),lP 17 3 true 3 (.l 3),lP 18 4 true 5 (.l 4),oP 19 (.call 169) [.t 16,.t 17,.t 18],mP 15 (.t 19),oP 20 (.ext 0) [.t 15],oP 21 (.ext 1) [.t 15],oP 22 (.ext 2) [.t 15],⟨.bx,.alloc [.int .u8 0,.int .i64 0,.str [],.list true [],.list true []],[],some 8,none⟩,xP (.stLc 8 5) [.l 8,.ts 20] 8,mP 10 (.t 21),vP 9 (.t 22)]
def a107s7:=Rg [] [lP 23 8 true 5 (.l 8),nP 24 9,xP (.stLc 5 5) [.l 5,.ts 23] 5,vP 6 (.t 24)]
def a107c:ACode :=
  (Sq a107s1 (Sq a107s3 (Sq a107s5 (Sq a107s7 .ret))))
def a107:AFn:={ np:=3,nv:=10,results:=[.bx 5 true 5,.v 6],code:=a107c }
def e2i:=Rg [4,5,6,7] [⟨.bx,.boxV,[.v 1],some 4,none⟩,⟨.bx,.boxV,[.v 2],some 5,none⟩,⟨.bx,.boxV,[.v 3],some 6,none⟩,⟨.bx,.alloc [.int .u8 0,.int .i64 0,.str [],.list true [],.list true []],[],some 7,none⟩,vP 8 (.c (.bool false)),vP 9 (.c (.int .i64 0))]
def e0z:=Rg [10] [nP 12 0,lP 13 6 true 5 (.l 6),oP 14 (.build [.nilp,.int .u8 0,.int .i64 0,.str [],.list true [],.list true [],.bool false] [(0,1),(1,5),(6,1)]) [.t 12,.t 13,.c (.bool false)],⟨.bx,.alloc [.nilp,.int .u8 0,.int .i64 0,.str [],.list true [],.list true [],.bool false],[],some 10,none⟩,xP (.stLc 10 7) [.l 10,.ts 14] 10]
def e1C:=Rg [] [lP 15 10 true 7 (.l 10),lP 16 4 true 3 (.l 4),lP 17 5 true 5 (.l 5),oP 18 (.call 169) [.t 15,.t 16,.t 17],oP 19 (.ext 0) [.t 18],oP 20 (.ext 1) [.t 18],oP 21 (.ext 2) [.t 18],xP (.stLc 7 5) [.l 7,.ts 19] 7,vP 8 (.t 20),vP 9 (.t 21)]
def f5e:ACode :=
  (Sq e2i (Sq e0z (Sq e1C .ret)))
def g7i:AFn:={ np:=4,nv:=11,results:=[.bx 7 true 5,.v 8,.v 9],code:=f5e }
def d64:=Rg [3] [⟨.bx,.boxV,[.v 2],some 3,none⟩]
def e4m:=Rg [] [nP 6 0,nP 7 0,nP 8 0,oP 9 .nilchk [.t 8],fP 10 3 (.t 9),oP 11 (.ldStSR 3) [.t 10,.v 0],nP 12 1,oP 13 (.bslice 1 [[.str []]] [0]) [.t 12],oP 14 (.app 1 16) [.ts 11,.t 13],nP 15 0,oP 16 .nilchk [.t 15],fP 17 4 (.t 16),oP 18 (.ldStSR 4) [.t 17,.v 0],lP 19 3 true 5 (.l 3),oP 20 (.bslice 5 [[.int .u8 0,.int .i64 0,.str [],.list true [],.list true []]] [0]) [.t 19],oP 21 (.app 5 80) [.ts 18,.t 20],oP 22 .nilchk [.t 6],fP 23 3 (.t 22),op .none (.stSt 1) [.t 23,.ts 14],oP 24 .nilchk [.t 7],fP 25 4 (.t 24),op .none (.stSt 1) [.t 25,.ts 21]]
def f8Y:ACode :=
  (Sq d64 e4m)
def g7U:AFn:={ np:=3,nv:=4,results:=[],code:=f8Y }
def a110s1:=Rg [] [vP 4 (.v 1),op (.v 5) .lenL [.v 4],vP 6 (.c (.int .i64 0))]
def a110s3:=Ts [] [bP 10 .lss (.v 6) (.v 5)] (.t 10) .skip (.exit 0)
def a110s5:=Rg [] [oP 11 (.iad 7) [.v 4,.v 6],oP 12 (.ldAn true 7) [.t 11],op (.v 2) (.allocO [.int .u8 0,.str [],.str [],.str [],.list true [],.list true [],.list true []]) [],op .none (.stSt 7) [.v 2,.ts 12]]
def a110s7:=Ts [] [nP 13 0,oP 14 (.ldSt true 7) [.v 2],oP 15 (.call 170) [.t 13,.t 14],oP 16 (.un .not) [.t 15]] (.t 16) (.exit 1) .skip
def a110s9:=Rg [] [fP 17 0 (.v 2),op (.v 7) (.ldSt false 1) [.t 17]]
def a110s12:=Rg [] [nP 34 0,oP 35 (.ldSt true 7) [.v 2],oP 36 (.call 171) [.t 34,.t 35]]
def a110s15:=Rg [] [nP 39 0,oP 40 .nilchk [.t 39],fP 41 1 (.t 40),fP 42 1 (.t 41),oP 43 (.ldSt false 1) [.t 42],oP 44 (.mkF 173 0) [.v 2],oP 45 (.call 172) [.t 43,.t 44],vP 3 (.t 45)]
def a110s17:=Ts [] [nP 46 3,bP 47 .lss (.t 46) (.c (.int .i64 0)),mP 48 (.t 47),gP 49 .mv [.v 0] 48 false,gP 50 .nilchk [.t 49] 48 false,gP 51 (.fad 9) [.t 50] 48 false,gP 52 (.ldSt false 1) [.t 51] 48 false,gP 53 (.fad 2) [.v 2] 48 false,gP 54 (.ldSt false 1) [.t 53] 48 false,gP 55 (.call 27) [.t 52,.t 54] 48 false,oP 56 .pick [.t 48,.c (.bool true),.t 55]] (.t 56) (.exit 1) .skip
def a110s19:=Rg [] [nP 57 0,nP 58 0,oP 59 .nilchk [.t 58],fP 60 9 (.t 59),oP 61 .ldStS [.t 60],fP 62 2 (.v 2),oP 63 (.ldSt false 1) [.t 62],oP 64 (.bslice 1 [[.str []]] [0]) [.t 63],oP 65 (.app 1 16) [.ts 61,.t 64],oP 66 .nilchk [.t 57],fP 67 9 (.t 66),op .none (.stSt 1) [.t 67,.ts 65]]
def a110s22:=Rg [] [nP 79 0,nP 80 0,oP 81 .nilchk [.t 80],fP 82 1 (.t 81),fP 83 1 (.t 82),oP 84 (.ldSt false 1) [.t 83],nP 85 3,oP 86 (.iad 3) [.t 84,.t 85],fP 87 2 (.t 86),oP 88 (.ldAn false 1) [.t 87],oP 89 (.call 110) [.t 79,.t 88]]
def a110s23:=Ts [] [nP 68 0,nP 69 0,oP 70 .nilchk [.t 69],fP 71 1 (.t 70),fP 72 1 (.t 71),oP 73 (.ldSt false 1) [.t 72],nP 74 3,oP 75 (.iad 3) [.t 73,.t 74],fP 76 1 (.t 75),oP 77 (.ldAn false 1) [.t 76],oP 78 (.call 174) [.t 68,.t 77]] (.t 78) a110s22 .skip
def a110s29:=Rg [] [nP 28 0,fP 29 6 (.v 2),oP 30 (.ldSt false 1) [.t 29],oP 31 (.call 110) [.t 28,.t 30]]
def a110s30:=Ts [] [fP 19 3 (.v 2),oP 20 (.ldSt false 1) [.t 19],oP 21 (.bin .eql) [.t 20,.c (.str [])],mP 22 (.t 21),gP 23 .mv [.v 0] 22 false,gP 24 (.fad 3) [.v 2] 22 false,gP 25 (.ldSt false 1) [.t 24] 22 false,gP 26 (.call 174) [.t 23,.t 25] 22 false,oP 27 .pick [.t 22,.c (.bool true),.t 26]] (.t 27) a110s29 .skip
def a110s31:=Ts [] [bP 38 .eql (.v 7) (.c (.int .u8 2)),mP 37 (.t 38)] (.t 37) (Sq a110s15 (Sq a110s17 (Sq a110s19 a110s23))) a110s30
def a110s32:=Ts [] [bP 33 .eql (.v 7) (.c (.int .u8 1)),mP 32 (.t 33)] (.t 32) a110s12 a110s31
def a110s39:=Rg [] [bP 90 .add (.v 6) (.c (.int .i64 1)),vP 6 (.t 90)]
def a110c:ACode :=
  (Sq a110s1 (Bk 0 (Lp (Sq a110s3 (Sq (Bk 1 (Sq a110s5 (Sq a110s7 (Sq a110s9 (Bk 2 a110s32))))) a110s39)))))
def a110:AFn:={ np:=2,nv:=8,results:=[],code:=a110c }
def d8y:=Rg [] [vP 2 (.c (.bool false))]
def f3e:=Rg [] [nP 5 1,oP 6 (.call 62) [.t 5],oP 7 (.un .not) [.t 6],mP 8 (.t 7),gP 9 .mv [.v 0] 8 true,gP 10 .mv [.v 1] 8 true,gP 11 (.call 175) [.t 9,.t 10,.c (.int .u8 1)] 8 true,gP 12 .mv [.t 11] 8 true,gP 13 .mv [.v 0] 12 false,gP 14 .mv [.v 1] 12 false,gP 15 (.call 175) [.t 13,.t 14,.c (.int .u8 2)] 12 false,gP 16 .pick [.t 12,.c (.bool true),.t 15] 8 true,gP 17 .mv [.t 16] 8 true,gP 18 .mv [.v 0] 17 false,gP 19 .mv [.v 1] 17 false,gP 20 (.call 175) [.t 18,.t 19,.c (.int .u8 3)] 17 false,gP 21 .pick [.t 17,.c (.bool true),.t 20] 8 true,oP 22 .pick [.t 8,.t 21,.c (.bool false)],vP 2 (.t 22)]
def f9Y:ACode :=
  (Sq d8y (Sq f3e .ret))
def g4o:AFn:={ np:=2,nv:=3,results:=[.v 2],code:=f9Y }
def d5a:=Rg [4,5,6] [⟨.bx,.boxV,[.v 1],some 4,none⟩,⟨.bx,.boxV,[.v 3],some 5,none⟩,⟨.bx,.alloc [.int .u8 0,.int .i64 0,.str [],.list true [],.list true []],[],some 6,none⟩,op (.v 7) .mv [.c (.str [])],vP 8 (.c (.int .i64 0))]
def e4C:=Rg [] [oP 14 (.build [.int .u8 0,.int .i64 0,.str [],.list true [],.list true []] [(0,1)]) [.c (.int .u8 6)],op (.v 9) (.allocO [.int .u8 0,.int .i64 0,.str [],.list true [],.list true []]) [],op .none (.stSt 5) [.v 9,.ts 14]]
def e0p:=Rg [] [vP 11 (.v 2),op (.v 12) .lenL [.v 11],vP 13 (.c (.int .i64 0))]
def f2f:=Ts [] [bP 18 .lss (.v 13) (.v 12)] (.t 18) .skip (.exit 0)
def e3J:=Rg [10] [oP 19 (.iad 6) [.v 11,.v 13],oP 20 (.ldRo true 6) [.t 19],⟨.bx,.alloc [.str [],.int .u8 0,.int .i64 0,.str [],.list true [],.list true []],[],some 10,none⟩,xP (.stLc 10 6) [.l 10,.ts 20] 10]
def d1v:=Rg [] [fP 21 0 (.l 10),lP 22 10 false 1 (.t 21),fP 23 1 (.l 10),lP 24 10 true 5 (.t 23),oP 25 (.call 109) [.v 9,.t 22,.t 24]]
def c4M:=Rg [] [bP 26 .add (.v 13) (.c (.int .i64 1)),vP 13 (.t 26)]
def c04:=Rg [] [nP 27 0,lP 28 5 true 5 (.l 5),oP 29 (.build [.nilp,.int .u8 0,.int .i64 0,.str [],.list true [],.list true [],.bool false] [(0,1),(1,5),(6,1)]) [.t 27,.t 28,.c (.bool false)],fP 30 1 (.l 4),lP 31 4 false 1 (.t 30),oP 32 (.ldSt true 5) [.v 9],oP 33 (.call 176) [.t 29,.t 31,.t 32],oP 34 (.ext 0) [.t 33],oP 35 (.ext 1) [.t 33],oP 36 (.ext 2) [.t 33],xP (.stLc 6 5) [.l 6,.ts 34] 6,vP 7 (.t 35),vP 8 (.t 36)]
def g1Q:ACode :=
  (Sq d5a (Sq e4C (Sq (Sq e0p (Bk 0 (Lp (Sq f2f (Sq (Bk 1 (Sq e3J d1v)) c4M))))) (Sq c04 .ret))))
def g4K:AFn:={ np:=4,nv:=14,results:=[.bx 6 true 5,.v 7,.v 8],code:=g1Q }
def a113s1:=Rg [4,5] [⟨.bx,.boxV,[.v 1],some 4,none⟩,⟨.bx,.boxV,[.v 3],some 5,none⟩,vP 6 (.c (.int .i64 0))]
def a113s3:=Rg [] [fP 21 0 (.l 4),lP 22 4 false 1 (.t 21),oP 23 (.call 115) [.t 22],mP 20 (.t 23),oP 24 (.ext 0) [.t 20],oP 25 (.ext 1) [.t 20],vP 7 (.t 24),vP 8 (.t 25)]
def a113s5:=Rg [9] [nP 27 0,oP 28 .nilchk [.t 27],fP 29 3 (.t 28),oP 30 (.ldSt true 1) [.t 29],nP 31 2,oP 32 (.call 177) [.t 30,.t 31],mP 26 (.t 32),oP 33 (.ext 0) [.t 26],oP 34 (.ext 1) [.t 26],⟨.bx,.alloc [.str [],.str [],.list true [],.list true []],[],some 9,none⟩,xP (.stLc 9 4) [.l 9,.ts 33] 9,vP 10 (.t 34)]
def a113s8:=Rg [] [vP 6 (.c (.int .i64 7))]
def a113r10:List AOper:=[
 nP 42 7,
 oP 43 (.bin .eql) [.t 42,.c (.str [99,114,101,97,116,101])],
 mP 44 (.t 43),
 gP 45 .mv [.v 0] 44 true,
 gP 46 .nilchk [.t 45] 44 true,
 gP 47 (.fad 3) [.t 46] 44 true,
 gP 48 (.ldSt true 1) [.t 47] 44 true,
 gP 49 (.call 10) [.t 48] 44 true,
 gP 50 (.bin .geq) [.t 49,.c (.int .i64 200)] 44 true,
 oP 51 .pick [.t 44,.t 50,.c (.bool false)],
 mP 41 (.t 51)]
def a113s12:=Rg [] [vP 6 (.c (.int .i64 13))]
def a113s16:=Rg [] [nP 55 8,nP 56 2,oP 57 (.build [.str [],.str [],.list true [],.list true []] [(0,1),(1,1)]) [.t 55,.t 56],xP (.stLc 9 4) [.l 9,.ts 57] 9]
def a113s19:=Rg [] [vP 6 (.c (.int .i64 6))]
def a113s21:=Ts [] [nP 59 10,oP 60 (.un .not) [.t 59],mP 61 (.t 60),gP 62 (.fad 0) [.l 9] 61 false,⟨.t 63,.ldLc 9 false 1,[.t 62],some 9,some (.t 61,false)⟩,gP 64 .mv [.v 8] 61 false,gP 65 (.bin .neq) [.t 63,.t 64] 61 false,oP 66 .pick [.t 61,.c (.bool true),.t 65],mP 58 (.t 66)] (.t 58) (Sq a113s19 .ret) .skip
def a113s22:=Ts [] [nP 53 7,oP 54 (.bin .eql) [.t 53,.c (.str [99,114,101,97,116,101])],mP 52 (.t 54)] (.t 52) a113s16 a113s21
def a113s23:=Ts [] a113r10 (.t 41) (Sq a113s12 .ret) a113s22
def a113s24:=Ts [] [nP 36 7,oP 37 (.bin .eql) [.t 36,.c (.str [99,114,101,97,116,101])],mP 38 (.t 37),gP 39 .mv [.v 10] 38 true,oP 40 .pick [.t 38,.t 39,.c (.bool false)],mP 35 (.t 40)] (.t 35) (Sq a113s8 .ret) a113s23
def a113s28:=Rg [] [vP 6 (.c (.int .i64 0))]
def a113s30:=Ts [] [nP 67 7,oP 68 (.bin .eql) [.t 67,.c (.str [100,101,108,101,116,101])]] (.t 68) (Sq a113s28 .ret) .skip
def a113s32:=Rg [11] [nP 70 0,oP 71 .nilchk [.t 70],fP 72 0 (.t 71),oP 73 (.ldSt false 1) [.t 72],nP 74 8,oP 75 (.call 30) [.t 73,.t 74],mP 69 (.t 75),oP 76 (.ext 0) [.t 69],oP 77 (.ext 1) [.t 69],⟨.bx,.alloc [.int .u8 0,.str [],.list true [],.list true []],[],some 11,none⟩,xP (.stLc 11 4) [.l 11,.ts 76] 11,mP 14 (.t 77)]
def a113s34:=Rg [12] [lP 79 5 true 5 (.l 5),oP 80 (.call 106) [.t 79,.c (.str [105,110,112,117,116])],mP 78 (.t 80),oP 81 (.ext 0) [.t 78],oP 82 (.ext 1) [.t 78],⟨.bx,.alloc [.int .u8 0,.int .i64 0,.str [],.list true [],.list true []],[],some 12,none⟩,xP (.stLc 12 5) [.l 12,.ts 81] 12,mP 16 (.t 82)]
def a113s36:=Rg [] [fP 83 3 (.l 12),⟨.v 16,.ldLc 12 false 1,[.t 83],some 12,none⟩,op (.v 17) .lenL [.v 16],vP 18 (.c (.int .i64 0))]
def a113s38:=Ts [] [bP 87 .lss (.v 18) (.v 17)] (.t 87) .skip (.exit 1)
def a113s40:=Rg [] [nP 88 18,oP 89 (.iad 1) [.v 16,.v 18],oP 90 (.ldAn false 1) [.t 89],op (.v 14) (.allocO [.str []]) [],vP 13 (.t 88),op .none (.stSt 1) [.v 14,.t 90]]
def a113s42:=Rg [] [fP 91 2 (.l 11),lP 92 11 false 1 (.t 91),oP 93 (.mkF 179 0) [.v 14],oP 94 (.call 178) [.t 92,.t 93],vP 15 (.t 94)]
def a113s45:=Rg [] [lP 97 9 true 4 (.l 9),oP 98 (.ldStR false 1) [.v 14,.v 14],nP 99 0,oP 100 .nilchk [.t 99],fP 101 0 (.t 100),oP 102 (.ldSt false 1) [.t 101],fP 103 2 (.l 11),lP 104 11 false 1 (.t 103),nP 105 15,oP 106 (.iad 11) [.t 104,.t 105],fP 107 2 (.t 106),oP 108 (.ldRo true 3) [.t 107],fP 109 4 (.l 12),lP 110 12 false 1 (.t 109),nP 111 13,oP 112 (.iad 5) [.t 110,.t 111],oP 113 (.ldAn true 5) [.t 112],oP 114 (.callA 181 3) [.t 102,.t 108,.t 113,.v 14],oP 115 (.call 180) [.t 97,.t 98,.t 114],xP (.stLc 9 4) [.l 9,.ts 115] 9]
def a113s46:=Ts [] [nP 95 15,bP 96 .geq (.t 95) (.c (.int .i64 0))] (.t 96) a113s45 .skip
def a113s51:=Rg [] [bP 116 .add (.v 18) (.c (.int .i64 1)),vP 18 (.t 116)]
def a113s58:=Rg [] [nP 117 0,nP 118 0,oP 119 .nilchk [.t 118],fP 120 3 (.t 119),oP 121 (.ldSt true 1) [.t 120],lP 122 9 true 4 (.l 9),oP 123 (.call 18) [.t 121,.t 122],oP 124 .nilchk [.t 117],fP 125 3 (.t 124),op .none (.stSt 1) [.t 125,.ts 123]]
def a113s60:=Rg [] [vP 6 (.c (.int .i64 0))]
def a113c:ACode :=
  (Sq a113s1 (Sq a113s3 (Sq a113s5 (Sq (Bk 0 a113s24) (Sq a113s30 (Sq a113s32 (Sq a113s34 (Sq (Sq a113s36 (Bk 1 (Lp (Sq a113s38 (Sq (Bk 2 (Sq a113s40 (Sq a113s42 a113s46))) a113s51))))) (Sq a113s58 (Sq a113s60 .ret))))))))))
def a113:AFn:={ np:=4,nv:=19,results:=[.v 6],code:=a113c }
def a114s1:=Rg [8,9,10,11,12,13] [⟨.bx,.boxV,[.v 1],some 8,none⟩,⟨.bx,.boxV,[.v 2],some 9,none⟩,⟨.bx,.boxV,[.v 3],some 10,none⟩,⟨.bx,.boxV,[.v 4],some 11,none⟩,⟨.bx,.boxV,[.v 5],some 12,none⟩,⟨.bx,.alloc [.int .u8 0,.int .i64 0,.str [],.list true [],.list true []],[],some 13,none⟩,op (.v 14) .mv [.c (.list true [])],vP 15 (.c (.int .i64 0))]
def a114s3:=Rg [] [nP 22 0,lP 23 9 true 2 (.l 9),lP 24 8 true 3 (.l 8),lP 25 10 true 5 (.l 10),nP 26 7,oP 27 (.build [.nilp,.nils,.nils,.nils,.bool false,.nils,.int .u8 0,.int .i64 0,.str [],.nils,.nils,.nils,.bool false,.int .i64 0] [(0,1),(1,2),(3,3),(6,5),(13,1)]) [.t 22,.t 23,.t 24,.t 25,.t 26],oP 28 .boxO [.ts 27],vP 16 (.t 28)]
def a114s5:=Rg [17] [nP 30 16,lP 31 11 true 3 (.l 11),nP 32 6,oP 33 (.build [.int .u8 0,.int .i64 0,.str [],.list true [],.list true []] [(0,1),(2,1)]) [.c (.int .u8 8),.t 32],lP 34 12 true 2 (.l 12),fP 35 0 (.l 12),lP 36 12 false 1 (.t 35),oP 37 (.bslice 1 [[.str []]] [0]) [.t 36],oP 38 (.call 182) [.t 30,.t 31,.t 33,.t 34,.t 37],mP 29 (.t 38),oP 39 (.ext 0) [.t 29],oP 40 (.ext 1) [.t 29],⟨.bx,.alloc [.int .u8 0,.int .i64 0,.str [],.list true [],.list true []],[],some 17,none⟩,xP (.stLc 17 5) [.l 17,.ts 39] 17,mP 21 (.t 40)]
def a114s7:=Rg [] [lP 41 17 true 5 (.l 17),nP 42 16,oP 43 .nilchk [.t 42],fP 44 11 (.t 43),oP 45 (.ldSt false 1) [.t 44],nP 46 16,oP 47 .nilchk [.t 46],fP 48 13 (.t 47),oP 49 (.ldSt false 1) [.t 48],xP (.stLc 13 5) [.l 13,.ts 41] 13,vP 14 (.ts 45),vP 15 (.t 49)]
def a114c:ACode :=
  (Sq a114s1 (Sq a114s3 (Sq a114s5 (Sq a114s7 .ret))))
def a114:AFn:={ np:=8,nv:=18,results:=[.bx 13 true 5,.v 14,.v 15],code:=a114c }
def d6B:=Rg [] [op (.v 1) .mv [.c (.str [])],op (.v 2) .mv [.c (.str [])]]
def f3F:=Rg [] [op (.v 6) (.bslice 1 [[.str []],[.str []],[.str []]] [0,1,2]) [.c (.str [99,114,101,97,116,101]),.c (.str [117,112,100,97,116,101]),.c (.str [100,101,108,101,116,101])],op (.v 7) .lenL [.v 6],vP 8 (.c (.int .i64 0))]
def e7H:=Ts [] [bP 11 .lss (.v 8) (.v 7)] (.t 11) .skip (.exit 0)
def d84:=Rg [] [oP 12 (.iad 1) [.v 6,.v 8],oP 13 (.ldAn false 1) [.t 12],vP 3 (.t 13)]
def f3L:=Rg [] [nP 15 0,nP 16 3,oP 17 (.call 183) [.t 15,.t 16],mP 14 (.t 17),oP 18 (.ext 0) [.t 14],oP 19 (.ext 1) [.t 14],vP 4 (.t 18),vP 5 (.t 19)]
def d0O:=Rg [] [nP 21 3,nP 22 4,vP 1 (.t 21),vP 2 (.t 22)]
def c41:=Ts [] [nP 20 5] (.t 20) (Sq d0O .ret) .skip
def c6J:=Rg [] [bP 23 .add (.v 8) (.c (.int .i64 1)),vP 8 (.t 23)]
def c3J:=Rg [] [op (.v 1) .mv [.c (.str [])],op (.v 2) .mv [.c (.str [])]]
def g0R:ACode :=
  (Sq d6B (Sq (Sq f3F (Bk 0 (Lp (Sq e7H (Sq (Bk 1 (Sq d84 (Sq f3L c41))) c6J))))) (Sq c3J .ret)))
def g5Z:AFn:={ np:=1,nv:=9,results:=[.v 1,.v 2],code:=g0R }
def e5x:=Rg [2,3] [⟨.bx,.boxV,[.v 0],some 2,none⟩,⟨.bx,.alloc [.nils],[],some 3,none⟩]
def f1k:=Rg [] [lP 8 2 true 1 (.l 2),nP 9 1,oP 10 (.call 38) [.t 8,.t 9],mP 7 (.t 10),oP 11 (.ext 0) [.t 7],oP 12 (.ext 1) [.t 7],vP 4 (.t 11),vP 5 (.t 12)]
def e3W:=Rg [] [lP 15 2 true 1 (.l 2),xP (.stLc 3 1) [.l 3,.ts 15] 3]
def e4S:=Ts [] [nP 13 5,oP 14 (.un .not) [.t 13]] (.t 14) (Sq e3W .ret) .skip
def c45:=Rg [] [fP 16 0 (.l 2),lP 17 2 false 1 (.t 16),oP 18 (.call 22) [.t 17],nP 19 4,nP 20 4,bP 21 .add (.t 20) (.c (.int .i64 1)),oP 22 (.call 184) [.t 18,.t 19,.t 21],oP 23 (.build [.nils] [(0,1)]) [.t 22],xP (.stLc 3 1) [.l 3,.ts 23] 3]
def f82:ACode :=
  (Sq e5x (Sq f1k (Sq e4S (Sq c45 .ret))))
def g6V:AFn:={ np:=2,nv:=6,results:=[.bx 3 true 1],code:=f82 }
def d8J:=Rg [] [vP 1 (.c (.bool false))]
def e5u:=Rg [] [nP 3 0,bP 4 .geq (.t 3) (.c (.int .u8 97)),mP 5 (.t 4),gP 6 .mv [.v 0] 5 true,gP 7 (.bin .leq) [.t 6,.c (.int .u8 122)] 5 true,oP 8 .pick [.t 5,.t 7,.c (.bool false)],mP 9 (.t 8),gP 10 .mv [.v 0] 9 false,gP 11 (.bin .geq) [.t 10,.c (.int .u8 65)] 9 false,gP 12 .mv [.t 11] 9 false,gP 13 .mv [.v 0] 12 true,gP 14 (.bin .leq) [.t 13,.c (.int .u8 90)] 12 true,gP 15 .pick [.t 12,.t 14,.c (.bool false)] 9 false,oP 16 .pick [.t 9,.c (.bool true),.t 15],mP 17 (.t 16),gP 18 .mv [.v 0] 17 false,gP 19 (.bin .eql) [.t 18,.c (.int .u8 95)] 17 false,oP 20 .pick [.t 17,.c (.bool true),.t 19],vP 1 (.t 20)]
def f58:ACode :=
  (Sq d8J (Sq e5u .ret))
def g5w:AFn:={ np:=1,nv:=2,results:=[.v 1],code:=f58 }
def e8W:=Rg [] [vP 1 (.c (.bool false))]
def f3t:=Rg [] [nP 3 0,bP 4 .geq (.t 3) (.c (.int .u8 48)),mP 5 (.t 4),gP 6 .mv [.v 0] 5 true,gP 7 (.bin .leq) [.t 6,.c (.int .u8 57)] 5 true,oP 8 .pick [.t 5,.t 7,.c (.bool false)],vP 1 (.t 8)]
def f9X:ACode :=
  (Sq e8W (Sq f3t .ret))
def g4q:AFn:={ np:=1,nv:=2,results:=[.v 1],code:=f9X }
def d7G:=Rg [2] [⟨.bx,.alloc [.int .u8 0,.str [],.int .i64 0,.int .i64 0],[],some 2,none⟩,vP 3 (.c (.int .i64 0)),vP 4 (.c (.int .i64 0)),vP 5 (.c (.int .i64 0))]
def d77:=Rg [] [nP 12 1,vP 6 (.t 12)]
def e44:=Rg [] [nP 13 0,nP 14 6,oP 15 .idxS [.t 13,.t 14],bP 16 .eql (.t 15) (.c (.int .u8 45)),vP 7 (.t 16)]
def f1i:=Rg [] [nP 18 6,bP 19 .add (.t 18) (.c (.int .i64 1)),vP 6 (.t 19)]
def e6W:=Ts [] [nP 17 7] (.t 17) f1i .skip
def c6E:=Rg [] [nP 20 6,vP 8 (.t 20)]
def c6O:=Rg [] [vP 9 (.c (.int .i64 0))]
def c8K:=Ts [] [nP 21 6,nP 22 0,oP 23 .lenS [.t 22],bP 24 .lss (.t 21) (.t 23),mP 25 (.t 24),gP 26 .mv [.v 0] 25 true,gP 27 .mv [.v 6] 25 true,gP 28 .idxS [.t 26,.t 27] 25 true,gP 29 (.call 118) [.t 28] 25 true,oP 30 .pick [.t 25,.t 29,.c (.bool false)]] (.t 30) .skip (.exit 0)
def d3J:=Rg [] [nP 35 9,bP 36 .mul (.t 35) (.c (.int .i64 10)),nP 37 0,nP 38 6,oP 39 .idxS [.t 37,.t 38],bP 40 .sub (.t 39) (.c (.int .u8 48)),oP 41 (.conv .i64) [.t 40],bP 42 .add (.t 36) (.t 41),vP 9 (.t 42)]
def c8Y:=Ts [] [nP 31 6,nP 32 8,bP 33 .sub (.t 31) (.t 32),bP 34 .lss (.t 33) (.c (.int .i64 18))] (.t 34) d3J .skip
def d0Q:=Rg [] [nP 43 6,bP 44 .add (.t 43) (.c (.int .i64 1)),vP 6 (.t 44)]
def d30:=Rg [] [oP 49 (.build [.int .u8 0,.str [],.int .i64 0,.int .i64 0] []) [],nP 50 6,xP (.stLc 2 4) [.l 2,.t 49] 2,vP 3 (.c (.int .i64 0)),vP 4 (.t 50),vP 5 (.c (.int .i64 4))]
def d0S:=Rg [] [oP 62 (.build [.int .u8 0,.str [],.int .i64 0,.int .i64 0] []) [],nP 63 8,bP 64 .add (.t 63) (.c (.int .i64 1)),xP (.stLc 2 4) [.l 2,.t 62] 2,vP 3 (.c (.int .i64 0)),vP 4 (.t 64),vP 5 (.c (.int .i64 4))]
def d03:=Rg [] [oP 82 (.build [.int .u8 0,.str [],.int .i64 0,.int .i64 0] []) [],nP 83 6,xP (.stLc 2 4) [.l 2,.t 82] 2,vP 3 (.c (.int .i64 0)),vP 4 (.t 83),vP 5 (.c (.int .i64 4))]
def c3Q:=Rg [] [oP 89 (.build [.int .u8 0,.str [],.int .i64 0,.int .i64 0] []) [],nP 90 1,xP (.stLc 2 4) [.l 2,.t 89] 2,vP 3 (.c (.int .i64 0)),vP 4 (.t 90),vP 5 (.c (.int .i64 1))]
def c1c:=Ts [] [nP 85 6,nP 86 8,bP 87 .sub (.t 85) (.t 86),bP 88 .gtr (.t 87) (.c (.int .i64 18)),mP 84 (.t 88)] (.t 84) (Sq c3Q .ret) .skip
def c00:=Ts [] [nP 66 6,nP 67 0,oP 68 .lenS [.t 67],bP 69 .lss (.t 66) (.t 68),mP 70 (.t 69),gP 71 .mv [.v 0] 70 true,gP 72 .mv [.v 6] 70 true,gP 73 .idxS [.t 71,.t 72] 70 true,gP 74 (.call 117) [.t 73] 70 true,gP 75 .mv [.t 74] 70 true,gP 76 .mv [.v 0] 75 false,gP 77 .mv [.v 6] 75 false,gP 78 .idxS [.t 76,.t 77] 75 false,gP 79 (.bin .eql) [.t 78,.c (.int .u8 46)] 75 false,gP 80 .pick [.t 75,.c (.bool true),.t 79] 70 true,oP 81 .pick [.t 70,.t 80,.c (.bool false)],mP 65 (.t 81)] (.t 65) (Sq d03 .ret) c1c
def c0S:=Ts [] [nP 52 0,nP 53 8,oP 54 .idxS [.t 52,.t 53],bP 55 .eql (.t 54) (.c (.int .u8 48)),mP 56 (.t 55),gP 57 .mv [.v 6] 56 true,gP 58 .mv [.v 8] 56 true,gP 59 (.bin .add) [.t 58,.c (.int .i64 1)] 56 true,gP 60 (.bin .gtr) [.t 57,.t 59] 56 true,oP 61 .pick [.t 56,.t 60,.c (.bool false)],mP 51 (.t 61)] (.t 51) (Sq d0S .ret) c00
def c4m:=Ts [] [nP 46 6,nP 47 8,bP 48 .eql (.t 46) (.t 47),mP 45 (.t 48)] (.t 45) (Sq d30 .ret) c0S
def d1R:=Rg [] [nP 92 9,oP 93 (.un .neg) [.t 92],vP 9 (.t 93)]
def c36:=Ts [] [nP 91 7] (.t 91) d1R .skip
def c4T:=Rg [] [nP 94 0,nP 95 1,nP 96 6,oP 97 (.slS true true) [.t 94,.t 95,.t 96],nP 98 9,oP 99 (.build [.int .u8 0,.str [],.int .i64 0,.int .i64 0] [(0,1),(1,1),(2,1)]) [.c (.int .u8 2),.t 97,.t 98],nP 100 6,xP (.stLc 2 4) [.l 2,.t 99] 2,vP 3 (.t 100),vP 4 (.c (.int .i64 0)),vP 5 (.c (.int .i64 0))]
def f5o:ACode :=
  (Sq d7G (Sq d77 (Sq e44 (Sq e6W (Sq c6E (Sq c6O (Sq (Bk 0 (Lp (Sq c8K (Bk 1 (Sq c8Y d0Q))))) (Sq (Bk 2 c4m) (Sq c36 (Sq c4T .ret))))))))))
def g7A:AFn:={ np:=2,nv:=10,results:=[.bx 2 true 4,.v 3,.v 4,.v 5],code:=f5o }
def e3t:=Rg [2] [⟨.bx,.alloc [.int .u8 0,.str [],.int .i64 0,.int .i64 0],[],some 2,none⟩,vP 3 (.c (.int .i64 0)),vP 4 (.c (.int .i64 0)),vP 5 (.c (.int .i64 0))]
def d8E:=Rg [] [op (.v 6) .mv [.c (.str [])]]
def f07:=Rg [] [nP 10 1,bP 11 .add (.t 10) (.c (.int .i64 1)),vP 7 (.t 11)]
def d4F:=Ts [] [nP 12 7,nP 13 0,oP 14 .lenS [.t 13],bP 15 .lss (.t 12) (.t 14)] (.t 15) .skip (.exit 0)
def d5L:=Rg [] [nP 16 0,nP 17 7,op (.v 8) .idxS [.t 16,.t 17]]
def d1V:=Rg [] [oP 31 (.build [.int .u8 0,.str [],.int .i64 0,.int .i64 0] []) [],nP 32 1,xP (.stLc 2 4) [.l 2,.t 31] 2,vP 3 (.c (.int .i64 0)),vP 4 (.t 32),vP 5 (.c (.int .i64 2))]
def d0j:=Ts [] [nP 28 6,oP 29 .lenS [.t 28],bP 30 .gtr (.t 29) (.c (.int .i64 200))] (.t 30) (Sq d1V .ret) .skip
def d1A:=Rg [] [nP 33 6,oP 34 (.build [.int .u8 0,.str [],.int .i64 0,.int .i64 0] [(0,1),(1,1)]) [.c (.int .u8 3),.t 33],nP 35 7,bP 36 .add (.t 35) (.c (.int .i64 1)),xP (.stLc 2 4) [.l 2,.t 34] 2,vP 3 (.t 36),vP 4 (.c (.int .i64 0)),vP 5 (.c (.int .i64 0))]
def d2g:=Rg [] [oP 39 (.build [.int .u8 0,.str [],.int .i64 0,.int .i64 0] []) [],nP 40 7,xP (.stLc 2 4) [.l 2,.t 39] 2,vP 3 (.c (.int .i64 0)),vP 4 (.t 40),vP 5 (.c (.int .i64 4))]
def d0f:=Rg [] [nP 43 7,bP 44 .add (.t 43) (.c (.int .i64 1)),vP 7 (.t 44)]
def c3R:=Rg [] [oP 49 (.build [.int .u8 0,.str [],.int .i64 0,.int .i64 0] []) [],nP 50 7,xP (.stLc 2 4) [.l 2,.t 49] 2,vP 3 (.c (.int .i64 0)),vP 4 (.t 50),vP 5 (.c (.int .i64 4))]
def c5g:=Ts [] [nP 45 7,nP 46 0,oP 47 .lenS [.t 46],bP 48 .eql (.t 45) (.t 47)] (.t 48) (Sq c3R .ret) .skip
def c09:=Rg [] [nP 51 0,nP 52 7,op (.v 9) .idxS [.t 51,.t 52]]
def d3H:=Rg [] [nP 58 6,oP 59 (.bin .add) [.t 58,.c (.str [10])],vP 6 (.t 59)]
def c8j:=Rg [] [nP 62 6,oP 63 (.bin .add) [.t 62,.c (.str [9])],vP 6 (.t 63)]
def c7J:=Rg [] [bP 67 .eql (.v 9) (.c (.int .u8 92)),vP 10 (.t 67)]
def c2r:=Ts [] [bP 66 .eql (.v 9) (.c (.int .u8 47)),vP 10 (.t 66)] (.v 10) .skip c7J
def d2P:=Ts [] [bP 65 .eql (.v 9) (.c (.int .u8 34)),vP 10 (.t 65)] (.v 10) .skip c2r
def c5U:=Rg [] [nP 68 6,nP 69 0,nP 70 7,nP 71 7,bP 72 .add (.t 71) (.c (.int .i64 1)),oP 73 (.slS true true) [.t 69,.t 70,.t 72],bP 74 .add (.t 68) (.t 73),vP 6 (.t 74)]
def d07:=Rg [] [oP 54 (.build [.int .u8 0,.str [],.int .i64 0,.int .i64 0] []) [],nP 55 7,xP (.stLc 2 4) [.l 2,.t 54] 2,vP 3 (.c (.int .i64 0)),vP 4 (.t 55),vP 5 (.c (.int .i64 4))]
def d1Z:=Ts [] [] (.v 10) c5U (Sq d07 .ret)
def c8R:=Ts [] [bP 61 .eql (.v 9) (.c (.int .u8 116)),mP 60 (.t 61)] (.t 60) c8j (Sq d2P d1Z)
def c7i:=Ts [] [bP 57 .eql (.v 9) (.c (.int .u8 110)),mP 56 (.t 57)] (.t 56) d3H c8R
def c7d:=Rg [] [nP 19 6,nP 20 0,nP 21 7,nP 22 7,bP 23 .add (.t 22) (.c (.int .i64 1)),oP 24 (.slS true true) [.t 20,.t 21,.t 23],bP 25 .add (.t 19) (.t 24),vP 6 (.t 25)]
def c9Y:=Ts [] [bP 42 .eql (.v 8) (.c (.int .u8 92)),mP 41 (.t 42)] (.t 41) (Sq d0f (Sq c5g (Sq c09 (Bk 3 c7i)))) c7d
def d2p:=Ts [] [bP 38 .eql (.v 8) (.c (.int .u8 10)),mP 37 (.t 38)] (.t 37) (Sq d2g .ret) c9Y
def d2V:=Ts [] [bP 27 .eql (.v 8) (.c (.int .u8 34)),mP 26 (.t 27)] (.t 26) (Sq d0j (Sq d1A .ret)) d2p
def c5o:=Rg [] [nP 75 7,bP 76 .add (.t 75) (.c (.int .i64 1)),vP 7 (.t 76)]
def c7K:=Rg [] [oP 77 (.build [.int .u8 0,.str [],.int .i64 0,.int .i64 0] []) [],nP 78 7,xP (.stLc 2 4) [.l 2,.t 77] 2,vP 3 (.c (.int .i64 0)),vP 4 (.t 78),vP 5 (.c (.int .i64 4))]
def f8F:ACode :=
  (Sq e3t (Sq d8E (Sq f07 (Sq (Bk 0 (Lp (Sq d4F (Bk 1 (Sq (Sq d5L (Bk 2 d2V)) c5o))))) (Sq c7K .ret)))))
def g4D:AFn:={ np:=2,nv:=11,results:=[.bx 2 true 4,.v 3,.v 4,.v 5],code:=f8F }
def f2c:=Rg [] [vP 2 (.c (.bool false))]
def d4G:=Rg [] [nP 5 0,oP 6 .nilchk [.t 5],fP 7 4 (.t 6),oP 8 (.ldSt false 1) [.t 7],bP 9 .eql (.t 8) (.c (.int .i64 0)),mP 10 (.t 9),gP 11 .mv [.v 0] 10 true,gP 12 .nilchk [.t 11] 10 true,gP 13 (.fad 0) [.t 12] 10 true,gP 14 (.ldSt false 1) [.t 13] 10 true,gP 15 .mv [.v 0] 10 true,gP 16 .nilchk [.t 15] 10 true,gP 17 (.fad 1) [.t 16] 10 true,gP 18 (.ldSt false 1) [.t 17] 10 true,gP 19 (.iad 4) [.t 14,.t 18] 10 true,gP 20 (.fad 0) [.t 19] 10 true,gP 21 (.ldRo false 1) [.t 20] 10 true,gP 22 (.bin .eql) [.t 21,.c (.int .u8 4)] 10 true,oP 23 .pick [.t 10,.t 22,.c (.bool false)],mP 24 (.t 23),gP 25 .mv [.v 0] 24 true,gP 26 .nilchk [.t 25] 24 true,gP 27 (.fad 0) [.t 26] 24 true,gP 28 (.ldSt false 1) [.t 27] 24 true,gP 29 .mv [.v 0] 24 true,gP 30 .nilchk [.t 29] 24 true,gP 31 (.fad 1) [.t 30] 24 true,gP 32 (.ldSt false 1) [.t 31] 24 true,gP 33 (.iad 4) [.t 28,.t 32] 24 true,gP 34 (.fad 1) [.t 33] 24 true,gP 35 (.ldRo false 1) [.t 34] 24 true,gP 36 .mv [.v 1] 24 true,gP 37 (.bin .eql) [.t 35,.t 36] 24 true,oP 38 .pick [.t 24,.t 37,.c (.bool false)],vP 2 (.t 38)]
def f5C:ACode :=
  (Sq f2c (Sq d4G .ret))
def g52:AFn:={ np:=2,nv:=3,results:=[.v 2],code:=f5C }
def f4W:=Rg [2] [⟨.bx,.alloc [.int .u8 0,.int .i64 0,.str [],.list true [],.list true []],[],some 2,none⟩]
def e4T:=Rg [3] [⟨.bx,.alloc [.int .u8 0,.int .i64 0,.str [],.list true [],.list true []],[],some 3,none⟩]
def e7h:=Rg [] [nP 8 0,nP 9 1,oP 10 (.call 185) [.t 8,.t 9],xP (.stLc 3 5) [.l 3,.ts 10] 3]
def e3p:=Ts [] [nP 6 0,oP 7 (.call 123) [.t 6]] (.t 7) e7h .skip
def e2u:=Rg [] [nP 11 0,oP 12 .nilchk [.t 11],fP 13 2 (.t 12),oP 14 (.ldSt false 1) [.t 13],bP 15 .sub (.t 14) (.c (.int .i64 1)),oP 16 .nilchk [.t 11],fP 17 2 (.t 16),op .none (.stSt 1) [.t 17,.t 15]]
def c0Q:=Rg [] [lP 18 3 true 5 (.l 3),xP (.stLc 2 5) [.l 2,.ts 18] 2]
def g3e:ACode :=
  (Sq f4W (Sq e4T (Sq e3p (Sq e2u (Sq c0Q .ret)))))
def g8N:AFn:={ np:=2,nv:=4,results:=[.bx 2 true 5],code:=g3e }
def e7S:=Rg [] [vP 1 (.c (.bool false))]
def f3u:=Rg [] [nP 3 0,oP 4 .nilchk [.t 3],fP 5 2 (.t 4),oP 6 (.ldSt false 1) [.t 5],bP 7 .add (.t 6) (.c (.int .i64 1)),oP 8 .nilchk [.t 3],fP 9 2 (.t 8),op .none (.stSt 1) [.t 9,.t 7]]
def e3e:=Rg [] [nP 15 0,oP 16 (.call 50) [.t 15,.c (.int .i64 5)]]
def e77:=Ts [] [nP 10 0,oP 11 .nilchk [.t 10],fP 12 2 (.t 11),oP 13 (.ldSt false 1) [.t 12],bP 14 .gtr (.t 13) (.c (.int .i64 24))] (.t 14) e3e .skip
def e33:=Rg [] [nP 17 0,oP 18 .nilchk [.t 17],fP 19 4 (.t 18),oP 20 (.ldSt false 1) [.t 19],bP 21 .eql (.t 20) (.c (.int .i64 0)),vP 1 (.t 21)]
def f41:ACode :=
  (Sq e7S (Sq f3u (Sq e77 (Sq e33 .ret))))
def g6I:AFn:={ np:=1,nv:=2,results:=[.v 1],code:=f41 }
def e6X:=Rg [1] [⟨.bx,.boxV,[.v 0],some 1,none⟩,op (.v 2) .mv [.c (.str [])]]
def d7i:=Ts [] [fP 3 1 (.l 1),lP 4 1 false 1 (.t 3),oP 5 .lenL [.t 4],bP 6 .gtr (.t 5) (.c (.int .i64 0))] (.t 6) .skip (.exit 0)
def e65:=Rg [] [fP 7 1 (.l 1),lP 8 1 false 1 (.t 7),oP 9 (.iad 3) [.t 8,.c (.int .i64 0)],oP 10 (.ldRo true 3) [.t 9],xP (.stLc 1 3) [.l 1,.ts 10] 1]
def c96:=Rg [] [fP 11 0 (.l 1),lP 12 1 false 1 (.t 11),vP 2 (.t 12)]
def g2h:ACode :=
  (Sq e6X (Sq (Bk 0 (Lp (Sq d7i (Bk 1 e65)))) (Sq c96 .ret)))
def g6c:AFn:={ np:=1,nv:=3,results:=[.v 2],code:=g2h }
def e1o:=Rg [] [vP 2 (.c (.bool false))]
def e0K:=Rg [] [nP 5 0,oP 6 (.binP .neq) [.t 5,.c (.nilp)],mP 7 (.t 6),gP 8 (.slA 4 1 false false) [.c (.ro [.str [66,111,111,108,101,97,110],.str [73,68],.str [73,110,116],.str [83,116,114,105,110,103]])] 7 true,gP 9 .mv [.v 1] 7 true,gP 10 (.call 27) [.t 8,.t 9] 7 true,oP 11 .pick [.t 7,.t 10,.c (.bool false)],vP 2 (.t 11)]
def g0F:ACode :=
  (Sq e1o (Sq e0K .ret))
def g5F:AFn:={ np:=2,nv:=3,results:=[.v 2],code:=g0F }
def e6l:=Rg [] [vP 2 (.c (.bool false))]
def e9k:=Rg [] [nP 5 0,nP 6 1,oP 7 (.call 175) [.t 5,.t 6,.c (.int .u8 4)],vP 2 (.t 7)]
def f6C:ACode :=
  (Sq e6l (Sq e9k .ret))
def g65:AFn:={ np:=2,nv:=3,results:=[.v 2],code:=f6C }
def e9m:=Rg [] [vP 2 (.c (.bool false))]
def d6u:=Rg [] [nP 5 0,nP 6 1,oP 7 (.call 175) [.t 5,.t 6,.c (.int .u8 5)],vP 2 (.t 7)]
def g3q:ACode :=
  (Sq e9m (Sq d6u .ret))
def a127:AFn:={ np:=2,nv:=3,results:=[.v 2],code:=g3q }
def a128s1:=Rg [5] [op (.v 3) .boxO [.v 0],op (.v 4) .boxO [.v 1],⟨.bx,.boxV,[.v 2],some 5,none⟩,vP 6 (.c (.bool false))]
def a128s4:=Rg [] [fP 12 2 (.v 4),oP 13 (.ldSt false 1) [.t 12],oP 14 (.un .not) [.t 13],vP 6 (.t 14)]
def a128s6:=Ts [] [fP 9 0 (.l 5),lP 10 5 false 1 (.t 9),bP 11 .eql (.t 10) (.c (.int .u8 0))] (.t 11) (Sq a128s4 .ret) .skip
def a128s10:=Rg [] [oP 22 (.ldSt false 1) [.v 3],fP 23 1 (.v 4),oP 24 (.ldSt false 1) [.t 23],oP 25 (.iad 3) [.t 24,.c (.int .i64 0)],oP 26 (.ldRo true 3) [.t 25],lP 27 5 true 5 (.l 5),oP 28 (.call 128) [.t 22,.t 26,.t 27],vP 6 (.t 28)]
def a128s12:=Ts [] [fP 19 0 (.l 5),lP 20 5 false 1 (.t 19),bP 21 .neq (.t 20) (.c (.int .u8 5))] (.t 21) (Sq a128s10 .ret) .skip
def a128s14:=Rg [] [fP 29 4 (.l 5),lP 30 5 false 1 (.t 29),oP 31 (.mkF 187 0) [.v 3,.v 4],oP 32 (.call 186) [.t 30,.t 31],oP 33 (.un .not) [.t 32],vP 6 (.t 33)]
def a128s17:=Ts [] [fP 15 1 (.v 4),oP 16 (.ldSt false 1) [.t 15],oP 17 .lenL [.t 16],bP 18 .gtr (.t 17) (.c (.int .i64 0))] (.t 18) (Sq a128s12 (Sq a128s14 .ret)) .skip
def a128s19:=Rg [] [fP 34 0 (.v 4),op (.v 8) (.ldSt false 1) [.t 34]]
def a128s22:=Rg [] [fP 38 0 (.l 5),lP 39 5 false 1 (.t 38),bP 40 .eql (.t 39) (.c (.int .u8 1)),mP 41 (.t 40),gP 42 (.fad 1) [.l 5] 41 true,⟨.t 43,.ldLc 5 false 1,[.t 42],some 5,some (.t 41,true)⟩,gP 44 (.fad 1) [.l 5] 41 true,⟨.t 45,.ldLc 5 false 1,[.t 44],some 5,some (.t 41,true)⟩,gP 46 (.conv .i32) [.t 45] 41 true,gP 47 (.conv .i64) [.t 46] 41 true,gP 48 (.bin .eql) [.t 43,.t 47] 41 true,oP 49 .pick [.t 41,.t 48,.c (.bool false)],vP 6 (.t 49)]
def a128s26:=Rg [] [fP 52 0 (.l 5),lP 53 5 false 1 (.t 52),bP 54 .eql (.t 53) (.c (.int .u8 2)),vP 6 (.t 54)]
def a128s30:=Rg [] [fP 57 0 (.l 5),lP 58 5 false 1 (.t 57),bP 59 .eql (.t 58) (.c (.int .u8 3)),vP 6 (.t 59)]
def a128s34:=Rg [] [fP 62 0 (.l 5),lP 63 5 false 1 (.t 62),bP 64 .eql (.t 63) (.c (.int .u8 2)),mP 65 (.t 64),gP 66 (.fad 0) [.l 5] 65 false,⟨.t 67,.ldLc 5 false 1,[.t 66],some 5,some (.t 65,false)⟩,gP 68 (.bin .eql) [.t 67,.c (.int .u8 1)] 65 false,oP 69 .pick [.t 65,.c (.bool true),.t 68],vP 6 (.t 69)]
def a128s36:=Ts [] [oP 61 (.bin .eql) [.v 8,.c (.str [73,68])],mP 60 (.t 61)] (.t 60) (Sq a128s34 .ret) .skip
def a128s37:=Ts [] [oP 56 (.bin .eql) [.v 8,.c (.str [66,111,111,108,101,97,110])],mP 55 (.t 56)] (.t 55) (Sq a128s30 .ret) a128s36
def a128s38:=Ts [] [oP 51 (.bin .eql) [.v 8,.c (.str [83,116,114,105,110,103])],mP 50 (.t 51)] (.t 50) (Sq a128s26 .ret) a128s37
def a128s39:=Ts [] [oP 37 (.bin .eql) [.v 8,.c (.str [73,110,116])],mP 36 (.t 37)] (.t 36) (Sq a128s22 .ret) a128s38
def a128s43:=Rg [7] [oP 71 (.ldSt false 1) [.v 3],fP 72 0 (.v 4),oP 73 (.ldSt false 1) [.t 72],oP 74 (.call 30) [.t 71,.t 73],mP 70 (.t 74),oP 75 (.ext 0) [.t 70],oP 76 (.ext 1) [.t 70],⟨.bx,.alloc [.int .u8 0,.str [],.list true [],.list true []],[],some 7,none⟩,xP (.stLc 7 4) [.l 7,.ts 75] 7,mP 8 (.t 76)]
def a128s45:=Rg [] [fP 77 0 (.l 7),⟨.v 9,.ldLc 7 false 1,[.t 77],some 7,none⟩]
def a128s48:=Rg [] [fP 81 0 (.l 5),lP 82 5 false 1 (.t 81),bP 83 .eql (.t 82) (.c (.int .u8 4)),mP 84 (.t 83),gP 85 (.fad 3) [.l 7] 84 true,⟨.t 86,.ldLc 7 false 1,[.t 85],some 7,some (.t 84,true)⟩,gP 87 (.fad 2) [.l 5] 84 true,⟨.t 88,.ldLc 5 false 1,[.t 87],some 5,some (.t 84,true)⟩,gP 89 (.call 27) [.t 86,.t 88] 84 true,oP 90 .pick [.t 84,.t 89,.c (.bool false)],vP 6 (.t 90)]
def a128s52:=Rg [] [fP 93 0 (.l 5),lP 94 5 false 1 (.t 93),bP 95 .eql (.t 94) (.c (.int .u8 6)),mP 96 (.t 95),gP 97 (.ldSt false 1) [.v 3] 96 true,⟨.t 98,.ldLc 7 true 4,[.l 7],some 7,some (.t 96,true)⟩,⟨.t 99,.ldLc 5 true 5,[.l 5],some 5,some (.t 96,true)⟩,gP 100 (.call 188) [.t 97,.t 98,.t 99] 96 true,oP 101 .pick [.t 96,.t 100,.c (.bool false)],vP 6 (.t 101)]
def a128s54:=Ts [] [bP 92 .eql (.v 9) (.c (.int .u8 5)),mP 91 (.t 92)] (.t 91) (Sq a128s52 .ret) .skip
def a128s55:=Ts [] [bP 80 .eql (.v 9) (.c (.int .u8 4)),mP 79 (.t 80)] (.t 79) (Sq a128s48 .ret) a128s54
def a128s59:=Rg [] [vP 6 (.c (.bool false))]
end Go.Cb.CodeA
