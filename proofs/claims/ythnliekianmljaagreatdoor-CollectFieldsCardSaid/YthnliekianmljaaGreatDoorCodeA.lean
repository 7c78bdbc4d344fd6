/- The functions of the seat, told as code of the abstract machine. No conditions. -/
import Derived.Test.YthnliekianmljaaGreatDoorXAm1
namespace Go.Cb.CodeA
open Go Go.Cb
open Go.Cb.ACode renaming seq→Sq,reg→Rg,test→Ts,blk→Bk,loop→Lp

abbrev op (d:Dst) (k:Kind) (a:List Opd):AOper:=⟨d,k,a,none,none⟩
abbrev oP (t:Nat) (k:Kind) (a:List Opd):AOper:=⟨.t t,k,a,none,none⟩
abbrev mP (t:Nat) (a:Opd):AOper:=⟨.t t,.mv,[a],none,none⟩
abbrev nP (t v:Nat):AOper:=⟨.t t,.mv,[.v v],none,none⟩
abbrev gP (t:Nat) (k:Kind) (a:List Opd) (x:Nat) (b:Bool):AOper:=⟨.t t,k,a,none,some (.t x,b)⟩
abbrev xP (k:Kind) (a:List Opd) (v:Nat):AOper:=⟨.none,k,a,some v,none⟩
abbrev vP (v:Nat) (a:Opd):AOper:=⟨.v v,.mv,[a],none,none⟩
abbrev lP (t v:Nat) (b:Bool) (n:Nat) (a:Opd):AOper:=⟨.t t,.ldLc v b n,[a],some v,none⟩
abbrev bP (t:Nat) (o:BinOp) (a b:Opd):AOper:=⟨.t t,.bin o,[a,b],none,none⟩
abbrev fP (t n:Nat) (a:Opd):AOper:=⟨.t t,.fad n,[a],none,none⟩
def a8s1:=Rg [3] [⟨.bx,.boxV,[.v 2],some 3,none⟩,vP 4 (.c (.bool false))]
def a8s4:=Rg [] [oP 27 (.call 9) [],vP 4 (.t 27)]
def a8s6:=Ts [] [oP 16 (.call 9) [],oP 17 (.un .not) [.t 16],mP 18 (.t 17),⟨.t 19,.ldLc 3 true 5,[.l 3],some 3,some (.t 18,false)⟩,gP 20 (.call 13) [.t 19] 18 false,oP 21 .pick [.t 18,.c (.bool true),.t 20],mP 22 (.t 21),⟨.t 23,.ldLc 3 true 5,[.l 3],some 3,some (.t 22,false)⟩,gP 24 (.call 14) [.t 23] 22 false,gP 25 (.un .not) [.t 24] 22 false,oP 26 .pick [.t 22,.c (.bool true),.t 25]] (.t 26) (Sq a8s4 .ret) .skip
def a8s8:=Rg [5] [nP 29 0,oP 30 (.call 10) [.t 29],mP 28 (.t 30),oP 31 (.ext 0) [.t 28],oP 32 (.ext 1) [.t 28],oP 33 (.ext 2) [.t 28],⟨.bx,.alloc [.list true [],.list true []],[],some 5,none⟩,xP (.stLc 5 2) [.l 5,.ts 31] 5,mP 8 (.t 32),vP 6 (.t 33)]
def a8s11:=Rg [] [vP 4 (.c (.bool true))]
def a8s13:=Ts [] [nP 34 6,bP 35 .neq (.t 34) (.c (.int .i64 0))] (.t 35) (Sq a8s11 .ret) .skip
def a8s15:=Rg [] [oP 37 (.call 11) [],mP 36 (.t 37),oP 38 (.ext 0) [.t 36],oP 39 (.ext 1) [.t 36],vP 7 (.t 38),vP 8 (.t 39)]
def a8s17:=Rg [] [nP 40 1,oP 41 (.bslice 1 [[.str []],[.str []],[.str []],[.str []],[.str []],[.str []]] [0,1,2,3,4,5]) [.t 40,.c (.str [80,101,114,115,111,110]),.c (.str [67,97,116]),.c (.str [68,111,103]),.c (.str [81,117,101,114,121]),.c (.str [77,117,116,97,116,105,111,110])],vP 9 (.ts 41)]
def a8s19:=Rg [] [vP 10 (.c (.int .i64 0))]
def a8s21:=Ts [] [nP 42 10,nP 43 9,oP 44 .lenL [.t 43],bP 45 .lss (.t 42) (.t 44)] (.t 45) .skip (.exit 0)
def a8s23:=Rg [] [vP 11 (.c (.int .i64 0))]
def a8s25:=Ts [] [nP 48 11,fP 49 0 (.l 5),lP 50 5 false 1 (.t 49),oP 51 .lenL [.t 50],bP 52 .lss (.t 48) (.t 51)] (.t 52) .skip (.exit 2)
def a8s28:=Rg [] [vP 4 (.c (.bool false))]
def a8s30:=Ts [] [nP 55 7,lP 56 5 true 2 (.l 5),nP 57 9,nP 58 10,oP 59 (.iad 1) [.t 57,.t 58],oP 60 (.ldRo false 1) [.t 59],fP 61 0 (.l 5),lP 62 5 false 1 (.t 61),nP 63 11,oP 64 (.iad 4) [.t 62,.t 63],fP 65 3 (.t 64),oP 66 (.ldRo false 1) [.t 65],lP 67 3 true 5 (.l 3),oP 68 (.call 12) [.t 55,.t 56,.t 60,.t 66,.t 67],nP 69 8,lP 70 5 true 2 (.l 5),nP 71 9,nP 72 10,oP 73 (.iad 1) [.t 71,.t 72],oP 74 (.ldRo false 1) [.t 73],fP 75 0 (.l 5),lP 76 5 false 1 (.t 75),nP 77 11,oP 78 (.iad 4) [.t 76,.t 77],fP 79 3 (.t 78),oP 80 (.ldRo false 1) [.t 79],lP 81 3 true 5 (.l 3),oP 82 (.call 16) [.t 69,.t 70,.t 74,.t 80,.t 81],oP 83 (.call 15) [.t 68,.t 82],oP 84 (.un .not) [.t 83]] (.t 84) (Sq a8s28 .ret) .skip
def a8s33:=Rg [] [nP 53 11,bP 54 .add (.t 53) (.c (.int .i64 1)),vP 11 (.t 54)]
def a8s40:=Rg [] [vP 12 (.c (.int .i64 0))]
def a8s42:=Ts [] [nP 85 12,fP 86 1 (.l 5),lP 87 5 false 1 (.t 86),oP 88 .lenL [.t 87],bP 89 .lss (.t 85) (.t 88)] (.t 89) .skip (.exit 4)
def a8s45:=Rg [] [vP 4 (.c (.bool false))]
def a8s47:=Ts [] [nP 92 7,lP 93 5 true 2 (.l 5),nP 94 9,nP 95 10,oP 96 (.iad 1) [.t 94,.t 95],oP 97 (.ldRo false 1) [.t 96],fP 98 1 (.l 5),lP 99 5 false 1 (.t 98),nP 100 12,oP 101 (.iad 3) [.t 99,.t 100],fP 102 2 (.t 101),oP 103 (.ldRo false 1) [.t 102],lP 104 3 true 5 (.l 3),oP 105 (.call 12) [.t 92,.t 93,.t 97,.t 103,.t 104],nP 106 8,lP 107 5 true 2 (.l 5),nP 108 9,nP 109 10,oP 110 (.iad 1) [.t 108,.t 109],oP 111 (.ldRo false 1) [.t 110],fP 112 1 (.l 5),lP 113 5 false 1 (.t 112),nP 114 12,oP 115 (.iad 3) [.t 113,.t 114],fP 116 2 (.t 115),oP 117 (.ldRo false 1) [.t 116],lP 118 3 true 5 (.l 3),oP 119 (.call 16) [.t 106,.t 107,.t 111,.t 117,.t 118],oP 120 (.call 15) [.t 105,.t 119],oP 121 (.un .not) [.t 120]] (.t 121) (Sq a8s45 .ret) .skip
def a8s50:=Rg [] [nP 90 12,bP 91 .add (.t 90) (.c (.int .i64 1)),vP 12 (.t 91)]
def a8s59:=Rg [] [nP 46 10,bP 47 .add (.t 46) (.c (.int .i64 1)),vP 10 (.t 47)]
def a8s66:=Rg [] [vP 4 (.c (.bool true))]
def a8c:ACode :=
  (Sq a8s1 (Sq a8s6 (Sq a8s8 (Sq a8s13 (Sq a8s15 (Sq a8s17 (Sq (Sq a8s19 (Bk 0 (Lp (Sq a8s21 (Sq (Bk 1 (Sq (Sq a8s23 (Bk 2 (Lp (Sq a8s25 (Sq (Bk 3 a8s30) a8s33))))) (Sq a8s40 (Bk 4 (Lp (Sq a8s42 (Sq (Bk 5 a8s47) a8s50))))))) a8s59))))) (Sq a8s66 .ret))))))))
def a8:AFn:={ np:=3,nv:=13,results:=[.v 4],code:=a8c }
def a8v:List Nat:=[0,1,2,5,6,7,9,10,11,12,13,14,15]
def a8b:List Nat:=[3,5]

def d6U:=Rg [] [vP 0 (.c (.bool false))]
def e0F:=Rg [] [oP 8 (.call 11) [],mP 7 (.t 8),oP 9 (.ext 0) [.t 7],oP 10 (.ext 1) [.t 7],vP 1 (.t 9),mP 2 (.t 10)]
def d7P:=Rg [2] [oP 12 (.call 10) [.c (.str [123,110,97,109,101,32,46,46,46,32,111,110,32,67,97,116,32,123,108,105,118,101,115,32,110,97,109,101,125,125])],mP 11 (.t 12),oP 13 (.ext 0) [.t 11],oP 14 (.ext 1) [.t 11],oP 15 (.ext 2) [.t 11],⟨.bx,.alloc [.list true [],.list true []],[],some 2,none⟩,xP (.stLc 2 2) [.l 2,.ts 13] 2,mP 4 (.t 14),mP 5 (.t 15)]
def e0a:=Rg [] [nP 16 1,lP 17 2 true 2 (.l 2),fP 18 0 (.l 2),lP 19 2 false 1 (.t 18),oP 20 (.iad 4) [.t 19,.c (.int .i64 0)],fP 21 3 (.t 20),oP 22 (.ldRo false 1) [.t 21],oP 23 (.build [.int .u8 0,.int .i64 0,.str [],.list true [],.list true []] []) [],oP 24 (.call 12) [.t 16,.t 17,.c (.str [67,97,116]),.t 22,.t 23],vP 3 (.ts 24)]
def d96:=Rg [] [nP 25 3,oP 26 .lenL [.t 25],bP 27 .eql (.t 26) (.c (.int .i64 2)),mP 28 (.t 27),gP 29 .mv [.v 3] 28 true,gP 30 (.iad 2) [.t 29,.c (.int .i64 0)] 28 true,gP 31 (.fad 0) [.t 30] 28 true,gP 32 (.ldSt false 1) [.t 31] 28 true,gP 33 (.bin .eql) [.t 32,.c (.str [110,97,109,101])] 28 true,oP 34 .pick [.t 28,.t 33,.c (.bool false)],mP 35 (.t 34),gP 36 .mv [.v 3] 35 true,gP 37 (.iad 2) [.t 36,.c (.int .i64 0)] 35 true,gP 38 (.fad 1) [.t 37] 35 true,gP 39 (.ldSt false 1) [.t 38] 35 true,gP 40 .lenL [.t 39] 35 true,gP 41 (.bin .eql) [.t 40,.c (.int .i64 2)] 35 true,oP 42 .pick [.t 35,.t 41,.c (.bool false)],mP 43 (.t 42),gP 44 .mv [.v 3] 43 true,gP 45 (.iad 2) [.t 44,.c (.int .i64 1)] 43 true,gP 46 (.fad 0) [.t 45] 43 true,gP 47 (.ldSt false 1) [.t 46] 43 true,gP 48 (.bin .eql) [.t 47,.c (.str [108,105,118,101,115])] 43 true,oP 49 .pick [.t 43,.t 48,.c (.bool false)],vP 0 (.t 49)]
def a9c:ACode :=
  (Sq d6U (Sq e0F (Sq d7P (Sq e0a (Sq d96 .ret)))))
def a9:AFn:={ np:=0,nv:=4,results:=[.v 0],code:=a9c }
def a9v:List Nat:=[0,1,3,6]
def a9b:List Nat:=[2]

def a10s1:=Rg [1] [⟨.bx,.alloc [.list true [],.list true []],[],some 1,none⟩,vP 2 (.c (.int .i64 0)),vP 3 (.c (.int .i64 0))]
def a10s3:=Rg [] [nP 14 0,oP 15 (.call 17) [.t 14],mP 13 (.t 15),oP 16 (.ext 0) [.t 13],oP 17 (.ext 1) [.t 13],oP 18 (.ext 2) [.t 13],vP 4 (.ts 16),vP 5 (.t 17),vP 6 (.t 18)]
def a10s6:=Rg [] [oP 21 (.build [.list true [],.list true []] []) [],nP 22 5,nP 23 6,xP (.stLc 1 2) [.l 1,.ts 21] 1,vP 2 (.t 22),vP 3 (.t 23)]
def a10s8:=Ts [] [nP 19 6,bP 20 .neq (.t 19) (.c (.int .i64 0))] (.t 20) (Sq a10s6 .ret) .skip
def a10s10:=Rg [] [nP 24 4,oP 25 (.build [.list true [],.int .i64 0,.int .i64 0,.int .i64 0,.int .i64 0] [(0,1)]) [.t 24],oP 26 .boxO [.ts 25],vP 7 (.t 26)]
def a10s12:=Rg [8] [⟨.bx,.alloc [.list true [],.list true []],[],some 8,none⟩]
def a10s14:=Rg [] [vP 9 (.c (.bool true))]
def a10s16:=Ts [] [nP 27 9,mP 28 (.t 27),gP 29 .mv [.v 7] 28 false,gP 30 .nilchk [.t 29] 28 false,gP 31 (.fad 4) [.t 30] 28 false,gP 32 (.ldSt false 1) [.t 31] 28 false,gP 33 (.bin .eql) [.t 32,.c (.int .i64 0)] 28 false,gP 34 .mv [.t 33] 28 false,gP 35 .mv [.v 7] 34 true,gP 36 (.call 18) [.t 35,.c (.int .u8 0)] 34 true,gP 37 (.un .not) [.t 36] 34 true,gP 38 .pick [.t 34,.t 37,.c (.bool false)] 28 false,oP 39 .pick [.t 28,.c (.bool true),.t 38]] (.t 39) .skip (.exit 0)
def a10s19:=Rg [] [nP 42 7,oP 43 .nilchk [.t 42],fP 44 1 (.t 43),oP 45 (.ldSt false 1) [.t 44],bP 46 .add (.t 45) (.c (.int .i64 1)),oP 47 .nilchk [.t 42],fP 48 1 (.t 47),op .none (.stSt 1) [.t 48,.t 46]]
def a10s22:=Rg [] [nP 51 7,oP 52 (.call 20) [.t 51,.c (.int .i64 4)]]
def a10s23:=Ts [] [nP 49 7,oP 50 (.call 19) [.t 49,.c (.str [111,110])]] (.t 50) a10s22 .skip
def b5f:=Rg [10] [nP 53 7,oP 54 (.call 21) [.t 53],oP 55 (.build [.str [],.str [],.list true []] [(0,1)]) [.t 54],⟨.bx,.alloc [.str [],.str [],.list true []],[],some 10,none⟩,xP (.stLc 10 3) [.l 10,.ts 55] 10]
def a10s27:=Rg [] [nP 56 7,oP 57 (.call 22) [.t 56,.c (.str [111,110])]]
def a10s29:=Rg [] [nP 58 7,oP 59 (.call 21) [.t 58],fP 60 1 (.l 10),xP (.stLc 10 1) [.t 60,.t 59] 10]
def a10s31:=Rg [] [nP 61 7,oP 62 (.call 23) [.t 61],fP 63 2 (.l 10),xP (.stLc 10 1) [.t 63,.ts 62] 10]
def a10s33:=Rg [] [fP 64 1 (.l 8),⟨.t 65,.ldLcS 8,[.t 64],some 8,none⟩,lP 66 10 true 3 (.l 10),oP 67 (.bslice 3 [[.str [],.str [],.list true []]] [0]) [.t 66],oP 68 (.app 3 56) [.ts 65,.t 67],fP 69 1 (.l 8),xP (.stLc 8 1) [.t 69,.ts 68] 8]
def a10s40:=Sq a10s19 (Sq a10s23 (Sq b5f (Sq a10s27 (Sq a10s29 (Sq a10s31 (Sq a10s33 (.exit 1)))))))
def b4J:=Ts [] [nP 40 7,oP 41 (.call 19) [.t 40,.c (.str [102,114,97,103,109,101,110,116])]] (.t 41) a10s40 .skip
def a10s43:=Rg [11] [⟨.bx,.alloc [.bool false,.str [],.list true [],.list true []],[],some 11,none⟩]
def a10s46:=Rg [] [nP 73 7,oP 74 (.call 25) [.t 73,.c (.str [109,117,116,97,116,105,111,110])],fP 75 0 (.l 11),xP (.stLc 11 1) [.t 75,.t 74] 11]
def a10s49:=Rg [] [nP 79 7,oP 80 (.call 26) [.t 79,.c (.str [113,117,101,114,121])]]
def a10s50:=Ts [] [fP 76 0 (.l 11),lP 77 11 false 1 (.t 76),oP 78 (.un .not) [.t 77]] (.t 78) a10s49 .skip
def a10s53:=Rg [] [nP 83 7,oP 84 (.call 21) [.t 83],fP 85 1 (.l 11),xP (.stLc 11 1) [.t 85,.t 84] 11]
def b5z:=Ts [] [nP 81 7,oP 82 (.call 18) [.t 81,.c (.int .u8 1)]] (.t 82) a10s53 .skip
def a10s57:=Rg [] [fP 88 2 (.l 11),⟨.t 89,.ldLcS 11,[.t 88],some 11,none⟩,nP 90 7,oP 91 (.call 27) [.t 90],oP 92 (.bslice 10 [[.str [],.str [],.list true [],.bool false,.bool false,.int .u8 0,.int .i64 0,.str [],.list true [],.list true []]] [0]) [.t 91],oP 93 (.app 10 152) [.ts 89,.t 92],fP 94 2 (.l 11),xP (.stLc 11 1) [.t 94,.ts 93] 11]
def a10s59:=Ts [] [nP 95 7,oP 96 .nilchk [.t 95],fP 97 4 (.t 96),oP 98 (.ldSt false 1) [.t 97],bP 99 .eql (.t 98) (.c (.int .i64 0)),mP 100 (.t 99),gP 101 .mv [.v 7] 100 true,gP 102 (.call 25) [.t 101,.c (.str [41])] 100 true,gP 103 (.un .not) [.t 102] 100 true,oP 104 .pick [.t 100,.t 103,.c (.bool false)]] (.t 104) .skip (.exit 2)
def a10s61:=Rg [] [fP 105 2 (.l 11),⟨.t 106,.ldLcS 11,[.t 105],some 11,none⟩,nP 107 7,oP 108 (.call 27) [.t 107],oP 109 (.bslice 10 [[.str [],.str [],.list true [],.bool false,.bool false,.int .u8 0,.int .i64 0,.str [],.list true [],.list true []]] [0]) [.t 108],oP 110 (.app 10 152) [.ts 106,.t 109],fP 111 2 (.l 11),xP (.stLc 11 1) [.t 111,.ts 110] 11]
def a10s66:=Sq a10s57 (Bk 2 (Lp (Sq a10s59 (Bk 3 a10s61))))
def a9i:=Ts [] [nP 86 7,oP 87 (.call 25) [.t 86,.c (.str [40])]] (.t 87) a10s66 .skip
def a10s71:=Ts [] [nP 70 7,oP 71 (.call 24) [.t 70,.c (.str [123])],oP 72 (.un .not) [.t 71]] (.t 72) (Sq a10s46 (Sq a10s50 (Sq b5z a9i))) .skip
def a10s73:=Rg [] [nP 112 7,oP 113 (.call 23) [.t 112],fP 114 3 (.l 11),xP (.stLc 11 1) [.t 114,.ts 113] 11]
def a10s75:=Rg [] [fP 115 0 (.l 8),⟨.t 116,.ldLcS 8,[.t 115],some 8,none⟩,lP 117 11 true 4 (.l 11),oP 118 (.bslice 4 [[.bool false,.str [],.list true [],.list true []]] [0]) [.t 117],oP 119 (.app 4 72) [.ts 116,.t 118],fP 120 0 (.l 8),xP (.stLc 8 1) [.t 120,.ts 119] 8]
def a10s82:=Rg [] [vP 9 (.c (.bool false))]
def a10s90:=Rg [] [oP 126 (.build [.list true [],.list true []] []) [],nP 127 7,oP 128 .nilchk [.t 127],fP 129 3 (.t 128),oP 130 (.ldSt false 1) [.t 129],nP 131 7,oP 132 .nilchk [.t 131],fP 133 4 (.t 132),oP 134 (.ldSt false 1) [.t 133],xP (.stLc 1 2) [.l 1,.ts 126] 1,vP 2 (.t 130),vP 3 (.t 134)]
def a10s92:=Ts [] [nP 121 7,oP 122 .nilchk [.t 121],fP 123 4 (.t 122),oP 124 (.ldSt false 1) [.t 123],bP 125 .neq (.t 124) (.c (.int .i64 0))] (.t 125) (Sq a10s90 .ret) .skip
def a10s94:=Rg [] [lP 135 8 true 2 (.l 8),xP (.stLc 1 2) [.l 1,.ts 135] 1,vP 2 (.c (.int .i64 0)),vP 3 (.c (.int .i64 0))]
def a10c:ACode :=
  (Sq a10s1 (Sq a10s3 (Sq a10s8 (Sq a10s10 (Sq a10s12 (Sq (Sq a10s14 (Bk 0 (Lp (Sq a10s16 (Sq (Bk 1 (Sq b4J (Sq a10s43 (Sq a10s71 (Sq a10s73 a10s75))))) a10s82))))) (Sq a10s92 (Sq a10s94 .ret))))))))
def a10:AFn:={ np:=1,nv:=12,results:=[.bx 1 true 2,.v 2,.v 3],code:=a10c }
def d93:List Nat:=[0,2,3,4,5,6,7,8,9,10,11,12]
def d6W:List Nat:=[1,8,10,11]

def d4E:=Rg [] [vP 0 (.c (.nilp)),vP 1 (.c (.nilp))]
def d47:=Rg [] [oP 12 (.call 28) [.c (.str [105,110,116,101,114,102,97,99,101,32,78,97,109,101,100,32,123,32,110,97,109,101,58,32,83,116,114,105,110,103,33,32,125,32,101,110,117,109,32,77,111,111,100,32,123,32,72,65,80,80,89,32,83,65,68,32,125,32,116,121,112,101,32,80,101,114,115,111,110,32,105,109,112,108,101,109,101,110,116,115,32,78,97,109,101,100,32,123,32,110,97,109,101,58,32,83,116,114,105,110,103,33,32,97,103,101,58,32,73,110,116,32,109,111,111,100,58,32,77,111,111,100,32,102,114,105,101,110,100,115,58,32,91,80,101,114,115,111,110,33,93,32,112,101,116,58,32,80,101,116,32,116,97,103,115,58,32,91,83,116,114,105,110,103,93,32,125,32,116,121,112,101,32,67,97,116,32,105,109,112,108,101,109,101,110,116,115,32,78,97,109,101,100,32,123,32,110,97,109,101,58,32,83,116,114,105,110,103,33,32,108,105,118,101,115,58,32,73,110,116,33,32,111,119,110,101,114,58,32,80,101,114,115,111,110,32,125,32,116,121,112,101,32,68,111,103,32,123,32,98,97,114,107,115,58,32,66,111,111,108,101,97,110,32,125,32,117,110,105,111,110,32,80,101,116,32,61,32,67,97,116,32,124,32,68,111,103,32,105,110,112,117,116,32,80,101,114,115,111,110,73,110,32,123,32,110,97,109,101,58,32,83,116,114,105,110,103,32,97,103,101,58,32,73,110,116,32,61,32,55,32,109,111,111,100,58,32,77,111,111,100,32,102,114,105,101,110,100,115,58,32,91,73,68,33,93,32,112,101,116,58,32,73,68,32,116,97,103,115,58,32,91,83,116,114,105,110,103,93,32,125,32,105,110,112,117,116,32,67,97,116,73,110,32,123,32,110,97,109,101,58,32,83,116,114,105,110,103,33,32,108,105,118,101,115,58,32,73,110,116,32,111,119,110,101,114,58,32,73,68,32,125,32,105,110,112,117,116,32,68,111,103,73,110,32,123,32,98,97,114,107,115,58,32,66,111,111,108,101,97,110,32,125,32,116,121,112,101,32,81,117,101,114,121,32,123,32,112,101,114,115,111,110,40,105,100,58,32,73,68,33,41,58,32,80,101,114,115,111,110,32,110,97,109,101,100,40,105,100,58,32,73,68,33,41,58,32,78,97,109,101,100,32,112,101,111,112,108,101,58,32,91,80,101,114,115,111,110,33,93,33,32,112,101,116,115,58,32,91,80,101,116,33,93,33,32,97,108,108,58,32,91,78,97,109,101,100,33,93,33,32,125,32,116,121,112,101,32,77,117,116,97,116,105,111,110,32,123,32,99,114,101,97,116,101,80,101,114,115,111,110,40,105,100,58,32,73,68,33,44,32,105,110,112,117,116,58,32,80,101,114,115,111,110,73,110,33,41,58,32,80,101,114,115,111,110,32,117,112,100,97,116,101,80,101,114,115,111,110,40,105,100,58,32,73,68,33,44,32,105,110,112,117,116,58,32,80,101,114,115,111,110,73,110,33,41,58,32,80,101,114,115,111,110,32,100,101,108,101,116,101,80,101,114,115,111,110,40,105,100,58,32,73,68,33,41,58,32,80,101,114,115,111,110,32,99,114,101,97,116,101,67,97,116,40,105,100,58,32,73,68,33,44,32,105,110,112,117,116,58,32,67,97,116,73,110,33,41,58,32,67,97,116,32,99,114,101,97,116,101,68,111,103,40,105,100,58,32,73,68,33,44,32,105,110,112,117,116,58,32,68,111,103,73,110,33,41,58,32,68,111,103,32,100,101,108,101,116,101,67,97,116,40,105,100,58,32,73,68,33,41,58,32,67,97,116,32,125])],mP 11 (.t 12),oP 13 (.ext 0) [.t 11],oP 14 (.ext 1) [.t 11],oP 15 (.ext 2) [.t 11],vP 2 (.ts 13),mP 3 (.t 14),vP 3 (.t 15)]
def d2J:=Rg [] [vP 0 (.c (.nilp)),vP 1 (.c (.nilp))]
def d2d:=Ts [] [nP 16 3,bP 17 .neq (.t 16) (.c (.int .i64 0))] (.t 17) (Sq d2J .ret) .skip
def c9M:=Rg [] [nP 19 2,oP 20 (.call 29) [.t 19],mP 18 (.t 20),oP 21 (.ext 0) [.t 18],oP 22 (.ext 1) [.t 18],oP 23 (.ext 2) [.t 18],vP 4 (.t 21),mP 6 (.t 22),mP 7 (.t 23)]
def c98:=Rg [] [nP 25 2,oP 26 (.call 30) [.t 25],mP 24 (.t 26),oP 27 (.ext 0) [.t 24],oP 28 (.ext 1) [.t 24],oP 29 (.ext 2) [.t 24],vP 5 (.t 27),mP 9 (.t 28),mP 10 (.t 29)]
def c6r:=Rg [] [nP 30 4,nP 31 5,vP 0 (.t 30),vP 1 (.t 31)]
def d9L:ACode :=
  (Sq d4E (Sq d47 (Sq d2d (Sq c9M (Sq c98 (Sq c6r .ret))))))
def a11:AFn:={ np:=0,nv:=6,results:=[.v 0,.v 1],code:=d9L }
def d7O:List Nat:=[0,1,2,4,5,8]
def d75:List Nat:=[]

def a12s1:=Rg [5,6] [⟨.bx,.boxV,[.v 1],some 5,none⟩,⟨.bx,.boxV,[.v 4],some 6,none⟩,op (.v 7) .mv [.c (.list true [])]]
def a12s3:=Rg [] [nP 12 0,lP 13 5 true 2 (.l 5),nP 14 2,lP 15 6 true 5 (.l 6),oP 16 (.build [.nilp,.list true [],.list true [],.str [],.int .u8 0,.int .i64 0,.str [],.list true [],.list true [],.list true [],.list true []] [(0,1),(1,2),(3,1),(4,5)]) [.t 12,.t 13,.t 14,.t 15],oP 17 .boxO [.ts 16],vP 8 (.t 17)]
def a12s5:=Rg [] [nP 18 8,nP 19 3,oP 20 (.call 31) [.t 18,.t 19]]
def a12s7:=Rg [] [nP 21 8,oP 22 .nilchk [.t 21],fP 23 10 (.t 22),oP 24 (.ldSt false 1) [.t 23],vP 7 (.ts 24)]
def a12c:ACode :=
  (Sq a12s1 (Sq a12s3 (Sq a12s5 (Sq a12s7 .ret))))
def a12:AFn:={ np:=5,nv:=9,results:=[.v 7],code:=a12c }
def d8f:List Nat:=[0,1,2,3,4,6,9,10,11]
def d8a:List Nat:=[5,6]

def a13s1:=Rg [1] [⟨.bx,.boxV,[.v 0],some 1,none⟩,vP 2 (.c (.bool false))]
def a13s3:=Rg [] [lP 3 1 true 5 (.l 1),oP 4 (.call 32) [.t 3,.c (.int .i64 0),.c (.int .i64 3000)],bP 5 .gtr (.t 4) (.c (.int .i64 3000)),vP 2 (.t 5)]
def a13c:ACode :=
  (Sq a13s1 (Sq a13s3 .ret))
def a13:AFn:={ np:=1,nv:=3,results:=[.v 2],code:=a13c }
def d7c:List Nat:=[0,1,2]
def d8o:List Nat:=[1]

def a14s1:=Rg [1] [⟨.bx,.boxV,[.v 0],some 1,none⟩,vP 2 (.c (.bool false))]
def a14s3:=Rg [] [fP 6 0 (.l 1),lP 7 1 false 1 (.t 6),bP 8 .eql (.t 7) (.c (.int .u8 1)),mP 9 (.t 8),gP 10 (.fad 0) [.l 1] 9 false,⟨.t 11,.ldLc 1 false 1,[.t 10],some 1,some (.t 9,false)⟩,gP 12 (.bin .eql) [.t 11,.c (.int .u8 3)] 9 false,gP 13 .mv [.t 12] 9 false,gP 14 (.fad 1) [.l 1] 13 true,⟨.t 15,.ldLc 1 false 1,[.t 14],some 1,some (.t 13,true)⟩,gP 16 (.bin .eql) [.t 15,.c (.int .i64 0)] 13 true,gP 17 .mv [.t 16] 13 true,gP 18 (.fad 1) [.l 1] 17 false,⟨.t 19,.ldLc 1 false 1,[.t 18],some 1,some (.t 17,false)⟩,gP 20 (.bin .eql) [.t 19,.c (.int .i64 1)] 17 false,gP 21 .pick [.t 17,.c (.bool true),.t 20] 13 true,gP 22 .pick [.t 13,.t 21,.c (.bool false)] 9 false,oP 23 .pick [.t 9,.c (.bool true),.t 22],vP 3 (.t 23)]
def a14s5:=Rg [] [fP 24 0 (.l 1),lP 25 1 false 1 (.t 24),bP 26 .eql (.t 25) (.c (.int .u8 2)),mP 27 (.t 26),gP 28 (.fad 0) [.l 1] 27 false,⟨.t 29,.ldLc 1 false 1,[.t 28],some 1,some (.t 27,false)⟩,gP 30 (.bin .eql) [.t 29,.c (.int .u8 4)] 27 false,oP 31 .pick [.t 27,.c (.bool true),.t 30],mP 32 (.t 31),gP 33 (.fad 0) [.l 1] 32 false,⟨.t 34,.ldLc 1 false 1,[.t 33],some 1,some (.t 32,false)⟩,gP 35 (.bin .eql) [.t 34,.c (.int .u8 7)] 32 false,oP 36 .pick [.t 32,.c (.bool true),.t 35],mP 37 (.t 36),gP 38 (.fad 0) [.l 1] 37 false,⟨.t 39,.ldLc 1 false 1,[.t 38],some 1,some (.t 37,false)⟩,gP 40 (.bin .eql) [.t 39,.c (.int .u8 8)] 37 false,oP 41 .pick [.t 37,.c (.bool true),.t 40],vP 4 (.t 41)]
def a14s8:=Rg [] [vP 2 (.c (.bool false))]
def a14s10:=Ts [] [fP 42 0 (.l 1),lP 43 1 false 1 (.t 42),bP 44 .gtr (.t 43) (.c (.int .u8 8)),mP 45 (.t 44),gP 46 .mv [.v 3] 45 false,gP 47 (.un .not) [.t 46] 45 false,gP 48 .mv [.t 47] 45 false,gP 49 (.fad 1) [.l 1] 48 true,⟨.t 50,.ldLc 1 false 1,[.t 49],some 1,some (.t 48,true)⟩,gP 51 (.bin .neq) [.t 50,.c (.int .i64 0)] 48 true,gP 52 .pick [.t 48,.t 51,.c (.bool false)] 45 false,oP 53 .pick [.t 45,.c (.bool true),.t 52],mP 54 (.t 53),gP 55 .mv [.v 4] 54 false,gP 56 (.un .not) [.t 55] 54 false,gP 57 .mv [.t 56] 54 false,gP 58 (.fad 2) [.l 1] 57 true,⟨.t 59,.ldLc 1 false 1,[.t 58],some 1,some (.t 57,true)⟩,gP 60 (.bin .neq) [.t 59,.c (.str [])] 57 true,gP 61 .pick [.t 57,.t 60,.c (.bool false)] 54 false,oP 62 .pick [.t 54,.c (.bool true),.t 61],mP 63 (.t 62),gP 64 (.fad 0) [.l 1] 63 false,⟨.t 65,.ldLc 1 false 1,[.t 64],some 1,some (.t 63,false)⟩,gP 66 (.bin .neq) [.t 65,.c (.int .u8 5)] 63 false,gP 67 .mv [.t 66] 63 false,gP 68 (.fad 0) [.l 1] 67 true,⟨.t 69,.ldLc 1 false 1,[.t 68],some 1,some (.t 67,true)⟩,gP 70 (.bin .neq) [.t 69,.c (.int .u8 6)] 67 true,gP 71 .pick [.t 67,.t 70,.c (.bool false)] 63 false,gP 72 .mv [.t 71] 63 false,gP 73 (.fad 4) [.l 1] 72 true,⟨.t 74,.ldLc 1 false 1,[.t 73],some 1,some (.t 72,true)⟩,gP 75 .lenL [.t 74] 72 true,gP 76 (.bin .gtr) [.t 75,.c (.int .i64 0)] 72 true,gP 77 .pick [.t 72,.t 76,.c (.bool false)] 63 false,oP 78 .pick [.t 63,.c (.bool true),.t 77]] (.t 78) (Sq a14s8 .ret) .skip
def a14s13:=Rg [] [vP 2 (.c (.bool false))]
def a14s15:=Ts [] [fP 79 0 (.l 1),lP 80 1 false 1 (.t 79),bP 81 .eql (.t 80) (.c (.int .u8 6)),mP 82 (.t 81),gP 83 (.fad 3) [.l 1] 82 true,⟨.t 84,.ldLc 1 false 1,[.t 83],some 1,some (.t 82,true)⟩,gP 85 .lenL [.t 84] 82 true,gP 86 (.fad 4) [.l 1] 82 true,⟨.t 87,.ldLc 1 false 1,[.t 86],some 1,some (.t 82,true)⟩,gP 88 .lenL [.t 87] 82 true,gP 89 (.bin .neq) [.t 85,.t 88] 82 true,oP 90 .pick [.t 82,.t 89,.c (.bool false)],mP 91 (.t 90),gP 92 (.fad 0) [.l 1] 91 false,⟨.t 93,.ldLc 1 false 1,[.t 92],some 1,some (.t 91,false)⟩,gP 94 (.bin .neq) [.t 93,.c (.int .u8 6)] 91 false,gP 95 .mv [.t 94] 91 false,gP 96 (.fad 3) [.l 1] 95 true,⟨.t 97,.ldLc 1 false 1,[.t 96],some 1,some (.t 95,true)⟩,gP 98 .lenL [.t 97] 95 true,gP 99 (.bin .gtr) [.t 98,.c (.int .i64 0)] 95 true,gP 100 .pick [.t 95,.t 99,.c (.bool false)] 91 false,oP 101 .pick [.t 91,.c (.bool true),.t 100]] (.t 101) (Sq a14s13 .ret) .skip
def a14s17:=Rg [] [vP 5 (.c (.int .i64 0))]
def a14s19:=Ts [] [nP 102 5,fP 103 4 (.l 1),lP 104 1 false 1 (.t 103),oP 105 .lenL [.t 104],bP 106 .lss (.t 102) (.t 105)] (.t 106) .skip (.exit 0)
def a14s22:=Rg [] [vP 2 (.c (.bool false))]
def a14s24:=Ts [] [fP 109 4 (.l 1),lP 110 1 false 1 (.t 109),nP 111 5,oP 112 (.iad 5) [.t 110,.t 111],oP 113 (.ldRo true 5) [.t 112],oP 114 (.call 14) [.t 113],oP 115 (.un .not) [.t 114]] (.t 115) (Sq a14s22 .ret) .skip
def a14s27:=Rg [] [nP 107 5,bP 108 .add (.t 107) (.c (.int .i64 1)),vP 5 (.t 108)]
def a14s34:=Rg [] [vP 2 (.c (.bool true))]
def a14c:ACode :=
  (Sq a14s1 (Sq a14s3 (Sq a14s5 (Sq a14s10 (Sq a14s15 (Sq (Sq a14s17 (Bk 0 (Lp (Sq a14s19 (Sq (Bk 1 a14s24) a14s27))))) (Sq a14s34 .ret)))))))
def a14:AFn:={ np:=1,nv:=6,results:=[.v 2],code:=a14c }
def d7T:List Nat:=[0,1,2,3,4,5]
def d6D:List Nat:=[1]

def a15s1:=Rg [] [vP 2 (.c (.bool false))]
def a15s4:=Rg [] [vP 2 (.c (.bool false))]
def a15s6:=Ts [] [nP 6 0,oP 7 .lenL [.t 6],nP 8 1,oP 9 .lenL [.t 8],bP 10 .neq (.t 7) (.t 9)] (.t 10) (Sq a15s4 .ret) .skip
def a15s8:=Rg [] [vP 3 (.c (.int .i64 0))]
def a15s10:=Ts [] [nP 11 3,nP 12 0,oP 13 .lenL [.t 12],bP 14 .lss (.t 11) (.t 13)] (.t 14) .skip (.exit 0)
def a15s13:=Rg [] [vP 2 (.c (.bool false))]
def a15s15:=Ts [1000000,1000001,1000002,1000003,1000004,1000005,1000006,1000007,1000008,1000009,1000010,1000011,1000012,1000013,1000014,1000015,1000016,1000018,1000019,1000020,1000021,1000022,1000017,1000023,1000024,1000025,1000026,1000027,1000028,1000029,1000030,1000033,1000034,1000035,1000036,1000031,1000032,1000037,1000038,1000039,1000040] [nP 17 0,nP 18 3,oP 19 (.iad 2) [.t 17,.t 18],fP 20 0 (.t 19),oP 21 (.ldSt false 1) [.t 20],nP 22 1,nP 23 3,oP 24 (.iad 2) [.t 22,.t 23],fP 25 0 (.t 24),oP 26 (.ldSt false 1) [.t 25],bP 27 .neq (.t 21) (.t 26),mP 28 (.t 27),gP 29 .mv [.v 0] 28 false,gP 30 .mv [.v 3] 28 false,gP 31 (.iad 2) [.t 29,.t 30] 28 false,gP 32 (.fad 1) [.t 31] 28 false,gP 33 (.ldSt false 1) [.t 32] 28 false,gP 35 .mv [.v 1] 28 false,gP 36 .mv [.v 3] 28 false,gP 37 (.iad 2) [.t 35,.t 36] 28 false,gP 38 (.fad 1) [.t 37] 28 false,gP 39 (.ldStR false 1) [.t 38,.v 1] 28 false,gP 34 (.callA 33 1) [.t 33,.v 1] 28 false,gP 40 (.call 33) [.t 39] 28 false,gP 41 (.bin .neq) [.t 34,.t 40] 28 false,oP 42 .pick [.t 28,.c (.bool true),.t 41],mP 43 (.t 42),gP 44 .mv [.v 0] 43 false,gP 45 .mv [.v 3] 43 false,gP 46 (.iad 2) [.t 44,.t 45] 43 false,gP 47 (.ldSt true 2) [.t 46] 43 false,gP 50 .mv [.v 1] 43 false,gP 51 .mv [.v 3] 43 false,gP 52 (.iad 2) [.t 50,.t 51] 43 false,gP 53 (.ldStR true 2) [.t 52,.v 1] 43 false,gP 48 (.callA 34 1) [.t 47,.v 1] 43 false,gP 49 (.callA 33 1) [.t 48,.v 1] 43 false,gP 54 (.call 35) [.t 53] 43 false,gP 55 (.call 33) [.t 54] 43 false,gP 56 (.bin .neq) [.t 49,.t 55] 43 false,oP 57 .pick [.t 43,.c (.bool true),.t 56]] (.t 57) (Sq a15s13 .ret) .skip
def a15s18:=Rg [] [nP 15 3,bP 16 .add (.t 15) (.c (.int .i64 1)),vP 3 (.t 16)]
def a15s25:=Rg [] [vP 2 (.c (.bool true))]
def a15c:ACode :=
  (Sq a15s1 (Sq a15s6 (Sq (Sq a15s8 (Bk 0 (Lp (Sq a15s10 (Sq (Bk 1 a15s15) a15s18))))) (Sq a15s25 .ret))))
def a15:AFn:={ np:=2,nv:=4,results:=[.v 2],code:=a15c }
def d7J:List Nat:=[0,1,4,5]
def d8m:List Nat:=[]

def a16s1:=Rg [5,6] [⟨.bx,.boxV,[.v 1],some 5,none⟩,⟨.bx,.boxV,[.v 4],some 6,none⟩,vP 7 (.c (.nils))]
def a16s3:=Rg [] [nP 18 0,lP 19 5 true 2 (.l 5),nP 20 2,nP 21 3,lP 22 6 true 5 (.l 6),oP 23 (.call 36) [.t 18,.t 19,.t 20,.t 21,.t 22,.c (.nils),.c (.nils)],mP 17 (.t 23),oP 24 (.ext 0) [.t 17],oP 25 (.ext 1) [.t 17],vP 8 (.ts 24),mP 12 (.ts 25)]
def a16s5:=Rg [] [vP 9 (.c (.nils))]
def a16s7:=Rg [] [vP 10 (.c (.int .i64 0))]
def a16s9:=Ts [] [nP 26 10,nP 27 8,oP 28 .lenL [.t 27],bP 29 .lss (.t 26) (.t 28)] (.t 29) .skip (.exit 0)
def a16s11:=Rg [] [vP 11 (.c (.int .i64 (-1)))]
def a16s13:=Rg [] [vP 12 (.c (.int .i64 0))]
def a16s15:=Ts [] [nP 32 12,nP 33 9,oP 34 .lenL [.t 33],bP 35 .lss (.t 32) (.t 34)] (.t 35) .skip (.exit 2)
def a16s18:=Rg [] [nP 49 12,vP 11 (.t 49)]
def a16s19:=Ts [] [nP 38 9,nP 39 12,oP 40 (.iad 2) [.t 38,.t 39],fP 41 0 (.t 40),oP 42 (.ldStR false 1) [.t 41,.v 9],nP 43 8,nP 44 10,oP 45 (.iad 7) [.t 43,.t 44],oP 46 (.ldAn true 7) [.t 45],oP 47 (.callA 37 1) [.t 46,.v 9],bP 48 .eql (.t 42) (.t 47)] (.t 48) a16s18 .skip
def a16s22:=Rg [] [nP 36 12,bP 37 .add (.t 36) (.c (.int .i64 1)),vP 12 (.t 37)]
def a16s30:=Rg [] [mP 52 (.vs 9),nP 53 8,nP 54 10,oP 55 (.iad 7) [.t 53,.t 54],oP 56 (.ldAn true 7) [.t 55],oP 57 (.call 37) [.t 56],oP 58 (.build [.str [],.list true []] [(0,1)]) [.t 57],oP 59 (.bsliceM 2 [[.str [],.list true []]] [0]) [.ts 58],oP 60 (.appM 2 40) [.ts 52,.t 59],vP 9 (.ts 60)]
def a16s32:=Rg [] [nP 61 9,oP 62 .lenL [.t 61],bP 63 .sub (.t 62) (.c (.int .i64 1)),vP 11 (.t 63)]
def a16s34:=Ts [] [nP 50 11,bP 51 .lss (.t 50) (.c (.int .i64 0))] (.t 51) (Sq a16s30 a16s32) .skip
def a16s36:=Rg [] [nP 64 9,nP 65 11,oP 66 (.iad 2) [.t 64,.t 65],fP 67 1 (.t 66),oP 68 .ldStS [.t 67],nP 69 8,nP 70 10,oP 71 (.iad 7) [.t 69,.t 70],oP 72 (.ldAn true 7) [.t 71],oP 73 .lenL [.t 68],oP 74 (.bsliceM 7 [[.int .u8 0,.str [],.str [],.str [],.list true [],.list true [],.list true []]] [0]) [.c (.agg [.int .u8 0,.str [],.str [],.str [],.list true [],.list true [],.list true []])],oP 75 (.appM 7 128) [.ts 68,.t 74],oP 76 (.iad 7) [.t 75,.t 73],op .none (.stStA 7) [.t 76,.t 72,.t 75],oP 77 (.iad 2) [.t 64,.t 65],fP 78 1 (.t 77),op .none (.stStA 1) [.t 78,.t 75,.v 9,.t 75]]
def a16s42:=Rg [] [nP 30 10,bP 31 .add (.t 30) (.c (.int .i64 1)),vP 10 (.t 31)]
def a16s49:=Rg [] [nP 79 9,vP 7 (.ts 79)]
def a16c:ACode :=
  (Sq a16s1 (Sq a16s3 (Sq a16s5 (Sq (Sq a16s7 (Bk 0 (Lp (Sq a16s9 (Sq (Bk 1 (Sq a16s11 (Sq (Sq a16s13 (Bk 2 (Lp (Sq a16s15 (Sq (Bk 3 a16s19) a16s22))))) (Sq a16s34 a16s36)))) a16s42))))) (Sq a16s49 .ret)))))
def a16:AFn:={ np:=5,nv:=13,results:=[.v 7],code:=a16c }
def d7R:List Nat:=[0,1,2,3,4,6,9,10,11,13,14,15,16]
def d9e:List Nat:=[5,6]

def a17s1:=Rg [] [op (.v 1) .mv [.c (.list true [])],vP 2 (.c (.int .i64 0)),vP 3 (.c (.int .i64 0))]
def a17s4:=Rg [] [op (.v 1) .mv [.c (.list true [])],vP 2 (.c (.int .i64 0)),vP 3 (.c (.int .i64 2))]
def a17s6:=Ts [] [nP 12 0,oP 13 .lenS [.t 12],bP 14 .gtr (.t 13) (.c (.int .i64 2000))] (.t 14) (Sq a17s4 .ret) .skip
def a17s8:=Rg [] [op (.v 4) .mv [.c (.list true [])]]
def a17s10:=Rg [] [vP 5 (.c (.int .i64 0))]
def a17s12:=Ts [] [nP 15 5,nP 16 0,oP 17 .lenS [.t 16],bP 18 .lss (.t 15) (.t 17)] (.t 18) .skip (.exit 0)
def a17s14:=Rg [] [nP 19 0,nP 20 5,oP 21 .idxS [.t 19,.t 20],vP 6 (.t 21)]
def a17s17:=Rg [] [nP 41 5,bP 42 .add (.t 41) (.c (.int .i64 1)),vP 5 (.t 42)]
def a17s21:=Ts [] [nP 46 5,nP 47 0,oP 48 .lenS [.t 47],bP 49 .lss (.t 46) (.t 48),mP 50 (.t 49),gP 51 .mv [.v 0] 50 true,gP 52 .mv [.v 5] 50 true,gP 53 .idxS [.t 51,.t 52] 50 true,gP 54 (.bin .neq) [.t 53,.c (.int .u8 10)] 50 true,oP 55 .pick [.t 50,.t 54,.c (.bool false)]] (.t 55) .skip (.exit 3)
def a17s23:=Rg [] [nP 56 5,bP 57 .add (.t 56) (.c (.int .i64 1)),vP 5 (.t 57)]
def a17s29:=Ts [] [nP 44 6,bP 45 .eql (.t 44) (.c (.int .u8 35)),mP 43 (.t 45)] (.t 43) (Sq (Bk 3 (Lp (Sq a17s21 (Bk 4 a17s23)))) (.exit 1)) .skip
def a17s30:=Ts [] [nP 23 6,bP 24 .eql (.t 23) (.c (.int .u8 32)),mP 25 (.t 24),gP 26 .mv [.v 6] 25 false,gP 27 (.bin .eql) [.t 26,.c (.int .u8 10)] 25 false,oP 28 .pick [.t 25,.c (.bool true),.t 27],mP 29 (.t 28),gP 30 .mv [.v 6] 29 false,gP 31 (.bin .eql) [.t 30,.c (.int .u8 9)] 29 false,oP 32 .pick [.t 29,.c (.bool true),.t 31],mP 33 (.t 32),gP 34 .mv [.v 6] 33 false,gP 35 (.bin .eql) [.t 34,.c (.int .u8 13)] 33 false,oP 36 .pick [.t 33,.c (.bool true),.t 35],mP 37 (.t 36),gP 38 .mv [.v 6] 37 false,gP 39 (.bin .eql) [.t 38,.c (.int .u8 44)] 37 false,oP 40 .pick [.t 37,.c (.bool true),.t 39],mP 22 (.t 40)] (.t 22) (Sq a17s17 (.exit 1)) a17s29
def a17s33:=Rg [7] [nP 59 0,nP 60 5,oP 61 (.call 38) [.t 59,.t 60],mP 58 (.t 61),oP 62 (.ext 0) [.t 58],oP 63 (.ext 1) [.t 58],oP 64 (.ext 2) [.t 58],oP 65 (.ext 3) [.t 58],⟨.bx,.alloc [.int .u8 0,.str [],.int .i64 0,.int .i64 0],[],some 7,none⟩,xP (.stLc 7 4) [.l 7,.t 62] 7,vP 8 (.t 63),vP 9 (.t 64),vP 10 (.t 65)]
def a17s36:=Rg [] [nP 68 9,nP 69 10,op (.v 1) .mv [.c (.list true [])],vP 2 (.t 68),vP 3 (.t 69)]
def a17s38:=Ts [] [nP 66 10,bP 67 .neq (.t 66) (.c (.int .i64 0))] (.t 67) (Sq a17s36 .ret) .skip
def a17s40:=Rg [] [nP 70 5,fP 71 3 (.l 7),xP (.stLc 7 1) [.t 71,.t 70] 7]
def a17s42:=Rg [] [mP 72 (.vs 4),lP 73 7 true 4 (.l 7),oP 74 (.bslice 4 [[.int .u8 0,.str [],.int .i64 0,.int .i64 0]] [0]) [.t 73],oP 75 (.app 4 40) [.ts 72,.t 74],vP 4 (.ts 75)]
def a17s44:=Rg [] [nP 76 8,vP 5 (.t 76)]
def a17s56:=Rg [] [mP 77 (.vs 4),nP 78 5,oP 79 (.build [.int .u8 0,.str [],.int .i64 0,.int .i64 0] [(3,1)]) [.t 78],oP 80 (.bslice 4 [[.int .u8 0,.str [],.int .i64 0,.int .i64 0]] [0]) [.t 79],oP 81 (.app 4 40) [.ts 77,.t 80],vP 1 (.ts 81),vP 2 (.c (.int .i64 0)),vP 3 (.c (.int .i64 0))]
def a17c:ACode :=
  (Sq a17s1 (Sq a17s6 (Sq a17s8 (Sq a17s10 (Sq (Bk 0 (Lp (Sq a17s12 (Bk 1 (Sq a17s14 (Sq (Bk 2 a17s30) (Sq a17s33 (Sq a17s38 (Sq a17s40 (Sq a17s42 a17s44)))))))))) (Sq a17s56 .ret))))))
def a17:AFn:={ np:=1,nv:=11,results:=[.v 1,.v 2,.v 3],code:=a17c }
def e0o:List Nat:=[0,2,3,4,5,6,7,8,9,10,11]
def d7z:List Nat:=[7]

def a18s1:=Rg [] [vP 2 (.c (.bool false))]
def a18s3:=Rg [] [nP 5 0,oP 6 .nilchk [.t 5],fP 7 4 (.t 6),oP 8 (.ldSt false 1) [.t 7],bP 9 .eql (.t 8) (.c (.int .i64 0)),mP 10 (.t 9),gP 11 .mv [.v 0] 10 true,gP 12 .nilchk [.t 11] 10 true,gP 13 (.fad 0) [.t 12] 10 true,gP 14 (.ldSt false 1) [.t 13] 10 true,gP 15 .mv [.v 0] 10 true,gP 16 .nilchk [.t 15] 10 true,gP 17 (.fad 1) [.t 16] 10 true,gP 18 (.ldSt false 1) [.t 17] 10 true,gP 19 (.iad 4) [.t 14,.t 18] 10 true,gP 20 (.fad 0) [.t 19] 10 true,gP 21 (.ldRo false 1) [.t 20] 10 true,gP 22 .mv [.v 1] 10 true,gP 23 (.bin .eql) [.t 21,.t 22] 10 true,oP 24 .pick [.t 10,.t 23,.c (.bool false)],vP 2 (.t 24)]
def a18c:ACode :=
  (Sq a18s1 (Sq a18s3 .ret))
def a18:AFn:={ np:=2,nv:=3,results:=[.v 2],code:=a18c }
def d8F:List Nat:=[0,1,4]
def d6o:List Nat:=[]

def a19s1:=Rg [] [vP 2 (.c (.bool false))]
def a19s3:=Rg [] [nP 5 0,oP 6 .nilchk [.t 5],fP 7 4 (.t 6),oP 8 (.ldSt false 1) [.t 7],bP 9 .eql (.t 8) (.c (.int .i64 0)),mP 10 (.t 9),gP 11 .mv [.v 0] 10 true,gP 12 .nilchk [.t 11] 10 true,gP 13 (.fad 0) [.t 12] 10 true,gP 14 (.ldSt false 1) [.t 13] 10 true,gP 15 .mv [.v 0] 10 true,gP 16 .nilchk [.t 15] 10 true,gP 17 (.fad 1) [.t 16] 10 true,gP 18 (.ldSt false 1) [.t 17] 10 true,gP 19 (.iad 4) [.t 14,.t 18] 10 true,gP 20 (.fad 0) [.t 19] 10 true,gP 21 (.ldRo false 1) [.t 20] 10 true,gP 22 (.bin .eql) [.t 21,.c (.int .u8 1)] 10 true,oP 23 .pick [.t 10,.t 22,.c (.bool false)],mP 24 (.t 23),gP 25 .mv [.v 0] 24 true,gP 26 .nilchk [.t 25] 24 true,gP 27 (.fad 0) [.t 26] 24 true,gP 28 (.ldSt false 1) [.t 27] 24 true,gP 29 .mv [.v 0] 24 true,gP 30 .nilchk [.t 29] 24 true,gP 31 (.fad 1) [.t 30] 24 true,gP 32 (.ldSt false 1) [.t 31] 24 true,gP 33 (.iad 4) [.t 28,.t 32] 24 true,gP 34 (.fad 1) [.t 33] 24 true,gP 35 (.ldRo false 1) [.t 34] 24 true,gP 36 .mv [.v 1] 24 true,gP 37 (.bin .eql) [.t 35,.t 36] 24 true,oP 38 .pick [.t 24,.t 37,.c (.bool false)],vP 2 (.t 38)]
def a19c:ACode :=
  (Sq a19s1 (Sq a19s3 .ret))
def a19:AFn:={ np:=2,nv:=3,results:=[.v 2],code:=a19c }
def d9P:List Nat:=[0,1,4]
def d9H:List Nat:=[]

def a20s2:=Rg [] [nP 9 0,nP 10 0,oP 11 .nilchk [.t 10],fP 12 0 (.t 11),oP 13 (.ldSt false 1) [.t 12],nP 14 0,oP 15 .nilchk [.t 14],fP 16 1 (.t 15),oP 17 (.ldSt false 1) [.t 16],oP 18 (.iad 4) [.t 13,.t 17],fP 19 3 (.t 18),oP 20 (.ldRo false 1) [.t 19],oP 21 .nilchk [.t 9],fP 22 3 (.t 21),op .none (.stSt 1) [.t 22,.t 20]]
def a20s4:=Rg [] [nP 23 0,nP 24 1,oP 25 .nilchk [.t 23],fP 26 4 (.t 25),op .none (.stSt 1) [.t 26,.t 24]]
def a20s6:=Ts [] [nP 4 0,oP 5 .nilchk [.t 4],fP 6 4 (.t 5),oP 7 (.ldSt false 1) [.t 6],bP 8 .eql (.t 7) (.c (.int .i64 0))] (.t 8) (Sq a20s2 a20s4) .skip
def a20c:ACode :=
  a20s6
def a20:AFn:={ np:=2,nv:=2,results:=[],code:=a20c }
def d8h:List Nat:=[0,1]
def d8i:List Nat:=[]

def a21s1:=Rg [] [op (.v 1) .mv [.c (.str [])]]
def a21s4:=Rg [] [nP 6 0,oP 7 (.call 20) [.t 6,.c (.int .i64 4)]]
def a21s6:=Rg [] [op (.v 1) .mv [.c (.str [])]]
def a21s9:=Ts [] [nP 3 0,oP 4 (.call 18) [.t 3,.c (.int .u8 1)],oP 5 (.un .not) [.t 4]] (.t 5) (Sq a21s4 (Sq a21s6 .ret)) .skip
def a21s11:=Rg [] [nP 8 0,oP 9 .nilchk [.t 8],fP 10 1 (.t 9),oP 11 (.ldSt false 1) [.t 10],bP 12 .add (.t 11) (.c (.int .i64 1)),oP 13 .nilchk [.t 8],fP 14 1 (.t 13),op .none (.stSt 1) [.t 14,.t 12]]
def a21s13:=Rg [] [nP 15 0,oP 16 .nilchk [.t 15],fP 17 0 (.t 16),oP 18 (.ldSt false 1) [.t 17],nP 19 0,oP 20 .nilchk [.t 19],fP 21 1 (.t 20),oP 22 (.ldSt false 1) [.t 21],bP 23 .sub (.t 22) (.c (.int .i64 1)),oP 24 (.iad 4) [.t 18,.t 23],fP 25 1 (.t 24),oP 26 (.ldRo false 1) [.t 25],vP 1 (.t 26)]
def a21c:ACode :=
  (Sq a21s1 (Sq a21s9 (Sq a21s11 (Sq a21s13 .ret))))
def a21:AFn:={ np:=1,nv:=2,results:=[.v 1],code:=a21c }
def d6M:List Nat:=[0,2]
def d9q:List Nat:=[]

def a22s2:=Rg [] [nP 15 0,oP 16 (.call 20) [.t 15,.c (.int .i64 4)]]
def a22s3:=Ts [] [nP 4 0,oP 5 .nilchk [.t 4],fP 6 4 (.t 5),oP 7 (.ldSt false 1) [.t 6],bP 8 .eql (.t 7) (.c (.int .i64 0)),mP 9 (.t 8),gP 10 .mv [.v 0] 9 true,gP 11 .mv [.v 1] 9 true,gP 12 (.call 25) [.t 10,.t 11] 9 true,gP 13 (.un .not) [.t 12] 9 true,oP 14 .pick [.t 9,.t 13,.c (.bool false)]] (.t 14) a22s2 .skip
def a22c:ACode :=
  a22s3
def a22:AFn:={ np:=2,nv:=2,results:=[],code:=a22c }
def e0P:List Nat:=[0,1]
def d8C:List Nat:=[]

def a23s1:=Rg [] [op (.v 1) .mv [.c (.list true [])]]
def a23s3:=Rg [] [op (.v 2) .mv [.c (.list true [])]]
def a23s6:=Rg [] [nP 14 0,oP 15 (.call 22) [.t 14,.c (.str [123])]]
def a23s8:=Ts [] [nP 16 0,oP 17 .nilchk [.t 16],fP 18 4 (.t 17),oP 19 (.ldSt false 1) [.t 18],bP 20 .eql (.t 19) (.c (.int .i64 0))] (.t 20) .skip (.exit 0)
def a23s10:=Rg [3] [nP 21 0,oP 22 (.call 40) [.t 21],⟨.bx,.alloc [.int .u8 0,.str [],.str [],.str [],.list true [],.list true [],.list true []],[],some 3,none⟩,xP (.stLc 3 7) [.l 3,.ts 22] 3]
def a23s12:=Rg [] [mP 23 (.vs 2),lP 24 3 true 7 (.l 3),oP 25 (.bslice 7 [[.int .u8 0,.str [],.str [],.str [],.list true [],.list true [],.list true []]] [0]) [.t 24],oP 26 (.app 7 128) [.ts 23,.t 25],vP 2 (.ts 26)]
def a23s14:=Ts [] [nP 27 0,oP 28 (.call 25) [.t 27,.c (.str [125])]] (.t 28) (.exit 0) .skip
def a23s22:=Ts [] [nP 5 0,oP 6 .nilchk [.t 5],fP 7 4 (.t 6),oP 8 (.ldSt false 1) [.t 7],bP 9 .eql (.t 8) (.c (.int .i64 0)),mP 10 (.t 9),gP 11 .mv [.v 0] 10 true,gP 12 (.call 39) [.t 11] 10 true,oP 13 .pick [.t 10,.t 12,.c (.bool false)]] (.t 13) (Sq a23s6 (Bk 0 (Lp (Sq a23s8 (Bk 1 (Sq a23s10 (Sq a23s12 a23s14))))))) .skip
def a23s24:=Rg [] [nP 29 0,oP 30 .nilchk [.t 29],fP 31 2 (.t 30),oP 32 (.ldSt false 1) [.t 31],bP 33 .sub (.t 32) (.c (.int .i64 1)),oP 34 .nilchk [.t 29],fP 35 2 (.t 34),op .none (.stSt 1) [.t 35,.t 33]]
def a23s26:=Rg [] [nP 36 2,vP 1 (.ts 36)]
def a23c:ACode :=
  (Sq a23s1 (Sq a23s3 (Sq a23s22 (Sq a23s24 (Sq a23s26 .ret)))))
def a23:AFn:={ np:=1,nv:=4,results:=[.v 1],code:=a23c }
def e0u:List Nat:=[0,2,3,4]
def e0g:List Nat:=[3]

def a24s1:=Rg [] [vP 2 (.c (.bool false))]
def a24s3:=Rg [] [nP 5 0,oP 6 .nilchk [.t 5],fP 7 4 (.t 6),oP 8 (.ldSt false 1) [.t 7],bP 9 .eql (.t 8) (.c (.int .i64 0)),mP 10 (.t 9),gP 11 .mv [.v 0] 10 true,gP 12 .nilchk [.t 11] 10 true,gP 13 (.fad 0) [.t 12] 10 true,gP 14 (.ldSt false 1) [.t 13] 10 true,gP 15 .mv [.v 0] 10 true,gP 16 .nilchk [.t 15] 10 true,gP 17 (.fad 1) [.t 16] 10 true,gP 18 (.ldSt false 1) [.t 17] 10 true,gP 19 (.iad 4) [.t 14,.t 18] 10 true,gP 20 (.fad 0) [.t 19] 10 true,gP 21 (.ldRo false 1) [.t 20] 10 true,gP 22 (.bin .eql) [.t 21,.c (.int .u8 4)] 10 true,oP 23 .pick [.t 10,.t 22,.c (.bool false)],mP 24 (.t 23),gP 25 .mv [.v 0] 24 true,gP 26 .nilchk [.t 25] 24 true,gP 27 (.fad 0) [.t 26] 24 true,gP 28 (.ldSt false 1) [.t 27] 24 true,gP 29 .mv [.v 0] 24 true,gP 30 .nilchk [.t 29] 24 true,gP 31 (.fad 1) [.t 30] 24 true,gP 32 (.ldSt false 1) [.t 31] 24 true,gP 33 (.iad 4) [.t 28,.t 32] 24 true,gP 34 (.fad 1) [.t 33] 24 true,gP 35 (.ldRo false 1) [.t 34] 24 true,gP 36 .mv [.v 1] 24 true,gP 37 (.bin .eql) [.t 35,.t 36] 24 true,oP 38 .pick [.t 24,.t 37,.c (.bool false)],vP 2 (.t 38)]
def a24c:ACode :=
  (Sq a24s1 (Sq a24s3 .ret))
def a24:AFn:={ np:=2,nv:=3,results:=[.v 2],code:=a24c }
def d6w:List Nat:=[0,1,4]
def d5O:List Nat:=[]

def a25s1:=Rg [] [vP 2 (.c (.bool false))]
def a25s4:=Rg [] [nP 13 0,oP 14 .nilchk [.t 13],fP 15 1 (.t 14),oP 16 (.ldSt false 1) [.t 15],bP 17 .add (.t 16) (.c (.int .i64 1)),oP 18 .nilchk [.t 13],fP 19 1 (.t 18),op .none (.stSt 1) [.t 19,.t 17]]
def a25s6:=Rg [] [vP 2 (.c (.bool true))]
def a25s9:=Ts [] [nP 5 0,nP 6 1,oP 7 (.call 24) [.t 5,.t 6],mP 8 (.t 7),gP 9 .mv [.v 0] 8 false,gP 10 .mv [.v 1] 8 false,gP 11 (.call 19) [.t 9,.t 10] 8 false,oP 12 .pick [.t 8,.c (.bool true),.t 11]] (.t 12) (Sq a25s4 (Sq a25s6 .ret)) .skip
def a25s11:=Rg [] [vP 2 (.c (.bool false))]
def a25c:ACode :=
  (Sq a25s1 (Sq a25s9 (Sq a25s11 .ret)))
def a25:AFn:={ np:=2,nv:=3,results:=[.v 2],code:=a25c }
def d8A:List Nat:=[0,1,4]
def e00:List Nat:=[]

def a26s2:=Rg [] [nP 15 0,oP 16 (.call 20) [.t 15,.c (.int .i64 4)]]
def a26s4:=Ts [] [nP 4 0,oP 5 .nilchk [.t 4],fP 6 4 (.t 5),oP 7 (.ldSt false 1) [.t 6],bP 8 .eql (.t 7) (.c (.int .i64 0)),mP 9 (.t 8),gP 10 .mv [.v 0] 9 true,gP 11 .mv [.v 1] 9 true,gP 12 (.call 19) [.t 10,.t 11] 9 true,gP 13 (.un .not) [.t 12] 9 true,oP 14 .pick [.t 9,.t 13,.c (.bool false)]] (.t 14) (Sq a26s2 .ret) .skip
def a26s6:=Rg [] [nP 17 0,oP 18 .nilchk [.t 17],fP 19 1 (.t 18),oP 20 (.ldSt false 1) [.t 19],bP 21 .add (.t 20) (.c (.int .i64 1)),oP 22 .nilchk [.t 17],fP 23 1 (.t 22),op .none (.stSt 1) [.t 23,.t 21]]
def a26c:ACode :=
  (Sq a26s4 a26s6)
def a26:AFn:={ np:=2,nv:=2,results:=[],code:=a26c }
def d7u:List Nat:=[0,1]
def d9j:List Nat:=[]

def a27s1:=Rg [1] [⟨.bx,.alloc [.str [],.str [],.list true [],.bool false,.bool false,.int .u8 0,.int .i64 0,.str [],.list true [],.list true []],[],some 1,none⟩]
def a27s3:=Rg [] [nP 4 0,oP 5 (.call 22) [.t 4,.c (.str [36])]]
def a27s5:=Rg [2] [nP 6 0,oP 7 (.call 21) [.t 6],oP 8 (.build [.str [],.str [],.list true [],.bool false,.bool false,.int .u8 0,.int .i64 0,.str [],.list true [],.list true []] [(0,1)]) [.t 7],⟨.bx,.alloc [.str [],.str [],.list true [],.bool false,.bool false,.int .u8 0,.int .i64 0,.str [],.list true [],.list true []],[],some 2,none⟩,xP (.stLc 2 10) [.l 2,.ts 8] 2]
def a27s7:=Rg [] [nP 9 0,oP 10 (.call 22) [.t 9,.c (.str [58])]]
def a27s9:=Rg [] [nP 11 0,oP 12 (.call 41) [.t 11],fP 13 1 (.l 2),xP (.stLc 2 3) [.t 13,.ts 12] 2]
def a27s12:=Rg [] [fP 16 4 (.l 2),xP (.stLc 2 1) [.t 16,.c (.bool true)] 2]
def a27s14:=Rg [] [nP 17 0,oP 18 (.call 42) [.t 17,.c (.bool true)],fP 19 5 (.l 2),xP (.stLc 2 5) [.t 19,.ts 18] 2]
def a27s16:=Ts [] [nP 14 0,oP 15 (.call 25) [.t 14,.c (.str [61])]] (.t 15) (Sq a27s12 a27s14) .skip
def a27s18:=Rg [] [lP 20 2 true 10 (.l 2),xP (.stLc 1 10) [.l 1,.ts 20] 1]
def a27c:ACode :=
  (Sq a27s1 (Sq a27s3 (Sq a27s5 (Sq a27s7 (Sq a27s9 (Sq a27s16 (Sq a27s18 .ret)))))))
def a27:AFn:={ np:=1,nv:=3,results:=[.bx 1 true 10],code:=a27c }
def d7H:List Nat:=[0,2,3]
def d97:List Nat:=[1,2]

def d2j:=Rg [] [op (.v 1) .mv [.c (.list true [])],vP 2 (.c (.int .i64 0)),vP 3 (.c (.int .i64 0))]
def d4Z:=Rg [] [nP 13 0,oP 14 (.call 17) [.t 13],mP 12 (.t 14),oP 15 (.ext 0) [.t 12],oP 16 (.ext 1) [.t 12],oP 17 (.ext 2) [.t 12],vP 4 (.ts 15),vP 5 (.t 16),vP 6 (.t 17)]
def d3Y:=Rg [] [nP 20 5,nP 21 6,op (.v 1) .mv [.c (.list true [])],vP 2 (.t 20),vP 3 (.t 21)]
def d3v:=Ts [] [nP 18 6,bP 19 .neq (.t 18) (.c (.int .i64 0))] (.t 19) (Sq d3Y .ret) .skip
def c8h:=Rg [] [nP 22 4,oP 23 (.build [.list true [],.int .i64 0,.int .i64 0,.int .i64 0,.int .i64 0] [(0,1)]) [.t 22],oP 24 .boxO [.ts 23],vP 7 (.t 24)]
def c3G:=Rg [] [op (.v 8) .mv [.c (.list true [])]]
def c6u:=Rg [] [vP 9 (.c (.bool true))]
def c57:=Ts [] [nP 25 9,mP 26 (.t 25),gP 27 .mv [.v 7] 26 false,gP 28 .nilchk [.t 27] 26 false,gP 29 (.fad 4) [.t 28] 26 false,gP 30 (.ldSt false 1) [.t 29] 26 false,gP 31 (.bin .eql) [.t 30,.c (.int .i64 0)] 26 false,gP 32 .mv [.t 31] 26 false,gP 33 .mv [.v 7] 32 true,gP 34 (.call 18) [.t 33,.c (.int .u8 0)] 32 true,gP 35 (.un .not) [.t 34] 32 true,gP 36 .pick [.t 32,.t 35,.c (.bool false)] 26 false,oP 37 .pick [.t 26,.c (.bool true),.t 36]] (.t 37) .skip (.exit 0)
def c8V:=Rg [10] [nP 38 7,oP 39 (.call 43) [.t 38],⟨.bx,.alloc [.int .u8 0,.str [],.list true [],.list true []],[],some 10,none⟩,xP (.stLc 10 4) [.l 10,.ts 39] 10]
def c7H:=Rg [] [mP 40 (.vs 8),lP 41 10 true 4 (.l 10),oP 42 (.bslice 4 [[.int .u8 0,.str [],.list true [],.list true []]] [0]) [.t 41],oP 43 (.app 4 72) [.ts 40,.t 42],vP 8 (.ts 43)]
def c4Q:=Rg [] [vP 9 (.c (.bool false))]
def d0K:=Rg [] [nP 49 7,oP 50 .nilchk [.t 49],fP 51 3 (.t 50),oP 52 (.ldSt false 1) [.t 51],nP 53 7,oP 54 .nilchk [.t 53],fP 55 4 (.t 54),oP 56 (.ldSt false 1) [.t 55],op (.v 1) .mv [.c (.list true [])],vP 2 (.t 52),vP 3 (.t 56)]
def c6p:=Ts [] [nP 44 7,oP 45 .nilchk [.t 44],fP 46 4 (.t 45),oP 47 (.ldSt false 1) [.t 46],bP 48 .neq (.t 47) (.c (.int .i64 0))] (.t 48) (Sq d0K .ret) .skip
def c8v:=Rg [] [nP 57 8,vP 1 (.ts 57),vP 2 (.c (.int .i64 0)),vP 3 (.c (.int .i64 0))]
def e0j:ACode :=
  (Sq d2j (Sq d4Z (Sq d3v (Sq c8h (Sq c3G (Sq (Sq c6u (Bk 0 (Lp (Sq c57 (Sq (Bk 1 (Sq c8V c7H)) c4Q))))) (Sq c6p (Sq c8v .ret))))))))
def a28:AFn:={ np:=1,nv:=11,results:=[.v 1,.v 2,.v 3],code:=e0j }
def d71:List Nat:=[0,2,3,4,5,6,7,8,9,10,11]
def d8O:List Nat:=[10]

def d4F:=Rg [] [vP 1 (.c (.nilp)),op (.v 2) .mv [.c (.str [])],vP 3 (.c (.int .i64 0))]
def d2k:=Rg [] [nP 18 0,oP 19 (.call 44) [.t 18],oP 20 .mkM [],oP 21 (.build [.list true [],.nilm] [(0,1),(1,1)]) [.t 19,.t 20],oP 22 .boxO [.ts 21],vP 4 (.t 22)]
def d3V:=Rg [] [vP 14 (.v 0),op (.v 15) .lenL [.v 14],vP 16 (.c (.int .i64 0))]
def d2w:=Ts [] [bP 26 .lss (.v 16) (.v 15)] (.t 26) .skip (.exit 0)
def d3J:=Rg [6] [nP 27 16,oP 28 (.iad 4) [.v 14,.v 16],oP 29 (.ldRo true 4) [.t 28],⟨.bx,.alloc [.int .u8 0,.str [],.list true [],.list true []],[],some 6,none⟩,vP 5 (.t 27),xP (.stLc 6 4) [.l 6,.ts 29] 6]
def c4D:=Rg [] [nP 31 4,oP 32 .nilchk [.t 31],fP 33 1 (.t 32),oP 34 (.ldSt false 1) [.t 33],fP 35 1 (.l 6),lP 36 6 false 1 (.t 35),oP 37 (.mget 1 [.int .i64 0] false true) [.t 34,.t 36],mP 30 (.t 37),oP 38 (.ext 0) [.t 30],oP 39 (.ext 1) [.t 30],mP 8 (.t 38),vP 7 (.t 39)]
def c5H:=Rg [] [fP 47 1 (.l 6),lP 48 6 false 1 (.t 47),vP 1 (.c (.nilp)),vP 2 (.t 48),vP 3 (.c (.int .i64 7))]
def d1b:=Ts [] [nP 40 7,mP 41 (.t 40),gP 42 (.slA 4 1 false false) [.c (.ro [.str [66,111,111,108,101,97,110],.str [73,68],.str [73,110,116],.str [83,116,114,105,110,103]])] 41 false,gP 43 (.fad 1) [.l 6] 41 false,⟨.t 44,.ldLc 6 false 1,[.t 43],some 6,some (.t 41,false)⟩,gP 45 (.call 45) [.t 42,.t 44] 41 false,oP 46 .pick [.t 41,.c (.bool true),.t 45]] (.t 46) (Sq c5H .ret) .skip
def d06:=Rg [] [fP 52 1 (.l 6),lP 53 6 false 1 (.t 52),vP 1 (.c (.nilp)),vP 2 (.t 53),vP 3 (.c (.int .i64 1))]
def c5I:=Ts [] [fP 49 1 (.l 6),lP 50 6 false 1 (.t 49),oP 51 (.call 46) [.t 50,.c (.str [95,95])]] (.t 51) (Sq d06 .ret) .skip
def c3x:=Rg [] [nP 54 4,oP 55 .nilchk [.t 54],fP 56 1 (.t 55),oP 57 (.ldSt false 1) [.t 56],fP 58 1 (.l 6),lP 59 6 false 1 (.t 58),nP 60 5,op .none (.mset 1) [.t 57,.t 59,.t 60]]
def d09:=Rg [] [bP 61 .add (.v 16) (.c (.int .i64 1)),vP 16 (.t 61)]
def c5T:=Rg [] [vP 17 (.v 0),op (.v 18) .lenL [.v 17],vP 19 (.c (.int .i64 0))]
def d0u:=Ts [] [bP 65 .lss (.v 19) (.v 18)] (.t 65) .skip (.exit 2)
def c8b:=Rg [8] [oP 66 (.iad 4) [.v 17,.v 19],oP 67 (.ldRo true 4) [.t 66],⟨.bx,.alloc [.int .u8 0,.str [],.list true [],.list true []],[],some 8,none⟩,xP (.stLc 8 4) [.l 8,.ts 67] 8]
def c5c:=Rg [9] [nP 68 4,lP 69 8 true 4 (.l 8),oP 70 (.call 47) [.t 68,.t 69],⟨.bx,.alloc [.int .i64 0,.str []],[],some 9,none⟩,xP (.stLc 9 2) [.l 9,.t 70] 9]
def c6C:=Rg [] [fP 74 1 (.l 9),lP 75 9 false 1 (.t 74),fP 76 0 (.l 9),lP 77 9 false 1 (.t 76),vP 1 (.c (.nilp)),vP 2 (.t 75),vP 3 (.t 77)]
def c9e:=Ts [] [fP 71 0 (.l 9),lP 72 9 false 1 (.t 71),bP 73 .neq (.t 72) (.c (.int .i64 0))] (.t 73) (Sq c6C .ret) .skip
def c7O:=Rg [] [bP 78 .add (.v 19) (.c (.int .i64 1)),vP 19 (.t 78)]
def c5e:=Rg [10] [nP 80 4,oP 81 (.call 48) [.t 80,.c (.str [81,117,101,114,121])],mP 79 (.t 81),oP 82 (.ext 0) [.t 79],oP 83 (.ext 1) [.t 79],⟨.bx,.alloc [.int .u8 0,.str [],.list true [],.list true []],[],some 10,none⟩,xP (.stLc 10 4) [.l 10,.ts 82] 10,vP 11 (.t 83)]
def d1i:=Rg [] [vP 1 (.c (.nilp)),op (.v 2) .mv [.c (.str [81,117,101,114,121])],vP 3 (.c (.int .i64 6))]
def c3y:=Ts [] [nP 84 11,oP 85 (.un .not) [.t 84],mP 86 (.t 85),gP 87 (.fad 0) [.l 10] 86 false,⟨.t 88,.ldLc 10 false 1,[.t 87],some 10,some (.t 86,false)⟩,gP 89 (.bin .neq) [.t 88,.c (.int .u8 1)] 86 false,oP 90 .pick [.t 86,.c (.bool true),.t 89]] (.t 90) (Sq d1i .ret) .skip
def c9R:=Rg [] [vP 20 (.v 0),op (.v 21) .lenL [.v 20],vP 22 (.c (.int .i64 0))]
def c8P:=Ts [] [bP 94 .lss (.v 22) (.v 21)] (.t 94) .skip (.exit 4)
def c4g:=Rg [12] [oP 95 (.iad 4) [.v 20,.v 22],oP 96 (.ldRo true 4) [.t 95],⟨.bx,.alloc [.int .u8 0,.str [],.list true [],.list true []],[],some 12,none⟩,xP (.stLc 12 4) [.l 12,.ts 96] 12]
def c53:=Rg [13] [nP 97 4,lP 98 12 true 4 (.l 12),oP 99 (.call 49) [.t 97,.t 98],⟨.bx,.alloc [.int .i64 0,.str []],[],some 13,none⟩,xP (.stLc 13 2) [.l 13,.t 99] 13]
def c5j:=Rg [] [fP 103 1 (.l 13),lP 104 13 false 1 (.t 103),fP 105 0 (.l 13),lP 106 13 false 1 (.t 105),vP 1 (.c (.nilp)),vP 2 (.t 104),vP 3 (.t 106)]
def c86:=Ts [] [fP 100 0 (.l 13),lP 101 13 false 1 (.t 100),bP 102 .neq (.t 101) (.c (.int .i64 0))] (.t 102) (Sq c5j .ret) .skip
def c3P:=Rg [] [bP 107 .add (.v 22) (.c (.int .i64 1)),vP 22 (.t 107)]
def c4y:=Rg [] [nP 108 4,vP 1 (.t 108),op (.v 2) .mv [.c (.str [])],vP 3 (.c (.int .i64 0))]
def e0y:ACode :=
  (Sq d4F (Sq d2k (Sq (Sq d3V (Bk 0 (Lp (Sq d2w (Sq (Bk 1 (Sq d3J (Sq (Sq c4D d1b) (Sq c5I c3x)))) d09))))) (Sq (Sq c5T (Bk 2 (Lp (Sq d0u (Sq (Bk 3 (Sq c8b (Sq c5c c9e))) c7O))))) (Sq (Sq c5e c3y) (Sq (Sq c9R (Bk 4 (Lp (Sq c8P (Sq (Bk 5 (Sq c4g (Sq c53 c86))) c3P))))) (Sq c4y .ret)))))))
def a29:AFn:={ np:=1,nv:=23,results:=[.v 1,.v 2,.v 3],code:=e0y }
def d51:List Nat:=[0,2,3,4,5,6,7,9,11,12,13,14,16,17,23,24,25,62,63,64,91,92,93]
def d8n:List Nat:=[6,8,9,10,12,13]

def d4j:=Rg [] [vP 1 (.c (.nilp)),op (.v 2) .mv [.c (.str [])],vP 3 (.c (.int .i64 0))]
def d2D:=Rg [] [nP 14 0,oP 15 (.build [.list true []] [(0,1)]) [.t 14],oP 16 .boxO [.ts 15],vP 4 (.t 16)]
def d49:=Rg [] [op (.v 5) .mv [.c (.list true [])]]
def d2H:=Rg [] [vP 6 (.c (.int .i64 0))]
def d4n:=Ts [] [nP 17 6,nP 18 0,oP 19 .lenL [.t 18],bP 20 .lss (.t 17) (.t 19)] (.t 20) .skip (.exit 0)
def c8G:=Rg [] [nP 23 0,nP 24 6,oP 25 (.iad 4) [.t 23,.t 24],fP 26 1 (.t 25),oP 27 (.ldRo false 1) [.t 26],vP 7 (.t 27)]
def c34:=Rg [] [nP 35 7,vP 1 (.c (.nilp)),vP 2 (.t 35),vP 3 (.c (.int .i64 7))]
def d0X:=Ts [] [nP 28 7,oP 29 (.call 50) [.t 28],mP 30 (.t 29),gP 31 .mv [.v 5] 30 false,gP 32 .mv [.v 7] 30 false,gP 33 (.call 51) [.t 31,.t 32] 30 false,oP 34 .pick [.t 30,.c (.bool true),.t 33]] (.t 34) (Sq c34 .ret) .skip
def c5K:=Rg [] [nP 38 7,vP 1 (.c (.nilp)),vP 2 (.t 38),vP 3 (.c (.int .i64 1))]
def d0f:=Ts [] [nP 36 7,oP 37 (.call 52) [.t 36,.c (.str [95,95])]] (.t 37) (Sq c5K .ret) .skip
def c3J:=Rg [] [mP 39 (.vs 5),nP 40 7,oP 41 (.bslice 1 [[.str []]] [0]) [.t 40],oP 42 (.app 1 16) [.ts 39,.t 41],vP 5 (.ts 42)]
def c5v:=Rg [] [nP 21 6,bP 22 .add (.t 21) (.c (.int .i64 1)),vP 6 (.t 22)]
def d07:=Rg [] [vP 8 (.c (.int .i64 0))]
def c3N:=Ts [] [nP 43 8,nP 44 0,oP 45 .lenL [.t 44],bP 46 .lss (.t 43) (.t 45)] (.t 46) .skip (.exit 2)
def c4z:=Rg [] [nP 50 4,nP 51 0,nP 52 8,oP 53 (.iad 4) [.t 51,.t 52],oP 54 (.ldRo true 4) [.t 53],oP 55 (.call 53) [.t 50,.t 54],mP 49 (.t 55),oP 56 (.ext 0) [.t 49],oP 57 (.ext 1) [.t 49],vP 9 (.t 56),vP 10 (.t 57)]
def d0P:=Rg [] [nP 60 9,nP 61 10,vP 1 (.c (.nilp)),vP 2 (.t 60),vP 3 (.t 61)]
def c3E:=Ts [] [nP 58 10,bP 59 .neq (.t 58) (.c (.int .i64 0))] (.t 59) (Sq d0P .ret) .skip
def c9C:=Rg [] [nP 47 8,bP 48 .add (.t 47) (.c (.int .i64 1)),vP 8 (.t 48)]
def c9j:=Rg [] [vP 1 (.c (.nilp)),op (.v 2) .mv [.c (.str [81,117,101,114,121])],vP 3 (.c (.int .i64 6))]
def c74:=Ts [] [nP 62 4,oP 63 (.call 54) [.t 62,.c (.str [81,117,101,114,121])],oP 64 (.fld 0 1 false) [.t 63],bP 65 .neq (.t 64) (.c (.int .u8 1))] (.t 65) (Sq c9j .ret) .skip
def c6f:=Rg [] [vP 11 (.c (.int .i64 0))]
def c5a:=Ts [] [nP 66 11,nP 67 0,oP 68 .lenL [.t 67],bP 69 .lss (.t 66) (.t 68)] (.t 69) .skip (.exit 4)
def c4L:=Ts [] [nP 72 0,nP 73 11,oP 74 (.iad 4) [.t 72,.t 73],fP 75 0 (.t 74),oP 76 (.ldRo false 1) [.t 75],bP 77 .neq (.t 76) (.c (.int .u8 1)),mP 78 (.t 77),gP 79 .mv [.v 0] 78 true,gP 80 .mv [.v 11] 78 true,gP 81 (.iad 4) [.t 79,.t 80] 78 true,gP 82 (.fad 0) [.t 81] 78 true,gP 83 (.ldRo false 1) [.t 82] 78 true,gP 84 (.bin .neq) [.t 83,.c (.int .u8 2)] 78 true,oP 85 .pick [.t 78,.t 84,.c (.bool false)]] (.t 85) (.exit 5) .skip
def c8n:=Rg [] [vP 12 (.c (.int .i64 0))]
def c6A:=Ts [] [nP 86 12,nP 87 0,nP 88 11,oP 89 (.iad 4) [.t 87,.t 88],fP 90 2 (.t 89),oP 91 (.ldRo false 1) [.t 90],oP 92 .lenL [.t 91],bP 93 .lss (.t 86) (.t 92)] (.t 93) .skip (.exit 6)
def c6n:=Rg [] [nP 111 0,nP 112 11,oP 113 (.iad 4) [.t 111,.t 112],fP 114 2 (.t 113),oP 115 (.ldRo false 1) [.t 114],nP 116 12,oP 117 (.iad 11) [.t 115,.t 116],fP 118 0 (.t 117),oP 119 (.ldRo false 1) [.t 118],vP 1 (.c (.nilp)),vP 2 (.t 119),vP 3 (.c (.int .i64 3))]
def d01:=Ts [] [nP 96 4,nP 97 0,nP 98 11,oP 99 (.iad 4) [.t 97,.t 98],oP 100 (.ldRo true 4) [.t 99],nP 101 0,nP 102 11,oP 103 (.iad 4) [.t 101,.t 102],fP 104 2 (.t 103),oP 105 (.ldRo false 1) [.t 104],nP 106 12,oP 107 (.iad 11) [.t 105,.t 106],oP 108 (.ldRo true 11) [.t 107],oP 109 (.call 55) [.t 96,.t 100,.t 108],oP 110 (.un .not) [.t 109]] (.t 110) (Sq c6n .ret) .skip
def c68:=Rg [] [nP 94 12,bP 95 .add (.t 94) (.c (.int .i64 1)),vP 12 (.t 95)]
def c8F:=Rg [] [nP 70 11,bP 71 .add (.t 70) (.c (.int .i64 1)),vP 11 (.t 71)]
def c97:=Rg [] [nP 120 4,vP 1 (.t 120),op (.v 2) .mv [.c (.str [])],vP 3 (.c (.int .i64 0))]
def d5L:ACode :=
  (Sq d4j (Sq d2D (Sq d49 (Sq (Sq d2H (Bk 0 (Lp (Sq d4n (Sq (Bk 1 (Sq c8G (Sq d0X (Sq d0f c3J)))) c5v))))) (Sq (Sq d07 (Bk 2 (Lp (Sq c3N (Sq (Bk 3 (Sq c4z c3E)) c9C))))) (Sq c74 (Sq (Sq c6f (Bk 4 (Lp (Sq c5a (Sq (Bk 5 (Sq c4L (Sq c8n (Bk 6 (Lp (Sq c6A (Sq (Bk 7 d01) c68))))))) c8F))))) (Sq c97 .ret))))))))
def a30:AFn:={ np:=1,nv:=13,results:=[.v 1,.v 2,.v 3],code:=d5L }
def d7V:List Nat:=[0,2,3,4,5,6,7,8,9,10,11,12,13]
def d7M:List Nat:=[]

def a31s1:=Rg [] [vP 4 (.v 1),op (.v 5) .lenL [.v 4],vP 6 (.c (.int .i64 0))]
def a31s3:=Ts [] [bP 10 .lss (.v 6) (.v 5)] (.t 10) .skip (.exit 0)
def a31s5:=Rg [] [oP 11 (.iad 7) [.v 4,.v 6],oP 12 (.ldAn true 7) [.t 11],op (.v 2) (.allocO [.int .u8 0,.str [],.str [],.str [],.list true [],.list true [],.list true []]) [],op .none (.stSt 7) [.v 2,.ts 12]]
def a31s7:=Ts [] [nP 13 0,oP 14 (.ldSt true 7) [.v 2],oP 15 (.call 56) [.t 13,.t 14],oP 16 (.un .not) [.t 15]] (.t 16) (.exit 1) .skip
def a31s9:=Rg [] [fP 17 0 (.v 2),op (.v 7) (.ldSt false 1) [.t 17]]
def a31s12:=Rg [] [nP 34 0,oP 35 (.ldSt true 7) [.v 2],oP 36 (.call 57) [.t 34,.t 35]]
def a31s15:=Rg [] [nP 39 0,oP 40 .nilchk [.t 39],fP 41 1 (.t 40),fP 42 1 (.t 41),oP 43 (.ldSt false 1) [.t 42],oP 44 (.mkF 59 0) [.v 2],oP 45 (.call 58) [.t 43,.t 44],vP 3 (.t 45)]
def a31s17:=Ts [] [nP 46 3,bP 47 .lss (.t 46) (.c (.int .i64 0)),mP 48 (.t 47),gP 49 .mv [.v 0] 48 false,gP 50 .nilchk [.t 49] 48 false,gP 51 (.fad 9) [.t 50] 48 false,gP 52 (.ldSt false 1) [.t 51] 48 false,gP 53 (.fad 2) [.v 2] 48 false,gP 54 (.ldSt false 1) [.t 53] 48 false,gP 55 (.call 45) [.t 52,.t 54] 48 false,oP 56 .pick [.t 48,.c (.bool true),.t 55]] (.t 56) (.exit 1) .skip
def a31s19:=Rg [] [nP 57 0,nP 58 0,oP 59 .nilchk [.t 58],fP 60 9 (.t 59),oP 61 .ldStS [.t 60],fP 62 2 (.v 2),oP 63 (.ldSt false 1) [.t 62],oP 64 (.bslice 1 [[.str []]] [0]) [.t 63],oP 65 (.app 1 16) [.ts 61,.t 64],oP 66 .nilchk [.t 57],fP 67 9 (.t 66),op .none (.stSt 1) [.t 67,.ts 65]]
def a31s22:=Rg [] [nP 79 0,nP 80 0,oP 81 .nilchk [.t 80],fP 82 1 (.t 81),fP 83 1 (.t 82),oP 84 (.ldSt false 1) [.t 83],nP 85 3,oP 86 (.iad 3) [.t 84,.t 85],fP 87 2 (.t 86),oP 88 (.ldRo false 1) [.t 87],oP 89 (.call 31) [.t 79,.t 88]]
def a31s23:=Ts [] [nP 68 0,nP 69 0,oP 70 .nilchk [.t 69],fP 71 1 (.t 70),fP 72 1 (.t 71),oP 73 (.ldSt false 1) [.t 72],nP 74 3,oP 75 (.iad 3) [.t 73,.t 74],fP 76 1 (.t 75),oP 77 (.ldRo false 1) [.t 76],oP 78 (.call 60) [.t 68,.t 77]] (.t 78) a31s22 .skip
def a31s29:=Rg [] [nP 28 0,fP 29 6 (.v 2),oP 30 (.ldSt false 1) [.t 29],oP 31 (.call 31) [.t 28,.t 30]]
def a31s30:=Ts [] [fP 19 3 (.v 2),oP 20 (.ldSt false 1) [.t 19],oP 21 (.bin .eql) [.t 20,.c (.str [])],mP 22 (.t 21),gP 23 .mv [.v 0] 22 false,gP 24 (.fad 3) [.v 2] 22 false,gP 25 (.ldSt false 1) [.t 24] 22 false,gP 26 (.call 60) [.t 23,.t 25] 22 false,oP 27 .pick [.t 22,.c (.bool true),.t 26]] (.t 27) a31s29 .skip
def a31s31:=Ts [] [bP 38 .eql (.v 7) (.c (.int .u8 2)),mP 37 (.t 38)] (.t 37) (Sq a31s15 (Sq a31s17 (Sq a31s19 a31s23))) a31s30
def a31s32:=Ts [] [bP 33 .eql (.v 7) (.c (.int .u8 1)),mP 32 (.t 33)] (.t 32) a31s12 a31s31
def a31s39:=Rg [] [bP 90 .add (.v 6) (.c (.int .i64 1)),vP 6 (.t 90)]
def a31c:ACode :=
  (Sq a31s1 (Bk 0 (Lp (Sq a31s3 (Sq (Bk 1 (Sq a31s5 (Sq a31s7 (Sq a31s9 (Bk 2 a31s32))))) a31s39)))))
def a31:AFn:={ np:=2,nv:=8,results:=[],code:=a31c }
def d7K:List Nat:=[0,1,5,6,7,8,9,18]
def d5Q:List Nat:=[]

def a32s1:=Rg [3] [⟨.bx,.boxV,[.v 0],some 3,none⟩,vP 4 (.c (.int .i64 0))]
def a32s3:=Rg [] [vP 5 (.c (.int .i64 1))]
def a32s6:=Rg [] [nP 11 2,bP 12 .add (.t 11) (.c (.int .i64 1)),vP 4 (.t 12)]
def a32s8:=Ts [] [nP 9 1,bP 10 .gtr (.t 9) (.c (.int .i64 60))] (.t 10) (Sq a32s6 .ret) .skip
def a32s11:=Rg [] [nP 25 2,bP 26 .add (.t 25) (.c (.int .i64 1)),vP 4 (.t 26)]
def a32s13:=Ts [] [fP 13 3 (.l 3),lP 14 3 false 1 (.t 13),oP 15 .lenL [.t 14],nP 16 2,bP 17 .gtr (.t 15) (.t 16),mP 18 (.t 17),gP 19 (.fad 4) [.l 3] 18 false,⟨.t 20,.ldLc 3 false 1,[.t 19],some 3,some (.t 18,false)⟩,gP 21 .lenL [.t 20] 18 false,gP 22 .mv [.v 2] 18 false,gP 23 (.bin .gtr) [.t 21,.t 22] 18 false,oP 24 .pick [.t 18,.c (.bool true),.t 23]] (.t 24) (Sq a32s11 .ret) .skip
def a32s15:=Rg [] [vP 6 (.c (.int .i64 0))]
def a32s17:=Ts [] [nP 27 6,fP 28 4 (.l 3),lP 29 3 false 1 (.t 28),oP 30 .lenL [.t 29],bP 31 .lss (.t 27) (.t 30),mP 32 (.t 31),gP 33 .mv [.v 5] 32 true,gP 34 .mv [.v 2] 32 true,gP 35 (.bin .leq) [.t 33,.t 34] 32 true,oP 36 .pick [.t 32,.t 35,.c (.bool false)]] (.t 36) .skip (.exit 0)
def a32s19:=Rg [] [nP 39 5,fP 40 4 (.l 3),lP 41 3 false 1 (.t 40),nP 42 6,oP 43 (.iad 5) [.t 41,.t 42],oP 44 (.ldRo true 5) [.t 43],nP 45 1,bP 46 .add (.t 45) (.c (.int .i64 1)),nP 47 2,nP 48 5,bP 49 .sub (.t 47) (.t 48),oP 50 (.call 32) [.t 44,.t 46,.t 49],bP 51 .add (.t 39) (.t 50),vP 5 (.t 51)]
def a32s22:=Rg [] [nP 37 6,bP 38 .add (.t 37) (.c (.int .i64 1)),vP 6 (.t 38)]
def a32s29:=Rg [] [nP 52 5,vP 4 (.t 52)]
def a32c:ACode :=
  (Sq a32s1 (Sq a32s3 (Sq a32s8 (Sq a32s13 (Sq (Sq a32s15 (Bk 0 (Lp (Sq a32s17 (Sq (Bk 1 a32s19) a32s22))))) (Sq a32s29 .ret))))))
def a32:AFn:={ np:=3,nv:=7,results:=[.v 4],code:=a32c }
def d6H:List Nat:=[0,1,2,3,6,7,8]
def d7E:List Nat:=[3]

def a33s1:=Rg [] [op (.v 1) .mv [.c (.str [])]]
def a33s3:=Rg [] [op (.v 2) .mv [.c (.str [])]]
def a33s5:=Rg [] [vP 3 (.c (.int .i64 0))]
def a33s7:=Ts [] [nP 5 3,nP 6 0,oP 7 .lenL [.t 6],bP 8 .lss (.t 5) (.t 7)] (.t 8) .skip (.exit 0)
def a33s9:=Rg [] [nP 11 2,nP 12 0,nP 13 3,oP 14 (.iad 7) [.t 12,.t 13],oP 15 (.ldAn true 7) [.t 14],oP 16 (.call 61) [.t 15],oP 17 (.bin .add) [.t 16,.c (.str [10])],bP 18 .add (.t 11) (.t 17),vP 2 (.t 18)]
def a33s12:=Rg [] [nP 9 3,bP 10 .add (.t 9) (.c (.int .i64 1)),vP 3 (.t 10)]
def a33s19:=Rg [] [nP 19 2,vP 1 (.t 19)]
def a33c:ACode :=
  (Sq a33s1 (Sq a33s3 (Sq (Sq a33s5 (Bk 0 (Lp (Sq a33s7 (Sq (Bk 1 a33s9) a33s12))))) (Sq a33s19 .ret))))
def a33:AFn:={ np:=1,nv:=4,results:=[.v 1],code:=a33c }
def d9l:List Nat:=[0,2,3,4]
def d9z:List Nat:=[]

def a34s1:=Rg [1] [⟨.bx,.boxV,[.v 0],some 1,none⟩,op (.v 2) .mv [.c (.list true [])]]
def a34s3:=Rg [] [op (.v 3) .mv [.c (.list true [])]]
def a34s5:=Rg [] [fP 6 1 (.l 1),⟨.v 5,.ldLc 1 false 1,[.t 6],some 1,none⟩,op (.v 6) .lenL [.v 5],vP 7 (.c (.int .i64 0))]
def a34s7:=Ts [] [bP 10 .lss (.v 7) (.v 6)] (.t 10) .skip (.exit 0)
def a34s9:=Rg [4] [oP 11 (.iad 7) [.v 5,.v 7],oP 12 (.ldAn true 7) [.t 11],⟨.bx,.alloc [.int .u8 0,.str [],.str [],.str [],.list true [],.list true [],.list true []],[],some 4,none⟩,xP (.stLc 4 7) [.l 4,.ts 12] 4]
def a34s11:=Rg [] [mP 13 (.vs 3),fP 14 6 (.l 4),lP 15 4 false 1 (.t 14),oP 16 (.app 7 128) [.ts 13,.t 15],vP 3 (.ts 16)]
def a34s15:=Rg [] [bP 17 .add (.v 7) (.c (.int .i64 1)),vP 7 (.t 17)]
def a34s22:=Rg [] [nP 18 3,vP 2 (.ts 18)]
def a34c:ACode :=
  (Sq a34s1 (Sq a34s3 (Sq (Sq a34s5 (Bk 0 (Lp (Sq a34s7 (Sq (Bk 1 (Sq a34s9 a34s11)) a34s15))))) (Sq a34s22 .ret))))
def a34:AFn:={ np:=1,nv:=8,results:=[.v 2],code:=a34c }
def d66:List Nat:=[0,1,2,3,5,7,8,9]
def d78:List Nat:=[1,4]

def a35s1:=Rg [1] [⟨.bx,.boxV,[.v 0],some 1,none⟩,op (.v 2) .mv [.c (.list true [])]]
def a35s3:=Rg [] [op (.v 3) .mv [.c (.list true [])]]
def a35s5:=Rg [] [vP 4 (.c (.int .i64 0))]
def a35s7:=Ts [] [nP 5 4,fP 6 1 (.l 1),lP 7 1 false 1 (.t 6),oP 8 .lenL [.t 7],bP 9 .lss (.t 5) (.t 8)] (.t 9) .skip (.exit 0)
def a35s9:=Rg [] [mP 12 (.vs 3),fP 13 1 (.l 1),lP 14 1 false 1 (.t 13),nP 15 4,oP 16 (.iad 7) [.t 14,.t 15],fP 17 6 (.t 16),oP 18 (.ldAn false 1) [.t 17],oP 19 (.app 7 128) [.ts 12,.t 18],vP 3 (.ts 19)]
def a35s12:=Rg [] [nP 10 4,bP 11 .add (.t 10) (.c (.int .i64 1)),vP 4 (.t 11)]
def a35s19:=Rg [] [nP 20 3,vP 2 (.ts 20)]
def a35c:ACode :=
  (Sq a35s1 (Sq a35s3 (Sq (Sq a35s5 (Bk 0 (Lp (Sq a35s7 (Sq (Bk 1 a35s9) a35s12))))) (Sq a35s19 .ret))))
def a35:AFn:={ np:=1,nv:=5,results:=[.v 2],code:=a35c }
def d8c:List Nat:=[0,1,2,3,4]
def d8U:List Nat:=[1]

def a36s1:=Rg [7,8] [⟨.bx,.boxV,[.v 1],some 7,none⟩,⟨.bx,.boxV,[.v 4],some 8,none⟩,vP 9 (.c (.nils)),vP 10 (.c (.nils))]
def a36s3:=Rg [] [vP 11 (.c (.int .i64 0))]
def a36s5:=Ts [] [nP 22 11,nP 23 3,oP 24 .lenL [.t 23],bP 25 .lss (.t 22) (.t 24)] (.t 25) .skip (.exit 0)
def a36s7:=Rg [12] [nP 28 3,nP 29 11,oP 30 (.iad 7) [.t 28,.t 29],oP 31 (.ldAn true 7) [.t 30],⟨.bx,.alloc [.int .u8 0,.str [],.str [],.str [],.list true [],.list true [],.list true []],[],some 12,none⟩,xP (.stLc 12 7) [.l 12,.ts 31] 12]
def a36s9:=Ts [] [lP 32 12 true 7 (.l 12),lP 33 8 true 5 (.l 8),oP 34 (.call 62) [.t 32,.t 33],oP 35 (.un .not) [.t 34]] (.t 35) (.exit 1) .skip
def a36s12:=Rg [] [mP 39 (.vs 5),lP 40 12 true 7 (.l 12),oP 41 (.bsliceM 7 [[.int .u8 0,.str [],.str [],.str [],.list true [],.list true [],.list true []]] [0]) [.ts 40],oP 42 (.appM 7 128) [.ts 39,.t 41],vP 5 (.ts 42)]
def a36s14:=Ts [] [fP 36 0 (.l 12),lP 37 12 false 1 (.t 36),bP 38 .eql (.t 37) (.c (.int .u8 1))] (.t 38) (Sq a36s12 (.exit 1)) .skip
def a36s16:=Rg [] [fP 43 3 (.l 12),lP 44 12 false 1 (.t 43),vP 13 (.t 44)]
def a36s18:=Rg [] [fP 45 6 (.l 12),lP 46 12 false 1 (.t 45),vP 14 (.ts 46)]
def a36s21:=Ts [] [nP 50 6,fP 51 2 (.l 12),lP 52 12 false 1 (.t 51),oP 53 (.call 51) [.t 50,.t 52]] (.t 53) (.exit 1) .skip
def a36s23:=Rg [] [vP 15 (.c (.bool false))]
def a36s25:=Rg [] [fP 54 1 (.l 7),lP 55 7 false 1 (.t 54),oP 56 .lenL [.t 55],bP 57 .sub (.t 56) (.c (.int .i64 1)),vP 16 (.t 57)]
def a36s27:=Ts [] [nP 58 16,bP 59 .geq (.t 58) (.c (.int .i64 0))] (.t 59) .skip (.exit 2)
def a36s30:=Rg [] [vP 15 (.c (.bool true))]
def a36s32:=Rg [] [fP 71 1 (.l 7),lP 72 7 false 1 (.t 71),nP 73 16,oP 74 (.iad 3) [.t 72,.t 73],fP 75 1 (.t 74),oP 76 (.ldRo false 1) [.t 75],vP 13 (.t 76)]
def a36s34:=Rg [] [fP 77 1 (.l 7),lP 78 7 false 1 (.t 77),nP 79 16,oP 80 (.iad 3) [.t 78,.t 79],fP 81 2 (.t 80),oP 82 (.ldRo false 1) [.t 81],vP 14 (.ts 82)]
def a36s37:=Ts [] [fP 62 1 (.l 7),lP 63 7 false 1 (.t 62),nP 64 16,oP 65 (.iad 3) [.t 63,.t 64],fP 66 0 (.t 65),oP 67 (.ldRo false 1) [.t 66],fP 68 2 (.l 12),lP 69 12 false 1 (.t 68),bP 70 .eql (.t 67) (.t 69)] (.t 70) (Sq a36s30 (Sq a36s32 a36s34)) .skip
def a36s40:=Rg [] [nP 60 16,bP 61 .sub (.t 60) (.c (.int .i64 1)),vP 16 (.t 61)]
def a36s47:=Ts [] [nP 83 15,oP 84 (.un .not) [.t 83]] (.t 84) (.exit 1) .skip
def a36s49:=Rg [] [mP 85 (.vs 6),fP 86 2 (.l 12),lP 87 12 false 1 (.t 86),oP 88 (.bsliceM 1 [[.str []]] [0]) [.t 87],oP 89 (.appM 1 16) [.ts 85,.t 88],vP 6 (.ts 89)]
def a36s54:=Ts [] [fP 47 0 (.l 12),lP 48 12 false 1 (.t 47),bP 49 .eql (.t 48) (.c (.int .u8 2))] (.t 49) (Sq a36s21 (Sq a36s23 (Sq (Sq a36s25 (Bk 2 (Lp (Sq a36s27 (Sq (Bk 3 a36s37) a36s40))))) (Sq a36s47 a36s49)))) .skip
def a36s57:=Rg [] [nP 110 0,lP 111 7 true 2 (.l 7),nP 112 2,nP 113 14,lP 114 8 true 5 (.l 8),nP 115 5,nP 116 6,oP 117 (.call 36) [.t 110,.t 111,.t 112,.t 113,.t 114,.t 115,.t 116],mP 109 (.t 117),oP 118 (.ext 0) [.t 109],oP 119 (.ext 1) [.t 109],vP 5 (.ts 118),vP 6 (.ts 119)]
def a36s58:=Ts [] [nP 90 13,nP 91 2,bP 92 .eql (.t 90) (.t 91),mP 93 (.t 92),gP 94 .mv [.v 0] 93 false,gP 95 .mv [.v 13] 93 false,gP 96 (.call 63) [.t 94,.t 95] 93 false,gP 97 .mv [.v 2] 93 false,gP 98 (.call 51) [.t 96,.t 97] 93 false,oP 99 .pick [.t 93,.c (.bool true),.t 98],mP 100 (.t 99),gP 101 .mv [.v 13] 100 false,gP 102 (.bin .eql) [.t 101,.c (.str [])] 100 false,gP 103 .mv [.t 102] 100 false,gP 104 (.fad 0) [.l 12] 103 true,⟨.t 105,.ldLc 12 false 1,[.t 104],some 12,some (.t 103,true)⟩,gP 106 (.bin .eql) [.t 105,.c (.int .u8 3)] 103 true,gP 107 .pick [.t 103,.t 106,.c (.bool false)] 100 false,oP 108 .pick [.t 100,.c (.bool true),.t 107]] (.t 108) a36s57 .skip
def a36s67:=Rg [] [nP 26 11,bP 27 .add (.t 26) (.c (.int .i64 1)),vP 11 (.t 27)]
def a36s74:=Rg [] [nP 120 5,nP 121 6,vP 9 (.ts 120),vP 10 (.ts 121)]
def a36c:ACode :=
  (Sq a36s1 (Sq (Sq a36s3 (Bk 0 (Lp (Sq a36s5 (Sq (Bk 1 (Sq a36s7 (Sq a36s9 (Sq a36s14 (Sq a36s16 (Sq a36s18 (Sq a36s54 a36s58))))))) a36s67))))) (Sq a36s74 .ret)))
def a36:AFn:={ np:=7,nv:=17,results:=[.v 9,.v 10],code:=a36c }
def d88:List Nat:=[0,1,2,3,4,5,6,8,11,14,15,16,17,18,19,20,21]
def d5R:List Nat:=[7,8,12]

def a37s1:=Rg [1] [⟨.bx,.boxV,[.v 0],some 1,none⟩,op (.v 2) .mv [.c (.str [])]]
def a37s4:=Rg [] [fP 6 2 (.l 1),lP 7 1 false 1 (.t 6),vP 2 (.t 7)]
def a37s6:=Ts [] [fP 3 1 (.l 1),lP 4 1 false 1 (.t 3),oP 5 (.bin .eql) [.t 4,.c (.str [])]] (.t 5) (Sq a37s4 .ret) .skip
def a37s8:=Rg [] [fP 8 1 (.l 1),lP 9 1 false 1 (.t 8),vP 2 (.t 9)]
def a37c:ACode :=
  (Sq a37s1 (Sq a37s6 (Sq a37s8 .ret)))
def a37:AFn:={ np:=1,nv:=3,results:=[.v 2],code:=a37c }
def d9W:List Nat:=[0,1,2]
def d8R:List Nat:=[1]

def a38s1:=Rg [2] [⟨.bx,.alloc [.int .u8 0,.str [],.int .i64 0,.int .i64 0],[],some 2,none⟩,vP 3 (.c (.int .i64 0)),vP 4 (.c (.int .i64 0)),vP 5 (.c (.int .i64 0))]
def a38s3:=Rg [] [nP 10 0,nP 11 1,oP 12 .idxS [.t 10,.t 11],vP 6 (.t 12)]
def a38s5:=Rg [] [nP 13 1,vP 7 (.t 13)]
def a38s8:=Ts [] [nP 17 7,nP 18 0,oP 19 .lenS [.t 18],bP 20 .lss (.t 17) (.t 19),mP 21 (.t 20),gP 22 .mv [.v 0] 21 true,gP 23 .mv [.v 7] 21 true,gP 24 .idxS [.t 22,.t 23] 21 true,gP 25 (.call 64) [.t 24] 21 true,gP 26 .mv [.t 25] 21 true,gP 27 .mv [.v 0] 26 false,gP 28 .mv [.v 7] 26 false,gP 29 .idxS [.t 27,.t 28] 26 false,gP 30 (.call 65) [.t 29] 26 false,gP 31 .pick [.t 26,.c (.bool true),.t 30] 21 true,oP 32 .pick [.t 21,.t 31,.c (.bool false)]] (.t 32) .skip (.exit 1)
def a38s10:=Rg [] [nP 33 7,bP 34 .add (.t 33) (.c (.int .i64 1)),vP 7 (.t 34)]
def a38s17:=Rg [] [oP 39 (.build [.int .u8 0,.str [],.int .i64 0,.int .i64 0] []) [],nP 40 1,xP (.stLc 2 4) [.l 2,.t 39] 2,vP 3 (.c (.int .i64 0)),vP 4 (.t 40),vP 5 (.c (.int .i64 2))]
def a38s19:=Ts [] [nP 35 7,nP 36 1,bP 37 .sub (.t 35) (.t 36),bP 38 .gtr (.t 37) (.c (.int .i64 32))] (.t 38) (Sq a38s17 .ret) .skip
def a38s21:=Rg [] [nP 41 0,nP 42 1,nP 43 7,oP 44 (.slS true true) [.t 41,.t 42,.t 43],oP 45 (.build [.int .u8 0,.str [],.int .i64 0,.int .i64 0] [(0,1),(1,1)]) [.c (.int .u8 1),.t 44],nP 46 7,xP (.stLc 2 4) [.l 2,.t 45] 2,vP 3 (.t 46),vP 4 (.c (.int .i64 0)),vP 5 (.c (.int .i64 0))]
def a38s27:=Rg [] [nP 54 0,nP 55 1,oP 56 (.call 66) [.t 54,.t 55],oP 57 (.ext 0) [.t 56],oP 58 (.ext 1) [.t 56],oP 59 (.ext 2) [.t 56],oP 60 (.ext 3) [.t 56],xP (.stLc 2 4) [.l 2,.t 57] 2,vP 3 (.t 58),vP 4 (.t 59),vP 5 (.t 60)]
def a38s28:=Sq a38s27 .ret
def a38s31:=Rg [] [nP 64 0,nP 65 1,oP 66 (.call 67) [.t 64,.t 65],oP 67 (.ext 0) [.t 66],oP 68 (.ext 1) [.t 66],oP 69 (.ext 2) [.t 66],oP 70 (.ext 3) [.t 66],xP (.stLc 2 4) [.l 2,.t 67] 2,vP 3 (.t 68),vP 4 (.t 69),vP 5 (.t 70)]
def a38s36:=Rg [] [oP 93 (.build [.int .u8 0,.str [],.int .i64 0,.int .i64 0] [(0,1),(1,1)]) [.c (.int .u8 4),.c (.str [46,46,46])],nP 94 1,bP 95 .add (.t 94) (.c (.int .i64 3)),xP (.stLc 2 4) [.l 2,.t 93] 2,vP 3 (.t 95),vP 4 (.c (.int .i64 0)),vP 5 (.c (.int .i64 0))]
def a38s38:=Ts [] [nP 74 0,oP 75 .lenS [.t 74],nP 76 1,bP 77 .sub (.t 75) (.t 76),bP 78 .geq (.t 77) (.c (.int .i64 3)),mP 79 (.t 78),gP 80 .mv [.v 0] 79 true,gP 81 .mv [.v 1] 79 true,gP 82 (.bin .add) [.t 81,.c (.int .i64 1)] 79 true,gP 83 .idxS [.t 80,.t 82] 79 true,gP 84 (.bin .eql) [.t 83,.c (.int .u8 46)] 79 true,oP 85 .pick [.t 79,.t 84,.c (.bool false)],mP 86 (.t 85),gP 87 .mv [.v 0] 86 true,gP 88 .mv [.v 1] 86 true,gP 89 (.bin .add) [.t 88,.c (.int .i64 2)] 86 true,gP 90 .idxS [.t 87,.t 89] 86 true,gP 91 (.bin .eql) [.t 90,.c (.int .u8 46)] 86 true,oP 92 .pick [.t 86,.t 91,.c (.bool false)]] (.t 92) (Sq a38s36 .ret) .skip
def a38s40:=Rg [] [oP 96 (.build [.int .u8 0,.str [],.int .i64 0,.int .i64 0] []) [],nP 97 1,xP (.stLc 2 4) [.l 2,.t 96] 2,vP 3 (.c (.int .i64 0)),vP 4 (.t 97),vP 5 (.c (.int .i64 4))]
def a38s45:=Rg [] [nP 149 0,nP 150 1,nP 151 1,bP 152 .add (.t 151) (.c (.int .i64 1)),oP 153 (.slS true true) [.t 149,.t 150,.t 152],oP 154 (.build [.int .u8 0,.str [],.int .i64 0,.int .i64 0] [(0,1),(1,1)]) [.c (.int .u8 4),.t 153],nP 155 1,bP 156 .add (.t 155) (.c (.int .i64 1)),xP (.stLc 2 4) [.l 2,.t 154] 2,vP 3 (.t 156),vP 4 (.c (.int .i64 0)),vP 5 (.c (.int .i64 0))]
def a38s47:=Ts [] [nP 99 6,bP 100 .eql (.t 99) (.c (.int .u8 33)),mP 101 (.t 100),gP 102 .mv [.v 6] 101 false,gP 103 (.bin .eql) [.t 102,.c (.int .u8 36)] 101 false,oP 104 .pick [.t 101,.c (.bool true),.t 103],mP 105 (.t 104),gP 106 .mv [.v 6] 105 false,gP 107 (.bin .eql) [.t 106,.c (.int .u8 40)] 105 false,oP 108 .pick [.t 105,.c (.bool true),.t 107],mP 109 (.t 108),gP 110 .mv [.v 6] 109 false,gP 111 (.bin .eql) [.t 110,.c (.int .u8 41)] 109 false,oP 112 .pick [.t 109,.c (.bool true),.t 111],mP 113 (.t 112),gP 114 .mv [.v 6] 113 false,gP 115 (.bin .eql) [.t 114,.c (.int .u8 58)] 113 false,oP 116 .pick [.t 113,.c (.bool true),.t 115],mP 117 (.t 116),gP 118 .mv [.v 6] 117 false,gP 119 (.bin .eql) [.t 118,.c (.int .u8 61)] 117 false,oP 120 .pick [.t 117,.c (.bool true),.t 119],mP 121 (.t 120),gP 122 .mv [.v 6] 121 false,gP 123 (.bin .eql) [.t 122,.c (.int .u8 64)] 121 false,oP 124 .pick [.t 121,.c (.bool true),.t 123],mP 125 (.t 124),gP 126 .mv [.v 6] 125 false,gP 127 (.bin .eql) [.t 126,.c (.int .u8 91)] 125 false,oP 128 .pick [.t 125,.c (.bool true),.t 127],mP 129 (.t 128),gP 130 .mv [.v 6] 129 false,gP 131 (.bin .eql) [.t 130,.c (.int .u8 93)] 129 false,oP 132 .pick [.t 129,.c (.bool true),.t 131],mP 133 (.t 132),gP 134 .mv [.v 6] 133 false,gP 135 (.bin .eql) [.t 134,.c (.int .u8 123)] 133 false,oP 136 .pick [.t 133,.c (.bool true),.t 135],mP 137 (.t 136),gP 138 .mv [.v 6] 137 false,gP 139 (.bin .eql) [.t 138,.c (.int .u8 124)] 137 false,oP 140 .pick [.t 137,.c (.bool true),.t 139],mP 141 (.t 140),gP 142 .mv [.v 6] 141 false,gP 143 (.bin .eql) [.t 142,.c (.int .u8 125)] 141 false,oP 144 .pick [.t 141,.c (.bool true),.t 143],mP 145 (.t 144),gP 146 .mv [.v 6] 145 false,gP 147 (.bin .eql) [.t 146,.c (.int .u8 38)] 145 false,oP 148 .pick [.t 145,.c (.bool true),.t 147],mP 98 (.t 148)] (.t 98) (Sq a38s45 .ret) .skip
def a38s48:=Ts [] [nP 72 6,bP 73 .eql (.t 72) (.c (.int .u8 46)),mP 71 (.t 73)] (.t 71) (Sq a38s38 (Sq a38s40 .ret)) a38s47
def a38s49:=Ts [] [nP 62 6,bP 63 .eql (.t 62) (.c (.int .u8 34)),mP 61 (.t 63)] (.t 61) (Sq a38s31 .ret) a38s48
def a38s50:=Ts [] [nP 48 6,bP 49 .eql (.t 48) (.c (.int .u8 45)),mP 50 (.t 49),gP 51 .mv [.v 6] 50 false,gP 52 (.call 65) [.t 51] 50 false,oP 53 .pick [.t 50,.c (.bool true),.t 52],mP 47 (.t 53)] (.t 47) a38s28 a38s49
def a38s51:=Ts [] [nP 15 6,oP 16 (.call 64) [.t 15],mP 14 (.t 16)] (.t 14) (Sq (Bk 1 (Lp (Sq a38s8 (Bk 2 a38s10)))) (Sq a38s19 (Sq a38s21 .ret))) a38s50
def a38s54:=Rg [] [oP 157 (.build [.int .u8 0,.str [],.int .i64 0,.int .i64 0] []) [],nP 158 1,xP (.stLc 2 4) [.l 2,.t 157] 2,vP 3 (.c (.int .i64 0)),vP 4 (.t 158),vP 5 (.c (.int .i64 4))]
def a38c:ACode :=
  (Sq a38s1 (Sq a38s3 (Sq a38s5 (Sq (Bk 0 a38s51) (Sq a38s54 .ret)))))
def a38:AFn:={ np:=2,nv:=8,results:=[.bx 2 true 4,.v 3,.v 4,.v 5],code:=a38c }
def d8w:List Nat:=[0,1,4,5,6,7,8,9]
def d9d:List Nat:=[2]

def a39s1:=Rg [] [vP 1 (.c (.bool false))]
def a39s3:=Rg [] [nP 3 0,oP 4 .nilchk [.t 3],fP 5 2 (.t 4),oP 6 (.ldSt false 1) [.t 5],bP 7 .add (.t 6) (.c (.int .i64 1)),oP 8 .nilchk [.t 3],fP 9 2 (.t 8),op .none (.stSt 1) [.t 9,.t 7]]
def a39s6:=Rg [] [nP 15 0,oP 16 (.call 20) [.t 15,.c (.int .i64 5)]]
def a39s7:=Ts [] [nP 10 0,oP 11 .nilchk [.t 10],fP 12 2 (.t 11),oP 13 (.ldSt false 1) [.t 12],bP 14 .gtr (.t 13) (.c (.int .i64 24))] (.t 14) a39s6 .skip
def a39s9:=Rg [] [nP 17 0,oP 18 .nilchk [.t 17],fP 19 4 (.t 18),oP 20 (.ldSt false 1) [.t 19],bP 21 .eql (.t 20) (.c (.int .i64 0)),vP 1 (.t 21)]
def a39c:ACode :=
  (Sq a39s1 (Sq a39s3 (Sq a39s7 (Sq a39s9 .ret))))
def a39:AFn:={ np:=1,nv:=2,results:=[.v 1],code:=a39c }
def e0x:List Nat:=[0,2]
def d59:List Nat:=[]

def a40s1:=Rg [1] [⟨.bx,.alloc [.int .u8 0,.str [],.str [],.str [],.list true [],.list true [],.list true []],[],some 1,none⟩]
def a40s4:=Rg [2] [nP 8 0,oP 9 (.call 21) [.t 8],oP 10 (.build [.int .u8 0,.str [],.str [],.str [],.list true [],.list true [],.list true []] [(0,1),(2,1)]) [.c (.int .u8 1),.t 9],⟨.bx,.alloc [.int .u8 0,.str [],.str [],.str [],.list true [],.list true [],.list true []],[],some 2,none⟩,xP (.stLc 2 7) [.l 2,.ts 10] 2]
def a40s7:=Rg [] [fP 13 2 (.l 2),lP 14 2 false 1 (.t 13),fP 15 1 (.l 2),xP (.stLc 2 1) [.t 15,.t 14] 2]
def a40s9:=Rg [] [nP 16 0,oP 17 (.call 21) [.t 16],fP 18 2 (.l 2),xP (.stLc 2 1) [.t 18,.t 17] 2]
def a40s11:=Ts [] [nP 11 0,oP 12 (.call 25) [.t 11,.c (.str [58])]] (.t 12) (Sq a40s7 a40s9) .skip
def b6v:=Rg [] [nP 19 0,oP 20 (.call 68) [.t 19],fP 21 4 (.l 2),xP (.stLc 2 1) [.t 21,.ts 20] 2]
def a40s15:=Rg [] [nP 22 0,oP 23 (.call 69) [.t 22],fP 24 5 (.l 2),xP (.stLc 2 1) [.t 24,.ts 23] 2]
def a40s18:=Rg [] [nP 27 0,oP 28 (.call 23) [.t 27],fP 29 6 (.l 2),xP (.stLc 2 1) [.t 29,.ts 28] 2]
def a40s19:=Ts [] [nP 25 0,oP 26 (.call 24) [.t 25,.c (.str [123])]] (.t 26) a40s18 .skip
def a40s21:=Rg [] [lP 30 2 true 7 (.l 2),xP (.stLc 1 7) [.l 1,.ts 30] 1]
def a40s28:=Ts [] [nP 5 0,oP 6 (.call 25) [.t 5,.c (.str [46,46,46])],oP 7 (.un .not) [.t 6]] (.t 7) (Sq a40s4 (Sq a40s11 (Sq b6v (Sq a40s15 (Sq a40s19 (Sq a40s21 .ret)))))) .skip
def a40s30:=Rg [3] [oP 31 (.build [.int .u8 0,.str [],.str [],.str [],.list true [],.list true [],.list true []] [(0,1)]) [.c (.int .u8 3)],⟨.bx,.alloc [.int .u8 0,.str [],.str [],.str [],.list true [],.list true [],.list true []],[],some 3,none⟩,xP (.stLc 3 7) [.l 3,.ts 31] 3]
def a40s33:=Rg [] [nP 34 0,oP 35 (.call 21) [.t 34],fP 36 3 (.l 3),xP (.stLc 3 1) [.t 36,.t 35] 3]
def a40s36:=Rg [] [fP 39 0 (.l 3),xP (.stLc 3 1) [.t 39,.c (.int .u8 2)] 3]
def a40s38:=Rg [] [nP 40 0,oP 41 (.call 21) [.t 40],fP 42 2 (.l 3),xP (.stLc 3 1) [.t 42,.t 41] 3]
def a40s40:=Rg [] [nP 43 0,oP 44 (.call 69) [.t 43],fP 45 5 (.l 3),xP (.stLc 3 1) [.t 45,.ts 44] 3]
def a40s42:=Rg [] [lP 46 3 true 7 (.l 3),xP (.stLc 1 7) [.l 1,.ts 46] 1]
def a40s47:=Ts [] [nP 37 0,oP 38 (.call 18) [.t 37,.c (.int .u8 1)]] (.t 38) (Sq a40s36 (Sq a40s38 (Sq a40s40 (Sq a40s42 .ret)))) .skip
def a40s48:=Ts [] [nP 32 0,oP 33 (.call 25) [.t 32,.c (.str [111,110])]] (.t 33) a40s33 a40s47
def a40s50:=Rg [] [nP 47 0,oP 48 (.call 69) [.t 47],fP 49 5 (.l 3),xP (.stLc 3 1) [.t 49,.ts 48] 3]
def a40s52:=Rg [] [nP 50 0,oP 51 (.call 23) [.t 50],fP 52 6 (.l 3),xP (.stLc 3 1) [.t 52,.ts 51] 3]
def a40s54:=Rg [] [lP 53 3 true 7 (.l 3),xP (.stLc 1 7) [.l 1,.ts 53] 1]
def a40c:ACode :=
  (Sq a40s1 (Sq a40s28 (Sq a40s30 (Sq a40s48 (Sq a40s50 (Sq a40s52 (Sq a40s54 .ret)))))))
def a40:AFn:={ np:=1,nv:=4,results:=[.bx 1 true 7],code:=a40c }
def d9I:List Nat:=[0,2,3,4]
def d9Q:List Nat:=[1,2,3]

def a41s1:=Rg [1] [⟨.bx,.alloc [.str [],.list true [],.bool false],[],some 1,none⟩]
def a41s3:=Rg [2] [⟨.bx,.alloc [.str [],.list true [],.bool false],[],some 2,none⟩]
def a41s7:=Rg [3] [nP 9 0,oP 10 (.call 41) [.t 9],⟨.bx,.alloc [.str [],.list true [],.bool false],[],some 3,none⟩,xP (.stLc 3 3) [.l 3,.ts 10] 3]
def a41s9:=Rg [] [lP 11 3 true 3 (.l 3),oP 12 (.bslice 3 [[.str [],.list true [],.bool false]] [0]) [.t 11],fP 13 1 (.l 2),xP (.stLc 2 1) [.t 13,.ts 12] 2]
def a41s11:=Rg [] [nP 14 0,oP 15 (.call 22) [.t 14,.c (.str [93])]]
def a41s15:=Rg [] [nP 16 0,oP 17 (.call 21) [.t 16],fP 18 0 (.l 2),xP (.stLc 2 1) [.t 18,.t 17] 2]
def a41s16:=Ts [] [nP 7 0,oP 8 (.call 25) [.t 7,.c (.str [91])]] (.t 8) (Sq a41s7 (Sq a41s9 a41s11)) a41s15
def a41s18:=Rg [] [nP 19 0,oP 20 (.call 25) [.t 19,.c (.str [33])],fP 21 2 (.l 2),xP (.stLc 2 1) [.t 21,.t 20] 2]
def a41s20:=Ts [] [nP 5 0,oP 6 (.call 39) [.t 5]] (.t 6) (Sq a41s16 a41s18) .skip
def a41s22:=Rg [] [nP 22 0,oP 23 .nilchk [.t 22],fP 24 2 (.t 23),oP 25 (.ldSt false 1) [.t 24],bP 26 .sub (.t 25) (.c (.int .i64 1)),oP 27 .nilchk [.t 22],fP 28 2 (.t 27),op .none (.stSt 1) [.t 28,.t 26]]
def a41s24:=Rg [] [lP 29 2 true 3 (.l 2),xP (.stLc 1 3) [.l 1,.ts 29] 1]
def a41c:ACode :=
  (Sq a41s1 (Sq a41s3 (Sq a41s20 (Sq a41s22 (Sq a41s24 .ret)))))
def a41:AFn:={ np:=1,nv:=4,results:=[.bx 1 true 3],code:=a41c }
def e0M:List Nat:=[0,2,3,4]
def e0h:List Nat:=[1,2,3]

def a42s1:=Rg [2] [⟨.bx,.alloc [.int .u8 0,.int .i64 0,.str [],.list true [],.list true []],[],some 2,none⟩]
def a42s3:=Rg [3] [⟨.bx,.alloc [.int .u8 0,.int .i64 0,.str [],.list true [],.list true []],[],some 3,none⟩]
def a42s6:=Rg [] [nP 8 0,nP 9 1,oP 10 (.call 70) [.t 8,.t 9],xP (.stLc 3 5) [.l 3,.ts 10] 3]
def a42s7:=Ts [] [nP 6 0,oP 7 (.call 39) [.t 6]] (.t 7) a42s6 .skip
def a42s9:=Rg [] [nP 11 0,oP 12 .nilchk [.t 11],fP 13 2 (.t 12),oP 14 (.ldSt false 1) [.t 13],bP 15 .sub (.t 14) (.c (.int .i64 1)),oP 16 .nilchk [.t 11],fP 17 2 (.t 16),op .none (.stSt 1) [.t 17,.t 15]]
def a42s11:=Rg [] [lP 18 3 true 5 (.l 3),xP (.stLc 2 5) [.l 2,.ts 18] 2]
def a42c:ACode :=
  (Sq a42s1 (Sq a42s3 (Sq a42s7 (Sq a42s9 (Sq a42s11 .ret)))))
def a42:AFn:={ np:=2,nv:=4,results:=[.bx 2 true 5],code:=a42c }
def d9B:List Nat:=[0,1,4,5]
def d99:List Nat:=[2,3]

def d5j:=Rg [1] [⟨.bx,.alloc [.int .u8 0,.str [],.list true [],.list true []],[],some 1,none⟩]
def d4d:=Rg [2] [⟨.bx,.alloc [.int .u8 0,.str [],.list true [],.list true []],[],some 2,none⟩]
def d4R:=Rg [] [fP 13 0 (.l 2),xP (.stLc 2 1) [.t 13,.c (.int .u8 1)] 2]
def d4f:=Rg [] [fP 17 0 (.l 2),xP (.stLc 2 1) [.t 17,.c (.int .u8 2)] 2]
def c4f:=Rg [] [fP 21 0 (.l 2),xP (.stLc 2 1) [.t 21,.c (.int .u8 3)] 2]
def c9F:=Rg [] [fP 25 0 (.l 2),xP (.stLc 2 1) [.t 25,.c (.int .u8 4)] 2]
def c58:=Rg [] [fP 29 0 (.l 2),xP (.stLc 2 1) [.t 29,.c (.int .u8 5)] 2]
def c99:=Rg [] [nP 7 0,oP 8 (.call 20) [.t 7,.c (.int .i64 4)]]
def c5R:=Rg [] [lP 9 2 true 4 (.l 2),xP (.stLc 1 4) [.l 1,.ts 9] 1]
def c9x:=Ts [] [nP 27 0,oP 28 (.call 19) [.t 27,.c (.str [105,110,112,117,116])],mP 26 (.t 28)] (.t 26) c58 (Sq c99 (Sq c5R .ret))
def c9z:=Ts [] [nP 23 0,oP 24 (.call 19) [.t 23,.c (.str [101,110,117,109])],mP 22 (.t 24)] (.t 22) c9F c9x
def c7T:=Ts [] [nP 19 0,oP 20 (.call 19) [.t 19,.c (.str [117,110,105,111,110])],mP 18 (.t 20)] (.t 18) c4f c9z
def c4H:=Ts [] [nP 15 0,oP 16 (.call 19) [.t 15,.c (.str [105,110,116,101,114,102,97,99,101])],mP 14 (.t 16)] (.t 14) d4f c7T
def c6m:=Ts [] [nP 11 0,oP 12 (.call 19) [.t 11,.c (.str [116,121,112,101])],mP 10 (.t 12)] (.t 10) d4R c4H
def c9B:=Rg [] [nP 30 0,oP 31 .nilchk [.t 30],fP 32 1 (.t 31),oP 33 (.ldSt false 1) [.t 32],bP 34 .add (.t 33) (.c (.int .i64 1)),oP 35 .nilchk [.t 30],fP 36 1 (.t 35),op .none (.stSt 1) [.t 36,.t 34]]
def c72:=Rg [] [nP 37 0,oP 38 (.call 21) [.t 37],fP 39 1 (.l 2),xP (.stLc 2 1) [.t 39,.t 38] 2]
def c6t:=Rg [] [fP 40 0 (.l 2),⟨.v 6,.ldLc 2 false 1,[.t 40],some 2,none⟩]
def c8W:=Rg [] [nP 88 0,oP 89 (.call 22) [.t 88,.c (.str [61])]]
def c7J:=Rg [] [nP 90 0,oP 91 (.call 71) [.t 90,.c (.str [124])],fP 92 3 (.l 2),xP (.stLc 2 1) [.t 92,.ts 91] 2]
def c8K:=Rg [] [nP 95 0,oP 96 (.call 22) [.t 95,.c (.str [123])]]
def c4e:=Rg [] [vP 3 (.c (.bool true))]
def c4u:=Ts [] [nP 97 0,oP 98 .nilchk [.t 97],fP 99 4 (.t 98),oP 100 (.ldSt false 1) [.t 99],bP 101 .eql (.t 100) (.c (.int .i64 0)),mP 102 (.t 101),gP 103 .mv [.v 3] 102 true,gP 104 .mv [.t 103] 102 true,gP 105 .mv [.v 0] 104 false,gP 106 (.call 25) [.t 105,.c (.str [125])] 104 false,gP 107 (.un .not) [.t 106] 104 false,gP 108 .pick [.t 104,.c (.bool true),.t 107] 102 true,oP 109 .pick [.t 102,.t 108,.c (.bool false)]] (.t 109) .skip (.exit 4)
def c4j:=Rg [] [nP 120 0,oP 121 (.call 20) [.t 120,.c (.int .i64 4)]]
def c4q:=Ts [] [nP 110 0,oP 111 (.call 19) [.t 110,.c (.str [116,114,117,101])],mP 112 (.t 111),gP 113 .mv [.v 0] 112 false,gP 114 (.call 19) [.t 113,.c (.str [102,97,108,115,101])] 112 false,oP 115 .pick [.t 112,.c (.bool true),.t 114],mP 116 (.t 115),gP 117 .mv [.v 0] 116 false,gP 118 (.call 19) [.t 117,.c (.str [110,117,108,108])] 116 false,oP 119 .pick [.t 116,.c (.bool true),.t 118]] (.t 119) c4j .skip
def c85:=Rg [] [fP 122 3 (.l 2),⟨.t 123,.ldLcS 2,[.t 122],some 2,none⟩,nP 124 0,oP 125 (.call 21) [.t 124],oP 126 (.bslice 1 [[.str []]] [0]) [.t 125],oP 127 (.app 1 16) [.ts 123,.t 126],fP 128 3 (.l 2),xP (.stLc 2 1) [.t 128,.ts 127] 2]
def c6L:=Rg [] [vP 3 (.c (.bool false))]
def c9c:=Rg [] [nP 131 0,oP 132 (.call 22) [.t 131,.c (.str [123])]]
def c78:=Rg [] [nP 133 0,oP 134 (.call 72) [.t 133,.c (.str [125])],fP 135 2 (.l 2),xP (.stLc 2 1) [.t 135,.ts 134] 2]
def c3r:=Rg [] [nP 49 0,oP 50 (.call 71) [.t 49,.c (.str [38])],fP 51 3 (.l 2),xP (.stLc 2 1) [.t 51,.ts 50] 2]
def c62:=Ts [] [fP 42 0 (.l 2),lP 43 2 false 1 (.t 42),bP 44 .eql (.t 43) (.c (.int .u8 1)),mP 45 (.t 44),gP 46 .mv [.v 0] 45 true,gP 47 (.call 25) [.t 46,.c (.str [105,109,112,108,101,109,101,110,116,115])] 45 true,oP 48 .pick [.t 45,.t 47,.c (.bool false)]] (.t 48) c3r .skip
def c3C:=Rg [] [nP 52 0,oP 53 (.call 22) [.t 52,.c (.str [123])]]
def c9w:=Rg [] [vP 4 (.c (.bool true))]
def c6G:=Ts [] [nP 54 0,oP 55 .nilchk [.t 54],fP 56 4 (.t 55),oP 57 (.ldSt false 1) [.t 56],bP 58 .eql (.t 57) (.c (.int .i64 0)),mP 59 (.t 58),gP 60 .mv [.v 4] 59 true,gP 61 .mv [.t 60] 59 true,gP 62 .mv [.v 0] 61 false,gP 63 (.call 25) [.t 62,.c (.str [125])] 61 false,gP 64 (.un .not) [.t 63] 61 false,gP 65 .pick [.t 61,.c (.bool true),.t 64] 59 true,oP 66 .pick [.t 59,.t 65,.c (.bool false)]] (.t 66) .skip (.exit 2)
def c37:=Rg [5] [nP 67 0,oP 68 (.call 21) [.t 67],oP 69 (.build [.str [],.list true [],.str [],.list true [],.bool false,.bool false,.int .u8 0,.int .i64 0,.str [],.list true [],.list true []] [(0,1)]) [.t 68],⟨.bx,.alloc [.str [],.list true [],.str [],.list true [],.bool false,.bool false,.int .u8 0,.int .i64 0,.str [],.list true [],.list true []],[],some 5,none⟩,xP (.stLc 5 11) [.l 5,.ts 69] 5]
def d0a:=Rg [] [nP 72 0,oP 73 (.call 72) [.t 72,.c (.str [41])],fP 74 1 (.l 5),xP (.stLc 5 1) [.t 74,.ts 73] 5]
def d00:=Ts [] [nP 70 0,oP 71 (.call 25) [.t 70,.c (.str [40])]] (.t 71) d0a .skip
def c4m:=Rg [] [nP 75 0,oP 76 (.call 22) [.t 75,.c (.str [58])]]
def c4W:=Rg [] [nP 77 0,oP 78 (.call 41) [.t 77],fP 79 2 (.l 5),xP (.stLc 5 3) [.t 79,.ts 78] 5]
def c6b:=Rg [] [fP 80 2 (.l 2),⟨.t 81,.ldLcS 2,[.t 80],some 2,none⟩,lP 82 5 true 11 (.l 5),oP 83 (.bslice 11 [[.str [],.list true [],.str [],.list true [],.bool false,.bool false,.int .u8 0,.int .i64 0,.str [],.list true [],.list true []]] [0]) [.t 82],oP 84 (.app 11 176) [.ts 81,.t 83],fP 85 2 (.l 2),xP (.stLc 2 1) [.t 85,.ts 84] 2]
def c2Q:=Rg [] [vP 4 (.c (.bool false))]
def c1H:=Ts [] [bP 130 .eql (.v 6) (.c (.int .u8 5)),mP 129 (.t 130)] (.t 129) (Sq c9c c78) (Sq c62 (Sq c3C (Sq c9w (Bk 2 (Lp (Sq c6G (Sq (Bk 3 (Sq c37 (Sq d00 (Sq c4m (Sq c4W c6b))))) c2Q)))))))
def c1F:=Ts [] [bP 94 .eql (.v 6) (.c (.int .u8 4)),mP 93 (.t 94)] (.t 93) (Sq c8K (Sq c4e (Bk 4 (Lp (Sq c4u (Sq (Bk 5 (Sq c4q c85)) c6L)))))) c1H
def c3f:=Ts [] [bP 87 .eql (.v 6) (.c (.int .u8 3)),mP 86 (.t 87)] (.t 86) (Sq c8W c7J) c1F
def c2t:=Rg [] [lP 136 2 true 4 (.l 2),xP (.stLc 1 4) [.l 1,.ts 136] 1]
def d81:ACode :=
  (Sq d5j (Sq d4d (Sq (Bk 0 c6m) (Sq c9B (Sq c72 (Sq (Sq c6t (Bk 1 c3f)) (Sq c2t .ret)))))))
def a43:AFn:={ np:=1,nv:=7,results:=[.bx 1 true 4],code:=d81 }
def d9Y:List Nat:=[0,2,3,4,5,6,41]
def e0w:List Nat:=[1,2,5]

def a44:AFn:={ np:=1,nv:=0,results:=[],code:=.skip,ext:=some (a0B 4 72) }
def a45s1:=Rg [] [vP 2 (.c (.bool false))]
def a45s3:=Rg [] [nP 5 0,nP 6 1,oP 7 (.call 73) [.t 5,.t 6],bP 8 .geq (.t 7) (.c (.int .i64 0)),vP 2 (.t 8)]
def a45c:ACode :=
  (Sq a45s1 (Sq a45s3 .ret))
def a45:AFn:={ np:=2,nv:=3,results:=[.v 2],code:=a45c }
def d5V:List Nat:=[0,1,4]
def d5P:List Nat:=[]

def d22:=Rg [] [vP 2 (.c (.bool false))]
def d5e:=Rg [] [nP 5 0,nP 6 1,oP 7 (.call 74) [.t 5,.t 6],vP 2 (.t 7)]
def d6Q:ACode :=
  (Sq d22 (Sq d5e .ret))
def a46:AFn:={ np:=2,nv:=3,results:=[.v 2],code:=d6Q }
def d8I:List Nat:=[0,1,4]
def d8e:List Nat:=[]

def d18:=Rg [2,3] [⟨.bx,.boxV,[.v 1],some 2,none⟩,⟨.bx,.alloc [.int .i64 0,.str []],[],some 3,none⟩]
def d3A:=Rg [4] [fP 16 2 (.l 2),lP 17 2 false 1 (.t 16),oP 18 (.call 76) [.t 17],fP 19 3 (.l 2),lP 20 2 false 1 (.t 19),oP 21 (.app 1 16) [.ts 18,.t 20],oP 22 (.call 75) [.t 21],⟨.bx,.alloc [.int .i64 0,.str []],[],some 4,none⟩,xP (.stLc 4 2) [.l 4,.t 22] 4]
def d1D:=Rg [] [lP 31 4 true 2 (.l 4),xP (.stLc 3 2) [.l 3,.t 31] 3]
def d5E:=Ts [] [fP 23 0 (.l 4),lP 24 4 false 1 (.t 23),bP 25 .neq (.t 24) (.c (.int .i64 0)),mP 26 (.t 25),gP 27 (.fad 0) [.l 2] 26 true,⟨.t 28,.ldLc 2 false 1,[.t 27],some 2,some (.t 26,true)⟩,gP 29 (.bin .neq) [.t 28,.c (.int .u8 1)] 26 true,oP 30 .pick [.t 26,.t 29,.c (.bool false)]] (.t 30) (Sq d1D .ret) .skip
def c8l:=Rg [5] [fP 32 2 (.l 2),lP 33 2 false 1 (.t 32),oP 34 (.call 76) [.t 33],oP 35 (.call 75) [.t 34],⟨.bx,.alloc [.int .i64 0,.str []],[],some 5,none⟩,xP (.stLc 5 2) [.l 5,.t 35] 5]
def c9k:=Rg [] [lP 39 5 true 2 (.l 5),xP (.stLc 3 2) [.l 3,.t 39] 3]
def c6N:=Ts [] [fP 36 0 (.l 5),lP 37 5 false 1 (.t 36),bP 38 .neq (.t 37) (.c (.int .i64 0))] (.t 38) (Sq c9k .ret) .skip
def c9V:=Rg [6] [fP 40 3 (.l 2),lP 41 2 false 1 (.t 40),oP 42 (.call 75) [.t 41],⟨.bx,.alloc [.int .i64 0,.str []],[],some 6,none⟩,xP (.stLc 6 2) [.l 6,.t 42] 6]
def c9Q:=Rg [] [lP 46 6 true 2 (.l 6),xP (.stLc 3 2) [.l 3,.t 46] 3]
def c70:=Ts [] [fP 43 0 (.l 6),lP 44 6 false 1 (.t 43),bP 45 .neq (.t 44) (.c (.int .i64 0))] (.t 45) (Sq c9Q .ret) .skip
def c8a:=Rg [] [fP 47 2 (.l 2),⟨.v 13,.ldLc 2 false 1,[.t 47],some 2,none⟩,op (.v 14) .lenL [.v 13],vP 15 (.c (.int .i64 0))]
def c5d:=Ts [] [bP 51 .lss (.v 15) (.v 14)] (.t 51) .skip (.exit 0)
def c7i:=Rg [7] [oP 52 (.iad 11) [.v 13,.v 15],oP 53 (.ldRo true 11) [.t 52],⟨.bx,.alloc [.str [],.list true [],.str [],.list true [],.bool false,.bool false,.int .u8 0,.int .i64 0,.str [],.list true [],.list true []],[],some 7,none⟩,xP (.stLc 7 11) [.l 7,.ts 53] 7]
def d0h:=Rg [8] [nP 54 0,lP 55 7 true 11 (.l 7),fP 56 0 (.l 2),lP 57 2 false 1 (.t 56),bP 58 .eql (.t 57) (.c (.int .u8 5)),oP 59 (.call 77) [.t 54,.t 55,.t 58],⟨.bx,.alloc [.int .i64 0,.str []],[],some 8,none⟩,xP (.stLc 8 2) [.l 8,.t 59] 8]
def c4a:=Rg [] [lP 63 8 true 2 (.l 8),xP (.stLc 3 2) [.l 3,.t 63] 3]
def c45:=Ts [] [fP 60 0 (.l 8),lP 61 8 false 1 (.t 60),bP 62 .neq (.t 61) (.c (.int .i64 0))] (.t 62) (Sq c4a .ret) .skip
def c4J:=Rg [] [bP 64 .add (.v 15) (.c (.int .i64 1)),vP 15 (.t 64)]
def c8U:=Rg [] [oP 65 .mkM [],op .none (.mset 0) [.t 65,.c (.int .u8 1),.c (.int .u8 2)],op .none (.mset 0) [.t 65,.c (.int .u8 3),.c (.int .u8 1)],mP 66 (.t 65),fP 67 0 (.l 2),lP 68 2 false 1 (.t 67),oP 69 (.mget 0 [.int .u8 0] false false) [.t 66,.t 68],vP 9 (.t 69)]
def c6y:=Rg [] [fP 70 3 (.l 2),⟨.v 16,.ldLc 2 false 1,[.t 70],some 2,none⟩,op (.v 17) .lenL [.v 16],vP 18 (.c (.int .i64 0))]
def c8j:=Ts [] [bP 74 .lss (.v 18) (.v 17)] (.t 74) .skip (.exit 2)
def c8C:=Rg [] [oP 75 (.iad 1) [.v 16,.v 18],oP 76 (.ldRo false 1) [.t 75],vP 10 (.t 76)]
def d0g:=Rg [11] [nP 78 0,nP 79 10,oP 80 (.call 48) [.t 78,.t 79],mP 77 (.t 80),oP 81 (.ext 0) [.t 77],oP 82 (.ext 1) [.t 77],⟨.bx,.alloc [.int .u8 0,.str [],.list true [],.list true []],[],some 11,none⟩,xP (.stLc 11 4) [.l 11,.ts 81] 11,vP 12 (.t 82)]
def d0o:=Rg [] [nP 90 10,oP 91 (.build [.int .i64 0,.str []] [(0,1),(1,1)]) [.c (.int .i64 6),.t 90],xP (.stLc 3 2) [.l 3,.t 91] 3]
def d0c:=Rg [] [nP 101 10,oP 102 (.build [.int .i64 0,.str []] [(0,1),(1,1)]) [.c (.int .i64 8),.t 101],xP (.stLc 3 2) [.l 3,.t 102] 3]
def c6I:=Rg [] [nP 114 10,oP 115 (.build [.int .i64 0,.str []] [(0,1),(1,1)]) [.c (.int .i64 3),.t 114],xP (.stLc 3 2) [.l 3,.t 115] 3]
def c7K:=Ts [] [fP 104 0 (.l 2),lP 105 2 false 1 (.t 104),bP 106 .eql (.t 105) (.c (.int .u8 1)),mP 107 (.t 106),gP 108 .mv [.v 0] 107 true,⟨.t 109,.ldLc 2 true 4,[.l 2],some 2,some (.t 107,true)⟩,⟨.t 110,.ldLc 11 true 4,[.l 11],some 11,some (.t 107,true)⟩,gP 111 (.call 79) [.t 108,.t 109,.t 110] 107 true,gP 112 (.un .not) [.t 111] 107 true,oP 113 .pick [.t 107,.t 112,.c (.bool false)],mP 103 (.t 113)] (.t 103) (Sq c6I .ret) .skip
def c73:=Ts [] [fP 93 0 (.l 11),lP 94 11 false 1 (.t 93),nP 95 9,bP 96 .neq (.t 94) (.t 95),mP 97 (.t 96),gP 98 .mv [.v 10] 97 false,gP 99 (.call 78) [.t 98] 97 false,oP 100 .pick [.t 97,.c (.bool true),.t 99],mP 92 (.t 100)] (.t 92) (Sq d0c .ret) c7K
def c7E:=Ts [] [nP 88 12,oP 89 (.un .not) [.t 88],mP 87 (.t 89)] (.t 87) (Sq d0o .ret) c73
def c3R:=Ts [] [fP 84 0 (.l 2),lP 85 2 false 1 (.t 84),bP 86 .eql (.t 85) (.c (.int .u8 4)),mP 83 (.t 86)] (.t 83) .skip c7E
def c5A:=Rg [] [bP 116 .add (.v 18) (.c (.int .i64 1)),vP 18 (.t 116)]
def c4Y:=Rg [] [oP 117 (.build [.int .i64 0,.str []] []) [],xP (.stLc 3 2) [.l 3,.t 117] 3]
def d5K:ACode :=
  (Sq d18 (Sq (Sq d3A d5E) (Sq (Sq c8l c6N) (Sq (Sq c9V c70) (Sq (Sq c8a (Bk 0 (Lp (Sq c5d (Sq (Bk 1 (Sq c7i (Sq d0h c45))) c4J))))) (Sq c8U (Sq (Sq c6y (Bk 2 (Lp (Sq c8j (Sq (Bk 3 (Sq c8C (Sq d0g (Bk 4 c3R)))) c5A))))) (Sq c4Y .ret))))))))
def a47:AFn:={ np:=2,nv:=19,results:=[.bx 3 true 2],code:=d5K }
def e0H:List Nat:=[0,1,3,4,5,6,7,9,10,11,13,14,15,48,49,50,71,72,73]
def d74:List Nat:=[2,3,4,5,6,7,8,11]

def a48s1:=Rg [2] [⟨.bx,.alloc [.int .u8 0,.str [],.list true [],.list true []],[],some 2,none⟩,vP 3 (.c (.bool false))]
def a48s4:=Rg [] [oP 10 (.build [.int .u8 0,.str [],.list true [],.list true []] []) [],xP (.stLc 2 4) [.l 2,.ts 10] 2,vP 3 (.c (.bool false))]
def a48s6:=Ts [] [nP 8 0,oP 9 (.binP .eql) [.t 8,.c (.nilp)]] (.t 9) (Sq a48s4 .ret) .skip
def a48s8:=Rg [] [nP 12 0,oP 13 .nilchk [.t 12],fP 14 1 (.t 13),oP 15 (.ldSt false 1) [.t 14],nP 16 1,oP 17 (.mget 1 [.int .i64 0] false true) [.t 15,.t 16],mP 11 (.t 17),oP 18 (.ext 0) [.t 11],oP 19 (.ext 1) [.t 11],vP 4 (.t 18),vP 5 (.t 19)]
def a48s11:=Rg [] [oP 22 (.build [.int .u8 0,.str [],.list true [],.list true []] []) [],xP (.stLc 2 4) [.l 2,.ts 22] 2,vP 3 (.c (.bool false))]
def a48s13:=Ts [] [nP 20 5,oP 21 (.un .not) [.t 20]] (.t 21) (Sq a48s11 .ret) .skip
def a48s15:=Rg [] [nP 23 0,oP 24 .nilchk [.t 23],fP 25 0 (.t 24),oP 26 (.ldSt false 1) [.t 25],nP 27 4,oP 28 (.iad 4) [.t 26,.t 27],oP 29 (.ldRo true 4) [.t 28],xP (.stLc 2 4) [.l 2,.ts 29] 2,vP 3 (.c (.bool true))]
def a48c:ACode :=
  (Sq a48s1 (Sq a48s6 (Sq a48s8 (Sq a48s13 (Sq a48s15 .ret)))))
def a48:AFn:={ np:=2,nv:=6,results:=[.bx 2 true 4,.v 3],code:=a48c }
def d9i:List Nat:=[0,1,4,5,6,7]
def d89:List Nat:=[2]

def d2V:=Rg [2,3] [⟨.bx,.boxV,[.v 1],some 2,none⟩,⟨.bx,.alloc [.int .i64 0,.str []],[],some 3,none⟩]
def d1J:=Rg [] [oP 16 (.build [.int .i64 0,.str []] []) [],xP (.stLc 3 2) [.l 3,.t 16] 3]
def d4q:=Ts [] [fP 8 0 (.l 2),lP 9 2 false 1 (.t 8),bP 10 .neq (.t 9) (.c (.int .u8 1)),mP 11 (.t 10),gP 12 (.fad 0) [.l 2] 11 true,⟨.t 13,.ldLc 2 false 1,[.t 12],some 2,some (.t 11,true)⟩,gP 14 (.bin .neq) [.t 13,.c (.int .u8 2)] 11 true,oP 15 .pick [.t 11,.t 14,.c (.bool false)]] (.t 15) (Sq d1J .ret) .skip
def d3z:=Rg [] [fP 17 2 (.l 2),⟨.v 6,.ldLc 2 false 1,[.t 17],some 2,none⟩,op (.v 7) .lenL [.v 6],vP 8 (.c (.int .i64 0))]
def c5g:=Ts [] [bP 21 .lss (.v 8) (.v 7)] (.t 21) .skip (.exit 0)
def c93:=Rg [4] [oP 22 (.iad 11) [.v 6,.v 8],oP 23 (.ldRo true 11) [.t 22],⟨.bx,.alloc [.str [],.list true [],.str [],.list true [],.bool false,.bool false,.int .u8 0,.int .i64 0,.str [],.list true [],.list true []],[],some 4,none⟩,xP (.stLc 4 11) [.l 4,.ts 23] 4]
def c4s:=Rg [] [fP 24 1 (.l 4),lP 25 4 false 1 (.t 24),oP 26 .lenL [.t 25],bP 27 .eql (.t 26) (.c (.int .i64 0)),vP 5 (.t 27)]
def c6Y:=Rg [] [fP 28 1 (.l 2),⟨.v 9,.ldLc 2 false 1,[.t 28],some 2,none⟩]
def c4V:=Rg [] [nP 32 0,lP 33 4 true 11 (.l 4),oP 34 (.call 80) [.t 32,.t 33],mP 35 (.t 34),gP 36 .mv [.v 0] 35 false,⟨.t 37,.ldLc 4 true 11,[.l 4],some 4,some (.t 35,false)⟩,gP 38 (.call 81) [.t 36,.t 37] 35 false,oP 39 .pick [.t 35,.c (.bool true),.t 38],vP 5 (.t 39)]
def c4d:=Rg [] [fP 42 0 (.l 2),lP 43 2 false 1 (.t 42),bP 44 .eql (.t 43) (.c (.int .u8 1)),mP 45 (.t 44),gP 46 .mv [.v 0] 45 true,⟨.t 47,.ldLc 4 true 11,[.l 4],some 4,some (.t 45,true)⟩,gP 48 (.call 82) [.t 46,.t 47] 45 true,oP 49 .pick [.t 45,.t 48,.c (.bool false)],vP 5 (.t 49)]
def c6w:=Ts [] [oP 41 (.bin .eql) [.v 9,.c (.str [77,117,116,97,116,105,111,110])],mP 40 (.t 41)] (.t 40) c4d .skip
def c3l:=Ts [] [oP 31 (.bin .eql) [.v 9,.c (.str [81,117,101,114,121])],mP 30 (.t 31)] (.t 30) c4V c6w
def d0d:=Rg [] [fP 52 0 (.l 4),lP 53 4 false 1 (.t 52),oP 54 (.build [.int .i64 0,.str []] [(0,1),(1,1)]) [.c (.int .i64 3),.t 53],xP (.stLc 3 2) [.l 3,.t 54] 3]
def c3t:=Ts [] [nP 50 5,oP 51 (.un .not) [.t 50]] (.t 51) (Sq d0d .ret) .skip
def c44:=Rg [] [bP 55 .add (.v 8) (.c (.int .i64 1)),vP 8 (.t 55)]
def d0V:=Rg [] [oP 56 (.build [.int .i64 0,.str []] []) [],xP (.stLc 3 2) [.l 3,.t 56] 3]
def d83:ACode :=
  (Sq d2V (Sq d4q (Sq (Sq d3z (Bk 0 (Lp (Sq c5g (Sq (Bk 1 (Sq c93 (Sq c4s (Sq (Sq c6Y (Bk 2 c3l)) c3t)))) c44))))) (Sq d0V .ret))))
def a49:AFn:={ np:=2,nv:=10,results:=[.bx 3 true 2],code:=d83 }
def d7x:List Nat:=[0,1,3,4,6,7,18,19,20,29]
def d7r:List Nat:=[2,3,4]

def d5D:=Rg [] [vP 1 (.c (.bool false))]
def d2n:=Rg [] [nP 3 0,oP 4 (.bin .eql) [.t 3,.c (.str [66,111,111,108,101,97,110])],mP 5 (.t 4),gP 6 .mv [.v 0] 5 false,gP 7 (.bin .eql) [.t 6,.c (.str [73,68])] 5 false,oP 8 .pick [.t 5,.c (.bool true),.t 7],mP 9 (.t 8),gP 10 .mv [.v 0] 9 false,gP 11 (.bin .eql) [.t 10,.c (.str [73,110,116])] 9 false,oP 12 .pick [.t 9,.c (.bool true),.t 11],mP 13 (.t 12),gP 14 .mv [.v 0] 13 false,gP 15 (.bin .eql) [.t 14,.c (.str [83,116,114,105,110,103])] 13 false,oP 16 .pick [.t 13,.c (.bool true),.t 15],vP 1 (.t 16)]
def d6Z:ACode :=
  (Sq d5D (Sq d2n .ret))
def a50:AFn:={ np:=1,nv:=2,results:=[.v 1],code:=d6Z }
def d9V:List Nat:=[0,2]
def d67:List Nat:=[]

def a51s1:=Rg [] [vP 2 (.c (.bool false))]
def a51s3:=Rg [] [vP 3 (.c (.int .i64 0))]
def a51s5:=Ts [] [nP 6 3,nP 7 0,oP 8 .lenL [.t 7],bP 9 .lss (.t 6) (.t 8)] (.t 9) .skip (.exit 0)
def a51s8:=Rg [] [vP 2 (.c (.bool true))]
def a51s10:=Ts [] [nP 12 0,nP 13 3,oP 14 (.iad 1) [.t 12,.t 13],oP 15 (.ldAn false 1) [.t 14],nP 16 1,bP 17 .eql (.t 15) (.t 16)] (.t 17) (Sq a51s8 .ret) .skip
def a51s13:=Rg [] [nP 10 3,bP 11 .add (.t 10) (.c (.int .i64 1)),vP 3 (.t 11)]
def a51s20:=Rg [] [vP 2 (.c (.bool false))]
def a51c:ACode :=
  (Sq a51s1 (Sq (Sq a51s3 (Bk 0 (Lp (Sq a51s5 (Sq (Bk 1 a51s10) a51s13))))) (Sq a51s20 .ret)))
def a51:AFn:={ np:=2,nv:=4,results:=[.v 2],code:=a51c }
def d8k:List Nat:=[0,1,4,5]
def d7h:List Nat:=[]

def d3G:=Rg [] [vP 2 (.c (.bool false))]
def d2M:=Rg [] [nP 5 0,oP 6 .lenS [.t 5],nP 7 1,oP 8 .lenS [.t 7],bP 9 .geq (.t 6) (.t 8),mP 10 (.t 9),gP 11 .mv [.v 0] 10 true,gP 12 .mv [.v 1] 10 true,gP 13 .lenS [.t 12] 10 true,gP 14 (.slS false true) [.t 11,.t 13] 10 true,gP 15 .mv [.v 1] 10 true,gP 16 (.bin .eql) [.t 14,.t 15] 10 true,oP 17 .pick [.t 10,.t 16,.c (.bool false)],vP 2 (.t 17)]
def d9O:ACode :=
  (Sq d3G (Sq d2M .ret))
def a52:AFn:={ np:=2,nv:=3,results:=[.v 2],code:=d9O }
def d9E:List Nat:=[0,1,4]
def d6L:List Nat:=[]

def d2x:=Rg [2] [⟨.bx,.boxV,[.v 1],some 2,none⟩,op (.v 3) .mv [.c (.str [])],vP 4 (.c (.int .i64 0))]
def d1K:=Rg [] [fP 23 2 (.l 2),lP 24 2 false 1 (.t 23),oP 25 (.call 84) [.t 24],oP 26 (.call 83) [.t 25],mP 22 (.t 26),oP 27 (.ext 0) [.t 22],oP 28 (.ext 1) [.t 22],vP 5 (.t 27),vP 6 (.t 28)]
def d5b:=Rg [] [nP 31 5,nP 32 6,vP 3 (.t 31),vP 4 (.t 32)]
def d2A:=Ts [] [nP 29 6,bP 30 .neq (.t 29) (.c (.int .i64 0))] (.t 30) (Sq d5b .ret) .skip
def c3u:=Rg [] [fP 34 3 (.l 2),lP 35 2 false 1 (.t 34),oP 36 (.call 83) [.t 35],mP 33 (.t 36),oP 37 (.ext 0) [.t 33],oP 38 (.ext 1) [.t 33],vP 5 (.t 37),vP 6 (.t 38)]
def c71:=Rg [] [nP 41 5,nP 42 6,vP 3 (.t 41),vP 4 (.t 42)]
def c6B:=Ts [] [nP 39 6,bP 40 .neq (.t 39) (.c (.int .i64 0))] (.t 40) (Sq c71 .ret) .skip
def c3Q:=Rg [] [op (.v 7) .mv [.c (.list true [])]]
def c7u:=Rg [] [mP 43 (.vs 7),fP 44 2 (.l 2),lP 45 2 false 1 (.t 44),oP 46 (.call 84) [.t 45],oP 47 (.app 1 16) [.ts 43,.t 46],vP 7 (.ts 47)]
def c6l:=Rg [] [mP 49 (.vs 7),fP 50 3 (.l 2),lP 51 2 false 1 (.t 50),oP 52 (.app 1 16) [.ts 49,.t 51],oP 53 (.call 83) [.t 52],mP 48 (.t 53),oP 54 (.ext 0) [.t 48],oP 55 (.ext 1) [.t 48],vP 8 (.t 54),vP 9 (.t 55)]
def c7a:=Rg [] [nP 58 8,nP 59 9,vP 3 (.t 58),vP 4 (.t 59)]
def c6d:=Ts [] [nP 56 9,bP 57 .neq (.t 56) (.c (.int .i64 0))] (.t 57) (Sq c7a .ret) .skip
def c3F:=Ts [] [fP 19 0 (.l 2),lP 20 2 false 1 (.t 19),bP 21 .eql (.t 20) (.c (.int .u8 1))] (.t 21) (Sq d1K (Sq d2A (Sq c3u c6B))) (Sq c3Q (Sq c7u (Sq c6l c6d)))
def c3W:=Rg [] [vP 10 (.c (.int .i64 0))]
def c9y:=Ts [] [nP 60 10,fP 61 2 (.l 2),lP 62 2 false 1 (.t 61),oP 63 .lenL [.t 62],bP 64 .lss (.t 60) (.t 63)] (.t 64) .skip (.exit 0)
def c30:=Rg [] [nP 68 0,fP 69 2 (.l 2),lP 70 2 false 1 (.t 69),nP 71 10,oP 72 (.iad 11) [.t 70,.t 71],oP 73 (.ldRo true 11) [.t 72],fP 74 0 (.l 2),lP 75 2 false 1 (.t 74),bP 76 .eql (.t 75) (.c (.int .u8 5)),oP 77 (.call 85) [.t 68,.t 73,.t 76],mP 67 (.t 77),oP 78 (.ext 0) [.t 67],oP 79 (.ext 1) [.t 67],vP 11 (.t 78),vP 12 (.t 79)]
def d0n:=Rg [] [nP 82 11,nP 83 12,vP 3 (.t 82),vP 4 (.t 83)]
def c8q:=Ts [] [nP 80 12,bP 81 .neq (.t 80) (.c (.int .i64 0))] (.t 81) (Sq d0n .ret) .skip
def c7k:=Rg [] [nP 65 10,bP 66 .add (.t 65) (.c (.int .i64 1)),vP 10 (.t 66)]
def c7j:=Rg [] [vP 13 (.c (.int .i64 0))]
def c5P:=Ts [] [nP 84 13,fP 85 3 (.l 2),lP 86 2 false 1 (.t 85),oP 87 .lenL [.t 86],bP 88 .lss (.t 84) (.t 87),mP 89 (.t 88),gP 90 (.fad 0) [.l 2] 89 true,⟨.t 91,.ldLc 2 false 1,[.t 90],some 2,some (.t 89,true)⟩,gP 92 (.bin .neq) [.t 91,.c (.int .u8 4)] 89 true,oP 93 .pick [.t 89,.t 92,.c (.bool false)]] (.t 93) .skip (.exit 2)
def c5i:=Rg [] [fP 96 3 (.l 2),lP 97 2 false 1 (.t 96),nP 98 13,oP 99 (.iad 1) [.t 97,.t 98],oP 100 (.ldRo false 1) [.t 99],vP 14 (.t 100)]
def c4Z:=Rg [15] [nP 101 0,nP 102 14,oP 103 (.call 54) [.t 101,.t 102],⟨.bx,.alloc [.int .u8 0,.str [],.list true [],.list true []],[],some 15,none⟩,xP (.stLc 15 4) [.l 15,.ts 103] 15]
def c8A:=Rg [] [nP 108 14,vP 3 (.t 108),vP 4 (.c (.int .i64 6))]
def c59:=Rg [] [nP 137 14,vP 3 (.t 137),vP 4 (.c (.int .i64 8))]
def c80:=Ts [] [fP 110 0 (.l 2),lP 111 2 false 1 (.t 110),bP 112 .eql (.t 111) (.c (.int .u8 1)),mP 113 (.t 112),gP 114 (.fad 0) [.l 15] 113 true,⟨.t 115,.ldLc 15 false 1,[.t 114],some 15,some (.t 113,true)⟩,gP 116 (.bin .neq) [.t 115,.c (.int .u8 2)] 113 true,oP 117 .pick [.t 113,.t 116,.c (.bool false)],mP 118 (.t 117),gP 119 (.fad 0) [.l 2] 118 false,⟨.t 120,.ldLc 2 false 1,[.t 119],some 2,some (.t 118,false)⟩,gP 121 (.bin .eql) [.t 120,.c (.int .u8 3)] 118 false,gP 122 .mv [.t 121] 118 false,gP 123 (.fad 0) [.l 15] 122 true,⟨.t 124,.ldLc 15 false 1,[.t 123],some 15,some (.t 122,true)⟩,gP 125 (.bin .neq) [.t 124,.c (.int .u8 1)] 122 true,gP 126 .pick [.t 122,.t 125,.c (.bool false)] 118 false,oP 127 .pick [.t 118,.c (.bool true),.t 126],mP 128 (.t 127),gP 129 (.fad 0) [.l 2] 128 false,⟨.t 130,.ldLc 2 false 1,[.t 129],some 2,some (.t 128,false)⟩,gP 131 (.bin .eql) [.t 130,.c (.int .u8 2)] 128 false,oP 132 .pick [.t 128,.c (.bool true),.t 131],mP 133 (.t 132),gP 134 .mv [.v 14] 133 false,gP 135 (.call 86) [.t 134] 133 false,oP 136 .pick [.t 133,.c (.bool true),.t 135],mP 109 (.t 136)] (.t 109) (Sq c59 .ret) .skip
def c9N:=Ts [] [fP 105 0 (.l 15),lP 106 15 false 1 (.t 105),bP 107 .eql (.t 106) (.c (.int .u8 0)),mP 104 (.t 107)] (.t 104) (Sq c8A .ret) c80
def d0U:=Rg [] [vP 16 (.c (.int .i64 0))]
def c88:=Ts [] [nP 138 16,fP 139 2 (.l 15),lP 140 15 false 1 (.t 139),oP 141 .lenL [.t 140],bP 142 .lss (.t 138) (.t 141),mP 143 (.t 142),gP 144 (.fad 0) [.l 2] 143 true,⟨.t 145,.ldLc 2 false 1,[.t 144],some 2,some (.t 143,true)⟩,gP 146 (.bin .eql) [.t 145,.c (.int .u8 1)] 143 true,oP 147 .pick [.t 143,.t 146,.c (.bool false)]] (.t 147) .skip (.exit 5)
def c3p:=Rg [] [fP 150 2 (.l 2),lP 151 2 false 1 (.t 150),fP 152 2 (.l 15),lP 153 15 false 1 (.t 152),nP 154 16,oP 155 (.iad 11) [.t 153,.t 154],fP 156 0 (.t 155),oP 157 (.ldRo false 1) [.t 156],oP 158 (.call 87) [.t 151,.t 157],vP 17 (.t 158)]
def c8u:=Rg [] [nP 177 14,vP 3 (.t 177),vP 4 (.c (.int .i64 3))]
def c92:=Ts [] [nP 159 17,bP 160 .lss (.t 159) (.c (.int .i64 0)),mP 161 (.t 160),gP 162 (.fad 2) [.l 2] 161 false,⟨.t 163,.ldLc 2 false 1,[.t 162],some 2,some (.t 161,false)⟩,gP 164 .mv [.v 17] 161 false,gP 165 (.iad 11) [.t 163,.t 164] 161 false,gP 166 (.fad 2) [.t 165] 161 false,gP 167 (.ldRo true 3) [.t 166] 161 false,gP 168 (.fad 2) [.l 15] 161 false,⟨.t 169,.ldLc 15 false 1,[.t 168],some 15,some (.t 161,false)⟩,gP 170 .mv [.v 16] 161 false,gP 171 (.iad 11) [.t 169,.t 170] 161 false,gP 172 (.fad 2) [.t 171] 161 false,gP 173 (.ldRo true 3) [.t 172] 161 false,gP 174 (.call 88) [.t 167,.t 173] 161 false,gP 175 (.un .not) [.t 174] 161 false,oP 176 .pick [.t 161,.c (.bool true),.t 175]] (.t 176) (Sq c8u .ret) .skip
def d0I:=Rg [] [nP 148 16,bP 149 .add (.t 148) (.c (.int .i64 1)),vP 16 (.t 149)]
def c7b:=Rg [] [nP 94 13,bP 95 .add (.t 94) (.c (.int .i64 1)),vP 13 (.t 95)]
def c1J:=Rg [] [op (.v 3) .mv [.c (.str [])],vP 4 (.c (.int .i64 0))]
def e0J:ACode :=
  (Sq d2x (Sq c3F (Sq (Sq c3W (Bk 0 (Lp (Sq c9y (Sq (Bk 1 (Sq c30 c8q)) c7k))))) (Sq (Sq c7j (Bk 2 (Lp (Sq c5P (Sq (Bk 3 (Sq c5i (Sq c4Z (Sq (Bk 4 c9N) (Sq d0U (Bk 5 (Lp (Sq c88 (Sq (Bk 6 (Sq c3p c92)) d0I))))))))) c7b))))) (Sq c1J .ret)))))
def a53:AFn:={ np:=2,nv:=18,results:=[.v 3,.v 4],code:=e0J }
def d6z:List Nat:=[0,1,3,4,5,6,7,8,9,10,11,12,13,14,15,16,17,18]
def d8b:List Nat:=[2,15]

def a54s1:=Rg [2] [⟨.bx,.alloc [.int .u8 0,.str [],.list true [],.list true []],[],some 2,none⟩]
def a54s3:=Rg [] [vP 3 (.c (.int .i64 0))]
def a54s5:=Ts [] [nP 6 3,nP 7 0,oP 8 .nilchk [.t 7],fP 9 0 (.t 8),oP 10 (.ldSt false 1) [.t 9],oP 11 .lenL [.t 10],bP 12 .lss (.t 6) (.t 11)] (.t 12) .skip (.exit 0)
def a54s8:=Rg [] [nP 25 0,oP 26 .nilchk [.t 25],fP 27 0 (.t 26),oP 28 (.ldSt false 1) [.t 27],nP 29 3,oP 30 (.iad 4) [.t 28,.t 29],oP 31 (.ldRo true 4) [.t 30],xP (.stLc 2 4) [.l 2,.ts 31] 2]
def a54s10:=Ts [] [nP 15 0,oP 16 .nilchk [.t 15],fP 17 0 (.t 16),oP 18 (.ldSt false 1) [.t 17],nP 19 3,oP 20 (.iad 4) [.t 18,.t 19],fP 21 1 (.t 20),oP 22 (.ldRo false 1) [.t 21],nP 23 1,bP 24 .eql (.t 22) (.t 23)] (.t 24) (Sq a54s8 .ret) .skip
def a54s13:=Rg [] [nP 13 3,bP 14 .add (.t 13) (.c (.int .i64 1)),vP 3 (.t 14)]
def a54s20:=Rg [] [oP 32 (.build [.int .u8 0,.str [],.list true [],.list true []] []) [],xP (.stLc 2 4) [.l 2,.ts 32] 2]
def a54c:ACode :=
  (Sq a54s1 (Sq (Sq a54s3 (Bk 0 (Lp (Sq a54s5 (Sq (Bk 1 a54s10) a54s13))))) (Sq a54s20 .ret)))
def a54:AFn:={ np:=2,nv:=4,results:=[.bx 2 true 4],code:=a54c }
def d7Z:List Nat:=[0,1,4,5]
def d7f:List Nat:=[2]

def d4Y:=Rg [3,4] [⟨.bx,.boxV,[.v 1],some 3,none⟩,⟨.bx,.boxV,[.v 2],some 4,none⟩,vP 5 (.c (.bool false))]
def d1A:=Rg [] [fP 8 1 (.l 3),⟨.v 7,.ldLc 3 false 1,[.t 8],some 3,none⟩]
def d3a:=Rg [] [fP 12 2 (.l 4),lP 13 4 true 3 (.t 12),oP 14 (.call 89) [.t 13],vP 6 (.t 14)]
def d5w:=Rg [] [vP 5 (.c (.bool false))]
def d0b:=Ts [] [nP 15 0,nP 16 6,oP 17 (.call 90) [.t 15,.t 16],oP 18 (.un .not) [.t 17]] (.t 18) (Sq d5w .ret) .skip
def c6s:=Rg [] [fP 23 1 (.l 4),lP 24 4 false 1 (.t 23),oP 25 (.iad 11) [.t 24,.c (.int .i64 0)],oP 26 (.ldRo true 11) [.t 25],oP 27 (.call 91) [.t 26],mP 28 (.t 27),gP 29 (.fad 2) [.l 4] 28 true,gP 30 (.fad 1) [.t 29] 28 true,⟨.t 31,.ldLc 4 false 1,[.t 30],some 4,some (.t 28,true)⟩,gP 32 .lenL [.t 31] 28 true,gP 33 (.bin .eql) [.t 32,.c (.int .i64 0)] 28 true,oP 34 .pick [.t 28,.t 33,.c (.bool false)],mP 35 (.t 34),gP 36 (.fad 2) [.l 4] 35 true,gP 37 (.fad 2) [.t 36] 35 true,⟨.t 38,.ldLc 4 false 1,[.t 37],some 4,some (.t 35,true)⟩,gP 39 (.un .not) [.t 38] 35 true,oP 40 .pick [.t 35,.t 39,.c (.bool false)],vP 5 (.t 40)]
def c8s:=Ts [] [fP 19 1 (.l 4),lP 20 4 false 1 (.t 19),oP 21 .lenL [.t 20],bP 22 .eql (.t 21) (.c (.int .i64 1))] (.t 22) (Sq c6s .ret) .skip
def c50:=Rg [] [fP 41 1 (.l 4),lP 42 4 false 1 (.t 41),oP 43 .lenL [.t 42],bP 44 .eql (.t 43) (.c (.int .i64 0)),mP 45 (.t 44),gP 46 (.fad 2) [.l 4] 45 true,gP 47 (.fad 1) [.t 46] 45 true,⟨.t 48,.ldLc 4 false 1,[.t 47],some 4,some (.t 45,true)⟩,gP 49 .lenL [.t 48] 45 true,gP 50 (.bin .gtr) [.t 49,.c (.int .i64 0)] 45 true,oP 51 .pick [.t 45,.t 50,.c (.bool false)],mP 52 (.t 51),gP 53 (.fad 2) [.l 4] 52 true,gP 54 (.fad 2) [.t 53] 52 true,⟨.t 55,.ldLc 4 false 1,[.t 54],some 4,some (.t 52,true)⟩,oP 56 .pick [.t 52,.t 55,.c (.bool false)],mP 57 (.t 56),gP 58 (.fad 2) [.l 4] 57 true,gP 59 (.fad 0) [.t 58] 57 true,⟨.t 60,.ldLc 4 false 1,[.t 59],some 4,some (.t 57,true)⟩,gP 61 (.bin .eql) [.t 60,.c (.str [])] 57 true,oP 62 .pick [.t 57,.t 61,.c (.bool false)],mP 63 (.t 62),gP 64 (.fad 2) [.l 4] 63 true,gP 65 (.fad 1) [.t 64] 63 true,⟨.t 66,.ldLc 4 false 1,[.t 65],some 4,some (.t 63,true)⟩,gP 67 (.iad 3) [.t 66,.c (.int .i64 0)] 63 true,gP 68 (.fad 1) [.t 67] 63 true,gP 69 (.ldRo false 1) [.t 68] 63 true,gP 70 .lenL [.t 69] 63 true,gP 71 (.bin .eql) [.t 70,.c (.int .i64 0)] 63 true,oP 72 .pick [.t 63,.t 71,.c (.bool false)],mP 73 (.t 72),gP 74 (.fad 2) [.l 4] 73 true,gP 75 (.fad 1) [.t 74] 73 true,⟨.t 76,.ldLc 4 false 1,[.t 75],some 4,some (.t 73,true)⟩,gP 77 (.iad 3) [.t 76,.c (.int .i64 0)] 73 true,gP 78 (.fad 2) [.t 77] 73 true,gP 79 (.ldRo false 1) [.t 78] 73 true,oP 80 .pick [.t 73,.t 79,.c (.bool false)],vP 5 (.t 80)]
def c49:=Rg [] [fP 83 0 (.l 3),lP 84 3 false 1 (.t 83),bP 85 .eql (.t 84) (.c (.int .u8 1)),mP 86 (.t 85),gP 87 .mv [.v 0] 86 true,⟨.t 88,.ldLc 4 true 11,[.l 4],some 4,some (.t 86,true)⟩,gP 89 (.call 92) [.t 87,.t 88] 86 true,oP 90 .pick [.t 86,.t 89,.c (.bool false)],vP 5 (.t 90)]
def c8w:=Ts [] [oP 82 (.bin .eql) [.v 7,.c (.str [77,117,116,97,116,105,111,110])],mP 81 (.t 82)] (.t 81) (Sq c49 .ret) .skip
def c8N:=Ts [] [oP 11 (.bin .eql) [.v 7,.c (.str [81,117,101,114,121])],mP 10 (.t 11)] (.t 10) (Sq d3a (Sq d0b (Sq c8s (Sq c50 .ret)))) c8w
def c9i:=Rg [] [fP 91 1 (.l 4),lP 92 4 false 1 (.t 91),oP 93 .lenL [.t 92],bP 94 .eql (.t 93) (.c (.int .i64 0)),vP 5 (.t 94)]
def d6X:ACode :=
  (Sq d4Y (Sq (Sq d1A (Bk 0 c8N)) (Sq c9i .ret)))
def a55:AFn:={ np:=3,nv:=8,results:=[.v 5],code:=d6X }
def d9T:List Nat:=[0,1,2,4,5,6,7,9]
def e0G:List Nat:=[3,4]

def a56s1:=Rg [3] [op (.v 2) .boxO [.v 0],⟨.bx,.boxV,[.v 1],some 3,none⟩,vP 4 (.c (.bool false))]
def a56s3:=Rg [] [fP 5 5 (.l 3),lP 6 3 false 1 (.t 5),oP 7 (.mkF 94 0) [.v 2],oP 8 (.call 93) [.t 6,.t 7],oP 9 (.un .not) [.t 8],vP 4 (.t 9)]
def a56c:ACode :=
  (Sq a56s1 (Sq a56s3 .ret))
def a56:AFn:={ np:=2,nv:=5,results:=[.v 4],code:=a56c }
def d7b:List Nat:=[0,1,2,3,4]
def d9A:List Nat:=[3]

def a57s1:=Rg [2] [⟨.bx,.boxV,[.v 1],some 2,none⟩]
def a57s3:=Rg [] [fP 6 2 (.l 2),lP 7 2 false 1 (.t 6),op (.v 3) (.allocO [.str []]) [],op .none (.stSt 1) [.v 3,.t 7]]
def a57s6:=Rg [] [fP 11 1 (.l 2),lP 12 2 false 1 (.t 11),op .none (.stSt 1) [.v 3,.t 12]]
def a57s7:=Ts [] [fP 8 1 (.l 2),lP 9 2 false 1 (.t 8),oP 10 (.bin .neq) [.t 9,.c (.str [])]] (.t 10) a57s6 .skip
def a57s9:=Rg [] [nP 13 0,oP 14 .nilchk [.t 13],fP 15 10 (.t 14),oP 16 (.ldSt false 1) [.t 15],oP 17 (.mkF 97 0) [.v 3],oP 18 (.call 96) [.t 16,.t 17],vP 4 (.t 18)]
def a57s12:=Rg [] [nP 21 0,nP 22 0,oP 23 .nilchk [.t 22],fP 24 10 (.t 23),oP 25 .ldStS [.t 24],oP 26 (.ldSt false 1) [.v 3],oP 27 (.build [.str [],.list true []] [(0,1),(1,1)]) [.t 26,.c (.list true [])],oP 28 (.bsliceM 2 [[.str [],.list true []]] [0]) [.ts 27],oP 29 (.appM 2 40) [.ts 25,.t 28],oP 30 .nilchk [.t 21],fP 31 10 (.t 30),op .none (.stSt 1) [.t 31,.t 29]]
def a57s14:=Rg [] [nP 32 0,oP 33 .nilchk [.t 32],fP 34 10 (.t 33),oP 35 (.ldSt false 1) [.t 34],oP 36 .lenL [.t 35],bP 37 .sub (.t 36) (.c (.int .i64 1)),vP 4 (.t 37)]
def a57s16:=Ts [] [nP 19 4,bP 20 .lss (.t 19) (.c (.int .i64 0))] (.t 20) (Sq a57s12 a57s14) .skip
def a57s18:=Rg [] [nP 40 0,oP 41 .nilchk [.t 40],fP 42 10 (.t 41),oP 43 (.ldSt false 1) [.t 42],nP 44 4,oP 45 (.iad 2) [.t 43,.t 44],fP 46 1 (.t 45),oP 47 .ldStS [.t 46],⟨.v 5,.ldLc 2 true 7,[.l 2],some 2,none⟩,op (.v 6) .lenL [.t 47],oP 50 (.bsliceM 7 [[.int .u8 0,.str [],.str [],.str [],.list true [],.list true [],.list true []]] [0]) [.c (.agg [.int .u8 0,.str [],.str [],.str [],.list true [],.list true [],.list true []])],op (.v 7) (.appM 7 128) [.ts 47,.t 50],oP 52 (.iad 2) [.t 43,.t 44],fP 53 1 (.t 52),op .none (.stSt 1) [.t 53,.v 7]]
def a57s20:=Rg [] [oP 54 (.iad 7) [.v 7,.v 6],op .none (.stSt 7) [.t 54,.v 5]]
def a57s21:=Sq a57s18 a57s20
def a57s23:=Rg [] [nP 55 0,oP 56 .nilchk [.t 55],fP 57 10 (.t 56),oP 58 (.ldStR false 1) [.t 57,.v 0],nP 59 4,nP 60 0,oP 61 .nilchk [.t 60],fP 62 10 (.t 61),oP 63 (.ldSt false 1) [.t 62],nP 64 4,oP 65 (.iad 2) [.t 63,.t 64],fP 66 1 (.t 65),oP 67 .ldStS [.t 66],lP 68 2 true 7 (.l 2),oP 69 (.bsliceM 7 [[.int .u8 0,.str [],.str [],.str [],.list true [],.list true [],.list true []]] [0]) [.ts 68],oP 70 (.appM 7 128) [.ts 67,.t 69,.v 0],oP 71 (.iad 2) [.t 58,.t 59],fP 72 1 (.t 71),op .none (.stSt 1) [.t 72,.t 70]]
def a57s24:ACode:=.either [5,6,7] a57s21 a57s23
def a57c:ACode :=
  (Sq a57s1 (Sq a57s3 (Sq a57s7 (Sq a57s9 (Sq a57s16 a57s24)))))
def a57:AFn:={ np:=2,nv:=8,results:=[],code:=a57c }
def d7B:List Nat:=[0,1,3,4,5,48,49,51]
def e0O:List Nat:=[2]

def a58s1:=Rg [] [vP 2 (.c (.int .i64 0))]
def a58s3:=Rg [] [nP 6 0,op (.v 4) .lenL [.t 6],vP 5 (.c (.int .i64 0))]
def a58s5:=Ts [] [bP 9 .lss (.v 5) (.v 4)] (.t 9) .skip (.exit 0)
def a58s7:=Rg [] [nP 10 5,vP 3 (.t 10)]
def a58s10:=Rg [] [nP 17 3,vP 2 (.t 17)]
def a58s12:=Ts [] [nP 11 1,nP 12 0,nP 13 3,oP 14 (.iad 3) [.t 12,.t 13],oP 15 (.ldRo true 3) [.t 14],oP 16 .callV [.t 11,.t 15]] (.t 16) (Sq a58s10 .ret) .skip
def a58s16:=Rg [] [bP 18 .add (.v 5) (.c (.int .i64 1)),vP 5 (.t 18)]
def a58s23:=Rg [] [vP 2 (.c (.int .i64 (-1)))]
def a58c:ACode :=
  (Sq a58s1 (Sq (Sq a58s3 (Bk 0 (Lp (Sq a58s5 (Sq (Bk 1 (Sq a58s7 a58s12)) a58s16))))) (Sq a58s23 .ret)))
def a58:AFn:={ np:=2,nv:=6,results:=[.v 2],code:=a58c }
def d53:List Nat:=[0,1,4,5,7,8]
def d5S:List Nat:=[]

def a59s1:=Rg [2] [⟨.bx,.boxV,[.v 0],some 2,none⟩,vP 3 (.c (.bool false))]
def a59s3:=Rg [] [fP 4 0 (.l 2),lP 5 2 false 1 (.t 4),fP 6 2 (.v 1),oP 7 (.ldSt false 1) [.t 6],bP 8 .eql (.t 5) (.t 7),vP 3 (.t 8)]
def a59c:ACode :=
  (Sq a59s1 (Sq a59s3 .ret))
def a59:AFn:={ np:=2,nv:=4,results:=[.v 3],code:=a59c }
def d6A:List Nat:=[0,1,2,3]
def d6C:List Nat:=[2]

def a60s1:=Rg [] [vP 2 (.c (.bool false))]
def a60s3:=Rg [1000000,1000001,1000002,1000003,1000004,1000005,1000006,1000007,1000008,1000009,1000010,1000011,1000013,1000014,1000015,1000016,1000012,1000017,1000018,1000019] [nP 5 1,nP 6 0,oP 7 .nilchk [.t 6],fP 8 3 (.t 7),oP 9 (.ldSt false 1) [.t 8],bP 10 .eql (.t 5) (.t 9),mP 11 (.t 10),gP 12 .mv [.v 0] 11 false,gP 13 .nilchk [.t 12] 11 false,gP 14 (.fad 0) [.t 13] 11 false,gP 15 (.ldSt false 1) [.t 14] 11 false,gP 16 .mv [.v 1] 11 false,gP 18 .mv [.v 0] 11 false,gP 19 .nilchk [.t 18] 11 false,gP 20 (.fad 3) [.t 19] 11 false,gP 21 (.ldStR false 1) [.t 20,.v 0] 11 false,gP 17 (.callA 98 2) [.t 15,.t 16,.v 0] 11 false,gP 22 (.call 45) [.t 17,.t 21] 11 false,oP 23 .pick [.t 11,.c (.bool true),.t 22],vP 2 (.t 23)]
def a60c:ACode :=
  (Sq a60s1 (Sq a60s3 .ret))
def a60:AFn:={ np:=2,nv:=3,results:=[.v 2],code:=a60c }
def e0t:List Nat:=[0,1,4]
def d95:List Nat:=[]

def a61s1:=Rg [1] [⟨.bx,.boxV,[.v 0],some 1,none⟩,op (.v 2) .mv [.c (.str [])]]
def a61s3:=Rg [] [op (.v 3) .mv [.c (.str [])]]
def a61s5:=Rg [] [fP 5 0 (.l 1),⟨.v 5,.ldLc 1 false 1,[.t 5],some 1,none⟩]
def a61s9:=Rg [] [fP 20 1 (.l 1),lP 21 1 false 1 (.t 20),oP 22 (.bin .add) [.t 21,.c (.str [58,32])],vP 3 (.t 22)]
def a61s10:=Ts [] [fP 17 1 (.l 1),lP 18 1 false 1 (.t 17),oP 19 (.bin .neq) [.t 18,.c (.str [])]] (.t 19) a61s9 .skip
def a61s12:=Rg [] [nP 23 3,fP 24 2 (.l 1),lP 25 1 false 1 (.t 24),fP 26 4 (.l 1),lP 27 1 false 1 (.t 26),oP 28 (.call 99) [.t 27],bP 29 .add (.t 25) (.t 28),bP 30 .add (.t 23) (.t 29),vP 3 (.t 30)]
def a61s16:=Rg [] [fP 33 2 (.l 1),lP 34 1 false 1 (.t 33),oP 35 (.bin .add) [.c (.str [46,46,46]),.t 34],vP 3 (.t 35)]
def a61s18:=Rg [] [op (.v 3) .mv [.c (.str [46,46,46])]]
def a61s21:=Rg [] [nP 10 3,fP 11 3 (.l 1),lP 12 1 false 1 (.t 11),oP 13 (.bin .add) [.c (.str [32,111,110,32]),.t 12],bP 14 .add (.t 10) (.t 13),vP 3 (.t 14)]
def a61s22:=Ts [] [fP 7 3 (.l 1),lP 8 1 false 1 (.t 7),oP 9 (.bin .neq) [.t 8,.c (.str [])]] (.t 9) a61s21 .skip
def a61s24:=Ts [] [bP 32 .eql (.v 5) (.c (.int .u8 2)),mP 31 (.t 32)] (.t 31) a61s16 (Sq a61s18 a61s22)
def a61s25:=Ts [] [bP 16 .eql (.v 5) (.c (.int .u8 1)),mP 15 (.t 16)] (.t 15) (Sq a61s10 a61s12) a61s24
def a61s29:=Rg [] [vP 4 (.c (.int .i64 0))]
def a61s31:=Ts [] [nP 36 4,fP 37 5 (.l 1),lP 38 1 false 1 (.t 37),oP 39 .lenL [.t 38],bP 40 .lss (.t 36) (.t 39)] (.t 40) .skip (.exit 1)
def a61s33:=Rg [] [nP 43 3,fP 44 5 (.l 1),lP 45 1 false 1 (.t 44),nP 46 4,oP 47 (.iad 2) [.t 45,.t 46],fP 48 0 (.t 47),oP 49 (.ldRo false 1) [.t 48],oP 50 (.bin .add) [.c (.str [32,64]),.t 49],fP 51 5 (.l 1),lP 52 1 false 1 (.t 51),nP 53 4,oP 54 (.iad 2) [.t 52,.t 53],fP 55 1 (.t 54),oP 56 (.ldRo false 1) [.t 55],oP 57 (.call 99) [.t 56],bP 58 .add (.t 50) (.t 57),bP 59 .add (.t 43) (.t 58),vP 3 (.t 59)]
def a61s36:=Rg [] [nP 41 4,bP 42 .add (.t 41) (.c (.int .i64 1)),vP 4 (.t 42)]
def a61s44:=Rg [] [nP 64 3,fP 65 6 (.l 1),lP 66 1 false 1 (.t 65),oP 67 (.call 100) [.t 66],bP 68 .add (.t 64) (.t 67),vP 3 (.t 68)]
def a61s45:=Ts [] [fP 60 6 (.l 1),lP 61 1 false 1 (.t 60),oP 62 .lenL [.t 61],bP 63 .gtr (.t 62) (.c (.int .i64 0))] (.t 63) a61s44 .skip
def a61s47:=Rg [] [nP 69 3,vP 2 (.t 69)]
def a61s50:=Sq (Sq a61s29 (Bk 1 (Lp (Sq a61s31 (Sq (Bk 2 a61s33) a61s36))))) (Sq a61s45 (Sq a61s47 .ret))
def a61c:ACode :=
  (Sq a61s1 (Sq a61s3 (Sq (Sq a61s5 (Bk 0 a61s25)) a61s50)))
def a61:AFn:={ np:=1,nv:=6,results:=[.v 2],code:=a61c }
def d9R:List Nat:=[0,1,2,3,4,6]
def d9s:List Nat:=[1]

def a62s1:=Rg [2,3] [⟨.bx,.boxV,[.v 0],some 2,none⟩,⟨.bx,.boxV,[.v 1],some 3,none⟩,vP 4 (.c (.bool false))]
def a62s3:=Rg [] [vP 5 (.c (.int .i64 0))]
def a62s5:=Ts [] [nP 10 5,fP 11 5 (.l 2),lP 12 2 false 1 (.t 11),oP 13 .lenL [.t 12],bP 14 .lss (.t 10) (.t 13)] (.t 14) .skip (.exit 0)
def a62s7:=Rg [6] [fP 17 5 (.l 2),lP 18 2 false 1 (.t 17),nP 19 5,oP 20 (.iad 2) [.t 18,.t 19],oP 21 (.ldRo true 2) [.t 20],⟨.bx,.alloc [.str [],.list true []],[],some 6,none⟩,xP (.stLc 6 2) [.l 6,.ts 21] 6]
def a62s9:=Rg [] [vP 7 (.c (.bool false))]
def a62s11:=Rg [] [fP 22 1 (.l 6),lP 23 6 false 1 (.t 22),oP 24 .lenL [.t 23],bP 25 .sub (.t 24) (.c (.int .i64 1)),vP 8 (.t 25)]
def a62s13:=Ts [] [nP 26 8,bP 27 .geq (.t 26) (.c (.int .i64 0))] (.t 27) .skip (.exit 2)
def a62s15:=Ts [] [fP 30 1 (.l 6),lP 31 6 false 1 (.t 30),nP 32 8,oP 33 (.iad 6) [.t 31,.t 32],fP 34 0 (.t 33),oP 35 (.ldRo false 1) [.t 34],oP 36 (.bin .neq) [.t 35,.c (.str [105,102])]] (.t 36) (.exit 3) .skip
def a62s17:=Rg [9] [fP 37 1 (.l 6),lP 38 6 false 1 (.t 37),nP 39 8,oP 40 (.iad 6) [.t 38,.t 39],fP 41 1 (.t 40),oP 42 (.ldRo true 5) [.t 41],⟨.bx,.alloc [.int .u8 0,.int .i64 0,.str [],.list true [],.list true []],[],some 9,none⟩,xP (.stLc 9 5) [.l 9,.ts 42] 9]
def a62s20:=Rg [] [lP 47 3 true 5 (.l 3),fP 48 2 (.l 9),lP 49 9 false 1 (.t 48),oP 50 (.call 101) [.t 47,.t 49],mP 46 (.t 50),oP 51 (.ext 0) [.t 46],oP 52 (.ext 1) [.t 46],xP (.stLc 9 5) [.l 9,.ts 51] 9]
def a62s21:=Ts [] [fP 43 0 (.l 9),lP 44 9 false 1 (.t 43),bP 45 .eql (.t 44) (.c (.int .u8 7))] (.t 45) a62s20 .skip
def a62s23:=Rg [] [fP 53 0 (.l 9),lP 54 9 false 1 (.t 53),bP 55 .eql (.t 54) (.c (.int .u8 3)),mP 56 (.t 55),gP 57 (.fad 1) [.l 9] 56 true,⟨.t 58,.ldLc 9 false 1,[.t 57],some 9,some (.t 56,true)⟩,gP 59 (.bin .eql) [.t 58,.c (.int .i64 1)] 56 true,oP 60 .pick [.t 56,.t 59,.c (.bool false)],vP 7 (.t 60)]
def a62s29:=Rg [] [nP 28 8,bP 29 .sub (.t 28) (.c (.int .i64 1)),vP 8 (.t 29)]
def a62s37:=Rg [] [vP 4 (.c (.bool false))]
def a62s39:=Ts [] [fP 61 0 (.l 6),lP 62 6 false 1 (.t 61),oP 63 (.bin .eql) [.t 62,.c (.str [115,107,105,112])],mP 64 (.t 63),gP 65 .mv [.v 7] 64 true,oP 66 .pick [.t 64,.t 65,.c (.bool false)],mP 67 (.t 66),gP 68 (.fad 0) [.l 6] 67 false,⟨.t 69,.ldLc 6 false 1,[.t 68],some 6,some (.t 67,false)⟩,gP 70 (.bin .eql) [.t 69,.c (.str [105,110,99,108,117,100,101])] 67 false,gP 71 .mv [.t 70] 67 false,gP 72 .mv [.v 7] 71 true,gP 73 (.un .not) [.t 72] 71 true,gP 74 .pick [.t 71,.t 73,.c (.bool false)] 67 false,oP 75 .pick [.t 67,.c (.bool true),.t 74]] (.t 75) (Sq a62s37 .ret) .skip
def a62s45:=Rg [] [nP 15 5,bP 16 .add (.t 15) (.c (.int .i64 1)),vP 5 (.t 16)]
def a62s52:=Rg [] [vP 4 (.c (.bool true))]
def a62c:ACode :=
  (Sq a62s1 (Sq (Sq a62s3 (Bk 0 (Lp (Sq a62s5 (Sq (Bk 1 (Sq a62s7 (Sq a62s9 (Sq (Sq a62s11 (Bk 2 (Lp (Sq a62s13 (Sq (Bk 3 (Sq a62s15 (Sq a62s17 (Sq a62s21 a62s23)))) a62s29))))) a62s39)))) a62s45))))) (Sq a62s52 .ret)))
def a62:AFn:={ np:=2,nv:=10,results:=[.v 4],code:=a62c }
def d76:List Nat:=[0,1,2,3,4,5,6,7,8,9]
def d6J:List Nat:=[2,3,6,9]

def a63s1:=Rg [] [op (.v 2) .mv [.c (.list true [])]]
def a63s3:=Rg [3] [nP 8 0,nP 9 1,oP 10 (.call 54) [.t 8,.t 9],⟨.bx,.alloc [.int .u8 0,.str [],.list true [],.list true []],[],some 3,none⟩,xP (.stLc 3 4) [.l 3,.ts 10] 3]
def a63s5:=Rg [] [fP 11 0 (.l 3),⟨.v 6,.ldLc 3 false 1,[.t 11],some 3,none⟩]
def a63s8:=Rg [] [nP 15 1,oP 16 (.bslice 1 [[.str []]] [0]) [.t 15],vP 2 (.ts 16)]
def a63s12:=Rg [] [fP 19 3 (.l 3),lP 20 3 false 1 (.t 19),vP 2 (.ts 20)]
def a63s16:=Rg [] [op (.v 4) .mv [.c (.list true [])]]
def a63s18:=Rg [] [vP 5 (.c (.int .i64 0))]
def a63s20:=Ts [] [nP 23 5,nP 24 0,oP 25 .nilchk [.t 24],fP 26 0 (.t 25),oP 27 (.ldSt false 1) [.t 26],oP 28 .lenL [.t 27],bP 29 .lss (.t 23) (.t 28)] (.t 29) .skip (.exit 1)
def a63s23:=Rg [] [mP 53 (.vs 4),nP 54 0,oP 55 .nilchk [.t 54],fP 56 0 (.t 55),oP 57 (.ldSt false 1) [.t 56],nP 58 5,oP 59 (.iad 4) [.t 57,.t 58],fP 60 1 (.t 59),oP 61 (.ldRo false 1) [.t 60],oP 62 (.bslice 1 [[.str []]] [0]) [.t 61],oP 63 (.app 1 16) [.ts 53,.t 62],vP 4 (.ts 63)]
def a63s24:=Ts [] [nP 32 0,oP 33 .nilchk [.t 32],fP 34 0 (.t 33),oP 35 (.ldSt false 1) [.t 34],nP 36 5,oP 37 (.iad 4) [.t 35,.t 36],fP 38 0 (.t 37),oP 39 (.ldRo false 1) [.t 38],bP 40 .eql (.t 39) (.c (.int .u8 1)),mP 41 (.t 40),gP 42 .mv [.v 0] 41 true,gP 43 .nilchk [.t 42] 41 true,gP 44 (.fad 0) [.t 43] 41 true,gP 45 (.ldSt false 1) [.t 44] 41 true,gP 46 .mv [.v 5] 41 true,gP 47 (.iad 4) [.t 45,.t 46] 41 true,gP 48 (.fad 3) [.t 47] 41 true,gP 49 (.ldRo false 1) [.t 48] 41 true,gP 50 .mv [.v 1] 41 true,gP 51 (.call 51) [.t 49,.t 50] 41 true,oP 52 .pick [.t 41,.t 51,.c (.bool false)]] (.t 52) a63s23 .skip
def a63s27:=Rg [] [nP 30 5,bP 31 .add (.t 30) (.c (.int .i64 1)),vP 5 (.t 31)]
def a63s34:=Rg [] [nP 64 4,vP 2 (.ts 64)]
def a63s38:=Ts [] [bP 22 .eql (.v 6) (.c (.int .u8 2)),mP 21 (.t 22)] (.t 21) (Sq a63s16 (Sq (Sq a63s18 (Bk 1 (Lp (Sq a63s20 (Sq (Bk 2 a63s24) a63s27))))) (Sq a63s34 .ret))) .skip
def a63s39:=Ts [] [bP 18 .eql (.v 6) (.c (.int .u8 3)),mP 17 (.t 18)] (.t 17) (Sq a63s12 .ret) a63s38
def a63s40:=Ts [] [bP 14 .eql (.v 6) (.c (.int .u8 1)),mP 13 (.t 14)] (.t 13) (Sq a63s8 .ret) a63s39
def a63s44:=Rg [] [op (.v 2) .mv [.c (.list true [])]]
def a63c:ACode :=
  (Sq a63s1 (Sq a63s3 (Sq (Sq a63s5 (Bk 0 a63s40)) (Sq a63s44 .ret))))
def a63:AFn:={ np:=2,nv:=7,results:=[.v 2],code:=a63c }
def d87:List Nat:=[0,1,4,5,6,7,12]
def d9b:List Nat:=[3]

def a64s1:=Rg [] [vP 1 (.c (.bool false))]
def a64s3:=Rg [] [nP 3 0,bP 4 .geq (.t 3) (.c (.int .u8 97)),mP 5 (.t 4),gP 6 .mv [.v 0] 5 true,gP 7 (.bin .leq) [.t 6,.c (.int .u8 122)] 5 true,oP 8 .pick [.t 5,.t 7,.c (.bool false)],mP 9 (.t 8),gP 10 .mv [.v 0] 9 false,gP 11 (.bin .geq) [.t 10,.c (.int .u8 65)] 9 false,gP 12 .mv [.t 11] 9 false,gP 13 .mv [.v 0] 12 true,gP 14 (.bin .leq) [.t 13,.c (.int .u8 90)] 12 true,gP 15 .pick [.t 12,.t 14,.c (.bool false)] 9 false,oP 16 .pick [.t 9,.c (.bool true),.t 15],mP 17 (.t 16),gP 18 .mv [.v 0] 17 false,gP 19 (.bin .eql) [.t 18,.c (.int .u8 95)] 17 false,oP 20 .pick [.t 17,.c (.bool true),.t 19],vP 1 (.t 20)]
def a64c:ACode :=
  (Sq a64s1 (Sq a64s3 .ret))
def a64:AFn:={ np:=1,nv:=2,results:=[.v 1],code:=a64c }
def d6I:List Nat:=[0,2]
def e0q:List Nat:=[]

def a65s1:=Rg [] [vP 1 (.c (.bool false))]
def a65s3:=Rg [] [nP 3 0,bP 4 .geq (.t 3) (.c (.int .u8 48)),mP 5 (.t 4),gP 6 .mv [.v 0] 5 true,gP 7 (.bin .leq) [.t 6,.c (.int .u8 57)] 5 true,oP 8 .pick [.t 5,.t 7,.c (.bool false)],vP 1 (.t 8)]
def a65c:ACode :=
  (Sq a65s1 (Sq a65s3 .ret))
def a65:AFn:={ np:=1,nv:=2,results:=[.v 1],code:=a65c }
def d7e:List Nat:=[0,2]
def d8P:List Nat:=[]

def a66s1:=Rg [2] [⟨.bx,.alloc [.int .u8 0,.str [],.int .i64 0,.int .i64 0],[],some 2,none⟩,vP 3 (.c (.int .i64 0)),vP 4 (.c (.int .i64 0)),vP 5 (.c (.int .i64 0))]
def a66s3:=Rg [] [nP 12 1,vP 6 (.t 12)]
def a66s5:=Rg [] [nP 13 0,nP 14 6,oP 15 .idxS [.t 13,.t 14],bP 16 .eql (.t 15) (.c (.int .u8 45)),vP 7 (.t 16)]
def a66s8:=Rg [] [nP 18 6,bP 19 .add (.t 18) (.c (.int .i64 1)),vP 6 (.t 19)]
def a66s9:=Ts [] [nP 17 7] (.t 17) a66s8 .skip
def a66s11:=Rg [] [nP 20 6,vP 8 (.t 20)]
def a66s13:=Rg [] [vP 9 (.c (.int .i64 0))]
def a66s15:=Ts [] [nP 21 6,nP 22 0,oP 23 .lenS [.t 22],bP 24 .lss (.t 21) (.t 23),mP 25 (.t 24),gP 26 .mv [.v 0] 25 true,gP 27 .mv [.v 6] 25 true,gP 28 .idxS [.t 26,.t 27] 25 true,gP 29 (.call 65) [.t 28] 25 true,oP 30 .pick [.t 25,.t 29,.c (.bool false)]] (.t 30) .skip (.exit 0)
def a66s18:=Rg [] [nP 35 9,bP 36 .mul (.t 35) (.c (.int .i64 10)),nP 37 0,nP 38 6,oP 39 .idxS [.t 37,.t 38],bP 40 .sub (.t 39) (.c (.int .u8 48)),oP 41 (.conv .i64) [.t 40],bP 42 .add (.t 36) (.t 41),vP 9 (.t 42)]
def a66s19:=Ts [] [nP 31 6,nP 32 8,bP 33 .sub (.t 31) (.t 32),bP 34 .lss (.t 33) (.c (.int .i64 18))] (.t 34) a66s18 .skip
def a66s21:=Rg [] [nP 43 6,bP 44 .add (.t 43) (.c (.int .i64 1)),vP 6 (.t 44)]
def a66s29:=Rg [] [oP 49 (.build [.int .u8 0,.str [],.int .i64 0,.int .i64 0] []) [],nP 50 6,xP (.stLc 2 4) [.l 2,.t 49] 2,vP 3 (.c (.int .i64 0)),vP 4 (.t 50),vP 5 (.c (.int .i64 4))]
def a66s33:=Rg [] [oP 62 (.build [.int .u8 0,.str [],.int .i64 0,.int .i64 0] []) [],nP 63 8,bP 64 .add (.t 63) (.c (.int .i64 1)),xP (.stLc 2 4) [.l 2,.t 62] 2,vP 3 (.c (.int .i64 0)),vP 4 (.t 64),vP 5 (.c (.int .i64 4))]
def a66s37:=Rg [] [oP 82 (.build [.int .u8 0,.str [],.int .i64 0,.int .i64 0] []) [],nP 83 6,xP (.stLc 2 4) [.l 2,.t 82] 2,vP 3 (.c (.int .i64 0)),vP 4 (.t 83),vP 5 (.c (.int .i64 4))]
def a66s41:=Rg [] [oP 89 (.build [.int .u8 0,.str [],.int .i64 0,.int .i64 0] []) [],nP 90 1,xP (.stLc 2 4) [.l 2,.t 89] 2,vP 3 (.c (.int .i64 0)),vP 4 (.t 90),vP 5 (.c (.int .i64 1))]
def a66s43:=Ts [] [nP 85 6,nP 86 8,bP 87 .sub (.t 85) (.t 86),bP 88 .gtr (.t 87) (.c (.int .i64 18)),mP 84 (.t 88)] (.t 84) (Sq a66s41 .ret) .skip
def a66s44:=Ts [] [nP 66 6,nP 67 0,oP 68 .lenS [.t 67],bP 69 .lss (.t 66) (.t 68),mP 70 (.t 69),gP 71 .mv [.v 0] 70 true,gP 72 .mv [.v 6] 70 true,gP 73 .idxS [.t 71,.t 72] 70 true,gP 74 (.call 64) [.t 73] 70 true,gP 75 .mv [.t 74] 70 true,gP 76 .mv [.v 0] 75 false,gP 77 .mv [.v 6] 75 false,gP 78 .idxS [.t 76,.t 77] 75 false,gP 79 (.bin .eql) [.t 78,.c (.int .u8 46)] 75 false,gP 80 .pick [.t 75,.c (.bool true),.t 79] 70 true,oP 81 .pick [.t 70,.t 80,.c (.bool false)],mP 65 (.t 81)] (.t 65) (Sq a66s37 .ret) a66s43
def a66s45:=Ts [] [nP 52 0,nP 53 8,oP 54 .idxS [.t 52,.t 53],bP 55 .eql (.t 54) (.c (.int .u8 48)),mP 56 (.t 55),gP 57 .mv [.v 6] 56 true,gP 58 .mv [.v 8] 56 true,gP 59 (.bin .add) [.t 58,.c (.int .i64 1)] 56 true,gP 60 (.bin .gtr) [.t 57,.t 59] 56 true,oP 61 .pick [.t 56,.t 60,.c (.bool false)],mP 51 (.t 61)] (.t 51) (Sq a66s33 .ret) a66s44
def a66s46:=Ts [] [nP 46 6,nP 47 8,bP 48 .eql (.t 46) (.t 47),mP 45 (.t 48)] (.t 45) (Sq a66s29 .ret) a66s45
def a66s50:=Rg [] [nP 92 9,oP 93 (.un .neg) [.t 92],vP 9 (.t 93)]
def a66s51:=Ts [] [nP 91 7] (.t 91) a66s50 .skip
def a66s53:=Rg [] [nP 94 0,nP 95 1,nP 96 6,oP 97 (.slS true true) [.t 94,.t 95,.t 96],nP 98 9,oP 99 (.build [.int .u8 0,.str [],.int .i64 0,.int .i64 0] [(0,1),(1,1),(2,1)]) [.c (.int .u8 2),.t 97,.t 98],nP 100 6,xP (.stLc 2 4) [.l 2,.t 99] 2,vP 3 (.t 100),vP 4 (.c (.int .i64 0)),vP 5 (.c (.int .i64 0))]
def a66c:ACode :=
  (Sq a66s1 (Sq a66s3 (Sq a66s5 (Sq a66s9 (Sq a66s11 (Sq a66s13 (Sq (Bk 0 (Lp (Sq a66s15 (Bk 1 (Sq a66s19 a66s21))))) (Sq (Bk 2 a66s46) (Sq a66s51 (Sq a66s53 .ret))))))))))
def a66:AFn:={ np:=2,nv:=10,results:=[.bx 2 true 4,.v 3,.v 4,.v 5],code:=a66c }
def e0X:List Nat:=[0,1,4,5,6,7,8,9,10,11]
def d69:List Nat:=[2]

def a67s1:=Rg [2] [⟨.bx,.alloc [.int .u8 0,.str [],.int .i64 0,.int .i64 0],[],some 2,none⟩,vP 3 (.c (.int .i64 0)),vP 4 (.c (.int .i64 0)),vP 5 (.c (.int .i64 0))]
def a67s3:=Rg [] [op (.v 6) .mv [.c (.str [])]]
def a67s5:=Rg [] [nP 10 1,bP 11 .add (.t 10) (.c (.int .i64 1)),vP 7 (.t 11)]
def a67s7:=Ts [] [nP 12 7,nP 13 0,oP 14 .lenS [.t 13],bP 15 .lss (.t 12) (.t 14)] (.t 15) .skip (.exit 0)
def a67s9:=Rg [] [nP 16 0,nP 17 7,op (.v 8) .idxS [.t 16,.t 17]]
def a67s13:=Rg [] [oP 31 (.build [.int .u8 0,.str [],.int .i64 0,.int .i64 0] []) [],nP 32 1,xP (.stLc 2 4) [.l 2,.t 31] 2,vP 3 (.c (.int .i64 0)),vP 4 (.t 32),vP 5 (.c (.int .i64 2))]
def a67s15:=Ts [] [nP 28 6,oP 29 .lenS [.t 28],bP 30 .gtr (.t 29) (.c (.int .i64 200))] (.t 30) (Sq a67s13 .ret) .skip
def a67s17:=Rg [] [nP 33 6,oP 34 (.build [.int .u8 0,.str [],.int .i64 0,.int .i64 0] [(0,1),(1,1)]) [.c (.int .u8 3),.t 33],nP 35 7,bP 36 .add (.t 35) (.c (.int .i64 1)),xP (.stLc 2 4) [.l 2,.t 34] 2,vP 3 (.t 36),vP 4 (.c (.int .i64 0)),vP 5 (.c (.int .i64 0))]
def a67s22:=Rg [] [oP 39 (.build [.int .u8 0,.str [],.int .i64 0,.int .i64 0] []) [],nP 40 7,xP (.stLc 2 4) [.l 2,.t 39] 2,vP 3 (.c (.int .i64 0)),vP 4 (.t 40),vP 5 (.c (.int .i64 4))]
def a67s26:=Rg [] [nP 43 7,bP 44 .add (.t 43) (.c (.int .i64 1)),vP 7 (.t 44)]
def a67s29:=Rg [] [oP 49 (.build [.int .u8 0,.str [],.int .i64 0,.int .i64 0] []) [],nP 50 7,xP (.stLc 2 4) [.l 2,.t 49] 2,vP 3 (.c (.int .i64 0)),vP 4 (.t 50),vP 5 (.c (.int .i64 4))]
def a67s31:=Ts [] [nP 45 7,nP 46 0,oP 47 .lenS [.t 46],bP 48 .eql (.t 45) (.t 47)] (.t 48) (Sq a67s29 .ret) .skip
def a67s33:=Rg [] [nP 51 0,nP 52 7,op (.v 9) .idxS [.t 51,.t 52]]
def a67s36:=Rg [] [nP 58 6,oP 59 (.bin .add) [.t 58,.c (.str [10])],vP 6 (.t 59)]
def a67s39:=Rg [] [nP 62 6,oP 63 (.bin .add) [.t 62,.c (.str [9])],vP 6 (.t 63)]
def a67s43:=Rg [] [bP 67 .eql (.v 9) (.c (.int .u8 92)),vP 10 (.t 67)]
def a67s44:=Ts [] [bP 66 .eql (.v 9) (.c (.int .u8 47)),vP 10 (.t 66)] (.v 10) .skip a67s43
def a67s45:=Ts [] [bP 65 .eql (.v 9) (.c (.int .u8 34)),vP 10 (.t 65)] (.v 10) .skip a67s44
def a67s47:=Rg [] [nP 68 6,nP 69 0,nP 70 7,nP 71 7,bP 72 .add (.t 71) (.c (.int .i64 1)),oP 73 (.slS true true) [.t 69,.t 70,.t 72],bP 74 .add (.t 68) (.t 73),vP 6 (.t 74)]
def a67s49:=Rg [] [oP 54 (.build [.int .u8 0,.str [],.int .i64 0,.int .i64 0] []) [],nP 55 7,xP (.stLc 2 4) [.l 2,.t 54] 2,vP 3 (.c (.int .i64 0)),vP 4 (.t 55),vP 5 (.c (.int .i64 4))]
def a67s51:=Ts [] [] (.v 10) a67s47 (Sq a67s49 .ret)
def a67s53:=Ts [] [bP 61 .eql (.v 9) (.c (.int .u8 116)),mP 60 (.t 61)] (.t 60) a67s39 (Sq a67s45 a67s51)
def a67s54:=Ts [] [bP 57 .eql (.v 9) (.c (.int .u8 110)),mP 56 (.t 57)] (.t 56) a67s36 a67s53
def a67s60:=Rg [] [nP 19 6,nP 20 0,nP 21 7,nP 22 7,bP 23 .add (.t 22) (.c (.int .i64 1)),oP 24 (.slS true true) [.t 20,.t 21,.t 23],bP 25 .add (.t 19) (.t 24),vP 6 (.t 25)]
def a67s61:=Ts [] [bP 42 .eql (.v 8) (.c (.int .u8 92)),mP 41 (.t 42)] (.t 41) (Sq a67s26 (Sq a67s31 (Sq a67s33 (Bk 3 a67s54)))) a67s60
def a67s62:=Ts [] [bP 38 .eql (.v 8) (.c (.int .u8 10)),mP 37 (.t 38)] (.t 37) (Sq a67s22 .ret) a67s61
def a67s63:=Ts [] [bP 27 .eql (.v 8) (.c (.int .u8 34)),mP 26 (.t 27)] (.t 26) (Sq a67s15 (Sq a67s17 .ret)) a67s62
def a67s67:=Rg [] [nP 75 7,bP 76 .add (.t 75) (.c (.int .i64 1)),vP 7 (.t 76)]
def a67s74:=Rg [] [oP 77 (.build [.int .u8 0,.str [],.int .i64 0,.int .i64 0] []) [],nP 78 7,xP (.stLc 2 4) [.l 2,.t 77] 2,vP 3 (.c (.int .i64 0)),vP 4 (.t 78),vP 5 (.c (.int .i64 4))]
def a67c:ACode :=
  (Sq a67s1 (Sq a67s3 (Sq a67s5 (Sq (Bk 0 (Lp (Sq a67s7 (Bk 1 (Sq (Sq a67s9 (Bk 2 a67s63)) a67s67))))) (Sq a67s74 .ret)))))
def a67:AFn:={ np:=2,nv:=11,results:=[.bx 2 true 4,.v 3,.v 4,.v 5],code:=a67c }
def d9g:List Nat:=[0,1,4,5,6,7,8,9,18,53,64]
def d5J:List Nat:=[2]

def a68s1:=Rg [] [op (.v 1) .mv [.c (.list true [])]]
def a68s3:=Rg [] [op (.v 2) .mv [.c (.list true [])]]
def a68s6:=Rg [] [op (.v 1) .mv [.c (.list true [])]]
def a68s8:=Ts [] [nP 6 0,oP 7 (.call 25) [.t 6,.c (.str [40])],oP 8 (.un .not) [.t 7]] (.t 8) (Sq a68s6 .ret) .skip
def a68s10:=Rg [] [vP 3 (.c (.bool true))]
def a68s12:=Ts [] [nP 9 0,oP 10 .nilchk [.t 9],fP 11 4 (.t 10),oP 12 (.ldSt false 1) [.t 11],bP 13 .eql (.t 12) (.c (.int .i64 0)),mP 14 (.t 13),gP 15 .mv [.v 3] 14 true,gP 16 .mv [.t 15] 14 true,gP 17 .mv [.v 0] 16 false,gP 18 (.call 25) [.t 17,.c (.str [41])] 16 false,gP 19 (.un .not) [.t 18] 16 false,gP 20 .pick [.t 16,.c (.bool true),.t 19] 14 true,oP 21 .pick [.t 14,.t 20,.c (.bool false)]] (.t 21) .skip (.exit 0)
def a68s14:=Rg [4] [nP 22 0,oP 23 (.call 21) [.t 22],oP 24 (.build [.str [],.int .u8 0,.int .i64 0,.str [],.list true [],.list true []] [(0,1)]) [.t 23],⟨.bx,.alloc [.str [],.int .u8 0,.int .i64 0,.str [],.list true [],.list true []],[],some 4,none⟩,xP (.stLc 4 6) [.l 4,.ts 24] 4]
def a68s16:=Rg [] [nP 25 0,oP 26 (.call 22) [.t 25,.c (.str [58])]]
def a68s18:=Rg [] [nP 27 0,oP 28 (.call 42) [.t 27,.c (.bool false)],fP 29 1 (.l 4),xP (.stLc 4 5) [.t 29,.ts 28] 4]
def a68s20:=Rg [] [mP 30 (.vs 2),lP 31 4 true 6 (.l 4),oP 32 (.bslice 6 [[.str [],.int .u8 0,.int .i64 0,.str [],.list true [],.list true []]] [0]) [.t 31],oP 33 (.app 6 96) [.ts 30,.t 32],vP 2 (.ts 33)]
def a68s26:=Rg [] [vP 3 (.c (.bool false))]
def a68s33:=Rg [] [nP 34 2,vP 1 (.ts 34)]
def a68c:ACode :=
  (Sq a68s1 (Sq a68s3 (Sq a68s8 (Sq (Sq a68s10 (Bk 0 (Lp (Sq a68s12 (Sq (Bk 1 (Sq a68s14 (Sq a68s16 (Sq a68s18 a68s20)))) a68s26))))) (Sq a68s33 .ret)))))
def a68:AFn:={ np:=1,nv:=5,results:=[.v 1],code:=a68c }
def d8H:List Nat:=[0,2,3,4,5]
def d6r:List Nat:=[4]

def a69s1:=Rg [] [op (.v 1) .mv [.c (.list true [])]]
def a69s3:=Rg [] [op (.v 2) .mv [.c (.list true [])]]
def a69s5:=Ts [] [nP 5 0,oP 6 (.call 25) [.t 5,.c (.str [64])]] (.t 6) .skip (.exit 0)
def a69s7:=Rg [3] [nP 7 0,oP 8 (.call 21) [.t 7],oP 9 (.build [.str [],.list true []] [(0,1)]) [.t 8],⟨.bx,.alloc [.str [],.list true []],[],some 3,none⟩,xP (.stLc 3 2) [.l 3,.ts 9] 3]
def a69s9:=Rg [] [nP 10 0,oP 11 (.call 68) [.t 10],fP 12 1 (.l 3),xP (.stLc 3 1) [.t 12,.ts 11] 3]
def a69s11:=Rg [] [mP 13 (.vs 2),lP 14 3 true 2 (.l 3),oP 15 (.bslice 2 [[.str [],.list true []]] [0]) [.t 14],oP 16 (.app 2 40) [.ts 13,.t 15],vP 2 (.ts 16)]
def a69s19:=Rg [] [nP 17 2,vP 1 (.ts 17)]
def a69c:ACode :=
  (Sq a69s1 (Sq a69s3 (Sq (Bk 0 (Lp (Sq a69s5 (Bk 1 (Sq a69s7 (Sq a69s9 a69s11)))))) (Sq a69s19 .ret))))
def a69:AFn:={ np:=1,nv:=4,results:=[.v 1],code:=a69c }
def d6m:List Nat:=[0,2,3,4]
def d7I:List Nat:=[3]

def a70s1:=Rg [2] [⟨.bx,.alloc [.int .u8 0,.int .i64 0,.str [],.list true [],.list true []],[],some 2,none⟩]
def a70s3:=Rg [3] [nP 10 0,oP 11 .nilchk [.t 10],fP 12 0 (.t 11),oP 13 (.ldSt false 1) [.t 12],nP 14 0,oP 15 .nilchk [.t 14],fP 16 1 (.t 15),oP 17 (.ldSt false 1) [.t 16],oP 18 (.iad 4) [.t 13,.t 17],oP 19 (.ldRo true 4) [.t 18],⟨.bx,.alloc [.int .u8 0,.str [],.int .i64 0,.int .i64 0],[],some 3,none⟩,xP (.stLc 3 4) [.l 3,.t 19] 3]
def a70s6:=Rg [] [nP 24 0,oP 25 .nilchk [.t 24],fP 26 1 (.t 25),oP 27 (.ldSt false 1) [.t 26],bP 28 .add (.t 27) (.c (.int .i64 1)),oP 29 .nilchk [.t 24],fP 30 1 (.t 29),op .none (.stSt 1) [.t 30,.t 28]]
def a70s8:=Rg [] [fP 31 2 (.l 3),lP 32 3 false 1 (.t 31),oP 33 (.build [.int .u8 0,.int .i64 0,.str [],.list true [],.list true []] [(0,1),(1,1)]) [.c (.int .u8 1),.t 32],xP (.stLc 2 5) [.l 2,.ts 33] 2]
def a70s13:=Rg [] [nP 38 0,oP 39 .nilchk [.t 38],fP 40 1 (.t 39),oP 41 (.ldSt false 1) [.t 40],bP 42 .add (.t 41) (.c (.int .i64 1)),oP 43 .nilchk [.t 38],fP 44 1 (.t 43),op .none (.stSt 1) [.t 44,.t 42]]
def a70s15:=Rg [] [fP 45 1 (.l 3),lP 46 3 false 1 (.t 45),oP 47 (.build [.int .u8 0,.int .i64 0,.str [],.list true [],.list true []] [(0,1),(2,1)]) [.c (.int .u8 2),.t 46],xP (.stLc 2 5) [.l 2,.ts 47] 2]
def a70s20:=Rg [] [oP 51 (.build [.int .u8 0,.int .i64 0,.str [],.list true [],.list true []] [(0,1),(1,1)]) [.c (.int .u8 3),.c (.int .i64 1)],xP (.stLc 2 5) [.l 2,.ts 51] 2]
def a70s24:=Rg [] [oP 55 (.build [.int .u8 0,.int .i64 0,.str [],.list true [],.list true []] [(0,1)]) [.c (.int .u8 3)],xP (.stLc 2 5) [.l 2,.ts 55] 2]
def a70s28:=Rg [] [oP 59 (.build [.int .u8 0,.int .i64 0,.str [],.list true [],.list true []] []) [],xP (.stLc 2 5) [.l 2,.ts 59] 2]
def a70s32:=Rg [] [nP 64 0,oP 65 .nilchk [.t 64],fP 66 1 (.t 65),oP 67 (.ldSt false 1) [.t 66],bP 68 .add (.t 67) (.c (.int .i64 1)),oP 69 .nilchk [.t 64],fP 70 1 (.t 69),op .none (.stSt 1) [.t 70,.t 68]]
def a70s34:=Rg [] [fP 71 1 (.l 3),lP 72 3 false 1 (.t 71),oP 73 (.build [.int .u8 0,.int .i64 0,.str [],.list true [],.list true []] [(0,1),(2,1)]) [.c (.int .u8 4),.t 72],xP (.stLc 2 5) [.l 2,.ts 73] 2]
def a70s39:=Rg [] [nP 81 0,oP 82 .nilchk [.t 81],fP 83 1 (.t 82),oP 84 (.ldSt false 1) [.t 83],bP 85 .add (.t 84) (.c (.int .i64 1)),oP 86 .nilchk [.t 81],fP 87 1 (.t 86),op .none (.stSt 1) [.t 87,.t 85]]
def a70s41:=Rg [] [nP 88 0,oP 89 (.call 21) [.t 88],oP 90 (.build [.int .u8 0,.int .i64 0,.str [],.list true [],.list true []] [(0,1),(2,1)]) [.c (.int .u8 7),.t 89],xP (.stLc 2 5) [.l 2,.ts 90] 2]
def a70s46:=Rg [4] [oP 94 (.build [.int .u8 0,.int .i64 0,.str [],.list true [],.list true []] [(0,1)]) [.c (.int .u8 5)],⟨.bx,.alloc [.int .u8 0,.int .i64 0,.str [],.list true [],.list true []],[],some 4,none⟩,xP (.stLc 4 5) [.l 4,.ts 94] 4]
def a70s48:=Ts [] [nP 95 0,oP 96 .nilchk [.t 95],fP 97 4 (.t 96),oP 98 (.ldSt false 1) [.t 97],bP 99 .eql (.t 98) (.c (.int .i64 0)),mP 100 (.t 99),gP 101 .mv [.v 0] 100 true,gP 102 (.call 25) [.t 101,.c (.str [93])] 100 true,gP 103 (.un .not) [.t 102] 100 true,oP 104 .pick [.t 100,.t 103,.c (.bool false)]] (.t 104) .skip (.exit 1)
def a70s50:=Rg [5] [nP 105 0,nP 106 1,oP 107 (.call 42) [.t 105,.t 106],⟨.bx,.alloc [.int .u8 0,.int .i64 0,.str [],.list true [],.list true []],[],some 5,none⟩,xP (.stLc 5 5) [.l 5,.ts 107] 5]
def a70s52:=Rg [] [fP 108 4 (.l 4),⟨.t 109,.ldLcS 4,[.t 108],some 4,none⟩,lP 110 5 true 5 (.l 5),oP 111 (.bslice 5 [[.int .u8 0,.int .i64 0,.str [],.list true [],.list true []]] [0]) [.t 110],oP 112 (.app 5 80) [.ts 109,.t 111],fP 113 4 (.l 4),xP (.stLc 4 1) [.t 113,.ts 112] 4]
def a70s59:=Rg [] [lP 114 4 true 5 (.l 4),xP (.stLc 2 5) [.l 2,.ts 114] 2]
def a70s65:=Rg [6] [oP 118 (.build [.int .u8 0,.int .i64 0,.str [],.list true [],.list true []] [(0,1)]) [.c (.int .u8 6)],⟨.bx,.alloc [.int .u8 0,.int .i64 0,.str [],.list true [],.list true []],[],some 6,none⟩,xP (.stLc 6 5) [.l 6,.ts 118] 6]
def a70s67:=Ts [] [nP 119 0,oP 120 .nilchk [.t 119],fP 121 4 (.t 120),oP 122 (.ldSt false 1) [.t 121],bP 123 .eql (.t 122) (.c (.int .i64 0)),mP 124 (.t 123),gP 125 .mv [.v 0] 124 true,gP 126 (.call 25) [.t 125,.c (.str [125])] 124 true,gP 127 (.un .not) [.t 126] 124 true,oP 128 .pick [.t 124,.t 127,.c (.bool false)]] (.t 128) .skip (.exit 3)
def a70s69:=Rg [] [fP 129 3 (.l 6),⟨.t 130,.ldLcS 6,[.t 129],some 6,none⟩,nP 131 0,oP 132 (.call 21) [.t 131],oP 133 (.bslice 1 [[.str []]] [0]) [.t 132],oP 134 (.app 1 16) [.ts 130,.t 133],fP 135 3 (.l 6),xP (.stLc 6 1) [.t 135,.ts 134] 6]
def a70s71:=Rg [] [nP 136 0,oP 137 (.call 22) [.t 136,.c (.str [58])]]
def a70s73:=Rg [7] [nP 138 0,nP 139 1,oP 140 (.call 42) [.t 138,.t 139],⟨.bx,.alloc [.int .u8 0,.int .i64 0,.str [],.list true [],.list true []],[],some 7,none⟩,xP (.stLc 7 5) [.l 7,.ts 140] 7]
def a70s75:=Rg [] [fP 141 4 (.l 6),⟨.t 142,.ldLcS 6,[.t 141],some 6,none⟩,lP 143 7 true 5 (.l 7),oP 144 (.bslice 5 [[.int .u8 0,.int .i64 0,.str [],.list true [],.list true []]] [0]) [.t 143],oP 145 (.app 5 80) [.ts 142,.t 144],fP 146 4 (.l 6),xP (.stLc 6 1) [.t 146,.ts 145] 6]
def a70s84:=Rg [] [lP 147 6 true 5 (.l 6),xP (.stLc 2 5) [.l 2,.ts 147] 2]
def a70s88:=Ts [] [nP 116 0,oP 117 (.call 25) [.t 116,.c (.str [123])],mP 115 (.t 117)] (.t 115) (Sq a70s65 (Sq (Bk 3 (Lp (Sq a70s67 (Bk 4 (Sq a70s69 (Sq a70s71 (Sq a70s73 a70s75))))))) (Sq a70s84 .ret))) .skip
def a70s89:=Ts [] [nP 92 0,oP 93 (.call 25) [.t 92,.c (.str [91])],mP 91 (.t 93)] (.t 91) (Sq a70s46 (Sq (Bk 1 (Lp (Sq a70s48 (Bk 2 (Sq a70s50 a70s52))))) (Sq a70s59 .ret))) a70s88
def a70s90:=Ts [] [nP 75 0,oP 76 (.call 24) [.t 75,.c (.str [36])],mP 77 (.t 76),gP 78 .mv [.v 1] 77 true,gP 79 (.un .not) [.t 78] 77 true,oP 80 .pick [.t 77,.t 79,.c (.bool false)],mP 74 (.t 80)] (.t 74) (Sq a70s39 (Sq a70s41 .ret)) a70s89
def a70s91:=Ts [] [fP 61 0 (.l 3),lP 62 3 false 1 (.t 61),bP 63 .eql (.t 62) (.c (.int .u8 1)),mP 60 (.t 63)] (.t 60) (Sq a70s32 (Sq a70s34 .ret)) a70s90
def a70s92:=Ts [] [nP 57 0,oP 58 (.call 25) [.t 57,.c (.str [110,117,108,108])],mP 56 (.t 58)] (.t 56) (Sq a70s28 .ret) a70s91
def a70s93:=Ts [] [nP 53 0,oP 54 (.call 25) [.t 53,.c (.str [102,97,108,115,101])],mP 52 (.t 54)] (.t 52) (Sq a70s24 .ret) a70s92
def a70s94:=Ts [] [nP 49 0,oP 50 (.call 25) [.t 49,.c (.str [116,114,117,101])],mP 48 (.t 50)] (.t 48) (Sq a70s20 .ret) a70s93
def a70s95:=Ts [] [fP 35 0 (.l 3),lP 36 3 false 1 (.t 35),bP 37 .eql (.t 36) (.c (.int .u8 3)),mP 34 (.t 37)] (.t 34) (Sq a70s13 (Sq a70s15 .ret)) a70s94
def a70s96:=Ts [] [fP 21 0 (.l 3),lP 22 3 false 1 (.t 21),bP 23 .eql (.t 22) (.c (.int .u8 2)),mP 20 (.t 23)] (.t 20) (Sq a70s6 (Sq a70s8 .ret)) a70s95
def a70s99:=Rg [] [nP 148 0,oP 149 (.call 20) [.t 148,.c (.int .i64 4)]]
def a70s101:=Rg [] [oP 150 (.build [.int .u8 0,.int .i64 0,.str [],.list true [],.list true []] []) [],xP (.stLc 2 5) [.l 2,.ts 150] 2]
def a70c:ACode :=
  (Sq a70s1 (Sq a70s3 (Sq (Bk 0 a70s96) (Sq a70s99 (Sq a70s101 .ret)))))
def a70:AFn:={ np:=2,nv:=8,results:=[.bx 2 true 5],code:=a70c }
def d7v:List Nat:=[0,1,4,5,6,7,8,9]
def e0C:List Nat:=[2,3,4,5,6,7]

def d1z:=Rg [] [op (.v 2) .mv [.c (.list true [])]]
def d4w:=Rg [] [nP 6 0,nP 7 1,oP 8 (.call 25) [.t 6,.t 7]]
def d5F:=Rg [] [nP 9 0,oP 10 (.call 21) [.t 9],oP 11 (.bslice 1 [[.str []]] [0]) [.t 10],vP 3 (.ts 11)]
def d3P:=Ts [] [nP 12 0,nP 13 1,oP 14 (.call 25) [.t 12,.t 13]] (.t 14) .skip (.exit 0)
def d1s:=Rg [] [mP 15 (.vs 3),nP 16 0,oP 17 (.call 21) [.t 16],oP 18 (.bslice 1 [[.str []]] [0]) [.t 17],oP 19 (.app 1 16) [.ts 15,.t 18],vP 3 (.ts 19)]
def c8I:=Rg [] [nP 20 3,vP 2 (.ts 20)]
def d7N:ACode :=
  (Sq d1z (Sq d4w (Sq d5F (Sq (Bk 0 (Lp (Sq d3P (Bk 1 d1s)))) (Sq c8I .ret)))))
def a71:AFn:={ np:=2,nv:=4,results:=[.v 2],code:=d7N }
def d8d:List Nat:=[0,1,4,5]
def d58:List Nat:=[]

def d4c:=Rg [] [op (.v 2) .mv [.c (.list true [])]]
def d2u:=Rg [] [op (.v 3) .mv [.c (.list true [])]]
def d2i:=Rg [] [vP 4 (.c (.bool true))]
def d4Q:=Ts [] [nP 8 0,oP 9 .nilchk [.t 8],fP 10 4 (.t 9),oP 11 (.ldSt false 1) [.t 10],bP 12 .eql (.t 11) (.c (.int .i64 0)),mP 13 (.t 12),gP 14 .mv [.v 4] 13 true,gP 15 .mv [.t 14] 13 true,gP 16 .mv [.v 0] 15 false,gP 17 .mv [.v 1] 15 false,gP 18 (.call 25) [.t 16,.t 17] 15 false,gP 19 (.un .not) [.t 18] 15 false,gP 20 .pick [.t 15,.c (.bool true),.t 19] 13 true,oP 21 .pick [.t 13,.t 20,.c (.bool false)]] (.t 21) .skip (.exit 0)
def d5i:=Rg [5] [nP 22 0,oP 23 (.call 21) [.t 22],oP 24 (.build [.str [],.list true [],.str [],.list true [],.bool false,.bool false,.int .u8 0,.int .i64 0,.str [],.list true [],.list true []] [(0,1)]) [.t 23],⟨.bx,.alloc [.str [],.list true [],.str [],.list true [],.bool false,.bool false,.int .u8 0,.int .i64 0,.str [],.list true [],.list true []],[],some 5,none⟩,xP (.stLc 5 11) [.l 5,.ts 24] 5]
def c6H:=Rg [] [nP 25 0,oP 26 (.call 22) [.t 25,.c (.str [58])]]
def c7h:=Rg [] [nP 27 0,oP 28 (.call 41) [.t 27],fP 29 2 (.l 5),xP (.stLc 5 3) [.t 29,.ts 28] 5]
def c6h:=Rg [] [fP 32 5 (.l 5),xP (.stLc 5 1) [.t 32,.c (.bool true)] 5]
def c6D:=Rg [] [nP 33 0,oP 34 (.call 42) [.t 33,.c (.bool true)],fP 35 6 (.l 5),xP (.stLc 5 5) [.t 35,.ts 34] 5]
def c5q:=Ts [] [nP 30 0,oP 31 (.call 25) [.t 30,.c (.str [61])]] (.t 31) (Sq c6h c6D) .skip
def c7m:=Rg [] [mP 36 (.vs 3),lP 37 5 true 11 (.l 5),oP 38 (.bslice 11 [[.str [],.list true [],.str [],.list true [],.bool false,.bool false,.int .u8 0,.int .i64 0,.str [],.list true [],.list true []]] [0]) [.t 37],oP 39 (.app 11 176) [.ts 36,.t 38],vP 3 (.ts 39)]
def c6k:=Rg [] [vP 4 (.c (.bool false))]
def c9K:=Rg [] [nP 40 3,vP 2 (.ts 40)]
def d6b:ACode :=
  (Sq d4c (Sq d2u (Sq (Sq d2i (Bk 0 (Lp (Sq d4Q (Sq (Bk 1 (Sq d5i (Sq c6H (Sq c7h (Sq c5q c7m))))) c6k))))) (Sq c9K .ret))))
def a72:AFn:={ np:=2,nv:=6,results:=[.v 2],code:=d6b }
def d5I:List Nat:=[0,1,4,5,6,7]
def d8W:List Nat:=[5]

def a73s1:=Rg [] [vP 2 (.c (.int .i64 0))]
def a73s3:=Rg [] [nP 6 0,op (.v 4) .lenL [.t 6],vP 5 (.c (.int .i64 0))]
def a73s5:=Ts [] [bP 9 .lss (.v 5) (.v 4)] (.t 9) .skip (.exit 0)
def a73s7:=Rg [] [nP 10 5,vP 3 (.t 10)]
def a73s10:=Rg [] [nP 17 3,vP 2 (.t 17)]
def a73s12:=Ts [] [nP 11 1,nP 12 0,nP 13 3,oP 14 (.iad 1) [.t 12,.t 13],oP 15 (.ldRo false 1) [.t 14],bP 16 .eql (.t 11) (.t 15)] (.t 16) (Sq a73s10 .ret) .skip
def a73s16:=Rg [] [bP 18 .add (.v 5) (.c (.int .i64 1)),vP 5 (.t 18)]
def a73s23:=Rg [] [vP 2 (.c (.int .i64 (-1)))]
def a73c:ACode :=
  (Sq a73s1 (Sq (Sq a73s3 (Bk 0 (Lp (Sq a73s5 (Sq (Bk 1 (Sq a73s7 a73s12)) a73s16))))) (Sq a73s23 .ret)))
def a73:AFn:={ np:=2,nv:=6,results:=[.v 2],code:=a73c }
def d8Y:List Nat:=[0,1,4,5,7,8]
def d60:List Nat:=[]

def d3c:=Rg [] [vP 2 (.c (.bool false))]
def d3q:=Rg [] [nP 5 0,oP 6 .lenS [.t 5],nP 7 1,oP 8 .lenS [.t 7],bP 9 .geq (.t 6) (.t 8),mP 10 (.t 9),gP 11 .mv [.v 0] 10 true,gP 12 .mv [.v 1] 10 true,gP 13 .lenS [.t 12] 10 true,gP 14 (.slS false true) [.t 11,.t 13] 10 true,gP 15 .mv [.v 1] 10 true,gP 16 (.bin .eql) [.t 14,.t 15] 10 true,oP 17 .pick [.t 10,.t 16,.c (.bool false)],vP 2 (.t 17)]
def d8l:ACode :=
  (Sq d3c (Sq d3q .ret))
def a74:AFn:={ np:=2,nv:=3,results:=[.v 2],code:=d8l }
def d5X:List Nat:=[0,1,4]
def d8T:List Nat:=[]

def d4v:=Rg [1] [⟨.bx,.alloc [.int .i64 0,.str []],[],some 1,none⟩]
def d3n:=Rg [] [vP 4 (.v 0),op (.v 5) .lenL [.v 4],vP 6 (.c (.int .i64 0))]
def d5t:=Ts [] [bP 8 .lss (.v 6) (.v 5)] (.t 8) .skip (.exit 0)
def d1t:=Rg [] [nP 9 6,oP 10 (.iad 1) [.v 4,.v 6],oP 11 (.ldRo false 1) [.t 10],vP 2 (.t 9),vP 3 (.t 11)]
def c6X:=Rg [] [nP 17 3,oP 18 (.build [.int .i64 0,.str []] [(0,1),(1,1)]) [.c (.int .i64 7),.t 17],xP (.stLc 1 2) [.l 1,.t 18] 1]
def c5U:=Ts [] [nP 12 0,nP 13 2,oP 14 (.slL 1 false true) [.t 12,.t 13],nP 15 3,oP 16 (.call 45) [.t 14,.t 15]] (.t 16) (Sq c6X .ret) .skip
def c3B:=Rg [] [nP 21 3,oP 22 (.build [.int .i64 0,.str []] [(0,1),(1,1)]) [.c (.int .i64 1),.t 21],xP (.stLc 1 2) [.l 1,.t 22] 1]
def d0y:=Ts [] [nP 19 3,oP 20 (.call 46) [.t 19,.c (.str [95,95])]] (.t 20) (Sq c3B .ret) .skip
def c7L:=Rg [] [bP 23 .add (.v 6) (.c (.int .i64 1)),vP 6 (.t 23)]
def c6U:=Rg [] [oP 24 (.build [.int .i64 0,.str []] []) [],xP (.stLc 1 2) [.l 1,.t 24] 1]
def d9x:ACode :=
  (Sq d4v (Sq (Sq d3n (Bk 0 (Lp (Sq d5t (Sq (Bk 1 (Sq d1t (Sq c5U d0y))) c7L))))) (Sq c6U .ret)))
def a75:AFn:={ np:=1,nv:=7,results:=[.bx 1 true 2],code:=d9x }
def d8j:List Nat:=[0,2,3,4,5,6,7]
def d9D:List Nat:=[1]

def d1C:=Rg [] [op (.v 1) .mv [.c (.list true [])]]
def d2W:=Rg [] [op (.v 2) .mv [.c (.list true [])]]
def d3H:=Rg [] [vP 4 (.v 0),op (.v 5) .lenL [.v 4],vP 6 (.c (.int .i64 0))]
def d2N:=Ts [] [bP 9 .lss (.v 6) (.v 5)] (.t 9) .skip (.exit 0)
def d21:=Rg [3] [oP 10 (.iad 11) [.v 4,.v 6],oP 11 (.ldRo true 11) [.t 10],⟨.bx,.alloc [.str [],.list true [],.str [],.list true [],.bool false,.bool false,.int .u8 0,.int .i64 0,.str [],.list true [],.list true []],[],some 3,none⟩,xP (.stLc 3 11) [.l 3,.ts 11] 3]
def c7M:=Rg [] [mP 12 (.vs 2),fP 13 0 (.l 3),lP 14 3 false 1 (.t 13),oP 15 (.bslice 1 [[.str []]] [0]) [.t 14],oP 16 (.app 1 16) [.ts 12,.t 15],vP 2 (.ts 16)]
def d0N:=Rg [] [bP 17 .add (.v 6) (.c (.int .i64 1)),vP 6 (.t 17)]
def c7c:=Rg [] [mP 18 (.vs 2),vP 1 (.ts 18)]
def d8y:ACode :=
  (Sq d1C (Sq d2W (Sq (Sq d3H (Bk 0 (Lp (Sq d2N (Sq (Bk 1 (Sq d21 c7M)) d0N))))) (Sq c7c .ret))))
def a76:AFn:={ np:=1,nv:=7,results:=[.vs 1],code:=d8y }
def d8K:List Nat:=[0,2,3,5,6,7,8]
def d9J:List Nat:=[3]

def d5C:=Rg [3,4] [⟨.bx,.boxV,[.v 1],some 3,none⟩,⟨.bx,.alloc [.int .i64 0,.str []],[],some 4,none⟩]
def d3l:=Rg [] [fP 15 2 (.l 3),lP 16 3 true 3 (.t 15),oP 17 (.call 102) [.t 16],vP 5 (.t 17)]
def d3s:=Rg [6] [nP 19 0,nP 20 5,oP 21 (.call 48) [.t 19,.t 20],mP 18 (.t 21),oP 22 (.ext 0) [.t 18],oP 23 (.ext 1) [.t 18],⟨.bx,.alloc [.int .u8 0,.str [],.list true [],.list true []],[],some 6,none⟩,xP (.stLc 6 4) [.l 6,.ts 22] 6,vP 7 (.t 23)]
def d2p:=Rg [] [nP 33 5,oP 34 (.build [.int .i64 0,.str []] [(0,1),(1,1)]) [.c (.int .i64 6),.t 33],xP (.stLc 4 2) [.l 4,.t 34] 4]
def c4F:=Rg [] [nP 56 5,oP 57 (.call 78) [.t 56],vP 12 (.t 57)]
def c9p:=Ts [] [nP 49 2,oP 50 (.un .not) [.t 49],mP 51 (.t 50),gP 52 .mv [.v 0] 51 true,gP 53 .mv [.v 5] 51 true,gP 54 (.call 105) [.t 52,.t 53] 51 true,oP 55 .pick [.t 51,.t 54,.c (.bool false)],vP 12 (.t 55)] (.v 12) .skip c4F
def c64:=Ts [] [nP 36 2,mP 37 (.t 36),gP 38 .mv [.v 0] 37 true,gP 39 .mv [.v 5] 37 true,gP 40 (.call 103) [.t 38,.t 39] 37 true,gP 41 (.un .not) [.t 40] 37 true,oP 42 .pick [.t 37,.t 41,.c (.bool false)],mP 43 (.t 42),gP 44 .mv [.v 0] 43 true,gP 45 .mv [.v 5] 43 true,gP 46 (.call 104) [.t 44,.t 45] 43 true,gP 47 (.un .not) [.t 46] 43 true,oP 48 .pick [.t 43,.t 47,.c (.bool false)],vP 12 (.t 48)] (.v 12) .skip c9p
def c9g:=Rg [] [nP 58 5,oP 59 (.build [.int .i64 0,.str []] [(0,1),(1,1)]) [.c (.int .i64 8),.t 58],xP (.stLc 4 2) [.l 4,.t 59] 4]
def d0s:=Rg [] [fP 72 0 (.l 3),lP 73 3 false 1 (.t 72),oP 74 (.build [.int .i64 0,.str []] [(0,1),(1,1)]) [.c (.int .i64 8),.t 73],xP (.stLc 4 2) [.l 4,.t 74] 4]
def c7N:=Ts [] [fP 61 5 (.l 3),lP 62 3 false 1 (.t 61),mP 63 (.t 62),gP 64 .mv [.v 0] 63 true,gP 65 (.fad 2) [.l 3] 63 true,⟨.t 66,.ldLc 3 true 3,[.t 65],some 3,some (.t 63,true)⟩,gP 67 (.fad 6) [.l 3] 63 true,⟨.t 68,.ldLc 3 true 5,[.t 67],some 3,some (.t 63,true)⟩,gP 69 (.call 106) [.t 64,.t 66,.t 68] 63 true,gP 70 (.un .not) [.t 69] 63 true,oP 71 .pick [.t 63,.t 70,.c (.bool false)],mP 60 (.t 71)] (.t 60) (Sq d0s .ret) .skip
def c4x:=Ts [] [] (.v 12) (Sq c9g .ret) c7N
def d0C:=Ts [] [nP 25 7,oP 26 (.un .not) [.t 25],mP 27 (.t 26),gP 28 .mv [.v 0] 27 true,gP 29 .mv [.v 5] 27 true,gP 30 (.call 103) [.t 28,.t 29] 27 true,gP 31 (.un .not) [.t 30] 27 true,oP 32 .pick [.t 27,.t 31,.c (.bool false)],mP 24 (.t 32)] (.t 24) (Sq d2p .ret) (Sq c64 c4x)
def c5N:=Rg [8] [fP 75 1 (.l 3),lP 76 3 false 1 (.t 75),oP 77 (.call 76) [.t 76],oP 78 (.call 75) [.t 77],⟨.bx,.alloc [.int .i64 0,.str []],[],some 8,none⟩,xP (.stLc 8 2) [.l 8,.t 78] 8]
def c60:=Rg [] [lP 82 8 true 2 (.l 8),xP (.stLc 4 2) [.l 4,.t 82] 4]
def c77:=Ts [] [fP 79 0 (.l 8),lP 80 8 false 1 (.t 79),bP 81 .neq (.t 80) (.c (.int .i64 0))] (.t 81) (Sq c60 .ret) .skip
def c6T:=Rg [] [fP 83 1 (.l 3),⟨.v 13,.ldLc 3 false 1,[.t 83],some 3,none⟩,op (.v 14) .lenL [.v 13],vP 15 (.c (.int .i64 0))]
def c8i:=Ts [] [bP 87 .lss (.v 15) (.v 14)] (.t 87) .skip (.exit 1)
def c9L:=Rg [9] [oP 88 (.iad 11) [.v 13,.v 15],oP 89 (.ldRo true 11) [.t 88],⟨.bx,.alloc [.str [],.list true [],.str [],.list true [],.bool false,.bool false,.int .u8 0,.int .i64 0,.str [],.list true [],.list true []],[],some 9,none⟩,xP (.stLc 9 11) [.l 9,.ts 89] 9]
def d05:=Rg [] [fP 90 2 (.l 9),lP 91 9 true 3 (.t 90),oP 92 (.call 102) [.t 91],vP 10 (.t 92)]
def c8t:=Rg [] [fP 106 0 (.l 9),lP 107 9 false 1 (.t 106),oP 108 (.build [.int .i64 0,.str []] [(0,1),(1,1)]) [.c (.int .i64 8),.t 107],xP (.stLc 4 2) [.l 4,.t 108] 4]
def c8d:=Ts [] [fP 104 5 (.l 9),lP 105 9 false 1 (.t 104)] (.t 105) (Sq c8t .ret) .skip
def c7Y:=Rg [11] [nP 93 0,lP 94 9 true 11 (.l 9),oP 95 (.call 77) [.t 93,.t 94,.c (.bool true)],⟨.bx,.alloc [.int .i64 0,.str []],[],some 11,none⟩,xP (.stLc 11 2) [.l 11,.t 95] 11]
def c7s:=Rg [] [lP 99 11 true 2 (.l 11),xP (.stLc 4 2) [.l 4,.t 99] 4]
def c54:=Ts [] [fP 96 0 (.l 11),lP 97 11 false 1 (.t 96),bP 98 .neq (.t 97) (.c (.int .i64 0))] (.t 98) (Sq c7s .ret) .skip
def c9q:=Ts [] [nP 101 0,nP 102 10,oP 103 (.call 105) [.t 101,.t 102],mP 100 (.t 103)] (.t 100) c8d (Sq c7Y c54)
def c8c:=Rg [] [bP 109 .add (.v 15) (.c (.int .i64 1)),vP 15 (.t 109)]
def c9D:=Rg [] [oP 110 (.build [.int .i64 0,.str []] []) [],xP (.stLc 4 2) [.l 4,.t 110] 4]
def e0A:ACode :=
  (Sq d5C (Sq d3l (Sq d3s (Sq (Bk 0 d0C) (Sq (Sq c5N c77) (Sq (Sq c6T (Bk 1 (Lp (Sq c8i (Sq (Bk 2 (Sq c9L (Sq d05 (Bk 3 c9q)))) c8c))))) (Sq c9D .ret)))))))
def a77:AFn:={ np:=3,nv:=16,results:=[.bx 4 true 2],code:=e0A }
def e0b:List Nat:=[0,1,2,4,6,7,8,9,10,12,13,14,35,84,85,86]
def d94:List Nat:=[3,4,6,8,9,11]

def d3f:=Rg [] [vP 1 (.c (.bool false))]
def d4g:=Rg [] [nP 3 0,oP 4 (.bin .eql) [.t 3,.c (.str [81,117,101,114,121])],mP 5 (.t 4),gP 6 .mv [.v 0] 5 false,gP 7 (.bin .eql) [.t 6,.c (.str [77,117,116,97,116,105,111,110])] 5 false,oP 8 .pick [.t 5,.c (.bool true),.t 7],vP 1 (.t 8)]
def e0n:ACode :=
  (Sq d3f (Sq d4g .ret))
def a78:AFn:={ np:=1,nv:=2,results:=[.v 1],code:=e0n }
def d9m:List Nat:=[0,2]
def d7n:List Nat:=[]

def d48:=Rg [4] [op (.v 3) .boxO [.v 1],⟨.bx,.boxV,[.v 2],some 4,none⟩,vP 5 (.c (.bool false))]
def d1Q:=Rg [] [fP 7 2 (.l 4),lP 8 4 false 1 (.t 7),oP 9 (.mkF 108 0) [.v 3],oP 10 (.call 107) [.t 8,.t 9],oP 11 (.un .not) [.t 10],vP 5 (.t 11)]
def d61:ACode :=
  (Sq d48 (Sq d1Q .ret))
def a79:AFn:={ np:=3,nv:=6,results:=[.v 5],code:=d61 }
def d9S:List Nat:=[0,1,2,4,5,6]
def d9F:List Nat:=[4]

def d2m:=Rg [2] [⟨.bx,.boxV,[.v 1],some 2,none⟩,vP 3 (.c (.bool false))]
def d5c:=Rg [] [fP 5 1 (.l 2),lP 6 2 false 1 (.t 5),oP 7 .lenL [.t 6],bP 8 .eql (.t 7) (.c (.int .i64 1)),mP 9 (.t 8),gP 10 (.fad 1) [.l 2] 9 true,⟨.t 11,.ldLc 2 false 1,[.t 10],some 2,some (.t 9,true)⟩,gP 12 (.iad 11) [.t 11,.c (.int .i64 0)] 9 true,gP 13 (.ldRo true 11) [.t 12] 9 true,gP 14 (.call 110) [.t 13] 9 true,oP 15 .pick [.t 9,.t 14,.c (.bool false)],mP 16 (.t 15),gP 17 (.fad 2) [.l 2] 16 true,gP 18 (.fad 1) [.t 17] 16 true,⟨.t 19,.ldLc 2 false 1,[.t 18],some 2,some (.t 16,true)⟩,gP 20 .lenL [.t 19] 16 true,gP 21 (.bin .eql) [.t 20,.c (.int .i64 0)] 16 true,oP 22 .pick [.t 16,.t 21,.c (.bool false)],mP 23 (.t 22),gP 24 (.fad 2) [.l 2] 23 true,gP 25 (.fad 2) [.t 24] 23 true,⟨.t 26,.ldLc 2 false 1,[.t 25],some 2,some (.t 23,true)⟩,gP 27 (.un .not) [.t 26] 23 true,oP 28 .pick [.t 23,.t 27,.c (.bool false)],mP 29 (.t 28),gP 30 .mv [.v 0] 29 true,gP 31 (.fad 2) [.l 2] 29 true,gP 32 (.fad 0) [.t 31] 29 true,⟨.t 33,.ldLc 2 false 1,[.t 32],some 2,some (.t 29,true)⟩,gP 34 (.call 111) [.t 30,.t 33] 29 true,oP 35 .pick [.t 29,.t 34,.c (.bool false)],vP 3 (.t 35)]
def d7F:ACode :=
  (Sq d2m (Sq d5c .ret))
def a80:AFn:={ np:=2,nv:=4,results:=[.v 3],code:=d7F }
def d6G:List Nat:=[0,1,3,4]
def d82:List Nat:=[2]

def d1r:=Rg [2] [⟨.bx,.boxV,[.v 1],some 2,none⟩,vP 3 (.c (.bool false))]
def d2r:=Rg [] [fP 5 1 (.l 2),lP 6 2 false 1 (.t 5),oP 7 .lenL [.t 6],bP 8 .eql (.t 7) (.c (.int .i64 0)),mP 9 (.t 8),gP 10 .mv [.v 0] 9 true,gP 11 (.fad 2) [.l 2] 9 true,⟨.t 12,.ldLc 2 true 3,[.t 11],some 2,some (.t 9,true)⟩,gP 13 (.call 102) [.t 12] 9 true,gP 14 (.call 111) [.t 10,.t 13] 9 true,oP 15 .pick [.t 9,.t 14,.c (.bool false)],mP 16 (.t 15),gP 17 (.fad 2) [.l 2] 16 true,⟨.t 18,.ldLc 2 true 3,[.t 17],some 2,some (.t 16,true)⟩,gP 19 (.fad 2) [.l 2] 16 true,⟨.t 20,.ldLc 2 true 3,[.t 19],some 2,some (.t 16,true)⟩,gP 21 (.call 102) [.t 20] 16 true,⟨.t 22,(.build [.str [],.list true [],.bool false] [(0,1),(2,1)]),[.t 21,.c (.bool true)],none,some (.t 16,true)⟩,⟨.t 23,.bslice 3 [[.str [],.list true [],.bool false]] [0],[.t 22],none,some (.t 16,true)⟩,⟨.t 24,(.build [.str [],.list true [],.bool false] [(1,1),(2,1)]),[.t 23,.c (.bool true)],none,some (.t 16,true)⟩,gP 25 (.call 109) [.t 18,.t 24] 16 true,oP 26 .pick [.t 16,.t 25,.c (.bool false)],vP 3 (.t 26)]
def d7U:ACode :=
  (Sq d1r (Sq d2r .ret))
def a81:AFn:={ np:=2,nv:=4,results:=[.v 3],code:=d7U }
def d7W:List Nat:=[0,1,3,4]
def d8r:List Nat:=[2]

def d5n:=Rg [3] [op (.v 2) .boxO [.v 0],⟨.bx,.boxV,[.v 1],some 3,none⟩,vP 4 (.c (.bool false))]
def d4C:=Rg [] [fP 11 0 (.l 3),lP 12 3 false 1 (.t 11),oP 13 (.call 112) [.t 12],mP 10 (.t 13),oP 14 (.ext 0) [.t 10],oP 15 (.ext 1) [.t 10],vP 5 (.t 14),vP 6 (.t 15)]
def d4P:=Rg [] [oP 17 (.ldSt false 1) [.v 2],nP 18 6,oP 19 (.call 48) [.t 17,.t 18],mP 16 (.t 19),oP 20 (.ext 0) [.t 16],oP 21 (.ext 1) [.t 16],op (.v 7) (.allocO [.int .u8 0,.str [],.list true [],.list true []]) [],op .none (.stSt 4) [.v 7,.ts 20],vP 8 (.t 21)]
def d2X:=Rg [] [vP 4 (.c (.bool false))]
def c3Z:=Ts [] [nP 22 8,oP 23 (.un .not) [.t 22],mP 24 (.t 23),gP 25 (.fad 0) [.v 7] 24 false,gP 26 (.ldSt false 1) [.t 25] 24 false,gP 27 (.bin .neq) [.t 26,.c (.int .u8 1)] 24 false,oP 28 .pick [.t 24,.c (.bool true),.t 27],mP 29 (.t 28),gP 30 .mv [.v 6] 29 false,gP 31 (.call 78) [.t 30] 29 false,oP 32 .pick [.t 29,.c (.bool true),.t 31],mP 33 (.t 32),gP 34 (.fad 2) [.l 3] 33 false,⟨.t 35,.ldLc 3 true 3,[.t 34],some 3,some (.t 33,false)⟩,gP 36 .mv [.v 6] 33 false,⟨.t 37,(.build [.str [],.list true [],.bool false] [(0,1)]),[.t 36],none,some (.t 33,false)⟩,gP 38 (.call 109) [.t 35,.t 37] 33 false,gP 39 (.un .not) [.t 38] 33 false,oP 40 .pick [.t 33,.c (.bool true),.t 39]] (.t 40) (Sq d2X .ret) .skip
def c3X:=Rg [] [fP 43 1 (.l 3),lP 44 3 false 1 (.t 43),oP 45 .lenL [.t 44],bP 46 .eql (.t 45) (.c (.int .i64 1)),mP 47 (.t 46),gP 48 (.fad 1) [.l 3] 47 true,⟨.t 49,.ldLc 3 false 1,[.t 48],some 3,some (.t 47,true)⟩,gP 50 (.iad 11) [.t 49,.c (.int .i64 0)] 47 true,gP 51 (.ldRo true 11) [.t 50] 47 true,gP 52 (.call 110) [.t 51] 47 true,oP 53 .pick [.t 47,.t 52,.c (.bool false)],vP 4 (.t 53)]
def c7U:=Ts [] [nP 41 5,oP 42 (.bin .eql) [.t 41,.c (.str [100,101,108,101,116,101])]] (.t 42) (Sq c3X .ret) .skip
def c4A:=Rg [] [vP 4 (.c (.bool false))]
def c9s:=Ts [] [fP 54 1 (.l 3),lP 55 3 false 1 (.t 54),oP 56 .lenL [.t 55],bP 57 .neq (.t 56) (.c (.int .i64 2)),mP 58 (.t 57),gP 59 (.fad 1) [.l 3] 58 false,⟨.t 60,.ldLc 3 false 1,[.t 59],some 3,some (.t 58,false)⟩,gP 61 (.iad 11) [.t 60,.c (.int .i64 0)] 58 false,gP 62 (.ldRo true 11) [.t 61] 58 false,gP 63 (.call 110) [.t 62] 58 false,gP 64 (.un .not) [.t 63] 58 false,oP 65 .pick [.t 58,.c (.bool true),.t 64],mP 66 (.t 65),gP 67 (.fad 1) [.l 3] 66 false,⟨.t 68,.ldLc 3 false 1,[.t 67],some 3,some (.t 66,false)⟩,gP 69 (.iad 11) [.t 68,.c (.int .i64 1)] 66 false,gP 70 (.fad 0) [.t 69] 66 false,gP 71 (.ldRo false 1) [.t 70] 66 false,gP 72 (.bin .neq) [.t 71,.c (.str [105,110,112,117,116])] 66 false,oP 73 .pick [.t 66,.c (.bool true),.t 72],mP 74 (.t 73),gP 75 (.fad 1) [.l 3] 74 false,⟨.t 76,.ldLc 3 false 1,[.t 75],some 3,some (.t 74,false)⟩,gP 77 (.iad 11) [.t 76,.c (.int .i64 1)] 74 false,gP 78 (.fad 2) [.t 77] 74 false,gP 79 (.fad 2) [.t 78] 74 false,gP 80 (.ldRo false 1) [.t 79] 74 false,gP 81 (.un .not) [.t 80] 74 false,oP 82 .pick [.t 74,.c (.bool true),.t 81],mP 83 (.t 82),gP 84 (.fad 1) [.l 3] 83 false,⟨.t 85,.ldLc 3 false 1,[.t 84],some 3,some (.t 83,false)⟩,gP 86 (.iad 11) [.t 85,.c (.int .i64 1)] 83 false,gP 87 (.fad 2) [.t 86] 83 false,gP 88 (.fad 1) [.t 87] 83 false,gP 89 (.ldRo false 1) [.t 88] 83 false,gP 90 .lenL [.t 89] 83 false,gP 91 (.bin .gtr) [.t 90,.c (.int .i64 0)] 83 false,oP 92 .pick [.t 83,.c (.bool true),.t 91]] (.t 92) (Sq c4A .ret) .skip
def c3m:=Rg [9] [oP 94 (.ldSt false 1) [.v 2],fP 95 1 (.l 3),lP 96 3 false 1 (.t 95),oP 97 (.iad 11) [.t 96,.c (.int .i64 1)],fP 98 2 (.t 97),fP 99 0 (.t 98),oP 100 (.ldRo false 1) [.t 99],oP 101 (.call 48) [.t 94,.t 100],mP 93 (.t 101),oP 102 (.ext 0) [.t 93],oP 103 (.ext 1) [.t 93],⟨.bx,.alloc [.int .u8 0,.str [],.list true [],.list true []],[],some 9,none⟩,xP (.stLc 9 4) [.l 9,.ts 102] 9,vP 8 (.t 103)]
def d0J:=Rg [] [vP 4 (.c (.bool false))]
def c4w:=Ts [] [nP 104 8,oP 105 (.un .not) [.t 104],mP 106 (.t 105),gP 107 (.fad 0) [.l 9] 106 false,⟨.t 108,.ldLc 9 false 1,[.t 107],some 9,some (.t 106,false)⟩,gP 109 (.bin .neq) [.t 108,.c (.int .u8 5)] 106 false,oP 110 .pick [.t 106,.c (.bool true),.t 109]] (.t 110) (Sq d0J .ret) .skip
def c4h:=Rg [] [fP 111 2 (.l 9),lP 112 9 false 1 (.t 111),oP 113 (.mkF 113 0) [.v 7,.v 2],oP 114 (.call 107) [.t 112,.t 113],oP 115 (.un .not) [.t 114],vP 4 (.t 115)]
def e0N:ACode :=
  (Sq d5n (Sq d4C (Sq d4P (Sq c3Z (Sq c7U (Sq c9s (Sq c3m (Sq c4w (Sq c4h .ret)))))))))
def a82:AFn:={ np:=2,nv:=10,results:=[.v 4],code:=e0N }
def d9U:List Nat:=[0,1,2,3,4,5,6,7,8,9]
def d7C:List Nat:=[3,9]

def d3t:=Rg [] [op (.v 1) .mv [.c (.str [])],vP 2 (.c (.int .i64 0))]
def d2g:=Rg [] [vP 3 (.c (.int .i64 0))]
def d1I:=Ts [] [nP 5 3,nP 6 0,oP 7 .lenL [.t 6],bP 8 .lss (.t 5) (.t 7)] (.t 8) .skip (.exit 0)
def d3j:=Rg [] [nP 19 0,nP 20 3,oP 21 (.iad 1) [.t 19,.t 20],oP 22 (.ldRo false 1) [.t 21],vP 1 (.t 22),vP 2 (.c (.int .i64 7))]
def c3K:=Ts [] [nP 11 0,nP 12 3,oP 13 (.slL 1 false true) [.t 11,.t 12],nP 14 0,nP 15 3,oP 16 (.iad 1) [.t 14,.t 15],oP 17 (.ldRo false 1) [.t 16],oP 18 (.call 51) [.t 13,.t 17]] (.t 18) (Sq d3j .ret) .skip
def d0p:=Rg [] [nP 28 0,nP 29 3,oP 30 (.iad 1) [.t 28,.t 29],oP 31 (.ldRo false 1) [.t 30],vP 1 (.t 31),vP 2 (.c (.int .i64 1))]
def d0q:=Ts [] [nP 23 0,nP 24 3,oP 25 (.iad 1) [.t 23,.t 24],oP 26 (.ldRo false 1) [.t 25],oP 27 (.call 52) [.t 26,.c (.str [95,95])]] (.t 27) (Sq d0p .ret) .skip
def c4T:=Rg [] [nP 9 3,bP 10 .add (.t 9) (.c (.int .i64 1)),vP 3 (.t 10)]
def c7p:=Rg [] [op (.v 1) .mv [.c (.str [])],vP 2 (.c (.int .i64 0))]
def d9N:ACode :=
  (Sq d3t (Sq (Sq d2g (Bk 0 (Lp (Sq d1I (Sq (Bk 1 (Sq c3K d0q)) c4T))))) (Sq c7p .ret)))
def a83:AFn:={ np:=1,nv:=4,results:=[.v 1,.v 2],code:=d9N }
def d6V:List Nat:=[0,2,3,4]
def d6n:List Nat:=[]

def d1u:=Rg [] [op (.v 1) .mv [.c (.list true [])]]
def d35:=Rg [] [op (.v 2) .mv [.c (.list true [])]]
def d2q:=Rg [] [vP 3 (.c (.int .i64 0))]
def d34:=Ts [] [nP 5 3,nP 6 0,oP 7 .lenL [.t 6],bP 8 .lss (.t 5) (.t 7)] (.t 8) .skip (.exit 0)
def d5o:=Rg [] [mP 11 (.vs 2),nP 12 0,nP 13 3,oP 14 (.iad 11) [.t 12,.t 13],fP 15 0 (.t 14),oP 16 (.ldRo false 1) [.t 15],oP 17 (.bslice 1 [[.str []]] [0]) [.t 16],oP 18 (.app 1 16) [.ts 11,.t 17],vP 2 (.ts 18)]
def c5B:=Rg [] [nP 9 3,bP 10 .add (.t 9) (.c (.int .i64 1)),vP 3 (.t 10)]
def d0Q:=Rg [] [nP 19 2,vP 1 (.ts 19)]
def d6i:ACode :=
  (Sq d1u (Sq d35 (Sq (Sq d2q (Bk 0 (Lp (Sq d34 (Sq (Bk 1 d5o) c5B))))) (Sq d0Q .ret))))
def a84:AFn:={ np:=1,nv:=4,results:=[.v 1],code:=d6i }
def d9C:List Nat:=[0,2,3,4]
def d9h:List Nat:=[]

def d2L:=Rg [3] [⟨.bx,.boxV,[.v 1],some 3,none⟩,op (.v 4) .mv [.c (.str [])],vP 5 (.c (.int .i64 0))]
def d37:=Rg [] [fP 14 2 (.l 3),lP 15 3 true 3 (.t 14),oP 16 (.call 89) [.t 15],vP 6 (.t 16)]
def d5B:=Rg [] [nP 17 0,nP 18 6,oP 19 (.call 54) [.t 17,.t 18],oP 20 (.fld 0 1 false) [.t 19],vP 7 (.t 20)]
def d3I:=Rg [] [nP 28 6,vP 4 (.t 28),vP 5 (.c (.int .i64 6))]
def d1c:=Ts [] [nP 21 6,oP 22 (.call 50) [.t 21],oP 23 (.un .not) [.t 22],mP 24 (.t 23),gP 25 .mv [.v 7] 24 true,gP 26 (.bin .eql) [.t 25,.c (.int .u8 0)] 24 true,oP 27 .pick [.t 24,.t 26,.c (.bool false)]] (.t 27) (Sq d3I .ret) .skip
def c9a:=Rg [] [nP 48 6,vP 4 (.t 48),vP 5 (.c (.int .i64 8))]
def c4C:=Ts [] [nP 29 2,mP 30 (.t 29),gP 31 .mv [.v 0] 30 true,gP 32 .mv [.v 6] 30 true,gP 33 (.call 115) [.t 31,.t 32] 30 true,gP 34 (.un .not) [.t 33] 30 true,oP 35 .pick [.t 30,.t 34,.c (.bool false)],mP 36 (.t 35),gP 37 .mv [.v 2] 36 false,gP 38 (.un .not) [.t 37] 36 false,gP 39 .mv [.t 38] 36 false,gP 40 .mv [.v 7] 39 true,gP 41 (.bin .eql) [.t 40,.c (.int .u8 5)] 39 true,gP 42 .pick [.t 39,.t 41,.c (.bool false)] 36 false,oP 43 .pick [.t 36,.c (.bool true),.t 42],mP 44 (.t 43),gP 45 .mv [.v 6] 44 false,gP 46 (.call 86) [.t 45] 44 false,oP 47 .pick [.t 44,.c (.bool true),.t 46]] (.t 47) (Sq c9a .ret) .skip
def c6K:=Rg [] [fP 60 0 (.l 3),lP 61 3 false 1 (.t 60),vP 4 (.t 61),vP 5 (.c (.int .i64 8))]
def c8M:=Ts [] [fP 49 5 (.l 3),lP 50 3 false 1 (.t 49),mP 51 (.t 50),gP 52 .mv [.v 0] 51 true,gP 53 (.fad 2) [.l 3] 51 true,⟨.t 54,.ldLc 3 true 3,[.t 53],some 3,some (.t 51,true)⟩,gP 55 (.fad 6) [.l 3] 51 true,⟨.t 56,.ldLc 3 true 5,[.t 55],some 3,some (.t 51,true)⟩,gP 57 (.call 116) [.t 52,.t 54,.t 56,.c (.bool false)] 51 true,gP 58 (.un .not) [.t 57] 51 true,oP 59 .pick [.t 51,.t 58,.c (.bool false)]] (.t 59) (Sq c6K .ret) .skip
def c7f:=Rg [] [fP 63 1 (.l 3),lP 64 3 false 1 (.t 63),oP 65 (.call 84) [.t 64],oP 66 (.call 83) [.t 65],mP 62 (.t 66),oP 67 (.ext 0) [.t 62],oP 68 (.ext 1) [.t 62],vP 8 (.t 67),vP 9 (.t 68)]
def c3o:=Rg [] [nP 71 8,nP 72 9,vP 4 (.t 71),vP 5 (.t 72)]
def c7X:=Ts [] [nP 69 9,bP 70 .neq (.t 69) (.c (.int .i64 0))] (.t 70) (Sq c3o .ret) .skip
def c6E:=Rg [] [vP 10 (.c (.int .i64 0))]
def c9E:=Ts [] [nP 73 10,fP 74 1 (.l 3),lP 75 3 false 1 (.t 74),oP 76 .lenL [.t 75],bP 77 .lss (.t 73) (.t 76)] (.t 77) .skip (.exit 0)
def c7I:=Rg [11] [fP 80 1 (.l 3),lP 81 3 false 1 (.t 80),nP 82 10,oP 83 (.iad 11) [.t 81,.t 82],oP 84 (.ldRo true 11) [.t 83],⟨.bx,.alloc [.str [],.list true [],.str [],.list true [],.bool false,.bool false,.int .u8 0,.int .i64 0,.str [],.list true [],.list true []],[],some 11,none⟩,xP (.stLc 11 11) [.l 11,.ts 84] 11]
def c4K:=Rg [] [fP 94 0 (.l 11),lP 95 11 false 1 (.t 94),vP 4 (.t 95),vP 5 (.c (.int .i64 8))]
def d0z:=Ts [] [fP 92 5 (.l 11),lP 93 11 false 1 (.t 92)] (.t 93) (Sq c4K .ret) .skip
def c8O:=Ts [] [nP 85 0,fP 86 2 (.l 11),lP 87 11 true 3 (.t 86),oP 88 (.call 89) [.t 87],oP 89 (.call 54) [.t 85,.t 88],oP 90 (.fld 0 1 false) [.t 89],bP 91 .eql (.t 90) (.c (.int .u8 5))] (.t 91) (Sq d0z (.exit 1)) .skip
def c7V:=Rg [] [nP 97 0,lP 98 11 true 11 (.l 11),oP 99 (.call 85) [.t 97,.t 98,.c (.bool true)],mP 96 (.t 99),oP 100 (.ext 0) [.t 96],oP 101 (.ext 1) [.t 96],vP 8 (.t 100),vP 9 (.t 101)]
def c5z:=Rg [] [nP 104 8,nP 105 9,vP 4 (.t 104),vP 5 (.t 105)]
def c9I:=Ts [] [nP 102 9,bP 103 .neq (.t 102) (.c (.int .i64 0))] (.t 103) (Sq c5z .ret) .skip
def c4B:=Rg [] [nP 78 10,bP 79 .add (.t 78) (.c (.int .i64 1)),vP 10 (.t 79)]
def c7C:=Rg [] [op (.v 4) .mv [.c (.str [])],vP 5 (.c (.int .i64 0))]
def d80:ACode :=
  (Sq d2L (Sq d37 (Sq d5B (Sq d1c (Sq c4C (Sq c8M (Sq c7f (Sq c7X (Sq (Sq c6E (Bk 0 (Lp (Sq c9E (Sq (Bk 1 (Sq c7I (Sq c8O (Sq c7V c9I)))) c4B))))) (Sq c7C .ret))))))))))
def a85:AFn:={ np:=3,nv:=12,results:=[.v 4,.v 5],code:=d80 }
def d6t:List Nat:=[0,1,2,4,6,7,8,9,10,11,12,13]
def d6a:List Nat:=[3,11]

def d4s:=Rg [] [vP 1 (.c (.bool false))]
def d2E:=Rg [] [nP 3 0,oP 4 (.bin .eql) [.t 3,.c (.str [81,117,101,114,121])],mP 5 (.t 4),gP 6 .mv [.v 0] 5 false,gP 7 (.bin .eql) [.t 6,.c (.str [77,117,116,97,116,105,111,110])] 5 false,oP 8 .pick [.t 5,.c (.bool true),.t 7],vP 1 (.t 8)]
def e0s:ACode :=
  (Sq d4s (Sq d2E .ret))
def a86:AFn:={ np:=1,nv:=2,results:=[.v 1],code:=e0s }
def d8x:List Nat:=[0,2]
def d7Y:List Nat:=[]

def d5d:=Rg [] [vP 2 (.c (.int .i64 0))]
def d3Q:=Rg [] [vP 3 (.c (.int .i64 0))]
def d11:=Ts [] [nP 6 3,nP 7 0,oP 8 .lenL [.t 7],bP 9 .lss (.t 6) (.t 8)] (.t 9) .skip (.exit 0)
def d43:=Rg [] [nP 19 3,vP 2 (.t 19)]
def c4S:=Ts [] [nP 12 0,nP 13 3,oP 14 (.iad 11) [.t 12,.t 13],fP 15 0 (.t 14),oP 16 (.ldRo false 1) [.t 15],nP 17 1,bP 18 .eql (.t 16) (.t 17)] (.t 18) (Sq d43 .ret) .skip
def c5G:=Rg [] [nP 10 3,bP 11 .add (.t 10) (.c (.int .i64 1)),vP 3 (.t 11)]
def c9d:=Rg [] [vP 2 (.c (.int .i64 (-1)))]
def d7Q:ACode :=
  (Sq d5d (Sq (Sq d3Q (Bk 0 (Lp (Sq d11 (Sq (Bk 1 c4S) c5G))))) (Sq c9d .ret)))
def a87:AFn:={ np:=2,nv:=4,results:=[.v 2],code:=d7Q }
def e0v:List Nat:=[0,1,4,5]
def d9n:List Nat:=[]

def d3N:=Rg [2,3] [⟨.bx,.boxV,[.v 0],some 2,none⟩,⟨.bx,.boxV,[.v 1],some 3,none⟩,vP 4 (.c (.bool false))]
def d40:=Rg [] [vP 4 (.c (.bool false))]
def d15:=Ts [] [fP 5 0 (.l 2),lP 6 2 false 1 (.t 5),fP 7 0 (.l 3),lP 8 3 false 1 (.t 7),bP 9 .neq (.t 6) (.t 8),mP 10 (.t 9),gP 11 (.fad 2) [.l 2] 10 false,⟨.t 12,.ldLc 2 false 1,[.t 11],some 2,some (.t 10,false)⟩,gP 13 (.fad 2) [.l 3] 10 false,⟨.t 14,.ldLc 3 false 1,[.t 13],some 3,some (.t 10,false)⟩,gP 15 (.binB .neq) [.t 12,.t 14] 10 false,oP 16 .pick [.t 10,.c (.bool true),.t 15],mP 17 (.t 16),gP 18 (.fad 1) [.l 2] 17 false,⟨.t 19,.ldLc 2 false 1,[.t 18],some 2,some (.t 17,false)⟩,gP 20 .lenL [.t 19] 17 false,gP 21 (.fad 1) [.l 3] 17 false,⟨.t 22,.ldLc 3 false 1,[.t 21],some 3,some (.t 17,false)⟩,gP 23 .lenL [.t 22] 17 false,gP 24 (.bin .neq) [.t 20,.t 23] 17 false,oP 25 .pick [.t 17,.c (.bool true),.t 24]] (.t 25) (Sq d40 .ret) .skip
def d5m:=Rg [] [fP 26 1 (.l 2),lP 27 2 false 1 (.t 26),oP 28 .lenL [.t 27],bP 29 .eql (.t 28) (.c (.int .i64 0)),mP 30 (.t 29),gP 31 (.fad 1) [.l 2] 30 false,⟨.t 32,.ldLc 2 false 1,[.t 31],some 2,some (.t 30,false)⟩,gP 33 (.iad 3) [.t 32,.c (.int .i64 0)] 30 false,gP 34 (.ldRo true 3) [.t 33] 30 false,gP 35 (.fad 1) [.l 3] 30 false,⟨.t 36,.ldLc 3 false 1,[.t 35],some 3,some (.t 30,false)⟩,gP 37 (.iad 3) [.t 36,.c (.int .i64 0)] 30 false,gP 38 (.ldRo true 3) [.t 37] 30 false,gP 39 (.call 88) [.t 34,.t 38] 30 false,oP 40 .pick [.t 30,.c (.bool true),.t 39],vP 4 (.t 40)]
def d6T:ACode :=
  (Sq d3N (Sq d15 (Sq d5m .ret)))
def a88:AFn:={ np:=2,nv:=5,results:=[.v 4],code:=d6T }
def d9t:List Nat:=[0,1,2,3,4]
def d7G:List Nat:=[2,3]

def d3R:=Rg [1] [⟨.bx,.boxV,[.v 0],some 1,none⟩,op (.v 2) .mv [.c (.str [])]]
def d3d:=Rg [] [fP 7 1 (.l 1),lP 8 1 false 1 (.t 7),oP 9 (.iad 3) [.t 8,.c (.int .i64 0)],oP 10 (.ldRo true 3) [.t 9],oP 11 (.call 89) [.t 10],vP 2 (.t 11)]
def d5G:=Ts [] [fP 3 1 (.l 1),lP 4 1 false 1 (.t 3),oP 5 .lenL [.t 4],bP 6 .gtr (.t 5) (.c (.int .i64 0))] (.t 6) (Sq d3d .ret) .skip
def d3S:=Rg [] [fP 12 0 (.l 1),lP 13 1 false 1 (.t 12),vP 2 (.t 13)]
def e0e:ACode :=
  (Sq d3R (Sq d5G (Sq d3S .ret)))
def a89:AFn:={ np:=1,nv:=3,results:=[.v 2],code:=e0e }
def d8p:List Nat:=[0,1,2]
def d5T:List Nat:=[1]

def d42:=Rg [] [vP 2 (.c (.bool false))]
def d1P:=Rg [] [nP 6 0,nP 7 1,oP 8 (.call 54) [.t 6,.t 7],oP 9 (.fld 0 1 false) [.t 8],vP 3 (.t 9)]
def d1Z:=Rg [] [nP 10 1,oP 11 (.call 86) [.t 10],oP 12 (.un .not) [.t 11],mP 13 (.t 12),gP 14 .mv [.v 3] 13 true,gP 15 (.bin .eql) [.t 14,.c (.int .u8 1)] 13 true,gP 16 .mv [.t 15] 13 true,gP 17 .mv [.v 3] 16 false,gP 18 (.bin .eql) [.t 17,.c (.int .u8 2)] 16 false,gP 19 .pick [.t 16,.c (.bool true),.t 18] 13 true,gP 20 .mv [.t 19] 13 true,gP 21 .mv [.v 3] 20 false,gP 22 (.bin .eql) [.t 21,.c (.int .u8 3)] 20 false,gP 23 .pick [.t 20,.c (.bool true),.t 22] 13 true,oP 24 .pick [.t 13,.t 23,.c (.bool false)],vP 2 (.t 24)]
def e0E:ACode :=
  (Sq d42 (Sq d1P (Sq d1Z .ret)))
def a90:AFn:={ np:=2,nv:=4,results:=[.v 2],code:=e0E }
def e0D:List Nat:=[0,1,4,5]
def d7q:List Nat:=[]

def d2a:=Rg [1] [⟨.bx,.boxV,[.v 0],some 1,none⟩,vP 2 (.c (.bool false))]
def d1n:=Rg [] [fP 3 0 (.l 1),lP 4 1 false 1 (.t 3),oP 5 (.bin .eql) [.t 4,.c (.str [105,100])],mP 6 (.t 5),gP 7 (.fad 2) [.l 1] 6 true,gP 8 (.fad 0) [.t 7] 6 true,⟨.t 9,.ldLc 1 false 1,[.t 8],some 1,some (.t 6,true)⟩,gP 10 (.bin .eql) [.t 9,.c (.str [73,68])] 6 true,oP 11 .pick [.t 6,.t 10,.c (.bool false)],mP 12 (.t 11),gP 13 (.fad 2) [.l 1] 12 true,gP 14 (.fad 2) [.t 13] 12 true,⟨.t 15,.ldLc 1 false 1,[.t 14],some 1,some (.t 12,true)⟩,oP 16 .pick [.t 12,.t 15,.c (.bool false)],mP 17 (.t 16),gP 18 (.fad 2) [.l 1] 17 true,gP 19 (.fad 1) [.t 18] 17 true,⟨.t 20,.ldLc 1 false 1,[.t 19],some 1,some (.t 17,true)⟩,gP 21 .lenL [.t 20] 17 true,gP 22 (.bin .eql) [.t 21,.c (.int .i64 0)] 17 true,oP 23 .pick [.t 17,.t 22,.c (.bool false)],mP 24 (.t 23),gP 25 (.fad 5) [.l 1] 24 true,⟨.t 26,.ldLc 1 false 1,[.t 25],some 1,some (.t 24,true)⟩,gP 27 (.un .not) [.t 26] 24 true,oP 28 .pick [.t 24,.t 27,.c (.bool false)],vP 2 (.t 28)]
def d8u:ACode :=
  (Sq d2a (Sq d1n .ret))
def a91:AFn:={ np:=1,nv:=3,results:=[.v 2],code:=d8u }
def d8D:List Nat:=[0,1,2]
def e0f:List Nat:=[1]

def d4i:=Rg [2] [⟨.bx,.boxV,[.v 1],some 2,none⟩,vP 3 (.c (.bool false))]
def d5x:=Rg [] [fP 12 0 (.l 2),lP 13 2 false 1 (.t 12),oP 14 (.call 117) [.t 13],mP 11 (.t 14),oP 15 (.ext 0) [.t 11],oP 16 (.ext 1) [.t 11],vP 4 (.t 15),vP 5 (.t 16)]
def d2B:=Rg [6] [nP 17 0,nP 18 5,oP 19 (.call 54) [.t 17,.t 18],⟨.bx,.alloc [.int .u8 0,.str [],.list true [],.list true []],[],some 6,none⟩,xP (.stLc 6 4) [.l 6,.ts 19] 6]
def d2S:=Rg [] [vP 3 (.c (.bool false))]
def c65:=Ts [] [nP 20 4,oP 21 (.bin .eql) [.t 20,.c (.str [])],mP 22 (.t 21),gP 23 (.fad 0) [.l 6] 22 false,⟨.t 24,.ldLc 6 false 1,[.t 23],some 6,some (.t 22,false)⟩,gP 25 (.bin .neq) [.t 24,.c (.int .u8 1)] 22 false,oP 26 .pick [.t 22,.c (.bool true),.t 25],mP 27 (.t 26),gP 28 .mv [.v 5] 27 false,gP 29 (.call 86) [.t 28] 27 false,oP 30 .pick [.t 27,.c (.bool true),.t 29],mP 31 (.t 30),gP 32 (.fad 2) [.l 2] 31 false,gP 33 (.fad 1) [.t 32] 31 false,⟨.t 34,.ldLc 2 false 1,[.t 33],some 2,some (.t 31,false)⟩,gP 35 .lenL [.t 34] 31 false,gP 36 (.bin .gtr) [.t 35,.c (.int .i64 0)] 31 false,oP 37 .pick [.t 31,.c (.bool true),.t 36],mP 38 (.t 37),gP 39 (.fad 2) [.l 2] 38 false,gP 40 (.fad 2) [.t 39] 38 false,⟨.t 41,.ldLc 2 false 1,[.t 40],some 2,some (.t 38,false)⟩,oP 42 .pick [.t 38,.c (.bool true),.t 41],mP 43 (.t 42),gP 44 (.fad 2) [.l 2] 43 false,gP 45 (.fad 0) [.t 44] 43 false,⟨.t 46,.ldLc 2 false 1,[.t 45],some 2,some (.t 43,false)⟩,gP 47 .mv [.v 5] 43 false,gP 48 (.bin .neq) [.t 46,.t 47] 43 false,oP 49 .pick [.t 43,.c (.bool true),.t 48],mP 50 (.t 49),gP 51 (.fad 1) [.l 2] 50 false,⟨.t 52,.ldLc 2 false 1,[.t 51],some 2,some (.t 50,false)⟩,gP 53 .lenL [.t 52] 50 false,gP 54 (.bin .eql) [.t 53,.c (.int .i64 0)] 50 false,oP 55 .pick [.t 50,.c (.bool true),.t 54],mP 56 (.t 55),gP 57 (.fad 1) [.l 2] 56 false,⟨.t 58,.ldLc 2 false 1,[.t 57],some 2,some (.t 56,false)⟩,gP 59 (.iad 11) [.t 58,.c (.int .i64 0)] 56 false,gP 60 (.ldRo true 11) [.t 59] 56 false,gP 61 (.call 91) [.t 60] 56 false,gP 62 (.un .not) [.t 61] 56 false,oP 63 .pick [.t 56,.c (.bool true),.t 62]] (.t 63) (Sq d2S .ret) .skip
def c79:=Rg [] [fP 66 1 (.l 2),lP 67 2 false 1 (.t 66),oP 68 .lenL [.t 67],bP 69 .eql (.t 68) (.c (.int .i64 1)),vP 3 (.t 69)]
def c5J:=Ts [] [nP 64 4,oP 65 (.bin .eql) [.t 64,.c (.str [100,101,108,101,116,101])]] (.t 65) (Sq c79 .ret) .skip
def c4P:=Rg [] [vP 3 (.c (.bool false))]
def c6o:=Ts [] [fP 70 1 (.l 2),lP 71 2 false 1 (.t 70),oP 72 .lenL [.t 71],bP 73 .neq (.t 72) (.c (.int .i64 2)),mP 74 (.t 73),gP 75 (.fad 1) [.l 2] 74 false,⟨.t 76,.ldLc 2 false 1,[.t 75],some 2,some (.t 74,false)⟩,gP 77 (.iad 11) [.t 76,.c (.int .i64 1)] 74 false,gP 78 (.fad 0) [.t 77] 74 false,gP 79 (.ldRo false 1) [.t 78] 74 false,gP 80 (.bin .neq) [.t 79,.c (.str [105,110,112,117,116])] 74 false,oP 81 .pick [.t 74,.c (.bool true),.t 80],mP 82 (.t 81),gP 83 (.fad 1) [.l 2] 82 false,⟨.t 84,.ldLc 2 false 1,[.t 83],some 2,some (.t 82,false)⟩,gP 85 (.iad 11) [.t 84,.c (.int .i64 1)] 82 false,gP 86 (.fad 2) [.t 85] 82 false,gP 87 (.fad 2) [.t 86] 82 false,gP 88 (.ldRo false 1) [.t 87] 82 false,gP 89 (.un .not) [.t 88] 82 false,oP 90 .pick [.t 82,.c (.bool true),.t 89],mP 91 (.t 90),gP 92 (.fad 1) [.l 2] 91 false,⟨.t 93,.ldLc 2 false 1,[.t 92],some 2,some (.t 91,false)⟩,gP 94 (.iad 11) [.t 93,.c (.int .i64 1)] 91 false,gP 95 (.fad 2) [.t 94] 91 false,gP 96 (.fad 1) [.t 95] 91 false,gP 97 (.ldRo false 1) [.t 96] 91 false,gP 98 .lenL [.t 97] 91 false,gP 99 (.bin .gtr) [.t 98,.c (.int .i64 0)] 91 false,oP 100 .pick [.t 91,.c (.bool true),.t 99]] (.t 100) (Sq c4P .ret) .skip
def c6R:=Rg [7] [nP 101 0,fP 102 1 (.l 2),lP 103 2 false 1 (.t 102),oP 104 (.iad 11) [.t 103,.c (.int .i64 1)],fP 105 2 (.t 104),fP 106 0 (.t 105),oP 107 (.ldRo false 1) [.t 106],oP 108 (.call 54) [.t 101,.t 107],⟨.bx,.alloc [.int .u8 0,.str [],.list true [],.list true []],[],some 7,none⟩,xP (.stLc 7 4) [.l 7,.ts 108] 7]
def c8o:=Rg [] [vP 3 (.c (.bool false))]
def c33:=Ts [] [fP 109 0 (.l 7),lP 110 7 false 1 (.t 109),bP 111 .neq (.t 110) (.c (.int .u8 5))] (.t 111) (Sq c8o .ret) .skip
def c4U:=Rg [] [vP 8 (.c (.int .i64 0))]
def c6O:=Ts [] [nP 112 8,fP 113 2 (.l 7),lP 114 7 false 1 (.t 113),oP 115 .lenL [.t 114],bP 116 .lss (.t 112) (.t 115)] (.t 116) .skip (.exit 0)
def c4R:=Rg [] [fP 119 2 (.l 6),lP 120 6 false 1 (.t 119),fP 121 2 (.l 7),lP 122 7 false 1 (.t 121),nP 123 8,oP 124 (.iad 11) [.t 122,.t 123],fP 125 0 (.t 124),oP 126 (.ldRo false 1) [.t 125],oP 127 (.call 87) [.t 120,.t 126],vP 9 (.t 127)]
def c4i:=Rg [] [vP 3 (.c (.bool false))]
def c3z:=Ts [] [nP 128 9,bP 129 .lss (.t 128) (.c (.int .i64 0)),mP 130 (.t 129),gP 131 .mv [.v 0] 130 false,gP 132 (.fad 2) [.l 6] 130 false,⟨.t 133,.ldLc 6 false 1,[.t 132],some 6,some (.t 130,false)⟩,gP 134 .mv [.v 9] 130 false,gP 135 (.iad 11) [.t 133,.t 134] 130 false,gP 136 (.fad 2) [.t 135] 130 false,gP 137 (.ldRo true 3) [.t 136] 130 false,gP 138 (.fad 2) [.l 7] 130 false,⟨.t 139,.ldLc 7 false 1,[.t 138],some 7,some (.t 130,false)⟩,gP 140 .mv [.v 8] 130 false,gP 141 (.iad 11) [.t 139,.t 140] 130 false,gP 142 (.fad 2) [.t 141] 130 false,gP 143 (.ldRo true 3) [.t 142] 130 false,gP 144 (.call 118) [.t 131,.t 137,.t 143] 130 false,gP 145 (.un .not) [.t 144] 130 false,oP 146 .pick [.t 130,.c (.bool true),.t 145]] (.t 146) (Sq c4i .ret) .skip
def c9Y:=Rg [] [nP 117 8,bP 118 .add (.t 117) (.c (.int .i64 1)),vP 8 (.t 118)]
def c9t:=Rg [] [vP 3 (.c (.bool true))]
def e0m:ACode :=
  (Sq d4i (Sq d5x (Sq d2B (Sq c65 (Sq c5J (Sq c6o (Sq c6R (Sq c33 (Sq (Sq c4U (Bk 0 (Lp (Sq c6O (Sq (Bk 1 (Sq c4R c3z)) c9Y))))) (Sq c9t .ret))))))))))
def a92:AFn:={ np:=2,nv:=10,results:=[.v 3],code:=e0m }
def e0K:List Nat:=[0,1,3,4,5,6,7,8,9,10]
def d7p:List Nat:=[2,6,7]

def a93s1:=Rg [] [vP 2 (.c (.bool false))]
def a93s3:=Rg [] [nP 5 0,nP 6 1,oP 7 (.call 119) [.t 5,.t 6],bP 8 .geq (.t 7) (.c (.int .i64 0)),vP 2 (.t 8)]
def a93c:ACode :=
  (Sq a93s1 (Sq a93s3 .ret))
def a93:AFn:={ np:=2,nv:=3,results:=[.v 2],code:=a93c }
def d6j:List Nat:=[0,1,4]
def d7m:List Nat:=[]

def a94s1:=Rg [2] [⟨.bx,.boxV,[.v 0],some 2,none⟩,vP 3 (.c (.bool false))]
def a94s3:=Rg [] [fP 4 0 (.l 2),lP 5 2 false 1 (.t 4),oP 6 (.bin .eql) [.t 5,.c (.str [115,107,105,112])],mP 7 (.t 6),gP 8 (.ldSt false 1) [.v 1] 7 true,⟨.t 9,.ldLc 2 true 2,[.l 2],some 2,some (.t 7,true)⟩,gP 10 (.call 95) [.t 8,.t 9] 7 true,oP 11 .pick [.t 7,.t 10,.c (.bool false)],mP 12 (.t 11),gP 13 (.fad 0) [.l 2] 12 false,⟨.t 14,.ldLc 2 false 1,[.t 13],some 2,some (.t 12,false)⟩,gP 15 (.bin .eql) [.t 14,.c (.str [105,110,99,108,117,100,101])] 12 false,gP 16 .mv [.t 15] 12 false,gP 17 (.ldSt false 1) [.v 1] 16 true,⟨.t 18,.ldLc 2 true 2,[.l 2],some 2,some (.t 16,true)⟩,gP 19 (.call 95) [.t 17,.t 18] 16 true,gP 20 (.un .not) [.t 19] 16 true,gP 21 .pick [.t 16,.t 20,.c (.bool false)] 12 false,oP 22 .pick [.t 12,.c (.bool true),.t 21],vP 3 (.t 22)]
def a94c:ACode :=
  (Sq a94s1 (Sq a94s3 .ret))
def a94:AFn:={ np:=2,nv:=4,results:=[.v 3],code:=a94c }
def d5W:List Nat:=[0,1,2,3]
def d8s:List Nat:=[2]

def a95s1:=Rg [2] [⟨.bx,.boxV,[.v 1],some 2,none⟩,vP 3 (.c (.bool false))]
def a95s3:=Rg [] [fP 8 1 (.l 2),⟨.v 6,.ldLc 2 false 1,[.t 8],some 2,none⟩,op (.v 7) .lenL [.v 6],vP 8 (.c (.int .i64 0))]
def a95s5:=Ts [] [bP 12 .lss (.v 8) (.v 7)] (.t 12) .skip (.exit 0)
def a95s7:=Rg [4] [oP 13 (.iad 6) [.v 6,.v 8],oP 14 (.ldRo true 6) [.t 13],⟨.bx,.alloc [.str [],.int .u8 0,.int .i64 0,.str [],.list true [],.list true []],[],some 4,none⟩,xP (.stLc 4 6) [.l 4,.ts 14] 4]
def a95s9:=Rg [5] [fP 15 1 (.l 4),lP 16 4 true 5 (.t 15),⟨.bx,.alloc [.int .u8 0,.int .i64 0,.str [],.list true [],.list true []],[],some 5,none⟩,xP (.stLc 5 5) [.l 5,.ts 16] 5]
def a95s12:=Rg [] [nP 21 0,oP 22 .nilchk [.t 21],fP 23 4 (.t 22),oP 24 (.ldSt true 5) [.t 23],fP 25 2 (.l 5),lP 26 5 false 1 (.t 25),oP 27 (.call 120) [.t 24,.t 26],mP 20 (.t 27),oP 28 (.ext 0) [.t 20],oP 29 (.ext 1) [.t 20],xP (.stLc 5 5) [.l 5,.ts 28] 5]
def a95s13:=Ts [] [fP 17 0 (.l 5),lP 18 5 false 1 (.t 17),bP 19 .eql (.t 18) (.c (.int .u8 7))] (.t 19) a95s12 .skip
def a95s16:=Rg [] [fP 33 0 (.l 5),lP 34 5 false 1 (.t 33),bP 35 .eql (.t 34) (.c (.int .u8 3)),mP 36 (.t 35),gP 37 (.fad 1) [.l 5] 36 true,⟨.t 38,.ldLc 5 false 1,[.t 37],some 5,some (.t 36,true)⟩,gP 39 (.bin .eql) [.t 38,.c (.int .i64 1)] 36 true,oP 40 .pick [.t 36,.t 39,.c (.bool false)],vP 3 (.t 40)]
def a95s18:=Ts [] [fP 30 0 (.l 4),lP 31 4 false 1 (.t 30),oP 32 (.bin .eql) [.t 31,.c (.str [105,102])]] (.t 32) (Sq a95s16 .ret) .skip
def a95s24:=Rg [] [bP 41 .add (.v 8) (.c (.int .i64 1)),vP 8 (.t 41)]
def a95s31:=Rg [] [vP 3 (.c (.bool false))]
def a95c:ACode :=
  (Sq a95s1 (Sq (Sq a95s3 (Bk 0 (Lp (Sq a95s5 (Sq (Bk 1 (Sq a95s7 (Sq a95s9 (Sq a95s13 a95s18)))) a95s24))))) (Sq a95s31 .ret)))
def a95:AFn:={ np:=2,nv:=9,results:=[.v 3],code:=a95c }
def d8X:List Nat:=[0,1,3,4,6,7,9,10,11]
def d6g:List Nat:=[2,4,5]

def a96s1:=Rg [] [vP 2 (.c (.int .i64 0))]
def a96s3:=Rg [] [nP 6 0,op (.v 4) .lenL [.t 6],vP 5 (.c (.int .i64 0))]
def a96s5:=Ts [] [bP 9 .lss (.v 5) (.v 4)] (.t 9) .skip (.exit 0)
def a96s7:=Rg [] [nP 10 5,vP 3 (.t 10)]
def a96s10:=Rg [] [nP 17 3,vP 2 (.t 17)]
def a96s12:=Ts [] [nP 11 1,nP 12 0,nP 13 3,oP 14 (.iad 2) [.t 12,.t 13],oP 15 (.ldSt true 2) [.t 14],oP 16 .callV [.t 11,.t 15]] (.t 16) (Sq a96s10 .ret) .skip
def a96s16:=Rg [] [bP 18 .add (.v 5) (.c (.int .i64 1)),vP 5 (.t 18)]
def a96s23:=Rg [] [vP 2 (.c (.int .i64 (-1)))]
def a96c:ACode :=
  (Sq a96s1 (Sq (Sq a96s3 (Bk 0 (Lp (Sq a96s5 (Sq (Bk 1 (Sq a96s7 a96s12)) a96s16))))) (Sq a96s23 .ret)))
def a96:AFn:={ np:=2,nv:=6,results:=[.v 2],code:=a96c }
def d55:List Nat:=[0,1,4,5,7,8]
def e0k:List Nat:=[]

def a97s1:=Rg [2] [⟨.bx,.boxV,[.v 0],some 2,none⟩,vP 3 (.c (.bool false))]
def a97s3:=Rg [] [fP 4 0 (.l 2),lP 5 2 false 1 (.t 4),oP 6 (.ldSt false 1) [.v 1],bP 7 .eql (.t 5) (.t 6),vP 3 (.t 7)]
def a97c:ACode :=
  (Sq a97s1 (Sq a97s3 .ret))
def a97:AFn:={ np:=2,nv:=4,results:=[.v 3],code:=a97c }
def d9o:List Nat:=[0,1,2,3]
def e0S:List Nat:=[2]

def a98s1:=Rg [] [op (.v 2) .mv [.c (.list true [])]]
def a98s3:=Rg [3] [nP 11 0,nP 12 1,oP 13 (.call 48) [.t 11,.t 12],mP 10 (.t 13),oP 14 (.ext 0) [.t 10],oP 15 (.ext 1) [.t 10],⟨.bx,.alloc [.int .u8 0,.str [],.list true [],.list true []],[],some 3,none⟩,xP (.stLc 3 4) [.l 3,.ts 14] 3,vP 4 (.t 15)]
def a98s6:=Rg [] [op (.v 2) .mv [.c (.list true [])]]
def a98s10:=Rg [] [nP 23 1,oP 24 (.bslice 1 [[.str []]] [0]) [.t 23],vP 2 (.ts 24)]
def a98s14:=Rg [] [fP 29 3 (.l 3),lP 30 3 false 1 (.t 29),oP 31 (.call 121) [.t 30],vP 2 (.ts 31)]
def a98s18:=Rg [] [op (.v 2) .mv [.c (.list true [])]]
def a98s20:=Ts [] [fP 33 0 (.l 3),lP 34 3 false 1 (.t 33),bP 35 .neq (.t 34) (.c (.int .u8 2)),mP 32 (.t 35)] (.t 32) (Sq a98s18 .ret) .skip
def a98s21:=Ts [] [fP 26 0 (.l 3),lP 27 3 false 1 (.t 26),bP 28 .eql (.t 27) (.c (.int .u8 3)),mP 25 (.t 28)] (.t 25) (Sq a98s14 .ret) a98s20
def a98s22:=Ts [] [fP 20 0 (.l 3),lP 21 3 false 1 (.t 20),bP 22 .eql (.t 21) (.c (.int .u8 1)),mP 19 (.t 22)] (.t 19) (Sq a98s10 .ret) a98s21
def a98s23:=Ts [] [nP 17 4,oP 18 (.un .not) [.t 17],mP 16 (.t 18)] (.t 16) (Sq a98s6 .ret) a98s22
def a98s26:=Rg [] [op (.v 5) .mv [.c (.list true [])]]
def a98s28:=Rg [] [nP 36 0,oP 37 .nilchk [.t 36],fP 38 0 (.t 37),op (.v 7) (.ldSt false 1) [.t 38],op (.v 8) .lenL [.v 7],vP 9 (.c (.int .i64 0))]
def a98s30:=Ts [] [bP 42 .lss (.v 9) (.v 8)] (.t 42) .skip (.exit 1)
def a98s32:=Rg [6] [oP 43 (.iad 4) [.v 7,.v 9],oP 44 (.ldRo true 4) [.t 43],⟨.bx,.alloc [.int .u8 0,.str [],.list true [],.list true []],[],some 6,none⟩,xP (.stLc 6 4) [.l 6,.ts 44] 6]
def a98s35:=Rg [] [mP 54 (.vs 5),fP 55 1 (.l 6),lP 56 6 false 1 (.t 55),oP 57 (.bslice 1 [[.str []]] [0]) [.t 56],oP 58 (.app 1 16) [.ts 54,.t 57],vP 5 (.ts 58)]
def a98s36:=Ts [] [fP 45 0 (.l 6),lP 46 6 false 1 (.t 45),bP 47 .eql (.t 46) (.c (.int .u8 1)),mP 48 (.t 47),gP 49 (.fad 3) [.l 6] 48 true,⟨.t 50,.ldLc 6 false 1,[.t 49],some 6,some (.t 48,true)⟩,gP 51 .mv [.v 1] 48 true,gP 52 (.call 45) [.t 50,.t 51] 48 true,oP 53 .pick [.t 48,.t 52,.c (.bool false)]] (.t 53) a98s35 .skip
def a98s40:=Rg [] [bP 59 .add (.v 9) (.c (.int .i64 1)),vP 9 (.t 59)]
def a98s47:=Rg [] [nP 60 5,vP 2 (.ts 60)]
def a98c:ACode :=
  (Sq a98s1 (Sq a98s3 (Sq (Bk 0 a98s23) (Sq a98s26 (Sq (Sq a98s28 (Bk 1 (Lp (Sq a98s30 (Sq (Bk 2 (Sq a98s32 a98s36)) a98s40))))) (Sq a98s47 .ret))))))
def a98:AFn:={ np:=2,nv:=10,results:=[.v 2],code:=a98c }
def d7l:List Nat:=[0,1,4,5,6,7,9,39,40,41]
def d98:List Nat:=[3,6]

def a99s1:=Rg [] [op (.v 1) .mv [.c (.str [])]]
def a99s3:=Rg [] [op (.v 2) .mv [.c (.str [])]]
def a99s5:=Rg [] [vP 3 (.c (.int .i64 0))]
def a99s7:=Ts [] [nP 5 3,nP 6 0,oP 7 .lenL [.t 6],bP 8 .lss (.t 5) (.t 7)] (.t 8) .skip (.exit 0)
def a99s10:=Rg [] [nP 13 2,oP 14 (.bin .add) [.t 13,.c (.str [40])],vP 2 (.t 14)]
def a99s12:=Rg [] [nP 15 2,oP 16 (.bin .add) [.t 15,.c (.str [44,32])],vP 2 (.t 16)]
def a99s13:=Ts [] [nP 11 3,bP 12 .eql (.t 11) (.c (.int .i64 0))] (.t 12) a99s10 a99s12
def a99s15:=Rg [] [nP 17 2,nP 18 0,nP 19 3,oP 20 (.iad 6) [.t 18,.t 19],fP 21 0 (.t 20),oP 22 (.ldRo false 1) [.t 21],oP 23 (.bin .add) [.t 22,.c (.str [58,32])],nP 24 0,nP 25 3,oP 26 (.iad 6) [.t 24,.t 25],fP 27 1 (.t 26),oP 28 (.ldRo true 5) [.t 27],oP 29 (.call 122) [.t 28],bP 30 .add (.t 23) (.t 29),bP 31 .add (.t 17) (.t 30),vP 2 (.t 31)]
def a99s19:=Rg [] [nP 9 3,bP 10 .add (.t 9) (.c (.int .i64 1)),vP 3 (.t 10)]
def a99s27:=Rg [] [nP 35 2,oP 36 (.bin .add) [.t 35,.c (.str [41])],vP 2 (.t 36)]
def a99s28:=Ts [] [nP 32 0,oP 33 .lenL [.t 32],bP 34 .gtr (.t 33) (.c (.int .i64 0))] (.t 34) a99s27 .skip
def a99s30:=Rg [] [nP 37 2,vP 1 (.t 37)]
def a99c:ACode :=
  (Sq a99s1 (Sq a99s3 (Sq (Sq a99s5 (Bk 0 (Lp (Sq a99s7 (Sq (Bk 1 (Sq a99s13 a99s15)) a99s19))))) (Sq a99s28 (Sq a99s30 .ret)))))
def a99:AFn:={ np:=1,nv:=4,results:=[.v 1],code:=a99c }
def d8t:List Nat:=[0,2,3,4]
def e0p:List Nat:=[]

def a100s1:=Rg [] [op (.v 1) .mv [.c (.str [])]]
def a100s3:=Rg [] [op (.v 2) .mv [.c (.str [32,123])]]
def a100s5:=Rg [] [vP 3 (.c (.int .i64 0))]
def a100s7:=Ts [] [nP 5 3,nP 6 0,oP 7 .lenL [.t 6],bP 8 .lss (.t 5) (.t 7)] (.t 8) .skip (.exit 0)
def a100s9:=Rg [] [nP 11 2,nP 12 0,nP 13 3,oP 14 (.iad 7) [.t 12,.t 13],oP 15 (.ldAn true 7) [.t 14],oP 16 (.call 61) [.t 15],oP 17 (.bin .add) [.c (.str [32]),.t 16],bP 18 .add (.t 11) (.t 17),vP 2 (.t 18)]
def a100s12:=Rg [] [nP 9 3,bP 10 .add (.t 9) (.c (.int .i64 1)),vP 3 (.t 10)]
def a100s19:=Rg [] [nP 19 2,oP 20 (.bin .add) [.t 19,.c (.str [32,125])],vP 1 (.t 20)]
def a100c:ACode :=
  (Sq a100s1 (Sq a100s3 (Sq (Sq a100s5 (Bk 0 (Lp (Sq a100s7 (Sq (Bk 1 a100s9) a100s12))))) (Sq a100s19 .ret))))
def a100:AFn:={ np:=1,nv:=4,results:=[.v 1],code:=a100c }
def d31:List Nat:=[0,2,3,4]
def d2t:List Nat:=[]

def a101s1:=Rg [2,3] [⟨.bx,.boxV,[.v 0],some 2,none⟩,⟨.bx,.alloc [.int .u8 0,.int .i64 0,.str [],.list true [],.list true []],[],some 3,none⟩,vP 4 (.c (.bool false))]
def a101s3:=Rg [] [vP 5 (.c (.int .i64 0))]
def a101s5:=Ts [] [nP 7 5,fP 8 3 (.l 2),lP 9 2 false 1 (.t 8),oP 10 .lenL [.t 9],bP 11 .lss (.t 7) (.t 10),mP 12 (.t 11),gP 13 (.fad 0) [.l 2] 12 true,⟨.t 14,.ldLc 2 false 1,[.t 13],some 2,some (.t 12,true)⟩,gP 15 (.bin .eql) [.t 14,.c (.int .u8 6)] 12 true,oP 16 .pick [.t 12,.t 15,.c (.bool false)]] (.t 16) .skip (.exit 0)
def a101s8:=Rg [] [fP 26 4 (.l 2),lP 27 2 false 1 (.t 26),nP 28 5,oP 29 (.iad 5) [.t 27,.t 28],oP 30 (.ldRo true 5) [.t 29],xP (.stLc 3 5) [.l 3,.ts 30] 3,vP 4 (.c (.bool true))]
def a101s10:=Ts [] [fP 19 3 (.l 2),lP 20 2 false 1 (.t 19),nP 21 5,oP 22 (.iad 1) [.t 20,.t 21],oP 23 (.ldRo false 1) [.t 22],nP 24 1,bP 25 .eql (.t 23) (.t 24)] (.t 25) (Sq a101s8 .ret) .skip
def a101s13:=Rg [] [nP 17 5,bP 18 .add (.t 17) (.c (.int .i64 1)),vP 5 (.t 18)]
def a101s20:=Rg [] [oP 31 (.build [.int .u8 0,.int .i64 0,.str [],.list true [],.list true []] []) [],xP (.stLc 3 5) [.l 3,.ts 31] 3,vP 4 (.c (.bool false))]
def a101c:ACode :=
  (Sq a101s1 (Sq (Sq a101s3 (Bk 0 (Lp (Sq a101s5 (Sq (Bk 1 a101s10) a101s13))))) (Sq a101s20 .ret)))
def a101:AFn:={ np:=2,nv:=6,results:=[.bx 3 true 5,.v 4],code:=a101c }
def d19:List Nat:=[0,1,2,4,5,6]
def d1O:List Nat:=[2,3]

def c7z:=Rg [1] [⟨.bx,.boxV,[.v 0],some 1,none⟩,op (.v 2) .mv [.c (.str [])]]
def c3q:=Ts [] [fP 3 1 (.l 1),lP 4 1 false 1 (.t 3),oP 5 .lenL [.t 4],bP 6 .gtr (.t 5) (.c (.int .i64 0))] (.t 6) .skip (.exit 0)
def d02:=Rg [] [fP 7 1 (.l 1),lP 8 1 false 1 (.t 7),oP 9 (.iad 3) [.t 8,.c (.int .i64 0)],oP 10 (.ldRo true 3) [.t 9],xP (.stLc 1 3) [.l 1,.ts 10] 1]
def c28:=Rg [] [fP 11 0 (.l 1),lP 12 1 false 1 (.t 11),vP 2 (.t 12)]
def d5z:ACode :=
  (Sq c7z (Sq (Bk 0 (Lp (Sq c3q (Bk 1 d02)))) (Sq c28 .ret)))
def c9W:AFn:={ np:=1,nv:=3,results:=[.v 2],code:=d5z }
def d4N:List Nat:=[0,1,2]
def d2o:List Nat:=[1]

def c8g:=Rg [] [vP 2 (.c (.bool false))]
def c8Z:=Rg [] [nP 5 0,oP 6 (.binP .neq) [.t 5,.c (.nilp)],mP 7 (.t 6),gP 8 (.slA 4 1 false false) [.c (.ro [.str [66,111,111,108,101,97,110],.str [73,68],.str [73,110,116],.str [83,116,114,105,110,103]])] 7 true,gP 9 .mv [.v 1] 7 true,gP 10 (.call 45) [.t 8,.t 9] 7 true,oP 11 .pick [.t 7,.t 10,.c (.bool false)],vP 2 (.t 11)]
def d2c:ACode :=
  (Sq c8g (Sq c8Z .ret))
def c7A:AFn:={ np:=2,nv:=3,results:=[.v 2],code:=d2c }
def d1F:List Nat:=[0,1,4]
def d14:List Nat:=[]

def c5u:=Rg [] [vP 2 (.c (.bool false))]
def c3n:=Rg [] [nP 5 0,nP 6 1,oP 7 (.call 123) [.t 5,.t 6,.c (.int .u8 4)],vP 2 (.t 7)]
def d2b:ACode :=
  (Sq c5u (Sq c3n .ret))
def c52:AFn:={ np:=2,nv:=3,results:=[.v 2],code:=d2b }
def d3h:List Nat:=[0,1,4]
def d2T:List Nat:=[]

def c5Q:=Rg [] [vP 2 (.c (.bool false))]
def c4t:=Rg [] [nP 5 0,nP 6 1,oP 7 (.call 123) [.t 5,.t 6,.c (.int .u8 5)],vP 2 (.t 7)]
def d1R:ACode :=
  (Sq c5Q (Sq c4t .ret))
def c5t:AFn:={ np:=2,nv:=3,results:=[.v 2],code:=d1R }
def d4X:List Nat:=[0,1,4]
def d5p:List Nat:=[]

def c95:=Rg [5] [op (.v 3) .boxO [.v 0],op (.v 4) .boxO [.v 1],⟨.bx,.boxV,[.v 2],some 5,none⟩,vP 6 (.c (.bool false))]
def d0i:=Rg [] [fP 12 2 (.v 4),oP 13 (.ldSt false 1) [.t 12],oP 14 (.un .not) [.t 13],vP 6 (.t 14)]
def c8m:=Ts [] [fP 9 0 (.l 5),lP 10 5 false 1 (.t 9),bP 11 .eql (.t 10) (.c (.int .u8 0))] (.t 11) (Sq d0i .ret) .skip
def c2s:=Rg [] [oP 22 (.ldSt false 1) [.v 3],fP 23 1 (.v 4),oP 24 (.ldSt false 1) [.t 23],oP 25 (.iad 3) [.t 24,.c (.int .i64 0)],oP 26 (.ldRo true 3) [.t 25],lP 27 5 true 5 (.l 5),oP 28 (.call 106) [.t 22,.t 26,.t 27],vP 6 (.t 28)]
def c0b:=Ts [] [fP 19 0 (.l 5),lP 20 5 false 1 (.t 19),bP 21 .neq (.t 20) (.c (.int .u8 5))] (.t 21) (Sq c2s .ret) .skip
def c0g:=Rg [] [fP 29 4 (.l 5),lP 30 5 false 1 (.t 29),oP 31 (.mkF 125 0) [.v 3,.v 4],oP 32 (.call 124) [.t 30,.t 31],oP 33 (.un .not) [.t 32],vP 6 (.t 33)]
def c1O:=Ts [] [fP 15 1 (.v 4),oP 16 (.ldSt false 1) [.t 15],oP 17 .lenL [.t 16],bP 18 .gtr (.t 17) (.c (.int .i64 0))] (.t 18) (Sq c0b (Sq c0g .ret)) .skip
def c0f:=Rg [] [fP 34 0 (.v 4),op (.v 8) (.ldSt false 1) [.t 34]]
def c0M:=Rg [] [fP 38 0 (.l 5),lP 39 5 false 1 (.t 38),bP 40 .eql (.t 39) (.c (.int .u8 1)),mP 41 (.t 40),gP 42 (.fad 1) [.l 5] 41 true,⟨.t 43,.ldLc 5 false 1,[.t 42],some 5,some (.t 41,true)⟩,gP 44 (.fad 1) [.l 5] 41 true,⟨.t 45,.ldLc 5 false 1,[.t 44],some 5,some (.t 41,true)⟩,gP 46 (.conv .i32) [.t 45] 41 true,gP 47 (.conv .i64) [.t 46] 41 true,gP 48 (.bin .eql) [.t 43,.t 47] 41 true,oP 49 .pick [.t 41,.t 48,.c (.bool false)],vP 6 (.t 49)]
def c0q:=Rg [] [fP 52 0 (.l 5),lP 53 5 false 1 (.t 52),bP 54 .eql (.t 53) (.c (.int .u8 2)),vP 6 (.t 54)]
def c1k:=Rg [] [fP 57 0 (.l 5),lP 58 5 false 1 (.t 57),bP 59 .eql (.t 58) (.c (.int .u8 3)),vP 6 (.t 59)]
def c2b:=Rg [] [fP 62 0 (.l 5),lP 63 5 false 1 (.t 62),bP 64 .eql (.t 63) (.c (.int .u8 2)),mP 65 (.t 64),gP 66 (.fad 0) [.l 5] 65 false,⟨.t 67,.ldLc 5 false 1,[.t 66],some 5,some (.t 65,false)⟩,gP 68 (.bin .eql) [.t 67,.c (.int .u8 1)] 65 false,oP 69 .pick [.t 65,.c (.bool true),.t 68],vP 6 (.t 69)]
def c1b:=Ts [] [oP 61 (.bin .eql) [.v 8,.c (.str [73,68])],mP 60 (.t 61)] (.t 60) (Sq c2b .ret) .skip
def c2y:=Ts [] [oP 56 (.bin .eql) [.v 8,.c (.str [66,111,111,108,101,97,110])],mP 55 (.t 56)] (.t 55) (Sq c1k .ret) c1b
def c1f:=Ts [] [oP 51 (.bin .eql) [.v 8,.c (.str [83,116,114,105,110,103])],mP 50 (.t 51)] (.t 50) (Sq c0q .ret) c2y
def c1r:=Ts [] [oP 37 (.bin .eql) [.v 8,.c (.str [73,110,116])],mP 36 (.t 37)] (.t 36) (Sq c0M .ret) c1f
def c2C:=Rg [7] [oP 71 (.ldSt false 1) [.v 3],fP 72 0 (.v 4),oP 73 (.ldSt false 1) [.t 72],oP 74 (.call 48) [.t 71,.t 73],mP 70 (.t 74),oP 75 (.ext 0) [.t 70],oP 76 (.ext 1) [.t 70],⟨.bx,.alloc [.int .u8 0,.str [],.list true [],.list true []],[],some 7,none⟩,xP (.stLc 7 4) [.l 7,.ts 75] 7,mP 8 (.t 76)]
def c3i:=Rg [] [fP 77 0 (.l 7),⟨.v 9,.ldLc 7 false 1,[.t 77],some 7,none⟩]
def c2V:=Rg [] [fP 81 0 (.l 5),lP 82 5 false 1 (.t 81),bP 83 .eql (.t 82) (.c (.int .u8 4)),mP 84 (.t 83),gP 85 (.fad 3) [.l 7] 84 true,⟨.t 86,.ldLc 7 false 1,[.t 85],some 7,some (.t 84,true)⟩,gP 87 (.fad 2) [.l 5] 84 true,⟨.t 88,.ldLc 5 false 1,[.t 87],some 5,some (.t 84,true)⟩,gP 89 (.call 45) [.t 86,.t 88] 84 true,oP 90 .pick [.t 84,.t 89,.c (.bool false)],vP 6 (.t 90)]
def c1u:=Rg [] [fP 93 0 (.l 5),lP 94 5 false 1 (.t 93),bP 95 .eql (.t 94) (.c (.int .u8 6)),mP 96 (.t 95),gP 97 (.ldSt false 1) [.v 3] 96 true,⟨.t 98,.ldLc 7 true 4,[.l 7],some 7,some (.t 96,true)⟩,⟨.t 99,.ldLc 5 true 5,[.l 5],some 5,some (.t 96,true)⟩,gP 100 (.call 126) [.t 97,.t 98,.t 99] 96 true,oP 101 .pick [.t 96,.t 100,.c (.bool false)],vP 6 (.t 101)]
def c2o:=Ts [] [bP 92 .eql (.v 9) (.c (.int .u8 5)),mP 91 (.t 92)] (.t 91) (Sq c1u .ret) .skip
def c3h:=Ts [] [bP 80 .eql (.v 9) (.c (.int .u8 4)),mP 79 (.t 80)] (.t 79) (Sq c2V .ret) c2o
def c0D:=Rg [] [vP 6 (.c (.bool false))]
def d1G:ACode :=
  (Sq c95 (Sq c8m (Sq c1O (Sq (Sq c0f (Bk 0 c1r)) (Sq c2C (Sq (Sq c3i (Bk 1 c3h)) (Sq c0D .ret)))))))
def c67:AFn:={ np:=3,nv:=10,results:=[.v 6],code:=d1G }
def d4t:List Nat:=[0,1,2,3,4,5,6,7,35,78]
def d3g:List Nat:=[5,7]

def c5o:=Rg [] [vP 2 (.c (.bool false))]
def c69:=Rg [] [nP 5 0,nP 6 1,oP 7 (.call 127) [.t 5,.t 6],bP 8 .geq (.t 7) (.c (.int .i64 0)),vP 2 (.t 8)]
def d1p:ACode :=
  (Sq c5o (Sq c69 .ret))
def c9T:AFn:={ np:=2,nv:=3,results:=[.v 2],code:=d1p }
def d3i:List Nat:=[0,1,4]
def d3e:List Nat:=[]

def d0S:=Rg [2] [⟨.bx,.boxV,[.v 0],some 2,none⟩,vP 3 (.c (.bool false))]
def c7S:=Rg [] [fP 5 2 (.v 1),oP 6 (.ldSt false 1) [.t 5],oP 7 (.call 76) [.t 6],fP 8 0 (.l 2),lP 9 2 false 1 (.t 8),oP 10 (.call 73) [.t 7,.t 9],vP 4 (.t 10)]
def d0j:=Rg [] [nP 11 4,bP 12 .lss (.t 11) (.c (.int .i64 0)),mP 13 (.t 12),gP 14 (.fad 2) [.v 1] 13 false,gP 15 (.ldSt false 1) [.t 14] 13 false,gP 16 .mv [.v 4] 13 false,gP 17 (.iad 11) [.t 15,.t 16] 13 false,gP 18 (.fad 2) [.t 17] 13 false,gP 19 (.ldRo true 3) [.t 18] 13 false,gP 20 (.fad 2) [.l 2] 13 false,⟨.t 21,.ldLc 2 true 3,[.t 20],some 2,some (.t 13,false)⟩,gP 22 (.call 109) [.t 19,.t 21] 13 false,gP 23 (.un .not) [.t 22] 13 false,oP 24 .pick [.t 13,.c (.bool true),.t 23],vP 3 (.t 24)]
def d3o:ACode :=
  (Sq d0S (Sq c7S (Sq d0j .ret)))
def c8R:AFn:={ np:=2,nv:=5,results:=[.v 3],code:=d3o }
def d2R:List Nat:=[0,1,2,3,4]
def d4L:List Nat:=[2]

def c6P:=Rg [2,3] [⟨.bx,.boxV,[.v 0],some 2,none⟩,⟨.bx,.boxV,[.v 1],some 3,none⟩,vP 4 (.c (.bool false))]
def c6j:=Rg [] [fP 5 0 (.l 2),lP 6 2 false 1 (.t 5),fP 7 0 (.l 3),lP 8 3 false 1 (.t 7),bP 9 .eql (.t 6) (.t 8),mP 10 (.t 9),gP 11 (.fad 2) [.l 2] 10 true,⟨.t 12,.ldLc 2 false 1,[.t 11],some 2,some (.t 10,true)⟩,gP 13 (.fad 2) [.l 3] 10 true,⟨.t 14,.ldLc 3 false 1,[.t 13],some 3,some (.t 10,true)⟩,gP 15 (.binB .eql) [.t 12,.t 14] 10 true,oP 16 .pick [.t 10,.t 15,.c (.bool false)],mP 17 (.t 16),gP 18 (.fad 1) [.l 2] 17 true,⟨.t 19,.ldLc 2 false 1,[.t 18],some 2,some (.t 17,true)⟩,gP 20 (.fad 1) [.l 3] 17 true,⟨.t 21,.ldLc 3 false 1,[.t 20],some 3,some (.t 17,true)⟩,gP 22 (.call 128) [.t 19,.t 21,.c (.func 109 [] [])] 17 true,oP 23 .pick [.t 17,.t 22,.c (.bool false)],vP 4 (.t 23)]
def d1S:ACode :=
  (Sq c6P (Sq c6j .ret))
def c6x:AFn:={ np:=2,nv:=5,results:=[.v 4],code:=d1S }
def d4p:List Nat:=[0,1,2,3,4]
def d4e:List Nat:=[2,3]

def d1j:=Rg [1] [⟨.bx,.boxV,[.v 0],some 1,none⟩,vP 2 (.c (.bool false))]
def c48:=Rg [] [fP 3 0 (.l 1),lP 4 1 false 1 (.t 3),oP 5 (.bin .eql) [.t 4,.c (.str [105,100])],mP 6 (.t 5),gP 7 (.fad 5) [.l 1] 6 true,⟨.t 8,.ldLc 1 false 1,[.t 7],some 1,some (.t 6,true)⟩,gP 9 (.un .not) [.t 8] 6 true,oP 10 .pick [.t 6,.t 9,.c (.bool false)],mP 11 (.t 10),gP 12 (.fad 2) [.l 1] 11 true,⟨.t 13,.ldLc 1 true 3,[.t 12],some 1,some (.t 11,true)⟩,⟨.t 14,(.build [.str [],.list true [],.bool false] [(0,1),(2,1)]),[.c (.str [73,68]),.c (.bool true)],none,some (.t 11,true)⟩,gP 15 (.call 109) [.t 13,.t 14] 11 true,oP 16 .pick [.t 11,.t 15,.c (.bool false)],vP 2 (.t 16)]
def d3p:ACode :=
  (Sq d1j (Sq c48 .ret))
def c3k:AFn:={ np:=1,nv:=3,results:=[.v 2],code:=d3p }
def d3m:List Nat:=[0,1,2]
def d2Q:List Nat:=[1]

def c3U:=Rg [] [vP 2 (.c (.bool false))]
def c8B:=Rg [] [nP 5 1,oP 6 (.call 78) [.t 5],oP 7 (.un .not) [.t 6],mP 8 (.t 7),gP 9 .mv [.v 0] 8 true,gP 10 .mv [.v 1] 8 true,gP 11 (.call 123) [.t 9,.t 10,.c (.int .u8 1)] 8 true,gP 12 .mv [.t 11] 8 true,gP 13 .mv [.v 0] 12 false,gP 14 .mv [.v 1] 12 false,gP 15 (.call 123) [.t 13,.t 14,.c (.int .u8 2)] 12 false,gP 16 .pick [.t 12,.c (.bool true),.t 15] 8 true,gP 17 .mv [.t 16] 8 true,gP 18 .mv [.v 0] 17 false,gP 19 .mv [.v 1] 17 false,gP 20 (.call 123) [.t 18,.t 19,.c (.int .u8 3)] 17 false,gP 21 .pick [.t 17,.c (.bool true),.t 20] 8 true,oP 22 .pick [.t 8,.t 21,.c (.bool false)],vP 2 (.t 22)]
def d2O:ACode :=
  (Sq c3U (Sq c8B .ret))
def c6S:AFn:={ np:=2,nv:=3,results:=[.v 2],code:=d2O }
def d4V:List Nat:=[0,1,4]
def d1L:List Nat:=[]

def c43:=Rg [] [op (.v 1) .mv [.c (.str [])],op (.v 2) .mv [.c (.str [])]]
def c6z:=Rg [] [op (.v 6) (.bslice 1 [[.str []],[.str []],[.str []]] [0,1,2]) [.c (.str [99,114,101,97,116,101]),.c (.str [117,112,100,97,116,101]),.c (.str [100,101,108,101,116,101])],op (.v 7) .lenL [.v 6],vP 8 (.c (.int .i64 0))]
def c61:=Ts [] [bP 11 .lss (.v 8) (.v 7)] (.t 11) .skip (.exit 0)
def c87:=Rg [] [oP 12 (.iad 1) [.v 6,.v 8],oP 13 (.ldRo false 1) [.t 12],vP 3 (.t 13)]
def c5S:=Rg [] [nP 15 0,nP 16 3,oP 17 (.call 129) [.t 15,.t 16],mP 14 (.t 17),oP 18 (.ext 0) [.t 14],oP 19 (.ext 1) [.t 14],vP 4 (.t 18),vP 5 (.t 19)]
def c1S:=Rg [] [nP 21 3,nP 22 4,vP 1 (.t 21),vP 2 (.t 22)]
def c08:=Ts [] [nP 20 5] (.t 20) (Sq c1S .ret) .skip
def c1x:=Rg [] [bP 23 .add (.v 8) (.c (.int .i64 1)),vP 8 (.t 23)]
def c1i:=Rg [] [op (.v 1) .mv [.c (.str [])],op (.v 2) .mv [.c (.str [])]]
def d3W:ACode :=
  (Sq c43 (Sq (Sq c6z (Bk 0 (Lp (Sq c61 (Sq (Bk 1 (Sq c87 (Sq c5S c08))) c1x))))) (Sq c1i .ret)))
def c7x:AFn:={ np:=1,nv:=9,results:=[.v 1,.v 2],code:=d3W }
def d41:List Nat:=[0,2,3,5,6,7,8,9,10]
def d24:List Nat:=[]

def c32:=Rg [3] [⟨.bx,.boxV,[.v 0],some 3,none⟩,vP 4 (.c (.bool false))]
def c6Z:=Rg [] [fP 6 2 (.v 1),oP 7 (.ldSt false 1) [.t 6],oP 8 (.call 76) [.t 7],fP 9 0 (.l 3),lP 10 3 false 1 (.t 9),oP 11 (.call 73) [.t 8,.t 10],vP 5 (.t 11)]
def c75:=Rg [] [nP 12 5,bP 13 .lss (.t 12) (.c (.int .i64 0)),mP 14 (.t 13),gP 15 (.ldSt false 1) [.v 2] 14 false,gP 16 (.fad 2) [.v 1] 14 false,gP 17 (.ldSt false 1) [.t 16] 14 false,gP 18 .mv [.v 5] 14 false,gP 19 (.iad 11) [.t 17,.t 18] 14 false,gP 20 (.fad 2) [.t 19] 14 false,gP 21 (.ldRo true 3) [.t 20] 14 false,gP 22 (.fad 2) [.l 3] 14 false,⟨.t 23,.ldLc 3 true 3,[.t 22],some 3,some (.t 14,false)⟩,gP 24 (.call 114) [.t 15,.t 21,.t 23] 14 false,gP 25 (.un .not) [.t 24] 14 false,oP 26 .pick [.t 14,.c (.bool true),.t 25],vP 4 (.t 26)]
def d39:ACode :=
  (Sq c32 (Sq c6Z (Sq c75 .ret)))
def c9b:AFn:={ np:=3,nv:=6,results:=[.v 4],code:=d39 }
def d2Y:List Nat:=[0,1,2,3,4,5]
def d5q:List Nat:=[3]

def c6c:=Rg [3,4] [⟨.bx,.boxV,[.v 1],some 3,none⟩,⟨.bx,.boxV,[.v 2],some 4,none⟩,vP 5 (.c (.bool false))]
def c8S:=Rg [] [vP 5 (.c (.bool false))]
def d0R:=Ts [] [fP 7 1 (.l 3),lP 8 3 false 1 (.t 7),oP 9 .lenL [.t 8],fP 10 1 (.l 4),lP 11 4 false 1 (.t 10),oP 12 .lenL [.t 11],bP 13 .neq (.t 9) (.t 12)] (.t 13) (Sq c8S .ret) .skip
def d0F:=Rg [] [nP 18 0,fP 19 1 (.l 3),lP 20 3 false 1 (.t 19),oP 21 (.iad 3) [.t 20,.c (.int .i64 0)],oP 22 (.ldRo true 3) [.t 21],fP 23 1 (.l 4),lP 24 4 false 1 (.t 23),oP 25 (.iad 3) [.t 24,.c (.int .i64 0)],oP 26 (.ldRo true 3) [.t 25],oP 27 (.call 114) [.t 18,.t 22,.t 26],vP 5 (.t 27)]
def c1g:=Ts [] [fP 14 1 (.l 3),lP 15 3 false 1 (.t 14),oP 16 .lenL [.t 15],bP 17 .gtr (.t 16) (.c (.int .i64 0))] (.t 17) (Sq d0F .ret) .skip
def c00:=Rg [] [fP 28 0 (.l 3),lP 29 3 false 1 (.t 28),fP 30 0 (.l 4),lP 31 4 false 1 (.t 30),bP 32 .eql (.t 29) (.t 31),mP 33 (.t 32),gP 34 .mv [.v 0] 33 false,gP 35 (.fad 0) [.l 3] 33 false,⟨.t 36,.ldLc 3 false 1,[.t 35],some 3,some (.t 33,false)⟩,gP 37 (.call 111) [.t 34,.t 36] 33 false,gP 38 .mv [.t 37] 33 false,gP 39 (.fad 0) [.l 4] 38 true,⟨.t 40,.ldLc 4 false 1,[.t 39],some 4,some (.t 38,true)⟩,gP 41 (.bin .eql) [.t 40,.c (.str [73,68])] 38 true,gP 42 .pick [.t 38,.t 41,.c (.bool false)] 33 false,oP 43 .pick [.t 33,.c (.bool true),.t 42],vP 5 (.t 43)]
def d2y:ACode :=
  (Sq c6c (Sq d0R (Sq c1g (Sq c00 .ret))))
def c9J:AFn:={ np:=3,nv:=6,results:=[.v 5],code:=d2y }
def d5g:List Nat:=[0,1,2,4,5,6]
def d5H:List Nat:=[3,4]

def c3V:=Rg [] [vP 2 (.c (.bool false))]
def c9n:=Rg [] [nP 5 1,oP 6 (.call 50) [.t 5],mP 7 (.t 6),gP 8 .mv [.v 0] 7 false,gP 9 .mv [.v 1] 7 false,gP 10 (.call 54) [.t 8,.t 9] 7 false,gP 11 (.fld 0 1 false) [.t 10] 7 false,gP 12 (.bin .eql) [.t 11,.c (.int .u8 4)] 7 false,oP 13 .pick [.t 7,.c (.bool true),.t 12],vP 2 (.t 13)]
def d5s:ACode :=
  (Sq c3V (Sq c9n .ret))
def d0E:AFn:={ np:=2,nv:=3,results:=[.v 2],code:=d5s }
def d4D:List Nat:=[0,1,4]
def d2U:List Nat:=[]

def d0G:=Rg [4,5] [⟨.bx,.boxV,[.v 1],some 4,none⟩,⟨.bx,.boxV,[.v 2],some 5,none⟩,vP 6 (.c (.bool false))]
def c7d:=Rg [] [vP 6 (.c (.bool true))]
def c94:=Ts [] [fP 14 0 (.l 5),lP 15 5 false 1 (.t 14),bP 16 .eql (.t 15) (.c (.int .u8 7)),mP 17 (.t 16),gP 18 .mv [.v 3] 17 true,oP 19 .pick [.t 17,.t 18,.c (.bool false)]] (.t 19) (Sq c7d .ret) .skip
def c9v:=Rg [] [fP 23 2 (.l 4),lP 24 4 false 1 (.t 23),oP 25 (.un .not) [.t 24],vP 6 (.t 25)]
def c0S:=Ts [] [fP 20 0 (.l 5),lP 21 5 false 1 (.t 20),bP 22 .eql (.t 21) (.c (.int .u8 0))] (.t 22) (Sq c9v .ret) .skip
def c03:=Rg [] [nP 33 0,fP 34 1 (.l 4),lP 35 4 false 1 (.t 34),oP 36 (.iad 3) [.t 35,.c (.int .i64 0)],oP 37 (.ldRo true 3) [.t 36],lP 38 5 true 5 (.l 5),nP 39 3,oP 40 (.call 116) [.t 33,.t 37,.t 38,.t 39],vP 6 (.t 40)]
def c0l:=Ts [] [fP 30 0 (.l 5),lP 31 5 false 1 (.t 30),bP 32 .neq (.t 31) (.c (.int .u8 5))] (.t 32) (Sq c03 .ret) .skip
def c09:=Rg [] [vP 7 (.c (.int .i64 0))]
def c1j:=Ts [] [nP 41 7,fP 42 4 (.l 5),lP 43 5 false 1 (.t 42),oP 44 .lenL [.t 43],bP 45 .lss (.t 41) (.t 44)] (.t 45) .skip (.exit 0)
def c1N:=Rg [] [vP 6 (.c (.bool false))]
def c2i:=Ts [] [nP 48 0,fP 49 1 (.l 4),lP 50 4 false 1 (.t 49),oP 51 (.iad 3) [.t 50,.c (.int .i64 0)],oP 52 (.ldRo true 3) [.t 51],fP 53 4 (.l 5),lP 54 5 false 1 (.t 53),nP 55 7,oP 56 (.iad 5) [.t 54,.t 55],oP 57 (.ldRo true 5) [.t 56],nP 58 3,oP 59 (.call 116) [.t 48,.t 52,.t 57,.t 58],oP 60 (.un .not) [.t 59]] (.t 60) (Sq c1N .ret) .skip
def c0C:=Rg [] [nP 46 7,bP 47 .add (.t 46) (.c (.int .i64 1)),vP 7 (.t 47)]
def c1T:=Rg [] [vP 6 (.c (.bool true))]
def c1m:=Ts [] [fP 26 1 (.l 4),lP 27 4 false 1 (.t 26),oP 28 .lenL [.t 27],bP 29 .gtr (.t 28) (.c (.int .i64 0))] (.t 29) (Sq c0l (Sq (Sq c09 (Bk 0 (Lp (Sq c1j (Sq (Bk 1 c2i) c0C))))) (Sq c1T .ret))) .skip
def c2K:=Rg [] [fP 61 0 (.l 4),⟨.v 12,.ldLc 4 false 1,[.t 61],some 4,none⟩]
def c0z:=Rg [] [fP 65 0 (.l 5),lP 66 5 false 1 (.t 65),bP 67 .eql (.t 66) (.c (.int .u8 1)),mP 68 (.t 67),gP 69 (.fad 1) [.l 5] 68 true,⟨.t 70,.ldLc 5 false 1,[.t 69],some 5,some (.t 68,true)⟩,gP 71 (.bin .geq) [.t 70,.c (.int .i64 (-2147483648))] 68 true,oP 72 .pick [.t 68,.t 71,.c (.bool false)],mP 73 (.t 72),gP 74 (.fad 1) [.l 5] 73 true,⟨.t 75,.ldLc 5 false 1,[.t 74],some 5,some (.t 73,true)⟩,gP 76 (.bin .leq) [.t 75,.c (.int .i64 2147483647)] 73 true,oP 77 .pick [.t 73,.t 76,.c (.bool false)],vP 6 (.t 77)]
def c0d:=Rg [] [fP 80 0 (.l 5),lP 81 5 false 1 (.t 80),bP 82 .eql (.t 81) (.c (.int .u8 2)),vP 6 (.t 82)]
def c0y:=Rg [] [fP 85 0 (.l 5),lP 86 5 false 1 (.t 85),bP 87 .eql (.t 86) (.c (.int .u8 3)),vP 6 (.t 87)]
def c2p:=Rg [] [fP 90 0 (.l 5),lP 91 5 false 1 (.t 90),bP 92 .eql (.t 91) (.c (.int .u8 2)),mP 93 (.t 92),gP 94 (.fad 0) [.l 5] 93 false,⟨.t 95,.ldLc 5 false 1,[.t 94],some 5,some (.t 93,false)⟩,gP 96 (.bin .eql) [.t 95,.c (.int .u8 1)] 93 false,oP 97 .pick [.t 93,.c (.bool true),.t 96],vP 6 (.t 97)]
def c01:=Ts [] [oP 89 (.bin .eql) [.v 12,.c (.str [73,68])],mP 88 (.t 89)] (.t 88) (Sq c2p .ret) .skip
def c0P:=Ts [] [oP 84 (.bin .eql) [.v 12,.c (.str [66,111,111,108,101,97,110])],mP 83 (.t 84)] (.t 83) (Sq c0y .ret) c01
def c2z:=Ts [] [oP 79 (.bin .eql) [.v 12,.c (.str [83,116,114,105,110,103])],mP 78 (.t 79)] (.t 78) (Sq c0d .ret) c0P
def c3a:=Ts [] [oP 64 (.bin .eql) [.v 12,.c (.str [73,110,116])],mP 63 (.t 64)] (.t 63) (Sq c0z .ret) c2z
def c0x:=Rg [8] [nP 98 0,fP 99 0 (.l 4),lP 100 4 false 1 (.t 99),oP 101 (.call 54) [.t 98,.t 100],⟨.bx,.alloc [.int .u8 0,.str [],.list true [],.list true []],[],some 8,none⟩,xP (.stLc 8 4) [.l 8,.ts 101] 8]
def c1d:=Rg [] [fP 105 0 (.l 5),lP 106 5 false 1 (.t 105),bP 107 .eql (.t 106) (.c (.int .u8 4)),mP 108 (.t 107),gP 109 (.fad 3) [.l 8] 108 true,⟨.t 110,.ldLc 8 false 1,[.t 109],some 8,some (.t 108,true)⟩,gP 111 (.fad 2) [.l 5] 108 true,⟨.t 112,.ldLc 5 false 1,[.t 111],some 5,some (.t 108,true)⟩,gP 113 (.call 51) [.t 110,.t 112] 108 true,oP 114 .pick [.t 108,.t 113,.c (.bool false)],vP 6 (.t 114)]
def c0V:=Ts [] [fP 102 0 (.l 8),lP 103 8 false 1 (.t 102),bP 104 .eql (.t 103) (.c (.int .u8 4))] (.t 104) (Sq c1d .ret) .skip
def c1L:=Rg [] [vP 6 (.c (.bool false))]
def c0A:=Ts [] [fP 115 0 (.l 8),lP 116 8 false 1 (.t 115),bP 117 .neq (.t 116) (.c (.int .u8 5)),mP 118 (.t 117),gP 119 (.fad 0) [.l 5] 118 false,⟨.t 120,.ldLc 5 false 1,[.t 119],some 5,some (.t 118,false)⟩,gP 121 (.bin .neq) [.t 120,.c (.int .u8 6)] 118 false,oP 122 .pick [.t 118,.c (.bool true),.t 121]] (.t 122) (Sq c1L .ret) .skip
def c0k:=Rg [] [vP 9 (.c (.int .i64 0))]
def c1I:=Ts [] [nP 123 9,fP 124 3 (.l 5),lP 125 5 false 1 (.t 124),oP 126 .lenL [.t 125],bP 127 .lss (.t 123) (.t 126)] (.t 127) .skip (.exit 3)
def c0Z:=Rg [] [fP 130 2 (.l 8),lP 131 8 false 1 (.t 130),fP 132 3 (.l 5),lP 133 5 false 1 (.t 132),nP 134 9,oP 135 (.iad 1) [.t 133,.t 134],oP 136 (.ldRo false 1) [.t 135],oP 137 (.call 87) [.t 131,.t 136],vP 10 (.t 137)]
def c1t:=Rg [] [vP 6 (.c (.bool false))]
def c1w:=Ts [] [nP 138 10,bP 139 .lss (.t 138) (.c (.int .i64 0)),mP 140 (.t 139),gP 141 (.fad 3) [.l 5] 140 false,⟨.t 142,.ldLc 5 false 1,[.t 141],some 5,some (.t 140,false)⟩,gP 143 .mv [.v 9] 140 false,gP 144 (.slL 1 false true) [.t 142,.t 143] 140 false,gP 145 (.fad 3) [.l 5] 140 false,⟨.t 146,.ldLc 5 false 1,[.t 145],some 5,some (.t 140,false)⟩,gP 147 .mv [.v 9] 140 false,gP 148 (.iad 1) [.t 146,.t 147] 140 false,gP 149 (.ldRo false 1) [.t 148] 140 false,gP 150 (.call 51) [.t 144,.t 149] 140 false,oP 151 .pick [.t 140,.c (.bool true),.t 150],mP 152 (.t 151),gP 153 .mv [.v 0] 152 false,gP 154 (.fad 2) [.l 8] 152 false,⟨.t 155,.ldLc 8 false 1,[.t 154],some 8,some (.t 152,false)⟩,gP 156 .mv [.v 10] 152 false,gP 157 (.iad 11) [.t 155,.t 156] 152 false,gP 158 (.fad 2) [.t 157] 152 false,gP 159 (.ldRo true 3) [.t 158] 152 false,gP 160 (.fad 4) [.l 5] 152 false,⟨.t 161,.ldLc 5 false 1,[.t 160],some 5,some (.t 152,false)⟩,gP 162 .mv [.v 9] 152 false,gP 163 (.iad 5) [.t 161,.t 162] 152 false,gP 164 (.ldRo true 5) [.t 163] 152 false,gP 165 .mv [.v 3] 152 false,gP 166 (.call 116) [.t 153,.t 159,.t 164,.t 165] 152 false,gP 167 (.un .not) [.t 166] 152 false,oP 168 .pick [.t 152,.c (.bool true),.t 167]] (.t 168) (Sq c1t .ret) .skip
def c0s:=Rg [] [nP 128 9,bP 129 .add (.t 128) (.c (.int .i64 1)),vP 9 (.t 129)]
def c0J:=Rg [] [vP 11 (.c (.int .i64 0))]
def b7Q:=Ts [] [nP 169 11,fP 170 2 (.l 8),lP 171 8 false 1 (.t 170),oP 172 .lenL [.t 171],bP 173 .lss (.t 169) (.t 172)] (.t 173) .skip (.exit 5)
def b7i:=Rg [] [vP 6 (.c (.bool false))]
def b7F:=Ts [] [fP 176 2 (.l 8),lP 177 8 false 1 (.t 176),nP 178 11,oP 179 (.iad 11) [.t 177,.t 178],fP 180 2 (.t 179),fP 181 2 (.t 180),oP 182 (.ldRo false 1) [.t 181],mP 183 (.t 182),gP 184 (.fad 2) [.l 8] 183 true,⟨.t 185,.ldLc 8 false 1,[.t 184],some 8,some (.t 183,true)⟩,gP 186 .mv [.v 11] 183 true,gP 187 (.iad 11) [.t 185,.t 186] 183 true,gP 188 (.fad 5) [.t 187] 183 true,gP 189 (.ldRo false 1) [.t 188] 183 true,gP 190 (.un .not) [.t 189] 183 true,oP 191 .pick [.t 183,.t 190,.c (.bool false)],mP 192 (.t 191),gP 193 (.fad 3) [.l 5] 192 true,⟨.t 194,.ldLc 5 false 1,[.t 193],some 5,some (.t 192,true)⟩,gP 195 (.fad 2) [.l 8] 192 true,⟨.t 196,.ldLc 8 false 1,[.t 195],some 8,some (.t 192,true)⟩,gP 197 .mv [.v 11] 192 true,gP 198 (.iad 11) [.t 196,.t 197] 192 true,gP 199 (.fad 0) [.t 198] 192 true,gP 200 (.ldRo false 1) [.t 199] 192 true,gP 201 (.call 51) [.t 194,.t 200] 192 true,gP 202 (.un .not) [.t 201] 192 true,oP 203 .pick [.t 192,.t 202,.c (.bool false)]] (.t 203) (Sq b7i .ret) .skip
def b7p:=Rg [] [nP 174 11,bP 175 .add (.t 174) (.c (.int .i64 1)),vP 11 (.t 175)]
def b6S:=Rg [] [vP 6 (.c (.bool true))]
def d1l:ACode :=
  (Sq d0G (Sq c94 (Sq c0S (Sq c1m (Sq (Sq c2K (Bk 2 c3a)) (Sq c0x (Sq c0V (Sq c0A (Sq (Sq c0k (Bk 3 (Lp (Sq c1I (Sq (Bk 4 (Sq c0Z c1w)) c0s))))) (Sq (Sq c0J (Bk 5 (Lp (Sq b7Q (Sq (Bk 6 b7F) b7p))))) (Sq b6S .ret)))))))))))
def c9f:AFn:={ np:=4,nv:=13,results:=[.v 6],code:=d1l }
def d1N:List Nat:=[0,1,2,3,5,6,8,9,10,11,12,13,62]
def d3X:List Nat:=[4,5,8]

def c5D:=Rg [] [op (.v 1) .mv [.c (.str [])],op (.v 2) .mv [.c (.str [])]]
def c4r:=Rg [] [oP 6 (.bslice 1 [[.str []],[.str []],[.str []]] [0,1,2]) [.c (.str [99,114,101,97,116,101]),.c (.str [117,112,100,97,116,101]),.c (.str [100,101,108,101,116,101])],vP 3 (.ts 6)]
def c7n:=Rg [] [vP 4 (.c (.int .i64 0))]
def c5L:=Ts [] [nP 7 4,bP 8 .lss (.t 7) (.c (.int .i64 3))] (.t 8) .skip (.exit 0)
def c1e:=Rg [] [nP 17 3,nP 18 4,oP 19 (.iad 1) [.t 17,.t 18],oP 20 (.ldRo false 1) [.t 19],nP 21 0,oP 22 (.slS true false) [.t 21,.c (.int .i64 6)],vP 1 (.t 20),vP 2 (.t 22)]
def c0Q:=Ts [] [nP 11 0,nP 12 3,nP 13 4,oP 14 (.iad 1) [.t 12,.t 13],oP 15 (.ldRo false 1) [.t 14],oP 16 (.call 52) [.t 11,.t 15]] (.t 16) (Sq c1e .ret) .skip
def c1o:=Rg [] [nP 9 4,bP 10 .add (.t 9) (.c (.int .i64 1)),vP 4 (.t 10)]
def c0m:=Rg [] [op (.v 1) .mv [.c (.str [])],op (.v 2) .mv [.c (.str [])]]
def d4A:ACode :=
  (Sq c5D (Sq c4r (Sq (Sq c7n (Bk 0 (Lp (Sq c5L (Sq (Bk 1 c0Q) c1o))))) (Sq c0m .ret))))
def c8Y:AFn:={ np:=1,nv:=5,results:=[.v 1,.v 2],code:=d4A }
def d3F:List Nat:=[0,2,3,4,5]
def d5l:List Nat:=[]

def c5C:=Rg [3,4] [⟨.bx,.boxV,[.v 1],some 3,none⟩,⟨.bx,.boxV,[.v 2],some 4,none⟩,vP 5 (.c (.bool false))]
def c5O:=Rg [] [fP 17 1 (.l 3),lP 18 3 false 1 (.t 17),oP 19 .lenL [.t 18],bP 20 .gtr (.t 19) (.c (.int .i64 0)),mP 21 (.t 20),gP 22 (.fad 1) [.l 4] 21 true,⟨.t 23,.ldLc 4 false 1,[.t 22],some 4,some (.t 21,true)⟩,gP 24 .lenL [.t 23] 21 true,gP 25 (.bin .gtr) [.t 24,.c (.int .i64 0)] 21 true,oP 26 .pick [.t 21,.t 25,.c (.bool false)],mP 27 (.t 26),gP 28 .mv [.v 0] 27 true,gP 29 (.fad 1) [.l 3] 27 true,⟨.t 30,.ldLc 3 false 1,[.t 29],some 3,some (.t 27,true)⟩,gP 31 (.iad 3) [.t 30,.c (.int .i64 0)] 27 true,gP 32 (.ldRo true 3) [.t 31] 27 true,gP 33 (.fad 1) [.l 4] 27 true,⟨.t 34,.ldLc 4 false 1,[.t 33],some 4,some (.t 27,true)⟩,gP 35 (.iad 3) [.t 34,.c (.int .i64 0)] 27 true,gP 36 (.ldRo true 3) [.t 35] 27 true,gP 37 (.call 118) [.t 28,.t 32,.t 36] 27 true,oP 38 .pick [.t 27,.t 37,.c (.bool false)],vP 5 (.t 38)]
def c5b:=Ts [] [fP 7 1 (.l 3),lP 8 3 false 1 (.t 7),oP 9 .lenL [.t 8],bP 10 .gtr (.t 9) (.c (.int .i64 0)),mP 11 (.t 10),gP 12 (.fad 1) [.l 4] 11 false,⟨.t 13,.ldLc 4 false 1,[.t 12],some 4,some (.t 11,false)⟩,gP 14 .lenL [.t 13] 11 false,gP 15 (.bin .gtr) [.t 14,.c (.int .i64 0)] 11 false,oP 16 .pick [.t 11,.c (.bool true),.t 15]] (.t 16) (Sq c5O .ret) .skip
def c9G:=Rg [] [fP 39 0 (.l 3),lP 40 3 false 1 (.t 39),fP 41 0 (.l 4),lP 42 4 false 1 (.t 41),bP 43 .eql (.t 40) (.t 42),mP 44 (.t 43),gP 45 (.fad 0) [.l 4] 44 false,⟨.t 46,.ldLc 4 false 1,[.t 45],some 4,some (.t 44,false)⟩,gP 47 (.bin .eql) [.t 46,.c (.str [73,68])] 44 false,gP 48 .mv [.t 47] 44 false,gP 49 .mv [.v 0] 48 true,gP 50 (.fad 0) [.l 3] 48 true,⟨.t 51,.ldLc 3 false 1,[.t 50],some 3,some (.t 48,true)⟩,gP 52 (.call 90) [.t 49,.t 51] 48 true,gP 53 .pick [.t 48,.t 52,.c (.bool false)] 44 false,oP 54 .pick [.t 44,.c (.bool true),.t 53],vP 5 (.t 54)]
def d3y:ACode :=
  (Sq c5C (Sq c5b (Sq c9G .ret)))
def d0T:AFn:={ np:=3,nv:=6,results:=[.v 5],code:=d3y }
def d3u:List Nat:=[0,1,2,4,5,6]
def d2F:List Nat:=[3,4]

def a119s1:=Rg [] [vP 2 (.c (.int .i64 0))]
def a119s3:=Rg [] [nP 6 0,op (.v 4) .lenL [.t 6],vP 5 (.c (.int .i64 0))]
def a119s5:=Ts [] [bP 9 .lss (.v 5) (.v 4)] (.t 9) .skip (.exit 0)
def a119s7:=Rg [] [nP 10 5,vP 3 (.t 10)]
def a119s10:=Rg [] [nP 17 3,vP 2 (.t 17)]
def a119s12:=Ts [] [nP 11 1,nP 12 0,nP 13 3,oP 14 (.iad 2) [.t 12,.t 13],oP 15 (.ldRo true 2) [.t 14],oP 16 .callV [.t 11,.t 15]] (.t 16) (Sq a119s10 .ret) .skip
def a119s16:=Rg [] [bP 18 .add (.v 5) (.c (.int .i64 1)),vP 5 (.t 18)]
def a119s23:=Rg [] [vP 2 (.c (.int .i64 (-1)))]
def a119c:ACode :=
  (Sq a119s1 (Sq (Sq a119s3 (Bk 0 (Lp (Sq a119s5 (Sq (Bk 1 (Sq a119s7 a119s12)) a119s16))))) (Sq a119s23 .ret)))
def a119:AFn:={ np:=2,nv:=6,results:=[.v 2],code:=a119c }
def d3T:List Nat:=[0,1,4,5,7,8]
def d4m:List Nat:=[]

def a120s1:=Rg [2,3] [⟨.bx,.boxV,[.v 0],some 2,none⟩,⟨.bx,.alloc [.int .u8 0,.int .i64 0,.str [],.list true [],.list true []],[],some 3,none⟩,vP 4 (.c (.bool false))]
def a120s3:=Rg [] [fP 7 3 (.l 2),lP 8 2 false 1 (.t 7),nP 9 1,oP 10 (.call 73) [.t 8,.t 9],vP 5 (.t 10)]
def a120s6:=Rg [] [oP 18 (.build [.int .u8 0,.int .i64 0,.str [],.list true [],.list true []] []) [],xP (.stLc 3 5) [.l 3,.ts 18] 3,vP 4 (.c (.bool false))]
def a120s8:=Ts [] [nP 11 5,bP 12 .lss (.t 11) (.c (.int .i64 0)),mP 13 (.t 12),gP 14 (.fad 0) [.l 2] 13 false,⟨.t 15,.ldLc 2 false 1,[.t 14],some 2,some (.t 13,false)⟩,gP 16 (.bin .neq) [.t 15,.c (.int .u8 6)] 13 false,oP 17 .pick [.t 13,.c (.bool true),.t 16]] (.t 17) (Sq a120s6 .ret) .skip
def a120s10:=Rg [] [fP 19 4 (.l 2),lP 20 2 false 1 (.t 19),nP 21 5,oP 22 (.iad 5) [.t 20,.t 21],oP 23 (.ldRo true 5) [.t 22],xP (.stLc 3 5) [.l 3,.ts 23] 3,vP 4 (.c (.bool true))]
def a120c:ACode :=
  (Sq a120s1 (Sq a120s3 (Sq a120s8 (Sq a120s10 .ret))))
def a120:AFn:={ np:=2,nv:=6,results:=[.bx 3 true 5,.v 4],code:=a120c }
def d5f:List Nat:=[0,1,2,4,5,6]
def d2z:List Nat:=[2,3]

def a121:AFn:={ np:=1,nv:=0,results:=[],code:=.skip,ext:=some (a0B 1 16) }
def a122s1:=Rg [1] [⟨.bx,.boxV,[.v 0],some 1,none⟩,op (.v 2) .mv [.c (.str [])]]
def a122s3:=Rg [] [op (.v 3) .mv [.c (.str [])]]
def a122s5:=Rg [] [vP 4 (.c (.int .i64 0))]
def a122s7:=Ts [] [nP 5 4,fP 6 4 (.l 1),lP 7 1 false 1 (.t 6),oP 8 .lenL [.t 7],bP 9 .lss (.t 5) (.t 8)] (.t 9) .skip (.exit 0)
def a122s10:=Rg [] [nP 14 3,oP 15 (.bin .add) [.t 14,.c (.str [44,32])],vP 3 (.t 15)]
def a122s11:=Ts [] [nP 12 4,bP 13 .gtr (.t 12) (.c (.int .i64 0))] (.t 13) a122s10 .skip
def a122s14:=Rg [] [nP 19 3,fP 20 3 (.l 1),lP 21 1 false 1 (.t 20),nP 22 4,oP 23 (.iad 1) [.t 21,.t 22],oP 24 (.ldRo false 1) [.t 23],oP 25 (.bin .add) [.t 24,.c (.str [58,32])],bP 26 .add (.t 19) (.t 25),vP 3 (.t 26)]
def a122s15:=Ts [] [fP 16 0 (.l 1),lP 17 1 false 1 (.t 16),bP 18 .eql (.t 17) (.c (.int .u8 6))] (.t 18) a122s14 .skip
def a122s17:=Rg [] [nP 27 3,fP 28 4 (.l 1),lP 29 1 false 1 (.t 28),nP 30 4,oP 31 (.iad 5) [.t 29,.t 30],oP 32 (.ldRo true 5) [.t 31],oP 33 (.call 122) [.t 32],bP 34 .add (.t 27) (.t 33),vP 3 (.t 34)]
def a122s22:=Rg [] [nP 10 4,bP 11 .add (.t 10) (.c (.int .i64 1)),vP 4 (.t 11)]
def a122s29:=Rg [] [fP 35 0 (.l 1),⟨.v 5,.ldLc 1 false 1,[.t 35],some 1,none⟩]
def a122s32:=Rg [] [fP 39 1 (.l 1),lP 40 1 false 1 (.t 39),oP 41 (.call 130) [.t 40],vP 2 (.t 41)]
def a122s36:=Rg [] [bP 44 .eql (.v 5) (.c (.int .u8 8)),vP 6 (.t 44)]
def a122s37:=Ts [] [bP 43 .eql (.v 5) (.c (.int .u8 2)),vP 6 (.t 43)] (.v 6) .skip a122s36
def a122s39:=Rg [] [fP 45 2 (.l 1),lP 46 1 false 1 (.t 45),oP 47 (.call 131) [.t 46],vP 2 (.t 47)]
def a122s44:=Rg [] [op (.v 2) .mv [.c (.str [116,114,117,101])]]
def a122s46:=Ts [] [fP 50 1 (.l 1),lP 51 1 false 1 (.t 50),bP 52 .eql (.t 51) (.c (.int .i64 1))] (.t 52) (Sq a122s44 .ret) .skip
def a122s48:=Rg [] [op (.v 2) .mv [.c (.str [102,97,108,115,101])]]
def a122s53:=Rg [] [fP 55 2 (.l 1),lP 56 1 false 1 (.t 55),vP 2 (.t 56)]
def a122s57:=Rg [] [fP 59 2 (.l 1),lP 60 1 false 1 (.t 59),oP 61 (.bin .add) [.c (.str [36]),.t 60],vP 2 (.t 61)]
def a122s61:=Rg [] [nP 64 3,oP 65 (.bin .add) [.c (.str [91]),.t 64],oP 66 (.bin .add) [.t 65,.c (.str [93])],vP 2 (.t 66)]
def a122s65:=Rg [] [nP 69 3,oP 70 (.bin .add) [.c (.str [123]),.t 69],oP 71 (.bin .add) [.t 70,.c (.str [125])],vP 2 (.t 71)]
def a122s67:=Ts [] [bP 68 .eql (.v 5) (.c (.int .u8 6)),mP 67 (.t 68)] (.t 67) (Sq a122s65 .ret) .skip
def a122s68:=Ts [] [bP 63 .eql (.v 5) (.c (.int .u8 5)),mP 62 (.t 63)] (.t 62) (Sq a122s61 .ret) a122s67
def a122s69:=Ts [] [bP 58 .eql (.v 5) (.c (.int .u8 7)),mP 57 (.t 58)] (.t 57) (Sq a122s57 .ret) a122s68
def a122s70:=Ts [] [bP 54 .eql (.v 5) (.c (.int .u8 4)),mP 53 (.t 54)] (.t 53) (Sq a122s53 .ret) a122s69
def a122s71:=Ts [] [bP 49 .eql (.v 5) (.c (.int .u8 3)),mP 48 (.t 49)] (.t 48) (Sq a122s46 (Sq a122s48 .ret)) a122s70
def a122s72:=Ts [] [] (.v 6) (Sq a122s39 .ret) a122s71
def a122s74:=Ts [] [bP 38 .eql (.v 5) (.c (.int .u8 1)),mP 37 (.t 38)] (.t 37) (Sq a122s32 .ret) (Sq a122s37 a122s72)
def a122s78:=Rg [] [op (.v 2) .mv [.c (.str [110,117,108,108])]]
def a122c:ACode :=
  (Sq a122s1 (Sq a122s3 (Sq (Sq a122s5 (Bk 0 (Lp (Sq a122s7 (Sq (Bk 1 (Sq a122s11 (Sq a122s15 a122s17))) a122s22))))) (Sq (Sq a122s29 (Bk 2 a122s74)) (Sq a122s78 .ret)))))
def a122:AFn:={ np:=1,nv:=7,results:=[.v 2],code:=a122c }
def d2v:List Nat:=[0,1,2,3,4,36,42]
def d26:List Nat:=[1]

def c4p:=Rg [] [vP 3 (.c (.bool false))]
def c8x:=Rg [4] [nP 10 0,nP 11 1,oP 12 (.call 48) [.t 10,.t 11],mP 9 (.t 12),oP 13 (.ext 0) [.t 9],oP 14 (.ext 1) [.t 9],⟨.bx,.alloc [.int .u8 0,.str [],.list true [],.list true []],[],some 4,none⟩,xP (.stLc 4 4) [.l 4,.ts 13] 4,vP 5 (.t 14)]
def c4N:=Rg [] [nP 15 5,mP 16 (.t 15),gP 17 (.fad 0) [.l 4] 16 true,⟨.t 18,.ldLc 4 false 1,[.t 17],some 4,some (.t 16,true)⟩,gP 19 .mv [.v 2] 16 true,gP 20 (.bin .eql) [.t 18,.t 19] 16 true,oP 21 .pick [.t 16,.t 20,.c (.bool false)],vP 3 (.t 21)]
def d2I:ACode :=
  (Sq c4p (Sq c8x (Sq c4N .ret)))
def c81:AFn:={ np:=3,nv:=6,results:=[.v 3],code:=d2I }
def d4O:List Nat:=[0,1,2,6,7,8]
def d2l:List Nat:=[4]

def d0w:=Rg [] [vP 2 (.c (.bool false))]
def c9m:=Rg [] [nP 5 0,nP 6 1,oP 7 (.call 132) [.t 5,.t 6],bP 8 .geq (.t 7) (.c (.int .i64 0)),vP 2 (.t 8)]
def d5k:ACode :=
  (Sq d0w (Sq c9m .ret))
def c7l:AFn:={ np:=2,nv:=3,results:=[.v 2],code:=d5k }
def d1q:List Nat:=[0,1,4]
def d46:List Nat:=[]

def c5X:=Rg [3] [⟨.bx,.boxV,[.v 0],some 3,none⟩,vP 4 (.c (.bool false))]
def d0r:=Rg [] [oP 5 (.ldSt false 1) [.v 1],fP 6 1 (.v 2),oP 7 (.ldSt false 1) [.t 6],oP 8 (.iad 3) [.t 7,.c (.int .i64 0)],oP 9 (.ldRo true 3) [.t 8],lP 10 3 true 5 (.l 3),oP 11 (.call 106) [.t 5,.t 9,.t 10],oP 12 (.un .not) [.t 11],vP 4 (.t 12)]
def d5h:ACode :=
  (Sq c5X (Sq d0r .ret))
def c8D:AFn:={ np:=3,nv:=5,results:=[.v 4],code:=d5h }
def d1V:List Nat:=[0,1,2,3,4]
def d4B:List Nat:=[3]

def c8X:=Rg [3] [⟨.bx,.boxV,[.v 1],some 3,none⟩,op (.v 4) .boxO [.v 2],vP 5 (.c (.bool false))]
def c4O:=Rg [] [fP 10 3 (.v 4),op (.v 9) (.ldSt false 1) [.t 10],op (.v 10) .lenL [.v 9],vP 11 (.c (.int .i64 0))]
def c7r:=Ts [] [bP 14 .lss (.v 11) (.v 10)] (.t 14) .skip (.exit 0)
def d0Y:=Rg [] [nP 15 11,oP 16 (.iad 1) [.v 9,.v 11],oP 17 (.ldRo false 1) [.t 16],vP 6 (.t 15),vP 7 (.t 17)]
def c55:=Rg [] [fP 18 2 (.l 3),lP 19 3 false 1 (.t 18),oP 20 (.call 76) [.t 19],nP 21 7,oP 22 (.call 73) [.t 20,.t 21],vP 8 (.t 22)]
def c2U:=Rg [] [vP 5 (.c (.bool false))]
def c2m:=Ts [] [nP 23 8,bP 24 .lss (.t 23) (.c (.int .i64 0)),mP 25 (.t 24),gP 26 (.fad 3) [.v 4] 25 false,gP 27 (.ldSt false 1) [.t 26] 25 false,gP 28 .mv [.v 6] 25 false,gP 29 (.slL 1 false true) [.t 27,.t 28] 25 false,gP 30 .mv [.v 7] 25 false,gP 31 (.call 45) [.t 29,.t 30] 25 false,oP 32 .pick [.t 25,.c (.bool true),.t 31],mP 33 (.t 32),gP 34 .mv [.v 0] 33 false,gP 35 (.fad 2) [.l 3] 33 false,⟨.t 36,.ldLc 3 false 1,[.t 35],some 3,some (.t 33,false)⟩,gP 37 .mv [.v 8] 33 false,gP 38 (.iad 11) [.t 36,.t 37] 33 false,gP 39 (.fad 2) [.t 38] 33 false,gP 40 (.ldRo true 3) [.t 39] 33 false,gP 41 (.fad 4) [.v 4] 33 false,gP 42 (.ldSt false 1) [.t 41] 33 false,gP 43 .mv [.v 6] 33 false,gP 44 (.iad 5) [.t 42,.t 43] 33 false,gP 45 (.ldRo true 5) [.t 44] 33 false,gP 46 (.call 106) [.t 34,.t 40,.t 45] 33 false,gP 47 (.un .not) [.t 46] 33 false,oP 48 .pick [.t 33,.c (.bool true),.t 47]] (.t 48) (Sq c2U .ret) .skip
def c1p:=Rg [] [bP 49 .add (.v 11) (.c (.int .i64 1)),vP 11 (.t 49)]
def c1l:=Rg [] [fP 50 2 (.l 3),lP 51 3 false 1 (.t 50),oP 52 (.mkF 133 0) [.v 4],oP 53 (.call 107) [.t 51,.t 52],oP 54 (.un .not) [.t 53],vP 5 (.t 54)]
def d32:ACode :=
  (Sq c8X (Sq (Sq c4O (Bk 0 (Lp (Sq c7r (Sq (Bk 1 (Sq d0Y (Sq c55 c2m))) c1p))))) (Sq c1l .ret)))
def c5l:AFn:={ np:=3,nv:=12,results:=[.v 5],code:=d32 }
def d4u:List Nat:=[0,1,2,4,5,6,7,8,9,11,12,13]
def d3b:List Nat:=[3]

def c5p:=Rg [] [vP 2 (.c (.int .i64 0))]
def d03:=Rg [] [nP 6 0,op (.v 4) .lenL [.t 6],vP 5 (.c (.int .i64 0))]
def c9h:=Ts [] [bP 9 .lss (.v 5) (.v 4)] (.t 9) .skip (.exit 0)
def c8f:=Rg [] [nP 10 5,vP 3 (.t 10)]
def c1M:=Rg [] [nP 17 3,vP 2 (.t 17)]
def c0o:=Ts [] [nP 11 1,nP 12 0,nP 13 3,oP 14 (.iad 11) [.t 12,.t 13],oP 15 (.ldRo true 11) [.t 14],oP 16 .callV [.t 11,.t 15]] (.t 16) (Sq c1M .ret) .skip
def c0N:=Rg [] [bP 18 .add (.v 5) (.c (.int .i64 1)),vP 5 (.t 18)]
def c1G:=Rg [] [vP 2 (.c (.int .i64 (-1)))]
def d4k:ACode :=
  (Sq c5p (Sq (Sq d03 (Bk 0 (Lp (Sq c9h (Sq (Bk 1 (Sq c8f c0o)) c0N))))) (Sq c1G .ret)))
def c51:AFn:={ np:=2,nv:=6,results:=[.v 2],code:=d4k }
def d1o:List Nat:=[0,1,4,5,7,8]
def d4z:List Nat:=[]

def c84:=Rg [] [vP 3 (.c (.bool false))]
def c6v:=Rg [] [vP 3 (.c (.bool false))]
def c66:=Ts [] [nP 10 0,oP 11 .lenL [.t 10],nP 12 1,oP 13 .lenL [.t 12],bP 14 .neq (.t 11) (.t 13)] (.t 14) (Sq c6v .ret) .skip
def c82:=Rg [] [vP 7 (.v 0),op (.v 8) .lenL [.v 7],vP 9 (.c (.int .i64 0))]
def c0T:=Ts [] [bP 18 .lss (.v 9) (.v 8)] (.t 18) .skip (.exit 0)
def c0L:=Rg [5] [nP 19 9,oP 20 (.iad 3) [.v 7,.v 9],oP 21 (.ldRo true 3) [.t 20],⟨.bx,.alloc [.str [],.list true [],.bool false],[],some 5,none⟩,vP 4 (.t 19),xP (.stLc 5 3) [.l 5,.ts 21] 5]
def c3d:=Rg [6] [nP 22 1,nP 23 4,oP 24 (.iad 3) [.t 22,.t 23],oP 25 (.ldRo true 3) [.t 24],⟨.bx,.alloc [.str [],.list true [],.bool false],[],some 6,none⟩,xP (.stLc 6 3) [.l 6,.ts 25] 6]
def c1Q:=Rg [] [vP 3 (.c (.bool false))]
def c3c:=Ts [] [nP 26 2,lP 27 5 true 3 (.l 5),lP 28 6 true 3 (.l 6),oP 29 .callV [.t 26,.t 27,.t 28],oP 30 (.un .not) [.t 29]] (.t 30) (Sq c1Q .ret) .skip
def c1P:=Rg [] [bP 31 .add (.v 9) (.c (.int .i64 1)),vP 9 (.t 31)]
def c0X:=Rg [] [vP 3 (.c (.bool true))]
def d2Z:ACode :=
  (Sq c84 (Sq c66 (Sq (Sq c82 (Bk 0 (Lp (Sq c0T (Sq (Bk 1 (Sq c0L (Sq c3d c3c))) c1P))))) (Sq c0X .ret))))
def c5k:AFn:={ np:=3,nv:=10,results:=[.v 3],code:=d2Z }
def d2C:List Nat:=[0,1,2,6,7,8,9,15,16,17]
def d5a:List Nat:=[5,6]

def c63:=Rg [] [op (.v 2) .mv [.c (.str [])],vP 3 (.c (.bool false))]
def c6J:=Rg [] [nP 6 0,nP 7 1,oP 8 (.call 134) [.t 6,.t 7],oP 9 (.ext 0) [.t 8],oP 10 (.ext 1) [.t 8],vP 2 (.t 9),vP 3 (.t 10)]
def d33:ACode :=
  (Sq c63 (Sq c6J .ret))
def c3A:AFn:={ np:=2,nv:=4,results:=[.v 2,.v 3],code:=d33 }
def d16:List Nat:=[0,1,4,5]
def d36:List Nat:=[]

def a130s1:=Rg [] [op (.v 1) .mv [.c (.str [])]]
def a130s4:=Rg [] [nP 5 0,bP 6 .add (.t 5) (.c (.int .i64 1)),oP 7 (.un .neg) [.t 6],oP 8 (.conv .u64) [.t 7],bP 9 .add (.t 8) (.c (.int .u64 1)),oP 10 (.call 135) [.t 9],oP 11 (.bin .add) [.c (.str [45]),.t 10],vP 1 (.t 11)]
def a130s6:=Ts [] [nP 3 0,bP 4 .lss (.t 3) (.c (.int .i64 0))] (.t 4) (Sq a130s4 .ret) .skip
def a130s8:=Rg [] [nP 12 0,oP 13 (.conv .u64) [.t 12],oP 14 (.call 135) [.t 13],vP 1 (.t 14)]
def a130c:ACode :=
  (Sq a130s1 (Sq a130s6 (Sq a130s8 .ret)))
def a130:AFn:={ np:=1,nv:=2,results:=[.v 1],code:=a130c }
def d3L:List Nat:=[0,2]
def d3O:List Nat:=[]

def a131s1:=Rg [] [op (.v 1) .mv [.c (.str [])]]
def a131s3:=Rg [] [op (.v 2) .mv [.c (.str [34])]]
def a131s5:=Rg [] [vP 3 (.c (.int .i64 0))]
def a131s7:=Ts [] [nP 5 3,nP 6 0,oP 7 .lenS [.t 6],bP 8 .lss (.t 5) (.t 7)] (.t 8) .skip (.exit 0)
def a131s9:=Rg [] [nP 11 0,nP 12 3,op (.v 4) .idxS [.t 11,.t 12]]
def a131s12:=Rg [] [nP 23 2,oP 24 (.bin .add) [.t 23,.c (.str [92,110])],vP 2 (.t 24)]
def a131s15:=Rg [] [nP 27 2,oP 28 (.bin .add) [.t 27,.c (.str [92,116])],vP 2 (.t 28)]
def a131s18:=Rg [] [nP 31 2,oP 32 (.bin .add) [.t 31,.c (.str [92,34])],vP 2 (.t 32)]
def a131s21:=Rg [] [nP 35 2,oP 36 (.bin .add) [.t 35,.c (.str [92,92])],vP 2 (.t 36)]
def a131s23:=Rg [] [nP 14 2,nP 15 0,nP 16 3,nP 17 3,bP 18 .add (.t 17) (.c (.int .i64 1)),oP 19 (.slS true true) [.t 15,.t 16,.t 18],bP 20 .add (.t 14) (.t 19),vP 2 (.t 20)]
def a131s24:=Ts [] [bP 34 .eql (.v 4) (.c (.int .u8 92)),mP 33 (.t 34)] (.t 33) a131s21 a131s23
def a131s25:=Ts [] [bP 30 .eql (.v 4) (.c (.int .u8 34)),mP 29 (.t 30)] (.t 29) a131s18 a131s24
def a131s26:=Ts [] [bP 26 .eql (.v 4) (.c (.int .u8 9)),mP 25 (.t 26)] (.t 25) a131s15 a131s25
def a131s27:=Ts [] [bP 22 .eql (.v 4) (.c (.int .u8 10)),mP 21 (.t 22)] (.t 21) a131s12 a131s26
def a131s32:=Rg [] [nP 9 3,bP 10 .add (.t 9) (.c (.int .i64 1)),vP 3 (.t 10)]
def a131s39:=Rg [] [nP 37 2,oP 38 (.bin .add) [.t 37,.c (.str [34])],vP 1 (.t 38)]
def a131c:ACode :=
  (Sq a131s1 (Sq a131s3 (Sq (Sq a131s5 (Bk 0 (Lp (Sq a131s7 (Sq (Bk 1 (Sq a131s9 (Bk 2 a131s27))) a131s32))))) (Sq a131s39 .ret))))
def a131:AFn:={ np:=1,nv:=5,results:=[.v 1],code:=a131c }
def d2K:List Nat:=[0,2,3,4,13]
def d38:List Nat:=[]

def d1a:=Rg [] [vP 2 (.c (.int .i64 0))]
def c5F:=Rg [] [nP 6 0,op (.v 4) .lenL [.t 6],vP 5 (.c (.int .i64 0))]
def c4o:=Ts [] [bP 9 .lss (.v 5) (.v 4)] (.t 9) .skip (.exit 0)
def c3H:=Rg [] [nP 10 5,vP 3 (.t 10)]
def c2w:=Rg [] [nP 17 3,vP 2 (.t 17)]
def c1z:=Ts [] [nP 11 1,nP 12 0,nP 13 3,oP 14 (.iad 5) [.t 12,.t 13],oP 15 (.ldRo true 5) [.t 14],oP 16 .callV [.t 11,.t 15]] (.t 16) (Sq c2w .ret) .skip
def c07:=Rg [] [bP 18 .add (.v 5) (.c (.int .i64 1)),vP 5 (.t 18)]
def c2l:=Rg [] [vP 2 (.c (.int .i64 (-1)))]
def d30:ACode :=
  (Sq d1a (Sq (Sq c5F (Bk 0 (Lp (Sq c4o (Sq (Bk 1 (Sq c3H c1z)) c07))))) (Sq c2l .ret)))
def d0M:AFn:={ np:=2,nv:=6,results:=[.v 2],code:=d30 }
def d3K:List Nat:=[0,1,4,5,7,8]
def d5u:List Nat:=[]

def d0k:=Rg [2] [⟨.bx,.boxV,[.v 0],some 2,none⟩,vP 3 (.c (.bool false))]
def c4b:=Rg [] [fP 4 2 (.l 2),fP 5 2 (.t 4),lP 6 2 false 1 (.t 5),mP 7 (.t 6),gP 8 (.fad 5) [.l 2] 7 true,⟨.t 9,.ldLc 2 false 1,[.t 8],some 2,some (.t 7,true)⟩,gP 10 (.un .not) [.t 9] 7 true,oP 11 .pick [.t 7,.t 10,.c (.bool false)],mP 12 (.t 11),gP 13 (.fad 3) [.v 1] 12 true,gP 14 (.ldSt false 1) [.t 13] 12 true,gP 15 (.fad 0) [.l 2] 12 true,⟨.t 16,.ldLc 2 false 1,[.t 15],some 2,some (.t 12,true)⟩,gP 17 (.call 45) [.t 14,.t 16] 12 true,gP 18 (.un .not) [.t 17] 12 true,oP 19 .pick [.t 12,.t 18,.c (.bool false)],vP 3 (.t 19)]
def d3x:ACode :=
  (Sq d0k (Sq c4b .ret))
def c46:AFn:={ np:=2,nv:=4,results:=[.v 3],code:=d3x }
def d17:List Nat:=[0,1,2,3]
def d1Y:List Nat:=[2]

def c8e:=Rg [] [op (.v 2) .mv [.c (.str [])],vP 3 (.c (.bool false))]
def c8L:=Rg [] [nP 10 0,vP 2 (.t 10),vP 3 (.c (.bool false))]
def c5E:=Ts [] [nP 6 0,nP 7 1,oP 8 (.call 74) [.t 6,.t 7],oP 9 (.un .not) [.t 8]] (.t 9) (Sq c8L .ret) .skip
def c9l:=Rg [] [nP 11 0,nP 12 1,oP 13 .lenS [.t 12],oP 14 (.slS true false) [.t 11,.t 13],vP 2 (.t 14),vP 3 (.c (.bool true))]
def d45:ACode :=
  (Sq c8e (Sq c5E (Sq c9l .ret)))
def c35:AFn:={ np:=2,nv:=4,results:=[.v 2,.v 3],code:=d45 }
def d3B:List Nat:=[0,1,4,5]
def d4o:List Nat:=[]

def a135s1:=Rg [] [op (.v 1) .mv [.c (.str [])]]
def a135s4:=Rg [] [nP 5 0,bP 6 .add (.c (.int .u64 48)) (.t 5),oP 7 (.conv .u8) [.t 6],oP 8 (.bslice 1 [[.int .u8 0]] [0]) [.t 7],oP 9 .b2s [.t 8],vP 1 (.t 9)]
def a135s6:=Ts [] [nP 3 0,bP 4 .lss (.t 3) (.c (.int .u64 10))] (.t 4) (Sq a135s4 .ret) .skip
def a135s8:=Rg [] [nP 10 0,bP 11 .quo (.t 10) (.c (.int .u64 10)),oP 12 (.call 135) [.t 11],nP 13 0,bP 14 .rem (.t 13) (.c (.int .u64 10)),oP 15 (.call 135) [.t 14],bP 16 .add (.t 12) (.t 15),vP 1 (.t 16)]
def a135c:ACode :=
  (Sq a135s1 (Sq a135s6 (Sq a135s8 .ret)))
def a135:AFn:={ np:=1,nv:=2,results:=[.v 1],code:=a135c }
def d2h:List Nat:=[0,2]
def d1H:List Nat:=[]

def tblL:List (List (Option AFn)):=[
  [none,none,none,none,none,none,none,none,some a8,some a9],
  [some a10,some a11,some a12,some a13,some a14,some a15,some a16,some a17,some a18,some a19],
  [some a20,some a21,some a22,some a23,some a24,some a25,some a26,some a27,some a28,some a29],
  [some a30,some a31,some a32,some a33,some a34,some a35,some a36,some a37,some a38,some a39],
  [some a40,some a41,some a42,some a43,some a44,some a45,some a46,some a47,some a48,some a49],
  [some a50,some a51,some a52,some a53,some a54,some a55,some a56,some a57,some a58,some a59],
  [some a60,some a61,some a62,some a63,some a64,some a65,some a66,some a67,some a68,some a69],
  [some a70,some a71,some a72,some a73,some a74,some a75,some a76,some a77,some a78,some a79],
  [some a80,some a81,some a82,some a83,some a84,some a85,some a86,some a87,some a88,some a89],
  [some a90,some a91,some a92,some a93,some a94,some a95,some a96,some a97,some a98,some a99],
  [some a100,some a101,some c9W,some c7A,some c52,some c5t,some c67,some c9T,some c8R,some c6x],
  [some c3k,some c6S,some c7x,some c9b,some c9J,some d0E,some c9f,some c8Y,some d0T,some a119],
  [some a120,some a121,some a122,some c81,some c7l,some c8D,some c5l,some c51,some c5k,some c3A],
  [some a130,some a131,some d0M,some c46,some c35,some a135,none,none,none,none],
  [none,none,none,none,none,none,none,none,none,none],
  [none,none,none,none,none,none,none,none,none,none]]
def tbl:Nat→Option AFn:=d91 tblL
def gts:List (Nat×List AV):=[(0,[.str [66,111,111,108,101,97,110],.str [73,68],.str [73,110,116],.str [83,116,114,105,110,103]])]
end Go.Cb.CodeA
