/- The functions of the seat, told as code of the abstract machine. No conditions. -/
import Derived.Test.YthnliekianmljaaGreatDoorXAm1
namespace Go.Cb.CodeA
open Go Go.Cb
open Go.Cb.ACode renaming seq → Sq, reg → Rg, test → Ts, blk → Bk, loop → Lp

abbrev op (d : Dst) (k : Kind) (a : List Opd) : AOper := ⟨d,k,a,none,none⟩
abbrev oP (t : Nat) (k : Kind) (a : List Opd) : AOper := ⟨.t t,k,a,none,none⟩
abbrev mP (t : Nat) (a : Opd) : AOper := ⟨.t t,.mv,[a],none,none⟩
abbrev nP (t v : Nat) : AOper := ⟨.t t,.mv,[.v v],none,none⟩
abbrev gP (t : Nat) (k : Kind) (a : List Opd) (x : Nat) (b : Bool) : AOper := ⟨.t t,k,a,none,some (.t x,b)⟩
abbrev xP (k : Kind) (a : List Opd) (v : Nat) : AOper := ⟨.none,k,a,some v,none⟩
abbrev vP (v : Nat) (a : Opd) : AOper := ⟨.v v,.mv,[a],none,none⟩
abbrev lP (t v : Nat) (b : Bool) (n : Nat) (a : Opd) : AOper := ⟨.t t,.ldLc v b n,[a],some v,none⟩
abbrev bP (t : Nat) (o : BinOp) (a b : Opd) : AOper := ⟨.t t,.bin o,[a,b],none,none⟩
abbrev fP (t n : Nat) (a : Opd) : AOper := ⟨.t t,.fad n,[a],none,none⟩
def a6s1:=Rg [] [vP 2 (.c (.bool false))]
def a6s4:=Rg [] [oP 35 (.call 9) [],vP 2 (.t 35)]
def a6s5:=Sq a6s4 .ret
def a6s6:=Ts [] [oP 23 (.call 9) [],oP 24 (.un .not) [.t 23],mP 25 (.t 24),gP 26 .mv [.v 0] 25 false,gP 27 .lenL [.t 26] 25 false,gP 28 (.bin .eql) [.t 27,.c (.int .i64 0)] 25 false,oP 29 .pick [.t 25,.c (.bool true),.t 28],mP 30 (.t 29),gP 31 .mv [.v 0] 30 false,gP 32 .lenL [.t 31] 30 false,gP 33 (.bin .gtr) [.t 32,.c (.int .i64 20)] 30 false,oP 34 .pick [.t 30,.c (.bool true),.t 33]] (.t 34) a6s5 .skip
def a6s8:=Rg [] [oP 37 (.call 11) [],mP 36 (.t 37),oP 38 (.ext 0) [.t 36],oP 39 (.ext 1) [.t 36],vP 3 (.t 38),mP 6 (.t 39)]
def a6s10:=Rg [] [op (.v 4) .mv [.c (.str [123])]]
def a6s12:=Rg [] [op (.v 5) .mv [.c (.list true [])]]
def a6s14:=Rg [] [vP 6 (.c (.int .i64 0))]
def a6s16:=Ts [] [nP 40 6,nP 41 0,oP 42 .lenL [.t 41],bP 43 .lss (.t 40) (.t 42)] (.t 43) .skip (.exit 0)
def a6s18:=Rg [] [nP 46 0,nP 47 6,oP 48 (.iad 1) [.t 46,.t 47],oP 49 (.ldRo false 1) [.t 48],bP 50 .rem (.t 49) (.c (.int .u8 8)),bP 51 .add (.c (.int .u8 97)) (.t 50),oP 52 (.bslice 1 [[.int .u8 0]] [0]) [.t 51],oP 53 .b2s [.t 52],vP 7 (.t 53)]
def a6s20:=Rg [] [nP 54 0,nP 55 6,oP 56 (.iad 1) [.t 54,.t 55],oP 57 (.ldRo false 1) [.t 56],oP 58 (.conv .i64) [.t 57],nP 59 1,oP 60 (.conv .i64) [.t 59],bP 61 .add (.t 58) (.t 60),bP 62 .rem (.t 61) (.c (.int .i64 4)),vP 8 (.t 62)]
def a6s22:=Rg [] [op (.v 9) .mv [.c (.str [])]]
def a6s24:=Rg [] [op (.v 10) .mv [.c (.str [])]]
def a6s26:=Rg [] [vP 11 (.c (.int .i64 0))]
def a6s28:=Ts [] [nP 63 11,nP 64 8,bP 65 .lss (.t 63) (.t 64)] (.t 65) .skip (.exit 2)
def a6s30:=Rg [] [nP 68 9,oP 69 (.bin .add) [.t 68,.c (.str [46,46,46,32,123])],vP 9 (.t 69)]
def a6s32:=Rg [] [nP 70 10,oP 71 (.bin .add) [.t 70,.c (.str [125])],vP 10 (.t 71)]
def a6s36:=Rg [] [nP 66 11,bP 67 .add (.t 66) (.c (.int .i64 1)),vP 11 (.t 67)]
def a6s43:=Rg [] [nP 72 4,nP 73 9,oP 74 (.bin .add) [.c (.str [32]),.t 73],nP 75 7,bP 76 .add (.t 74) (.t 75),nP 77 10,bP 78 .add (.t 76) (.t 77),bP 79 .add (.t 72) (.t 78),vP 4 (.t 79)]
def a6s45:=Rg [] [vP 12 (.c (.bool false))]
def a6s47:=Rg [] [vP 13 (.c (.int .i64 0))]
def a6s49:=Ts [] [nP 80 13,nP 81 5,oP 82 .lenL [.t 81],bP 83 .lss (.t 80) (.t 82)] (.t 83) .skip (.exit 4)
def a6s51:=Rg [] [nP 86 12,mP 87 (.t 86),gP 88 .mv [.v 5] 87 false,gP 89 .mv [.v 13] 87 false,gP 90 (.iad 1) [.t 88,.t 89] 87 false,gP 91 (.ldRo false 1) [.t 90] 87 false,gP 92 .mv [.v 7] 87 false,gP 93 (.bin .eql) [.t 91,.t 92] 87 false,oP 94 .pick [.t 87,.c (.bool true),.t 93],vP 12 (.t 94)]
def a6s54:=Rg [] [nP 84 13,bP 85 .add (.t 84) (.c (.int .i64 1)),vP 13 (.t 85)]
def a6s62:=Rg [] [mP 97 (.vs 5),nP 98 7,oP 99 (.bslice 1 [[.str []]] [0]) [.t 98],oP 100 (.app 1 16) [.ts 97,.t 99],vP 5 (.ts 100)]
def a6s63:=Ts [] [nP 95 12,oP 96 (.un .not) [.t 95]] (.t 96) a6s62 .skip
def a6s74:=Rg [] [nP 44 6,bP 45 .add (.t 44) (.c (.int .i64 1)),vP 6 (.t 45)]
def a6s81:=Rg [14] [nP 102 4,oP 103 (.bin .add) [.t 102,.c (.str [125])],oP 104 (.call 10) [.t 103],mP 101 (.t 104),oP 105 (.ext 0) [.t 101],oP 106 (.ext 1) [.t 101],oP 107 (.ext 2) [.t 101],⟨.bx,.alloc [.list true [],.list true []],[],some 14,none⟩,xP (.stLc 14 2) [.l 14,.ts 105] 14,mP 18 (.t 106),vP 15 (.t 107)]
def a6s84:=Rg [] [vP 2 (.c (.bool false))]
def a6s85:=Sq a6s84 .ret
def a6s86:=Ts [] [nP 108 15,bP 109 .neq (.t 108) (.c (.int .i64 0))] (.t 109) a6s85 .skip
def a6s88:=Rg [] [nP 110 3,lP 111 14 true 2 (.l 14),fP 112 0 (.l 14),lP 113 14 false 1 (.t 112),oP 114 (.iad 4) [.t 113,.c (.int .i64 0)],fP 115 3 (.t 114),oP 116 (.ldRo false 1) [.t 115],oP 117 (.build [.int .u8 0,.int .i64 0,.str [],.list true [],.list true []] []) [],oP 118 (.call 12) [.t 110,.t 111,.c (.str [81,117,101,114,121]),.t 116,.t 117],vP 16 (.ts 118)]
def a6s91:=Rg [] [vP 2 (.c (.bool false))]
def a6s92:=Sq a6s91 .ret
def a6s93:=Ts [] [nP 119 16,oP 120 .lenL [.t 119],nP 121 5,oP 122 .lenL [.t 121],bP 123 .neq (.t 120) (.t 122)] (.t 123) a6s92 .skip
def a6s95:=Rg [] [vP 17 (.c (.int .i64 0))]
def a6s97:=Rg [] [vP 18 (.c (.int .i64 0))]
def a6s99:=Ts [] [nP 124 18,nP 125 16,oP 126 .lenL [.t 125],bP 127 .lss (.t 124) (.t 126)] (.t 127) .skip (.exit 6)
def a6s101:=Rg [] [nP 130 17,nP 131 16,nP 132 18,oP 133 (.iad 2) [.t 131,.t 132],fP 134 1 (.t 133),oP 135 (.ldSt false 1) [.t 134],oP 136 .lenL [.t 135],bP 137 .add (.t 130) (.t 136),vP 17 (.t 137)]
def a6s104:=Rg [] [vP 2 (.c (.bool false))]
def a6s105:=Sq a6s104 .ret
def a6s106:=Ts [] [nP 138 16,nP 139 18,oP 140 (.iad 2) [.t 138,.t 139],fP 141 0 (.t 140),oP 142 (.ldSt false 1) [.t 141],nP 143 5,nP 144 18,oP 145 (.iad 1) [.t 143,.t 144],oP 146 (.ldRo false 1) [.t 145],bP 147 .neq (.t 142) (.t 146)] (.t 147) a6s105 .skip
def a6s110:=Rg [] [nP 128 18,bP 129 .add (.t 128) (.c (.int .i64 1)),vP 18 (.t 129)]
def a6s117:=Rg [] [nP 148 17,nP 149 0,oP 150 .lenL [.t 149],bP 151 .eql (.t 148) (.t 150),vP 2 (.t 151)]
def a6c : ACode :=
  (Sq a6s1 (Sq a6s6 (Sq a6s8 (Sq a6s10 (Sq a6s12 (Sq (Sq a6s14 (Bk 0 (Lp (Sq a6s16 (Sq (Bk 1 (Sq a6s18 (Sq a6s20 (Sq a6s22 (Sq a6s24 (Sq (Sq a6s26 (Bk 2 (Lp (Sq a6s28 (Sq (Bk 3 (Sq a6s30 a6s32)) a6s36))))) (Sq a6s43 (Sq a6s45 (Sq (Sq a6s47 (Bk 4 (Lp (Sq a6s49 (Sq (Bk 5 a6s51) a6s54))))) a6s63))))))))) a6s74))))) (Sq a6s81 (Sq a6s86 (Sq a6s88 (Sq a6s93 (Sq a6s95 (Sq (Sq a6s97 (Bk 6 (Lp (Sq a6s99 (Sq (Bk 7 (Sq a6s101 a6s106)) a6s110))))) (Sq a6s117 .ret)))))))))))))
def a6 : AFn := { np := 2,nv := 19,results := [.v 2],code := a6c }
def a6v : List Nat:=[0,1,4,5,7,8,9,10,11,12,13,14,15,16,17,19,20,21,22]
def a6b : List Nat := [14]

def a9s1:=Rg [] [vP 0 (.c (.bool false))]
def a9s3:=Rg [] [oP 8 (.call 11) [],mP 7 (.t 8),oP 9 (.ext 0) [.t 7],oP 10 (.ext 1) [.t 7],vP 1 (.t 9),mP 2 (.t 10)]
def a9s5:=Rg [2] [oP 12 (.call 10) [.c (.str [123,110,97,109,101,32,46,46,46,32,111,110,32,67,97,116,32,123,108,105,118,101,115,32,110,97,109,101,125,125])],mP 11 (.t 12),oP 13 (.ext 0) [.t 11],oP 14 (.ext 1) [.t 11],oP 15 (.ext 2) [.t 11],⟨.bx,.alloc [.list true [],.list true []],[],some 2,none⟩,xP (.stLc 2 2) [.l 2,.ts 13] 2,mP 4 (.t 14),mP 5 (.t 15)]
def a9s7:=Rg [] [nP 16 1,lP 17 2 true 2 (.l 2),fP 18 0 (.l 2),lP 19 2 false 1 (.t 18),oP 20 (.iad 4) [.t 19,.c (.int .i64 0)],fP 21 3 (.t 20),oP 22 (.ldRo false 1) [.t 21],oP 23 (.build [.int .u8 0,.int .i64 0,.str [],.list true [],.list true []] []) [],oP 24 (.call 12) [.t 16,.t 17,.c (.str [67,97,116]),.t 22,.t 23],vP 3 (.ts 24)]
def a9s9:=Rg [] [nP 25 3,oP 26 .lenL [.t 25],bP 27 .eql (.t 26) (.c (.int .i64 2)),mP 28 (.t 27),gP 29 .mv [.v 3] 28 true,gP 30 (.iad 2) [.t 29,.c (.int .i64 0)] 28 true,gP 31 (.fad 0) [.t 30] 28 true,gP 32 (.ldSt false 1) [.t 31] 28 true,gP 33 (.bin .eql) [.t 32,.c (.str [110,97,109,101])] 28 true,oP 34 .pick [.t 28,.t 33,.c (.bool false)],mP 35 (.t 34),gP 36 .mv [.v 3] 35 true,gP 37 (.iad 2) [.t 36,.c (.int .i64 0)] 35 true,gP 38 (.fad 1) [.t 37] 35 true,gP 39 (.ldSt false 1) [.t 38] 35 true,gP 40 .lenL [.t 39] 35 true,gP 41 (.bin .eql) [.t 40,.c (.int .i64 2)] 35 true,oP 42 .pick [.t 35,.t 41,.c (.bool false)],mP 43 (.t 42),gP 44 .mv [.v 3] 43 true,gP 45 (.iad 2) [.t 44,.c (.int .i64 1)] 43 true,gP 46 (.fad 0) [.t 45] 43 true,gP 47 (.ldSt false 1) [.t 46] 43 true,gP 48 (.bin .eql) [.t 47,.c (.str [108,105,118,101,115])] 43 true,oP 49 .pick [.t 43,.t 48,.c (.bool false)],vP 0 (.t 49)]
def a9c : ACode :=
  (Sq a9s1 (Sq a9s3 (Sq a9s5 (Sq a9s7 (Sq a9s9 .ret)))))
def a9 : AFn := { np := 0,nv := 4,results := [.v 0],code := a9c }
def a9v : List Nat:=[0,1,3,6]
def a9b : List Nat := [2]

def a10s1:=Rg [1] [⟨.bx,.alloc [.list true [],.list true []],[],some 1,none⟩,vP 2 (.c (.int .i64 0)),vP 3 (.c (.int .i64 0))]
def a10s3:=Rg [] [nP 14 0,oP 15 (.call 17) [.t 14],mP 13 (.t 15),oP 16 (.ext 0) [.t 13],oP 17 (.ext 1) [.t 13],oP 18 (.ext 2) [.t 13],vP 4 (.ts 16),vP 5 (.t 17),vP 6 (.t 18)]
def a10s6:=Rg [] [oP 21 (.build [.list true [],.list true []] []) [],nP 22 5,nP 23 6,xP (.stLc 1 2) [.l 1,.ts 21] 1,vP 2 (.t 22),vP 3 (.t 23)]
def a10s7:=Sq a10s6 .ret
def a10s8:=Ts [] [nP 19 6,bP 20 .neq (.t 19) (.c (.int .i64 0))] (.t 20) a10s7 .skip
def a10s10:=Rg [] [nP 24 4,oP 25 (.build [.list true [],.int .i64 0,.int .i64 0,.int .i64 0,.int .i64 0] [(0,1)]) [.t 24],oP 26 .boxO [.ts 25],vP 7 (.t 26)]
def a10s12:=Rg [8] [⟨.bx,.alloc [.list true [],.list true []],[],some 8,none⟩]
def a10s14:=Rg [] [vP 9 (.c (.bool true))]
def a10s16:=Ts [] [nP 27 9,mP 28 (.t 27),gP 29 .mv [.v 7] 28 false,gP 30 .nilchk [.t 29] 28 false,gP 31 (.fad 4) [.t 30] 28 false,gP 32 (.ldSt false 1) [.t 31] 28 false,gP 33 (.bin .eql) [.t 32,.c (.int .i64 0)] 28 false,gP 34 .mv [.t 33] 28 false,gP 35 .mv [.v 7] 34 true,gP 36 (.call 18) [.t 35,.c (.int .u8 0)] 34 true,gP 37 (.un .not) [.t 36] 34 true,gP 38 .pick [.t 34,.t 37,.c (.bool false)] 28 false,oP 39 .pick [.t 28,.c (.bool true),.t 38]] (.t 39) .skip (.exit 0)
def a10s19:=Rg [] [nP 42 7,oP 43 .nilchk [.t 42],fP 44 1 (.t 43),oP 45 (.ldSt false 1) [.t 44],bP 46 .add (.t 45) (.c (.int .i64 1)),oP 47 .nilchk [.t 42],fP 48 1 (.t 47),op .none (.stSt 1) [.t 48,.t 46]]
def a10s22:=Rg [] [nP 51 7,oP 52 (.call 20) [.t 51,.c (.int .i64 4)]]
def a10s23:=Ts [] [nP 49 7,oP 50 (.call 19) [.t 49,.c (.str [111,110])]] (.t 50) a10s22 .skip
def a10s25:=Rg [10] [nP 53 7,oP 54 (.call 21) [.t 53],oP 55 (.build [.str [],.str [],.list true []] [(0,1)]) [.t 54],⟨.bx,.alloc [.str [],.str [],.list true []],[],some 10,none⟩,xP (.stLc 10 3) [.l 10,.ts 55] 10]
def a10s27:=Rg [] [nP 56 7,oP 57 (.call 22) [.t 56,.c (.str [111,110])]]
def a10s29:=Rg [] [nP 58 7,oP 59 (.call 21) [.t 58],fP 60 1 (.l 10),xP (.stLc 10 1) [.t 60,.t 59] 10]
def a10s31:=Rg [] [nP 61 7,oP 62 (.call 23) [.t 61],fP 63 2 (.l 10),xP (.stLc 10 1) [.t 63,.ts 62] 10]
def a10s33:=Rg [] [fP 64 1 (.l 8),⟨.t 65,.ldLcS 8,[.t 64],some 8,none⟩,lP 66 10 true 3 (.l 10),oP 67 (.bslice 3 [[.str [],.str [],.list true []]] [0]) [.t 66],oP 68 (.app 3 56) [.ts 65,.t 67],fP 69 1 (.l 8),xP (.stLc 8 1) [.t 69,.ts 68] 8]
def a10s40:=Sq a10s19 (Sq a10s23 (Sq a10s25 (Sq a10s27 (Sq a10s29 (Sq a10s31 (Sq a10s33 (.exit 1)))))))
def a10s41:=Ts [] [nP 40 7,oP 41 (.call 19) [.t 40,.c (.str [102,114,97,103,109,101,110,116])]] (.t 41) a10s40 .skip
def a10s43:=Rg [11] [⟨.bx,.alloc [.bool false,.str [],.list true [],.list true []],[],some 11,none⟩]
def a10s46:=Rg [] [nP 73 7,oP 74 (.call 25) [.t 73,.c (.str [109,117,116,97,116,105,111,110])],fP 75 0 (.l 11),xP (.stLc 11 1) [.t 75,.t 74] 11]
def a10s49:=Rg [] [nP 79 7,oP 80 (.call 26) [.t 79,.c (.str [113,117,101,114,121])]]
def a10s50:=Ts [] [fP 76 0 (.l 11),lP 77 11 false 1 (.t 76),oP 78 (.un .not) [.t 77]] (.t 78) a10s49 .skip
def a10s53:=Rg [] [nP 83 7,oP 84 (.call 21) [.t 83],fP 85 1 (.l 11),xP (.stLc 11 1) [.t 85,.t 84] 11]
def a10s54:=Ts [] [nP 81 7,oP 82 (.call 18) [.t 81,.c (.int .u8 1)]] (.t 82) a10s53 .skip
def a10s57:=Rg [] [fP 88 2 (.l 11),⟨.t 89,.ldLcS 11,[.t 88],some 11,none⟩,nP 90 7,oP 91 (.call 27) [.t 90],oP 92 (.bslice 10 [[.str [],.str [],.list true [],.bool false,.bool false,.int .u8 0,.int .i64 0,.str [],.list true [],.list true []]] [0]) [.t 91],oP 93 (.app 10 152) [.ts 89,.t 92],fP 94 2 (.l 11),xP (.stLc 11 1) [.t 94,.ts 93] 11]
def a10s59:=Ts [] [nP 95 7,oP 96 .nilchk [.t 95],fP 97 4 (.t 96),oP 98 (.ldSt false 1) [.t 97],bP 99 .eql (.t 98) (.c (.int .i64 0)),mP 100 (.t 99),gP 101 .mv [.v 7] 100 true,gP 102 (.call 25) [.t 101,.c (.str [41])] 100 true,gP 103 (.un .not) [.t 102] 100 true,oP 104 .pick [.t 100,.t 103,.c (.bool false)]] (.t 104) .skip (.exit 2)
def a10s61:=Rg [] [fP 105 2 (.l 11),⟨.t 106,.ldLcS 11,[.t 105],some 11,none⟩,nP 107 7,oP 108 (.call 27) [.t 107],oP 109 (.bslice 10 [[.str [],.str [],.list true [],.bool false,.bool false,.int .u8 0,.int .i64 0,.str [],.list true [],.list true []]] [0]) [.t 108],oP 110 (.app 10 152) [.ts 106,.t 109],fP 111 2 (.l 11),xP (.stLc 11 1) [.t 111,.ts 110] 11]
def a10s66:=Sq a10s57 (Bk 2 (Lp (Sq a10s59 (Bk 3 a10s61))))
def a10s67:=Ts [] [nP 86 7,oP 87 (.call 25) [.t 86,.c (.str [40])]] (.t 87) a10s66 .skip
def a10s70:=Sq a10s46 (Sq a10s50 (Sq a10s54 a10s67))
def a10s71:=Ts [] [nP 70 7,oP 71 (.call 24) [.t 70,.c (.str [123])],oP 72 (.un .not) [.t 71]] (.t 72) a10s70 .skip
def a10s73:=Rg [] [nP 112 7,oP 113 (.call 23) [.t 112],fP 114 3 (.l 11),xP (.stLc 11 1) [.t 114,.ts 113] 11]
def a10s75:=Rg [] [fP 115 0 (.l 8),⟨.t 116,.ldLcS 8,[.t 115],some 8,none⟩,lP 117 11 true 4 (.l 11),oP 118 (.bslice 4 [[.bool false,.str [],.list true [],.list true []]] [0]) [.t 117],oP 119 (.app 4 72) [.ts 116,.t 118],fP 120 0 (.l 8),xP (.stLc 8 1) [.t 120,.ts 119] 8]
def a10s82:=Rg [] [vP 9 (.c (.bool false))]
def a10s90:=Rg [] [oP 126 (.build [.list true [],.list true []] []) [],nP 127 7,oP 128 .nilchk [.t 127],fP 129 3 (.t 128),oP 130 (.ldSt false 1) [.t 129],nP 131 7,oP 132 .nilchk [.t 131],fP 133 4 (.t 132),oP 134 (.ldSt false 1) [.t 133],xP (.stLc 1 2) [.l 1,.ts 126] 1,vP 2 (.t 130),vP 3 (.t 134)]
def a10s91:=Sq a10s90 .ret
def a10s92:=Ts [] [nP 121 7,oP 122 .nilchk [.t 121],fP 123 4 (.t 122),oP 124 (.ldSt false 1) [.t 123],bP 125 .neq (.t 124) (.c (.int .i64 0))] (.t 125) a10s91 .skip
def a10s94:=Rg [] [lP 135 8 true 2 (.l 8),xP (.stLc 1 2) [.l 1,.ts 135] 1,vP 2 (.c (.int .i64 0)),vP 3 (.c (.int .i64 0))]
def a10c : ACode :=
  (Sq a10s1 (Sq a10s3 (Sq a10s8 (Sq a10s10 (Sq a10s12 (Sq (Sq a10s14 (Bk 0 (Lp (Sq a10s16 (Sq (Bk 1 (Sq a10s41 (Sq a10s43 (Sq a10s71 (Sq a10s73 a10s75))))) a10s82))))) (Sq a10s92 (Sq a10s94 .ret))))))))
def a10 : AFn := { np := 1,nv := 12,results := [.bx 1 true 2,.v 2,.v 3],code := a10c }
def a10v : List Nat:=[0,2,3,4,5,6,7,8,9,10,11,12]
def a10b : List Nat := [1,8,10,11]

def a11s1:=Rg [] [vP 0 (.c (.nilp)),vP 1 (.c (.nilp))]
def a11s3:=Rg [] [oP 12 (.call 28) [.c (.str [105,110,116,101,114,102,97,99,101,32,78,97,109,101,100,32,123,32,110,97,109,101,58,32,83,116,114,105,110,103,33,32,125,32,101,110,117,109,32,77,111,111,100,32,123,32,72,65,80,80,89,32,83,65,68,32,125,32,116,121,112,101,32,80,101,114,115,111,110,32,105,109,112,108,101,109,101,110,116,115,32,78,97,109,101,100,32,123,32,110,97,109,101,58,32,83,116,114,105,110,103,33,32,97,103,101,58,32,73,110,116,32,109,111,111,100,58,32,77,111,111,100,32,102,114,105,101,110,100,115,58,32,91,80,101,114,115,111,110,33,93,32,112,101,116,58,32,80,101,116,32,116,97,103,115,58,32,91,83,116,114,105,110,103,93,32,125,32,116,121,112,101,32,67,97,116,32,105,109,112,108,101,109,101,110,116,115,32,78,97,109,101,100,32,123,32,110,97,109,101,58,32,83,116,114,105,110,103,33,32,108,105,118,101,115,58,32,73,110,116,33,32,111,119,110,101,114,58,32,80,101,114,115,111,110,32,125,32,116,121,112,101,32,68,111,103,32,123,32,98,97,114,107,115,58,32,66,111,111,108,101,97,110,32,125,32,117,110,105,111,110,32,80,101,116,32,61,32,67,97,116,32,124,32,68,111,103,32,105,110,112,117,116,32,80,101,114,115,111,110,73,110,32,123,32,110,97,109,101,58,32,83,116,114,105,110,103,32,97,103,101,58,32,73,110,116,32,61,32,55,32,109,111,111,100,58,32,77,111,111,100,32,102,114,105,101,110,100,115,58,32,91,73,68,33,93,32,112,101,116,58,32,73,68,32,116,97,103,115,58,32,91,83,116,114,105,110,103,93,32,125,32,105,110,112,117,116,32,67,97,116,73,110,32,123,32,110,97,109,101,58,32,83,116,114,105,110,103,33,32,108,105,118,101,115,58,32,73,110,116,32,111,119,110,101,114,58,32,73,68,32,125,32,105,110,112,117,116,32,68,111,103,73,110,32,123,32,98,97,114,107,115,58,32,66,111,111,108,101,97,110,32,125,32,116,121,112,101,32,81,117,101,114,121,32,123,32,112,101,114,115,111,110,40,105,100,58,32,73,68,33,41,58,32,80,101,114,115,111,110,32,110,97,109,101,100,40,105,100,58,32,73,68,33,41,58,32,78,97,109,101,100,32,112,101,111,112,108,101,58,32,91,80,101,114,115,111,110,33,93,33,32,112,101,116,115,58,32,91,80,101,116,33,93,33,32,97,108,108,58,32,91,78,97,109,101,100,33,93,33,32,125,32,116,121,112,101,32,77,117,116,97,116,105,111,110,32,123,32,99,114,101,97,116,101,80,101,114,115,111,110,40,105,100,58,32,73,68,33,44,32,105,110,112,117,116,58,32,80,101,114,115,111,110,73,110,33,41,58,32,80,101,114,115,111,110,32,117,112,100,97,116,101,80,101,114,115,111,110,40,105,100,58,32,73,68,33,44,32,105,110,112,117,116,58,32,80,101,114,115,111,110,73,110,33,41,58,32,80,101,114,115,111,110,32,100,101,108,101,116,101,80,101,114,115,111,110,40,105,100,58,32,73,68,33,41,58,32,80,101,114,115,111,110,32,99,114,101,97,116,101,67,97,116,40,105,100,58,32,73,68,33,44,32,105,110,112,117,116,58,32,67,97,116,73,110,33,41,58,32,67,97,116,32,99,114,101,97,116,101,68,111,103,40,105,100,58,32,73,68,33,44,32,105,110,112,117,116,58,32,68,111,103,73,110,33,41,58,32,68,111,103,32,100,101,108,101,116,101,67,97,116,40,105,100,58,32,73,68,33,41,58,32,67,97,116,32,125])],mP 11 (.t 12),oP 13 (.ext 0) [.t 11],oP 14 (.ext 1) [.t 11],oP 15 (.ext 2) [.t 11],vP 2 (.ts 13),mP 3 (.t 14),vP 3 (.t 15)]
def a11s6:=Rg [] [vP 0 (.c (.nilp)),vP 1 (.c (.nilp))]
def a11s8:=Ts [] [nP 16 3,bP 17 .neq (.t 16) (.c (.int .i64 0))] (.t 17) (Sq a11s6 .ret) .skip
def a11s10:=Rg [] [nP 19 2,oP 20 (.call 29) [.t 19],mP 18 (.t 20),oP 21 (.ext 0) [.t 18],oP 22 (.ext 1) [.t 18],oP 23 (.ext 2) [.t 18],vP 4 (.t 21),mP 6 (.t 22),mP 7 (.t 23)]
def a11s12:=Rg [] [nP 25 2,oP 26 (.call 30) [.t 25],mP 24 (.t 26),oP 27 (.ext 0) [.t 24],oP 28 (.ext 1) [.t 24],oP 29 (.ext 2) [.t 24],vP 5 (.t 27),mP 9 (.t 28),mP 10 (.t 29)]
def a11s14:=Rg [] [nP 30 4,nP 31 5,vP 0 (.t 30),vP 1 (.t 31)]
def a11c : ACode :=
  (Sq a11s1 (Sq a11s3 (Sq a11s8 (Sq a11s10 (Sq a11s12 (Sq a11s14 .ret))))))
def a11 : AFn := { np := 0,nv := 6,results := [.v 0,.v 1],code := a11c }
def a11v : List Nat:=[0,1,2,4,5,8]
def a11b : List Nat := []

def a12s1:=Rg [5,6] [⟨.bx,.boxV,[.v 1],some 5,none⟩,⟨.bx,.boxV,[.v 4],some 6,none⟩,op (.v 7) .mv [.c (.list true [])]]
def a12s3:=Rg [] [nP 12 0,lP 13 5 true 2 (.l 5),nP 14 2,lP 15 6 true 5 (.l 6),oP 16 (.build [.nilp,.list true [],.list true [],.str [],.int .u8 0,.int .i64 0,.str [],.list true [],.list true [],.list true [],.list true []] [(0,1),(1,2),(3,1),(4,5)]) [.t 12,.t 13,.t 14,.t 15],oP 17 .boxO [.ts 16],vP 8 (.t 17)]
def a12s5:=Rg [] [nP 18 8,nP 19 3,oP 20 (.call 31) [.t 18,.t 19]]
def a12s7:=Rg [] [nP 21 8,oP 22 .nilchk [.t 21],fP 23 10 (.t 22),oP 24 (.ldSt false 1) [.t 23],vP 7 (.ts 24)]
def a12c : ACode :=
  (Sq a12s1 (Sq a12s3 (Sq a12s5 (Sq a12s7 .ret))))
def a12 : AFn := { np := 5,nv := 9,results := [.v 7],code := a12c }
def a12v : List Nat:=[0,1,2,3,4,6,9,10,11]
def a12b : List Nat := [5,6]

def a17s1:=Rg [] [op (.v 1) .mv [.c (.list true [])],vP 2 (.c (.int .i64 0)),vP 3 (.c (.int .i64 0))]
def a17s4:=Rg [] [op (.v 1) .mv [.c (.list true [])],vP 2 (.c (.int .i64 0)),vP 3 (.c (.int .i64 2))]
def a17s5:=Sq a17s4 .ret
def a17s6:=Ts [] [nP 12 0,oP 13 .lenS [.t 12],bP 14 .gtr (.t 13) (.c (.int .i64 2000))] (.t 14) a17s5 .skip
def a17s8:=Rg [] [op (.v 4) .mv [.c (.list true [])]]
def a17s10:=Rg [] [vP 5 (.c (.int .i64 0))]
def a17s12:=Ts [] [nP 15 5,nP 16 0,oP 17 .lenS [.t 16],bP 18 .lss (.t 15) (.t 17)] (.t 18) .skip (.exit 0)
def a17s14:=Rg [] [nP 19 0,nP 20 5,oP 21 .idxS [.t 19,.t 20],vP 6 (.t 21)]
def a17s17:=Rg [] [nP 41 5,bP 42 .add (.t 41) (.c (.int .i64 1)),vP 5 (.t 42)]
def a17s18:=Sq a17s17 (.exit 1)
def a17s21:=Ts [] [nP 46 5,nP 47 0,oP 48 .lenS [.t 47],bP 49 .lss (.t 46) (.t 48),mP 50 (.t 49),gP 51 .mv [.v 0] 50 true,gP 52 .mv [.v 5] 50 true,gP 53 .idxS [.t 51,.t 52] 50 true,gP 54 (.bin .neq) [.t 53,.c (.int .u8 10)] 50 true,oP 55 .pick [.t 50,.t 54,.c (.bool false)]] (.t 55) .skip (.exit 3)
def a17s23:=Rg [] [nP 56 5,bP 57 .add (.t 56) (.c (.int .i64 1)),vP 5 (.t 57)]
def a17s28:=Sq (Bk 3 (Lp (Sq a17s21 (Bk 4 a17s23)))) (.exit 1)
def a17s29:=Ts [] [nP 44 6,bP 45 .eql (.t 44) (.c (.int .u8 35)),mP 43 (.t 45)] (.t 43) a17s28 .skip
def a17s30:=Ts [] [nP 23 6,bP 24 .eql (.t 23) (.c (.int .u8 32)),mP 25 (.t 24),gP 26 .mv [.v 6] 25 false,gP 27 (.bin .eql) [.t 26,.c (.int .u8 10)] 25 false,oP 28 .pick [.t 25,.c (.bool true),.t 27],mP 29 (.t 28),gP 30 .mv [.v 6] 29 false,gP 31 (.bin .eql) [.t 30,.c (.int .u8 9)] 29 false,oP 32 .pick [.t 29,.c (.bool true),.t 31],mP 33 (.t 32),gP 34 .mv [.v 6] 33 false,gP 35 (.bin .eql) [.t 34,.c (.int .u8 13)] 33 false,oP 36 .pick [.t 33,.c (.bool true),.t 35],mP 37 (.t 36),gP 38 .mv [.v 6] 37 false,gP 39 (.bin .eql) [.t 38,.c (.int .u8 44)] 37 false,oP 40 .pick [.t 37,.c (.bool true),.t 39],mP 22 (.t 40)] (.t 22) a17s18 a17s29
def a17s33:=Rg [7] [nP 59 0,nP 60 5,oP 61 (.call 38) [.t 59,.t 60],mP 58 (.t 61),oP 62 (.ext 0) [.t 58],oP 63 (.ext 1) [.t 58],oP 64 (.ext 2) [.t 58],oP 65 (.ext 3) [.t 58],⟨.bx,.alloc [.int .u8 0,.str [],.int .i64 0,.int .i64 0],[],some 7,none⟩,xP (.stLc 7 4) [.l 7,.t 62] 7,vP 8 (.t 63),vP 9 (.t 64),vP 10 (.t 65)]
def a17s36:=Rg [] [nP 68 9,nP 69 10,op (.v 1) .mv [.c (.list true [])],vP 2 (.t 68),vP 3 (.t 69)]
def a17s37:=Sq a17s36 .ret
def a17s38:=Ts [] [nP 66 10,bP 67 .neq (.t 66) (.c (.int .i64 0))] (.t 67) a17s37 .skip
def a17s40:=Rg [] [nP 70 5,fP 71 3 (.l 7),xP (.stLc 7 1) [.t 71,.t 70] 7]
def a17s42:=Rg [] [mP 72 (.vs 4),lP 73 7 true 4 (.l 7),oP 74 (.bslice 4 [[.int .u8 0,.str [],.int .i64 0,.int .i64 0]] [0]) [.t 73],oP 75 (.app 4 40) [.ts 72,.t 74],vP 4 (.ts 75)]
def a17s44:=Rg [] [nP 76 8,vP 5 (.t 76)]
def a17s56:=Rg [] [mP 77 (.vs 4),nP 78 5,oP 79 (.build [.int .u8 0,.str [],.int .i64 0,.int .i64 0] [(3,1)]) [.t 78],oP 80 (.bslice 4 [[.int .u8 0,.str [],.int .i64 0,.int .i64 0]] [0]) [.t 79],oP 81 (.app 4 40) [.ts 77,.t 80],vP 1 (.ts 81),vP 2 (.c (.int .i64 0)),vP 3 (.c (.int .i64 0))]
def a17c : ACode :=
  (Sq a17s1 (Sq a17s6 (Sq a17s8 (Sq a17s10 (Sq (Bk 0 (Lp (Sq a17s12 (Bk 1 (Sq a17s14 (Sq (Bk 2 a17s30) (Sq a17s33 (Sq a17s38 (Sq a17s40 (Sq a17s42 a17s44)))))))))) (Sq a17s56 .ret))))))
def a17 : AFn := { np := 1,nv := 11,results := [.v 1,.v 2,.v 3],code := a17c }
def a17v : List Nat:=[0,2,3,4,5,6,7,8,9,10,11]
def a17b : List Nat := [7]

def a18s1:=Rg [] [vP 2 (.c (.bool false))]
def a18s3:=Rg [] [nP 5 0,oP 6 .nilchk [.t 5],fP 7 4 (.t 6),oP 8 (.ldSt false 1) [.t 7],bP 9 .eql (.t 8) (.c (.int .i64 0)),mP 10 (.t 9),gP 11 .mv [.v 0] 10 true,gP 12 .nilchk [.t 11] 10 true,gP 13 (.fad 0) [.t 12] 10 true,gP 14 (.ldSt false 1) [.t 13] 10 true,gP 15 .mv [.v 0] 10 true,gP 16 .nilchk [.t 15] 10 true,gP 17 (.fad 1) [.t 16] 10 true,gP 18 (.ldSt false 1) [.t 17] 10 true,gP 19 (.iad 4) [.t 14,.t 18] 10 true,gP 20 (.fad 0) [.t 19] 10 true,gP 21 (.ldRo false 1) [.t 20] 10 true,gP 22 .mv [.v 1] 10 true,gP 23 (.bin .eql) [.t 21,.t 22] 10 true,oP 24 .pick [.t 10,.t 23,.c (.bool false)],vP 2 (.t 24)]
def a18c : ACode :=
  (Sq a18s1 (Sq a18s3 .ret))
def a18 : AFn := { np := 2,nv := 3,results := [.v 2],code := a18c }
def a18v : List Nat:=[0,1,4]
def a18b : List Nat := []

def a19s1:=Rg [] [vP 2 (.c (.bool false))]
def a19s3:=Rg [] [nP 5 0,oP 6 .nilchk [.t 5],fP 7 4 (.t 6),oP 8 (.ldSt false 1) [.t 7],bP 9 .eql (.t 8) (.c (.int .i64 0)),mP 10 (.t 9),gP 11 .mv [.v 0] 10 true,gP 12 .nilchk [.t 11] 10 true,gP 13 (.fad 0) [.t 12] 10 true,gP 14 (.ldSt false 1) [.t 13] 10 true,gP 15 .mv [.v 0] 10 true,gP 16 .nilchk [.t 15] 10 true,gP 17 (.fad 1) [.t 16] 10 true,gP 18 (.ldSt false 1) [.t 17] 10 true,gP 19 (.iad 4) [.t 14,.t 18] 10 true,gP 20 (.fad 0) [.t 19] 10 true,gP 21 (.ldRo false 1) [.t 20] 10 true,gP 22 (.bin .eql) [.t 21,.c (.int .u8 1)] 10 true,oP 23 .pick [.t 10,.t 22,.c (.bool false)],mP 24 (.t 23),gP 25 .mv [.v 0] 24 true,gP 26 .nilchk [.t 25] 24 true,gP 27 (.fad 0) [.t 26] 24 true,gP 28 (.ldSt false 1) [.t 27] 24 true,gP 29 .mv [.v 0] 24 true,gP 30 .nilchk [.t 29] 24 true,gP 31 (.fad 1) [.t 30] 24 true,gP 32 (.ldSt false 1) [.t 31] 24 true,gP 33 (.iad 4) [.t 28,.t 32] 24 true,gP 34 (.fad 1) [.t 33] 24 true,gP 35 (.ldRo false 1) [.t 34] 24 true,gP 36 .mv [.v 1] 24 true,gP 37 (.bin .eql) [.t 35,.t 36] 24 true,oP 38 .pick [.t 24,.t 37,.c (.bool false)],vP 2 (.t 38)]
def a19c : ACode :=
  (Sq a19s1 (Sq a19s3 .ret))
def a19 : AFn := { np := 2,nv := 3,results := [.v 2],code := a19c }
def a19v : List Nat:=[0,1,4]
def a19b : List Nat := []

def a20s2:=Rg [] [nP 9 0,nP 10 0,oP 11 .nilchk [.t 10],fP 12 0 (.t 11),oP 13 (.ldSt false 1) [.t 12],nP 14 0,oP 15 .nilchk [.t 14],fP 16 1 (.t 15),oP 17 (.ldSt false 1) [.t 16],oP 18 (.iad 4) [.t 13,.t 17],fP 19 3 (.t 18),oP 20 (.ldRo false 1) [.t 19],oP 21 .nilchk [.t 9],fP 22 3 (.t 21),op .none (.stSt 1) [.t 22,.t 20]]
def a20s4:=Rg [] [nP 23 0,nP 24 1,oP 25 .nilchk [.t 23],fP 26 4 (.t 25),op .none (.stSt 1) [.t 26,.t 24]]
def a20s5:=Sq a20s2 a20s4
def a20s6:=Ts [] [nP 4 0,oP 5 .nilchk [.t 4],fP 6 4 (.t 5),oP 7 (.ldSt false 1) [.t 6],bP 8 .eql (.t 7) (.c (.int .i64 0))] (.t 8) a20s5 .skip
def a20c : ACode :=
  a20s6
def a20 : AFn := { np := 2,nv := 2,results := [],code := a20c }
def a20v : List Nat:=[0,1]
def a20b : List Nat := []

def a21s1:=Rg [] [op (.v 1) .mv [.c (.str [])]]
def a21s4:=Rg [] [nP 6 0,oP 7 (.call 20) [.t 6,.c (.int .i64 4)]]
def a21s6:=Rg [] [op (.v 1) .mv [.c (.str [])]]
def a21s8:=Sq a21s4 (Sq a21s6 .ret)
def a21s9:=Ts [] [nP 3 0,oP 4 (.call 18) [.t 3,.c (.int .u8 1)],oP 5 (.un .not) [.t 4]] (.t 5) a21s8 .skip
def a21s11:=Rg [] [nP 8 0,oP 9 .nilchk [.t 8],fP 10 1 (.t 9),oP 11 (.ldSt false 1) [.t 10],bP 12 .add (.t 11) (.c (.int .i64 1)),oP 13 .nilchk [.t 8],fP 14 1 (.t 13),op .none (.stSt 1) [.t 14,.t 12]]
def a21s13:=Rg [] [nP 15 0,oP 16 .nilchk [.t 15],fP 17 0 (.t 16),oP 18 (.ldSt false 1) [.t 17],nP 19 0,oP 20 .nilchk [.t 19],fP 21 1 (.t 20),oP 22 (.ldSt false 1) [.t 21],bP 23 .sub (.t 22) (.c (.int .i64 1)),oP 24 (.iad 4) [.t 18,.t 23],fP 25 1 (.t 24),oP 26 (.ldRo false 1) [.t 25],vP 1 (.t 26)]
def a21c : ACode :=
  (Sq a21s1 (Sq a21s9 (Sq a21s11 (Sq a21s13 .ret))))
def a21 : AFn := { np := 1,nv := 2,results := [.v 1],code := a21c }
def a21v : List Nat:=[0,2]
def a21b : List Nat := []

def a22s2:=Rg [] [nP 15 0,oP 16 (.call 20) [.t 15,.c (.int .i64 4)]]
def a22s3:=Ts [] [nP 4 0,oP 5 .nilchk [.t 4],fP 6 4 (.t 5),oP 7 (.ldSt false 1) [.t 6],bP 8 .eql (.t 7) (.c (.int .i64 0)),mP 9 (.t 8),gP 10 .mv [.v 0] 9 true,gP 11 .mv [.v 1] 9 true,gP 12 (.call 25) [.t 10,.t 11] 9 true,gP 13 (.un .not) [.t 12] 9 true,oP 14 .pick [.t 9,.t 13,.c (.bool false)]] (.t 14) a22s2 .skip
def a22c : ACode :=
  a22s3
def a22 : AFn := { np := 2,nv := 2,results := [],code := a22c }
def a22v : List Nat:=[0,1]
def a22b : List Nat := []

def a23s1:=Rg [] [op (.v 1) .mv [.c (.list true [])]]
def a23s3:=Rg [] [op (.v 2) .mv [.c (.list true [])]]
def a23s6:=Rg [] [nP 14 0,oP 15 (.call 22) [.t 14,.c (.str [123])]]
def a23s8:=Ts [] [nP 16 0,oP 17 .nilchk [.t 16],fP 18 4 (.t 17),oP 19 (.ldSt false 1) [.t 18],bP 20 .eql (.t 19) (.c (.int .i64 0))] (.t 20) .skip (.exit 0)
def a23s10:=Rg [3] [nP 21 0,oP 22 (.call 40) [.t 21],⟨.bx,.alloc [.int .u8 0,.str [],.str [],.str [],.list true [],.list true [],.list true []],[],some 3,none⟩,xP (.stLc 3 7) [.l 3,.ts 22] 3]
def a23s12:=Rg [] [mP 23 (.vs 2),lP 24 3 true 7 (.l 3),oP 25 (.bslice 7 [[.int .u8 0,.str [],.str [],.str [],.list true [],.list true [],.list true []]] [0]) [.t 24],oP 26 (.app 7 128) [.ts 23,.t 25],vP 2 (.ts 26)]
def a23s14:=Ts [] [nP 27 0,oP 28 (.call 25) [.t 27,.c (.str [125])]] (.t 28) (.exit 0) .skip
def a23s21:=Sq a23s6 (Bk 0 (Lp (Sq a23s8 (Bk 1 (Sq a23s10 (Sq a23s12 a23s14))))))
def a23s22:=Ts [] [nP 5 0,oP 6 .nilchk [.t 5],fP 7 4 (.t 6),oP 8 (.ldSt false 1) [.t 7],bP 9 .eql (.t 8) (.c (.int .i64 0)),mP 10 (.t 9),gP 11 .mv [.v 0] 10 true,gP 12 (.call 39) [.t 11] 10 true,oP 13 .pick [.t 10,.t 12,.c (.bool false)]] (.t 13) a23s21 .skip
def a23s24:=Rg [] [nP 29 0,oP 30 .nilchk [.t 29],fP 31 2 (.t 30),oP 32 (.ldSt false 1) [.t 31],bP 33 .sub (.t 32) (.c (.int .i64 1)),oP 34 .nilchk [.t 29],fP 35 2 (.t 34),op .none (.stSt 1) [.t 35,.t 33]]
def a23s26:=Rg [] [nP 36 2,vP 1 (.ts 36)]
def a23c : ACode :=
  (Sq a23s1 (Sq a23s3 (Sq a23s22 (Sq a23s24 (Sq a23s26 .ret)))))
def a23 : AFn := { np := 1,nv := 4,results := [.v 1],code := a23c }
def a23v : List Nat:=[0,2,3,4]
def a23b : List Nat := [3]

def a24s1:=Rg [] [vP 2 (.c (.bool false))]
def a24s3:=Rg [] [nP 5 0,oP 6 .nilchk [.t 5],fP 7 4 (.t 6),oP 8 (.ldSt false 1) [.t 7],bP 9 .eql (.t 8) (.c (.int .i64 0)),mP 10 (.t 9),gP 11 .mv [.v 0] 10 true,gP 12 .nilchk [.t 11] 10 true,gP 13 (.fad 0) [.t 12] 10 true,gP 14 (.ldSt false 1) [.t 13] 10 true,gP 15 .mv [.v 0] 10 true,gP 16 .nilchk [.t 15] 10 true,gP 17 (.fad 1) [.t 16] 10 true,gP 18 (.ldSt false 1) [.t 17] 10 true,gP 19 (.iad 4) [.t 14,.t 18] 10 true,gP 20 (.fad 0) [.t 19] 10 true,gP 21 (.ldRo false 1) [.t 20] 10 true,gP 22 (.bin .eql) [.t 21,.c (.int .u8 4)] 10 true,oP 23 .pick [.t 10,.t 22,.c (.bool false)],mP 24 (.t 23),gP 25 .mv [.v 0] 24 true,gP 26 .nilchk [.t 25] 24 true,gP 27 (.fad 0) [.t 26] 24 true,gP 28 (.ldSt false 1) [.t 27] 24 true,gP 29 .mv [.v 0] 24 true,gP 30 .nilchk [.t 29] 24 true,gP 31 (.fad 1) [.t 30] 24 true,gP 32 (.ldSt false 1) [.t 31] 24 true,gP 33 (.iad 4) [.t 28,.t 32] 24 true,gP 34 (.fad 1) [.t 33] 24 true,gP 35 (.ldRo false 1) [.t 34] 24 true,gP 36 .mv [.v 1] 24 true,gP 37 (.bin .eql) [.t 35,.t 36] 24 true,oP 38 .pick [.t 24,.t 37,.c (.bool false)],vP 2 (.t 38)]
def a24c : ACode :=
  (Sq a24s1 (Sq a24s3 .ret))
def a24 : AFn := { np := 2,nv := 3,results := [.v 2],code := a24c }
def a24v : List Nat:=[0,1,4]
def a24b : List Nat := []

def a25s1:=Rg [] [vP 2 (.c (.bool false))]
def a25s4:=Rg [] [nP 13 0,oP 14 .nilchk [.t 13],fP 15 1 (.t 14),oP 16 (.ldSt false 1) [.t 15],bP 17 .add (.t 16) (.c (.int .i64 1)),oP 18 .nilchk [.t 13],fP 19 1 (.t 18),op .none (.stSt 1) [.t 19,.t 17]]
def a25s6:=Rg [] [vP 2 (.c (.bool true))]
def a25s8:=Sq a25s4 (Sq a25s6 .ret)
def a25s9:=Ts [] [nP 5 0,nP 6 1,oP 7 (.call 24) [.t 5,.t 6],mP 8 (.t 7),gP 9 .mv [.v 0] 8 false,gP 10 .mv [.v 1] 8 false,gP 11 (.call 19) [.t 9,.t 10] 8 false,oP 12 .pick [.t 8,.c (.bool true),.t 11]] (.t 12) a25s8 .skip
def a25s11:=Rg [] [vP 2 (.c (.bool false))]
def a25c : ACode :=
  (Sq a25s1 (Sq a25s9 (Sq a25s11 .ret)))
def a25 : AFn := { np := 2,nv := 3,results := [.v 2],code := a25c }
def a25v : List Nat:=[0,1,4]
def a25b : List Nat := []

def a26s2:=Rg [] [nP 15 0,oP 16 (.call 20) [.t 15,.c (.int .i64 4)]]
def a26s3:=Sq a26s2 .ret
def a26s4:=Ts [] [nP 4 0,oP 5 .nilchk [.t 4],fP 6 4 (.t 5),oP 7 (.ldSt false 1) [.t 6],bP 8 .eql (.t 7) (.c (.int .i64 0)),mP 9 (.t 8),gP 10 .mv [.v 0] 9 true,gP 11 .mv [.v 1] 9 true,gP 12 (.call 19) [.t 10,.t 11] 9 true,gP 13 (.un .not) [.t 12] 9 true,oP 14 .pick [.t 9,.t 13,.c (.bool false)]] (.t 14) a26s3 .skip
def a26s6:=Rg [] [nP 17 0,oP 18 .nilchk [.t 17],fP 19 1 (.t 18),oP 20 (.ldSt false 1) [.t 19],bP 21 .add (.t 20) (.c (.int .i64 1)),oP 22 .nilchk [.t 17],fP 23 1 (.t 22),op .none (.stSt 1) [.t 23,.t 21]]
def a26c : ACode :=
  (Sq a26s4 a26s6)
def a26 : AFn := { np := 2,nv := 2,results := [],code := a26c }
def a26v : List Nat:=[0,1]
def a26b : List Nat := []

def a27s1:=Rg [1] [⟨.bx,.alloc [.str [],.str [],.list true [],.bool false,.bool false,.int .u8 0,.int .i64 0,.str [],.list true [],.list true []],[],some 1,none⟩]
def a27s3:=Rg [] [nP 4 0,oP 5 (.call 22) [.t 4,.c (.str [36])]]
def a27s5:=Rg [2] [nP 6 0,oP 7 (.call 21) [.t 6],oP 8 (.build [.str [],.str [],.list true [],.bool false,.bool false,.int .u8 0,.int .i64 0,.str [],.list true [],.list true []] [(0,1)]) [.t 7],⟨.bx,.alloc [.str [],.str [],.list true [],.bool false,.bool false,.int .u8 0,.int .i64 0,.str [],.list true [],.list true []],[],some 2,none⟩,xP (.stLc 2 10) [.l 2,.ts 8] 2]
def a27s7:=Rg [] [nP 9 0,oP 10 (.call 22) [.t 9,.c (.str [58])]]
def a27s9:=Rg [] [nP 11 0,oP 12 (.call 41) [.t 11],fP 13 1 (.l 2),xP (.stLc 2 3) [.t 13,.ts 12] 2]
def a27s12:=Rg [] [fP 16 4 (.l 2),xP (.stLc 2 1) [.t 16,.c (.bool true)] 2]
def a27s14:=Rg [] [nP 17 0,oP 18 (.call 42) [.t 17,.c (.bool true)],fP 19 5 (.l 2),xP (.stLc 2 5) [.t 19,.ts 18] 2]
def a27s15:=Sq a27s12 a27s14
def a27s16:=Ts [] [nP 14 0,oP 15 (.call 25) [.t 14,.c (.str [61])]] (.t 15) a27s15 .skip
def a27s18:=Rg [] [lP 20 2 true 10 (.l 2),xP (.stLc 1 10) [.l 1,.ts 20] 1]
def a27c : ACode :=
  (Sq a27s1 (Sq a27s3 (Sq a27s5 (Sq a27s7 (Sq a27s9 (Sq a27s16 (Sq a27s18 .ret)))))))
def a27 : AFn := { np := 1,nv := 3,results := [.bx 1 true 10],code := a27c }
def a27v : List Nat:=[0,2,3]
def a27b : List Nat := [1,2]

def a28s1:=Rg [] [op (.v 1) .mv [.c (.list true [])],vP 2 (.c (.int .i64 0)),vP 3 (.c (.int .i64 0))]
def a28s3:=Rg [] [nP 13 0,oP 14 (.call 17) [.t 13],mP 12 (.t 14),oP 15 (.ext 0) [.t 12],oP 16 (.ext 1) [.t 12],oP 17 (.ext 2) [.t 12],vP 4 (.ts 15),vP 5 (.t 16),vP 6 (.t 17)]
def a28s6:=Rg [] [nP 20 5,nP 21 6,op (.v 1) .mv [.c (.list true [])],vP 2 (.t 20),vP 3 (.t 21)]
def a28s8:=Ts [] [nP 18 6,bP 19 .neq (.t 18) (.c (.int .i64 0))] (.t 19) (Sq a28s6 .ret) .skip
def a28s10:=Rg [] [nP 22 4,oP 23 (.build [.list true [],.int .i64 0,.int .i64 0,.int .i64 0,.int .i64 0] [(0,1)]) [.t 22],oP 24 .boxO [.ts 23],vP 7 (.t 24)]
def a28s12:=Rg [] [op (.v 8) .mv [.c (.list true [])]]
def a28s14:=Rg [] [vP 9 (.c (.bool true))]
def a28s16:=Ts [] [nP 25 9,mP 26 (.t 25),gP 27 .mv [.v 7] 26 false,gP 28 .nilchk [.t 27] 26 false,gP 29 (.fad 4) [.t 28] 26 false,gP 30 (.ldSt false 1) [.t 29] 26 false,gP 31 (.bin .eql) [.t 30,.c (.int .i64 0)] 26 false,gP 32 .mv [.t 31] 26 false,gP 33 .mv [.v 7] 32 true,gP 34 (.call 18) [.t 33,.c (.int .u8 0)] 32 true,gP 35 (.un .not) [.t 34] 32 true,gP 36 .pick [.t 32,.t 35,.c (.bool false)] 26 false,oP 37 .pick [.t 26,.c (.bool true),.t 36]] (.t 37) .skip (.exit 0)
def a28s18:=Rg [10] [nP 38 7,oP 39 (.call 43) [.t 38],⟨.bx,.alloc [.int .u8 0,.str [],.list true [],.list true []],[],some 10,none⟩,xP (.stLc 10 4) [.l 10,.ts 39] 10]
def a28s20:=Rg [] [mP 40 (.vs 8),lP 41 10 true 4 (.l 10),oP 42 (.bslice 4 [[.int .u8 0,.str [],.list true [],.list true []]] [0]) [.t 41],oP 43 (.app 4 72) [.ts 40,.t 42],vP 8 (.ts 43)]
def a28s24:=Rg [] [vP 9 (.c (.bool false))]
def a28s32:=Rg [] [nP 49 7,oP 50 .nilchk [.t 49],fP 51 3 (.t 50),oP 52 (.ldSt false 1) [.t 51],nP 53 7,oP 54 .nilchk [.t 53],fP 55 4 (.t 54),oP 56 (.ldSt false 1) [.t 55],op (.v 1) .mv [.c (.list true [])],vP 2 (.t 52),vP 3 (.t 56)]
def a28s34:=Ts [] [nP 44 7,oP 45 .nilchk [.t 44],fP 46 4 (.t 45),oP 47 (.ldSt false 1) [.t 46],bP 48 .neq (.t 47) (.c (.int .i64 0))] (.t 48) (Sq a28s32 .ret) .skip
def a28s36:=Rg [] [nP 57 8,vP 1 (.ts 57),vP 2 (.c (.int .i64 0)),vP 3 (.c (.int .i64 0))]
def a28c : ACode :=
  (Sq a28s1 (Sq a28s3 (Sq a28s8 (Sq a28s10 (Sq a28s12 (Sq (Sq a28s14 (Bk 0 (Lp (Sq a28s16 (Sq (Bk 1 (Sq a28s18 a28s20)) a28s24))))) (Sq a28s34 (Sq a28s36 .ret))))))))
def a28 : AFn := { np := 1,nv := 11,results := [.v 1,.v 2,.v 3],code := a28c }
def a28v : List Nat:=[0,2,3,4,5,6,7,8,9,10,11]
def a28b : List Nat := [10]

def a29s1:=Rg [] [vP 1 (.c (.nilp)),op (.v 2) .mv [.c (.str [])],vP 3 (.c (.int .i64 0))]
def a29s3:=Rg [] [nP 18 0,oP 19 (.call 44) [.t 18],oP 20 .mkM [],oP 21 (.build [.list true [],.nilm] [(0,1),(1,1)]) [.t 19,.t 20],oP 22 .boxO [.ts 21],vP 4 (.t 22)]
def a29s5:=Rg [] [vP 14 (.v 0),op (.v 15) .lenL [.v 14],vP 16 (.c (.int .i64 0))]
def a29s7:=Ts [] [bP 26 .lss (.v 16) (.v 15)] (.t 26) .skip (.exit 0)
def a29s9:=Rg [6] [nP 27 16,oP 28 (.iad 4) [.v 14,.v 16],oP 29 (.ldRo true 4) [.t 28],⟨.bx,.alloc [.int .u8 0,.str [],.list true [],.list true []],[],some 6,none⟩,vP 5 (.t 27),xP (.stLc 6 4) [.l 6,.ts 29] 6]
def a29s11:=Rg [] [nP 31 4,oP 32 .nilchk [.t 31],fP 33 1 (.t 32),oP 34 (.ldSt false 1) [.t 33],fP 35 1 (.l 6),lP 36 6 false 1 (.t 35),oP 37 (.mget 1 [.int .i64 0] false true) [.t 34,.t 36],mP 30 (.t 37),oP 38 (.ext 0) [.t 30],oP 39 (.ext 1) [.t 30],mP 8 (.t 38),vP 7 (.t 39)]
def a29s14:=Rg [] [fP 47 1 (.l 6),lP 48 6 false 1 (.t 47),vP 1 (.c (.nilp)),vP 2 (.t 48),vP 3 (.c (.int .i64 7))]
def a29s16:=Ts [] [nP 40 7,mP 41 (.t 40),gP 42 (.slA 4 1 false false) [.c (.ro [.str [66,111,111,108,101,97,110],.str [73,68],.str [73,110,116],.str [83,116,114,105,110,103]])] 41 false,gP 43 (.fad 1) [.l 6] 41 false,⟨.t 44,.ldLc 6 false 1,[.t 43],some 6,some (.t 41,false)⟩,gP 45 (.call 45) [.t 42,.t 44] 41 false,oP 46 .pick [.t 41,.c (.bool true),.t 45]] (.t 46) (Sq a29s14 .ret) .skip
def a29s20:=Rg [] [fP 52 1 (.l 6),lP 53 6 false 1 (.t 52),vP 1 (.c (.nilp)),vP 2 (.t 53),vP 3 (.c (.int .i64 1))]
def a29s22:=Ts [] [fP 49 1 (.l 6),lP 50 6 false 1 (.t 49),oP 51 (.call 46) [.t 50,.c (.str [95,95])]] (.t 51) (Sq a29s20 .ret) .skip
def a29s24:=Rg [] [nP 54 4,oP 55 .nilchk [.t 54],fP 56 1 (.t 55),oP 57 (.ldSt false 1) [.t 56],fP 58 1 (.l 6),lP 59 6 false 1 (.t 58),nP 60 5,op .none (.mset 1) [.t 57,.t 59,.t 60]]
def a29s30:=Rg [] [bP 61 .add (.v 16) (.c (.int .i64 1)),vP 16 (.t 61)]
def a29s37:=Rg [] [vP 17 (.v 0),op (.v 18) .lenL [.v 17],vP 19 (.c (.int .i64 0))]
def a29s39:=Ts [] [bP 65 .lss (.v 19) (.v 18)] (.t 65) .skip (.exit 2)
def a29s41:=Rg [8] [oP 66 (.iad 4) [.v 17,.v 19],oP 67 (.ldRo true 4) [.t 66],⟨.bx,.alloc [.int .u8 0,.str [],.list true [],.list true []],[],some 8,none⟩,xP (.stLc 8 4) [.l 8,.ts 67] 8]
def a29s43:=Rg [9] [nP 68 4,lP 69 8 true 4 (.l 8),oP 70 (.call 47) [.t 68,.t 69],⟨.bx,.alloc [.int .i64 0,.str []],[],some 9,none⟩,xP (.stLc 9 2) [.l 9,.t 70] 9]
def a29s46:=Rg [] [fP 74 1 (.l 9),lP 75 9 false 1 (.t 74),fP 76 0 (.l 9),lP 77 9 false 1 (.t 76),vP 1 (.c (.nilp)),vP 2 (.t 75),vP 3 (.t 77)]
def a29s48:=Ts [] [fP 71 0 (.l 9),lP 72 9 false 1 (.t 71),bP 73 .neq (.t 72) (.c (.int .i64 0))] (.t 73) (Sq a29s46 .ret) .skip
def a29s53:=Rg [] [bP 78 .add (.v 19) (.c (.int .i64 1)),vP 19 (.t 78)]
def a29s60:=Rg [10] [nP 80 4,oP 81 (.call 48) [.t 80,.c (.str [81,117,101,114,121])],mP 79 (.t 81),oP 82 (.ext 0) [.t 79],oP 83 (.ext 1) [.t 79],⟨.bx,.alloc [.int .u8 0,.str [],.list true [],.list true []],[],some 10,none⟩,xP (.stLc 10 4) [.l 10,.ts 82] 10,vP 11 (.t 83)]
def a29s63:=Rg [] [vP 1 (.c (.nilp)),op (.v 2) .mv [.c (.str [81,117,101,114,121])],vP 3 (.c (.int .i64 6))]
def a29s65:=Ts [] [nP 84 11,oP 85 (.un .not) [.t 84],mP 86 (.t 85),gP 87 (.fad 0) [.l 10] 86 false,⟨.t 88,.ldLc 10 false 1,[.t 87],some 10,some (.t 86,false)⟩,gP 89 (.bin .neq) [.t 88,.c (.int .u8 1)] 86 false,oP 90 .pick [.t 86,.c (.bool true),.t 89]] (.t 90) (Sq a29s63 .ret) .skip
def a29s68:=Rg [] [vP 20 (.v 0),op (.v 21) .lenL [.v 20],vP 22 (.c (.int .i64 0))]
def a29s70:=Ts [] [bP 94 .lss (.v 22) (.v 21)] (.t 94) .skip (.exit 4)
def a29s72:=Rg [12] [oP 95 (.iad 4) [.v 20,.v 22],oP 96 (.ldRo true 4) [.t 95],⟨.bx,.alloc [.int .u8 0,.str [],.list true [],.list true []],[],some 12,none⟩,xP (.stLc 12 4) [.l 12,.ts 96] 12]
def a29s74:=Rg [13] [nP 97 4,lP 98 12 true 4 (.l 12),oP 99 (.call 49) [.t 97,.t 98],⟨.bx,.alloc [.int .i64 0,.str []],[],some 13,none⟩,xP (.stLc 13 2) [.l 13,.t 99] 13]
def a29s77:=Rg [] [fP 103 1 (.l 13),lP 104 13 false 1 (.t 103),fP 105 0 (.l 13),lP 106 13 false 1 (.t 105),vP 1 (.c (.nilp)),vP 2 (.t 104),vP 3 (.t 106)]
def a29s79:=Ts [] [fP 100 0 (.l 13),lP 101 13 false 1 (.t 100),bP 102 .neq (.t 101) (.c (.int .i64 0))] (.t 102) (Sq a29s77 .ret) .skip
def a29s84:=Rg [] [bP 107 .add (.v 22) (.c (.int .i64 1)),vP 22 (.t 107)]
def a29s91:=Rg [] [nP 108 4,vP 1 (.t 108),op (.v 2) .mv [.c (.str [])],vP 3 (.c (.int .i64 0))]
def a29c : ACode :=
  (Sq a29s1 (Sq a29s3 (Sq (Sq a29s5 (Bk 0 (Lp (Sq a29s7 (Sq (Bk 1 (Sq a29s9 (Sq (Sq a29s11 a29s16) (Sq a29s22 a29s24)))) a29s30))))) (Sq (Sq a29s37 (Bk 2 (Lp (Sq a29s39 (Sq (Bk 3 (Sq a29s41 (Sq a29s43 a29s48))) a29s53))))) (Sq (Sq a29s60 a29s65) (Sq (Sq a29s68 (Bk 4 (Lp (Sq a29s70 (Sq (Bk 5 (Sq a29s72 (Sq a29s74 a29s79))) a29s84))))) (Sq a29s91 .ret)))))))
def a29 : AFn := { np := 1,nv := 23,results := [.v 1,.v 2,.v 3],code := a29c }
def a29v : List Nat:=[0,2,3,4,5,6,7,9,11,12,13,14,16,17,23,24,25,62,63,64,91,92,93]
def a29b : List Nat := [6,8,9,10,12,13]

def a30s1:=Rg [] [vP 1 (.c (.nilp)),op (.v 2) .mv [.c (.str [])],vP 3 (.c (.int .i64 0))]
def a30s3:=Rg [] [nP 14 0,oP 15 (.build [.list true []] [(0,1)]) [.t 14],oP 16 .boxO [.ts 15],vP 4 (.t 16)]
def a30s5:=Rg [] [op (.v 5) .mv [.c (.list true [])]]
def a30s7:=Rg [] [vP 6 (.c (.int .i64 0))]
def a30s9:=Ts [] [nP 17 6,nP 18 0,oP 19 .lenL [.t 18],bP 20 .lss (.t 17) (.t 19)] (.t 20) .skip (.exit 0)
def a30s11:=Rg [] [nP 23 0,nP 24 6,oP 25 (.iad 4) [.t 23,.t 24],fP 26 1 (.t 25),oP 27 (.ldRo false 1) [.t 26],vP 7 (.t 27)]
def a30s14:=Rg [] [nP 35 7,vP 1 (.c (.nilp)),vP 2 (.t 35),vP 3 (.c (.int .i64 7))]
def a30s16:=Ts [] [nP 28 7,oP 29 (.call 50) [.t 28],mP 30 (.t 29),gP 31 .mv [.v 5] 30 false,gP 32 .mv [.v 7] 30 false,gP 33 (.call 51) [.t 31,.t 32] 30 false,oP 34 .pick [.t 30,.c (.bool true),.t 33]] (.t 34) (Sq a30s14 .ret) .skip
def a30s19:=Rg [] [nP 38 7,vP 1 (.c (.nilp)),vP 2 (.t 38),vP 3 (.c (.int .i64 1))]
def a30s21:=Ts [] [nP 36 7,oP 37 (.call 52) [.t 36,.c (.str [95,95])]] (.t 37) (Sq a30s19 .ret) .skip
def a30s23:=Rg [] [mP 39 (.vs 5),nP 40 7,oP 41 (.bslice 1 [[.str []]] [0]) [.t 40],oP 42 (.app 1 16) [.ts 39,.t 41],vP 5 (.ts 42)]
def a30s29:=Rg [] [nP 21 6,bP 22 .add (.t 21) (.c (.int .i64 1)),vP 6 (.t 22)]
def a30s36:=Rg [] [vP 8 (.c (.int .i64 0))]
def a30s38:=Ts [] [nP 43 8,nP 44 0,oP 45 .lenL [.t 44],bP 46 .lss (.t 43) (.t 45)] (.t 46) .skip (.exit 2)
def a30s40:=Rg [] [nP 50 4,nP 51 0,nP 52 8,oP 53 (.iad 4) [.t 51,.t 52],oP 54 (.ldRo true 4) [.t 53],oP 55 (.call 53) [.t 50,.t 54],mP 49 (.t 55),oP 56 (.ext 0) [.t 49],oP 57 (.ext 1) [.t 49],vP 9 (.t 56),vP 10 (.t 57)]
def a30s43:=Rg [] [nP 60 9,nP 61 10,vP 1 (.c (.nilp)),vP 2 (.t 60),vP 3 (.t 61)]
def a30s45:=Ts [] [nP 58 10,bP 59 .neq (.t 58) (.c (.int .i64 0))] (.t 59) (Sq a30s43 .ret) .skip
def a30s49:=Rg [] [nP 47 8,bP 48 .add (.t 47) (.c (.int .i64 1)),vP 8 (.t 48)]
def a30s57:=Rg [] [vP 1 (.c (.nilp)),op (.v 2) .mv [.c (.str [81,117,101,114,121])],vP 3 (.c (.int .i64 6))]
def a30s59:=Ts [] [nP 62 4,oP 63 (.call 54) [.t 62,.c (.str [81,117,101,114,121])],oP 64 (.fld 0 1 false) [.t 63],bP 65 .neq (.t 64) (.c (.int .u8 1))] (.t 65) (Sq a30s57 .ret) .skip
def a30s61:=Rg [] [vP 11 (.c (.int .i64 0))]
def a30s63:=Ts [] [nP 66 11,nP 67 0,oP 68 .lenL [.t 67],bP 69 .lss (.t 66) (.t 68)] (.t 69) .skip (.exit 4)
def a30s65:=Ts [] [nP 72 0,nP 73 11,oP 74 (.iad 4) [.t 72,.t 73],fP 75 0 (.t 74),oP 76 (.ldRo false 1) [.t 75],bP 77 .neq (.t 76) (.c (.int .u8 1)),mP 78 (.t 77),gP 79 .mv [.v 0] 78 true,gP 80 .mv [.v 11] 78 true,gP 81 (.iad 4) [.t 79,.t 80] 78 true,gP 82 (.fad 0) [.t 81] 78 true,gP 83 (.ldRo false 1) [.t 82] 78 true,gP 84 (.bin .neq) [.t 83,.c (.int .u8 2)] 78 true,oP 85 .pick [.t 78,.t 84,.c (.bool false)]] (.t 85) (.exit 5) .skip
def a30s67:=Rg [] [vP 12 (.c (.int .i64 0))]
def a30s69:=Ts [] [nP 86 12,nP 87 0,nP 88 11,oP 89 (.iad 4) [.t 87,.t 88],fP 90 2 (.t 89),oP 91 (.ldRo false 1) [.t 90],oP 92 .lenL [.t 91],bP 93 .lss (.t 86) (.t 92)] (.t 93) .skip (.exit 6)
def a30s72:=Rg [] [nP 111 0,nP 112 11,oP 113 (.iad 4) [.t 111,.t 112],fP 114 2 (.t 113),oP 115 (.ldRo false 1) [.t 114],nP 116 12,oP 117 (.iad 11) [.t 115,.t 116],fP 118 0 (.t 117),oP 119 (.ldRo false 1) [.t 118],vP 1 (.c (.nilp)),vP 2 (.t 119),vP 3 (.c (.int .i64 3))]
def a30s74:=Ts [] [nP 96 4,nP 97 0,nP 98 11,oP 99 (.iad 4) [.t 97,.t 98],oP 100 (.ldRo true 4) [.t 99],nP 101 0,nP 102 11,oP 103 (.iad 4) [.t 101,.t 102],fP 104 2 (.t 103),oP 105 (.ldRo false 1) [.t 104],nP 106 12,oP 107 (.iad 11) [.t 105,.t 106],oP 108 (.ldRo true 11) [.t 107],oP 109 (.call 55) [.t 96,.t 100,.t 108],oP 110 (.un .not) [.t 109]] (.t 110) (Sq a30s72 .ret) .skip
def a30s77:=Rg [] [nP 94 12,bP 95 .add (.t 94) (.c (.int .i64 1)),vP 12 (.t 95)]
def a30s86:=Rg [] [nP 70 11,bP 71 .add (.t 70) (.c (.int .i64 1)),vP 11 (.t 71)]
def a30s93:=Rg [] [nP 120 4,vP 1 (.t 120),op (.v 2) .mv [.c (.str [])],vP 3 (.c (.int .i64 0))]
def a30c : ACode :=
  (Sq a30s1 (Sq a30s3 (Sq a30s5 (Sq (Sq a30s7 (Bk 0 (Lp (Sq a30s9 (Sq (Bk 1 (Sq a30s11 (Sq a30s16 (Sq a30s21 a30s23)))) a30s29))))) (Sq (Sq a30s36 (Bk 2 (Lp (Sq a30s38 (Sq (Bk 3 (Sq a30s40 a30s45)) a30s49))))) (Sq a30s59 (Sq (Sq a30s61 (Bk 4 (Lp (Sq a30s63 (Sq (Bk 5 (Sq a30s65 (Sq a30s67 (Bk 6 (Lp (Sq a30s69 (Sq (Bk 7 a30s74) a30s77))))))) a30s86))))) (Sq a30s93 .ret))))))))
def a30 : AFn := { np := 1,nv := 13,results := [.v 1,.v 2,.v 3],code := a30c }
def a30v : List Nat:=[0,2,3,4,5,6,7,8,9,10,11,12,13]
def a30b : List Nat := []

def a31s1:=Rg [] [vP 4 (.v 1),op (.v 5) .lenL [.v 4],vP 6 (.c (.int .i64 0))]
def a31s3:=Ts [] [bP 10 .lss (.v 6) (.v 5)] (.t 10) .skip (.exit 0)
def a31s5:=Rg [] [oP 11 (.iad 7) [.v 4,.v 6],oP 12 (.ldAn true 7) [.t 11],op (.v 2) (.allocO [.int .u8 0,.str [],.str [],.str [],.list true [],.list true [],.list true []]) [],op .none (.stSt 7) [.v 2,.ts 12]]
def a31s7:=Ts [] [nP 13 0,oP 14 (.ldSt true 7) [.v 2],oP 15 (.call 56) [.t 13,.t 14],oP 16 (.un .not) [.t 15]] (.t 16) (.exit 1) .skip
def a31s9:=Rg [] [fP 17 0 (.v 2),op (.v 7) (.ldSt false 1) [.t 17]]
def a31s12:=Rg [] [nP 34 0,oP 35 (.ldSt true 7) [.v 2],oP 36 (.call 57) [.t 34,.t 35]]
def a31s15:=Rg [] [nP 39 0,oP 40 .nilchk [.t 39],fP 41 1 (.t 40),fP 42 1 (.t 41),oP 43 (.ldSt false 1) [.t 42],oP 44 (.mkF 59 0) [.v 2],oP 45 (.call 58) [.t 43,.t 44],vP 3 (.t 45)]
def a31s17:=Ts [] [nP 46 3,bP 47 .lss (.t 46) (.c (.int .i64 0)),mP 48 (.t 47),gP 49 .mv [.v 0] 48 false,gP 50 .nilchk [.t 49] 48 false,gP 51 (.fad 9) [.t 50] 48 false,gP 52 (.ldSt false 1) [.t 51] 48 false,gP 53 (.fad 2) [.v 2] 48 false,gP 54 (.ldSt false 1) [.t 53] 48 false,gP 55 (.call 45) [.t 52,.t 54] 48 false,oP 56 .pick [.t 48,.c (.bool true),.t 55]] (.t 56) (.exit 1) .skip
def a31s19:=Rg [] [nP 57 0,nP 58 0,oP 59 .nilchk [.t 58],fP 60 9 (.t 59),oP 61 .ldStS [.t 60],fP 62 2 (.v 2),oP 63 (.ldSt false 1) [.t 62],oP 64 (.bslice 1 [[.str []]] [0]) [.t 63],oP 65 (.app 1 16) [.ts 61,.t 64],oP 66 .nilchk [.t 57],fP 67 9 (.t 66),op .none (.stSt 1) [.t 67,.ts 65]]
def a31s22:=Rg [] [nP 79 0,nP 80 0,oP 81 .nilchk [.t 80],fP 82 1 (.t 81),fP 83 1 (.t 82),oP 84 (.ldSt false 1) [.t 83],nP 85 3,oP 86 (.iad 3) [.t 84,.t 85],fP 87 2 (.t 86),oP 88 (.ldRo false 1) [.t 87],oP 89 (.call 31) [.t 79,.t 88]]
def a31s23:=Ts [] [nP 68 0,nP 69 0,oP 70 .nilchk [.t 69],fP 71 1 (.t 70),fP 72 1 (.t 71),oP 73 (.ldSt false 1) [.t 72],nP 74 3,oP 75 (.iad 3) [.t 73,.t 74],fP 76 1 (.t 75),oP 77 (.ldRo false 1) [.t 76],oP 78 (.call 60) [.t 68,.t 77]] (.t 78) a31s22 .skip
def a31s26:=Sq a31s15 (Sq a31s17 (Sq a31s19 a31s23))
def a31s29:=Rg [] [nP 28 0,fP 29 6 (.v 2),oP 30 (.ldSt false 1) [.t 29],oP 31 (.call 31) [.t 28,.t 30]]
def a31s30:=Ts [] [fP 19 3 (.v 2),oP 20 (.ldSt false 1) [.t 19],oP 21 (.bin .eql) [.t 20,.c (.str [])],mP 22 (.t 21),gP 23 .mv [.v 0] 22 false,gP 24 (.fad 3) [.v 2] 22 false,gP 25 (.ldSt false 1) [.t 24] 22 false,gP 26 (.call 60) [.t 23,.t 25] 22 false,oP 27 .pick [.t 22,.c (.bool true),.t 26]] (.t 27) a31s29 .skip
def a31s31:=Ts [] [bP 38 .eql (.v 7) (.c (.int .u8 2)),mP 37 (.t 38)] (.t 37) a31s26 a31s30
def a31s32:=Ts [] [bP 33 .eql (.v 7) (.c (.int .u8 1)),mP 32 (.t 33)] (.t 32) a31s12 a31s31
def a31s39:=Rg [] [bP 90 .add (.v 6) (.c (.int .i64 1)),vP 6 (.t 90)]
def a31c : ACode :=
  (Sq a31s1 (Bk 0 (Lp (Sq a31s3 (Sq (Bk 1 (Sq a31s5 (Sq a31s7 (Sq a31s9 (Bk 2 a31s32))))) a31s39)))))
def a31 : AFn := { np := 2,nv := 8,results := [],code := a31c }
def a31v : List Nat:=[0,1,5,6,7,8,9,18]
def a31b : List Nat := []

def a38s1:=Rg [2] [⟨.bx,.alloc [.int .u8 0,.str [],.int .i64 0,.int .i64 0],[],some 2,none⟩,vP 3 (.c (.int .i64 0)),vP 4 (.c (.int .i64 0)),vP 5 (.c (.int .i64 0))]
def a38s3:=Rg [] [nP 10 0,nP 11 1,oP 12 .idxS [.t 10,.t 11],vP 6 (.t 12)]
def a38s5:=Rg [] [nP 13 1,vP 7 (.t 13)]
def a38s8:=Ts [] [nP 17 7,nP 18 0,oP 19 .lenS [.t 18],bP 20 .lss (.t 17) (.t 19),mP 21 (.t 20),gP 22 .mv [.v 0] 21 true,gP 23 .mv [.v 7] 21 true,gP 24 .idxS [.t 22,.t 23] 21 true,gP 25 (.call 64) [.t 24] 21 true,gP 26 .mv [.t 25] 21 true,gP 27 .mv [.v 0] 26 false,gP 28 .mv [.v 7] 26 false,gP 29 .idxS [.t 27,.t 28] 26 false,gP 30 (.call 65) [.t 29] 26 false,gP 31 .pick [.t 26,.c (.bool true),.t 30] 21 true,oP 32 .pick [.t 21,.t 31,.c (.bool false)]] (.t 32) .skip (.exit 1)
def a38s10:=Rg [] [nP 33 7,bP 34 .add (.t 33) (.c (.int .i64 1)),vP 7 (.t 34)]
def a38s17:=Rg [] [oP 39 (.build [.int .u8 0,.str [],.int .i64 0,.int .i64 0] []) [],nP 40 1,xP (.stLc 2 4) [.l 2,.t 39] 2,vP 3 (.c (.int .i64 0)),vP 4 (.t 40),vP 5 (.c (.int .i64 2))]
def a38s18:=Sq a38s17 .ret
def a38s19:=Ts [] [nP 35 7,nP 36 1,bP 37 .sub (.t 35) (.t 36),bP 38 .gtr (.t 37) (.c (.int .i64 32))] (.t 38) a38s18 .skip
def a38s21:=Rg [] [nP 41 0,nP 42 1,nP 43 7,oP 44 (.slS true true) [.t 41,.t 42,.t 43],oP 45 (.build [.int .u8 0,.str [],.int .i64 0,.int .i64 0] [(0,1),(1,1)]) [.c (.int .u8 1),.t 44],nP 46 7,xP (.stLc 2 4) [.l 2,.t 45] 2,vP 3 (.t 46),vP 4 (.c (.int .i64 0)),vP 5 (.c (.int .i64 0))]
def a38s24:=Sq (Bk 1 (Lp (Sq a38s8 (Bk 2 a38s10)))) (Sq a38s19 (Sq a38s21 .ret))
def a38s27:=Rg [] [nP 54 0,nP 55 1,oP 56 (.call 66) [.t 54,.t 55],oP 57 (.ext 0) [.t 56],oP 58 (.ext 1) [.t 56],oP 59 (.ext 2) [.t 56],oP 60 (.ext 3) [.t 56],xP (.stLc 2 4) [.l 2,.t 57] 2,vP 3 (.t 58),vP 4 (.t 59),vP 5 (.t 60)]
def a38s28:=Sq a38s27 .ret
def a38s31:=Rg [] [nP 64 0,nP 65 1,oP 66 (.call 67) [.t 64,.t 65],oP 67 (.ext 0) [.t 66],oP 68 (.ext 1) [.t 66],oP 69 (.ext 2) [.t 66],oP 70 (.ext 3) [.t 66],xP (.stLc 2 4) [.l 2,.t 67] 2,vP 3 (.t 68),vP 4 (.t 69),vP 5 (.t 70)]
def a38s32:=Sq a38s31 .ret
def a38s36:=Rg [] [oP 93 (.build [.int .u8 0,.str [],.int .i64 0,.int .i64 0] [(0,1),(1,1)]) [.c (.int .u8 4),.c (.str [46,46,46])],nP 94 1,bP 95 .add (.t 94) (.c (.int .i64 3)),xP (.stLc 2 4) [.l 2,.t 93] 2,vP 3 (.t 95),vP 4 (.c (.int .i64 0)),vP 5 (.c (.int .i64 0))]
def a38s37:=Sq a38s36 .ret
def a38s38:=Ts [] [nP 74 0,oP 75 .lenS [.t 74],nP 76 1,bP 77 .sub (.t 75) (.t 76),bP 78 .geq (.t 77) (.c (.int .i64 3)),mP 79 (.t 78),gP 80 .mv [.v 0] 79 true,gP 81 .mv [.v 1] 79 true,gP 82 (.bin .add) [.t 81,.c (.int .i64 1)] 79 true,gP 83 .idxS [.t 80,.t 82] 79 true,gP 84 (.bin .eql) [.t 83,.c (.int .u8 46)] 79 true,oP 85 .pick [.t 79,.t 84,.c (.bool false)],mP 86 (.t 85),gP 87 .mv [.v 0] 86 true,gP 88 .mv [.v 1] 86 true,gP 89 (.bin .add) [.t 88,.c (.int .i64 2)] 86 true,gP 90 .idxS [.t 87,.t 89] 86 true,gP 91 (.bin .eql) [.t 90,.c (.int .u8 46)] 86 true,oP 92 .pick [.t 86,.t 91,.c (.bool false)]] (.t 92) a38s37 .skip
def a38s40:=Rg [] [oP 96 (.build [.int .u8 0,.str [],.int .i64 0,.int .i64 0] []) [],nP 97 1,xP (.stLc 2 4) [.l 2,.t 96] 2,vP 3 (.c (.int .i64 0)),vP 4 (.t 97),vP 5 (.c (.int .i64 4))]
def a38s42:=Sq a38s38 (Sq a38s40 .ret)
def a38s45:=Rg [] [nP 149 0,nP 150 1,nP 151 1,bP 152 .add (.t 151) (.c (.int .i64 1)),oP 153 (.slS true true) [.t 149,.t 150,.t 152],oP 154 (.build [.int .u8 0,.str [],.int .i64 0,.int .i64 0] [(0,1),(1,1)]) [.c (.int .u8 4),.t 153],nP 155 1,bP 156 .add (.t 155) (.c (.int .i64 1)),xP (.stLc 2 4) [.l 2,.t 154] 2,vP 3 (.t 156),vP 4 (.c (.int .i64 0)),vP 5 (.c (.int .i64 0))]
def a38s46:=Sq a38s45 .ret
def a38s47:=Ts [] [nP 99 6,bP 100 .eql (.t 99) (.c (.int .u8 33)),mP 101 (.t 100),gP 102 .mv [.v 6] 101 false,gP 103 (.bin .eql) [.t 102,.c (.int .u8 36)] 101 false,oP 104 .pick [.t 101,.c (.bool true),.t 103],mP 105 (.t 104),gP 106 .mv [.v 6] 105 false,gP 107 (.bin .eql) [.t 106,.c (.int .u8 40)] 105 false,oP 108 .pick [.t 105,.c (.bool true),.t 107],mP 109 (.t 108),gP 110 .mv [.v 6] 109 false,gP 111 (.bin .eql) [.t 110,.c (.int .u8 41)] 109 false,oP 112 .pick [.t 109,.c (.bool true),.t 111],mP 113 (.t 112),gP 114 .mv [.v 6] 113 false,gP 115 (.bin .eql) [.t 114,.c (.int .u8 58)] 113 false,oP 116 .pick [.t 113,.c (.bool true),.t 115],mP 117 (.t 116),gP 118 .mv [.v 6] 117 false,gP 119 (.bin .eql) [.t 118,.c (.int .u8 61)] 117 false,oP 120 .pick [.t 117,.c (.bool true),.t 119],mP 121 (.t 120),gP 122 .mv [.v 6] 121 false,gP 123 (.bin .eql) [.t 122,.c (.int .u8 64)] 121 false,oP 124 .pick [.t 121,.c (.bool true),.t 123],mP 125 (.t 124),gP 126 .mv [.v 6] 125 false,gP 127 (.bin .eql) [.t 126,.c (.int .u8 91)] 125 false,oP 128 .pick [.t 125,.c (.bool true),.t 127],mP 129 (.t 128),gP 130 .mv [.v 6] 129 false,gP 131 (.bin .eql) [.t 130,.c (.int .u8 93)] 129 false,oP 132 .pick [.t 129,.c (.bool true),.t 131],mP 133 (.t 132),gP 134 .mv [.v 6] 133 false,gP 135 (.bin .eql) [.t 134,.c (.int .u8 123)] 133 false,oP 136 .pick [.t 133,.c (.bool true),.t 135],mP 137 (.t 136),gP 138 .mv [.v 6] 137 false,gP 139 (.bin .eql) [.t 138,.c (.int .u8 124)] 137 false,oP 140 .pick [.t 137,.c (.bool true),.t 139],mP 141 (.t 140),gP 142 .mv [.v 6] 141 false,gP 143 (.bin .eql) [.t 142,.c (.int .u8 125)] 141 false,oP 144 .pick [.t 141,.c (.bool true),.t 143],mP 145 (.t 144),gP 146 .mv [.v 6] 145 false,gP 147 (.bin .eql) [.t 146,.c (.int .u8 38)] 145 false,oP 148 .pick [.t 145,.c (.bool true),.t 147],mP 98 (.t 148)] (.t 98) a38s46 .skip
def a38s48:=Ts [] [nP 72 6,bP 73 .eql (.t 72) (.c (.int .u8 46)),mP 71 (.t 73)] (.t 71) a38s42 a38s47
def a38s49:=Ts [] [nP 62 6,bP 63 .eql (.t 62) (.c (.int .u8 34)),mP 61 (.t 63)] (.t 61) a38s32 a38s48
def a38s50:=Ts [] [nP 48 6,bP 49 .eql (.t 48) (.c (.int .u8 45)),mP 50 (.t 49),gP 51 .mv [.v 6] 50 false,gP 52 (.call 65) [.t 51] 50 false,oP 53 .pick [.t 50,.c (.bool true),.t 52],mP 47 (.t 53)] (.t 47) a38s28 a38s49
def a38s51:=Ts [] [nP 15 6,oP 16 (.call 64) [.t 15],mP 14 (.t 16)] (.t 14) a38s24 a38s50
def a38s54:=Rg [] [oP 157 (.build [.int .u8 0,.str [],.int .i64 0,.int .i64 0] []) [],nP 158 1,xP (.stLc 2 4) [.l 2,.t 157] 2,vP 3 (.c (.int .i64 0)),vP 4 (.t 158),vP 5 (.c (.int .i64 4))]
def a38c : ACode :=
  (Sq a38s1 (Sq a38s3 (Sq a38s5 (Sq (Bk 0 a38s51) (Sq a38s54 .ret)))))
def a38 : AFn := { np := 2,nv := 8,results := [.bx 2 true 4,.v 3,.v 4,.v 5],code := a38c }
def a38v : List Nat:=[0,1,4,5,6,7,8,9]
def a38b : List Nat := [2]

def a39s1:=Rg [] [vP 1 (.c (.bool false))]
def a39s3:=Rg [] [nP 3 0,oP 4 .nilchk [.t 3],fP 5 2 (.t 4),oP 6 (.ldSt false 1) [.t 5],bP 7 .add (.t 6) (.c (.int .i64 1)),oP 8 .nilchk [.t 3],fP 9 2 (.t 8),op .none (.stSt 1) [.t 9,.t 7]]
def a39s6:=Rg [] [nP 15 0,oP 16 (.call 20) [.t 15,.c (.int .i64 5)]]
def a39s7:=Ts [] [nP 10 0,oP 11 .nilchk [.t 10],fP 12 2 (.t 11),oP 13 (.ldSt false 1) [.t 12],bP 14 .gtr (.t 13) (.c (.int .i64 24))] (.t 14) a39s6 .skip
def a39s9:=Rg [] [nP 17 0,oP 18 .nilchk [.t 17],fP 19 4 (.t 18),oP 20 (.ldSt false 1) [.t 19],bP 21 .eql (.t 20) (.c (.int .i64 0)),vP 1 (.t 21)]
def a39c : ACode :=
  (Sq a39s1 (Sq a39s3 (Sq a39s7 (Sq a39s9 .ret))))
def a39 : AFn := { np := 1,nv := 2,results := [.v 1],code := a39c }
def a39v : List Nat:=[0,2]
def a39b : List Nat := []

def a40s1:=Rg [1] [⟨.bx,.alloc [.int .u8 0,.str [],.str [],.str [],.list true [],.list true [],.list true []],[],some 1,none⟩]
def a40s4:=Rg [2] [nP 8 0,oP 9 (.call 21) [.t 8],oP 10 (.build [.int .u8 0,.str [],.str [],.str [],.list true [],.list true [],.list true []] [(0,1),(2,1)]) [.c (.int .u8 1),.t 9],⟨.bx,.alloc [.int .u8 0,.str [],.str [],.str [],.list true [],.list true [],.list true []],[],some 2,none⟩,xP (.stLc 2 7) [.l 2,.ts 10] 2]
def a40s7:=Rg [] [fP 13 2 (.l 2),lP 14 2 false 1 (.t 13),fP 15 1 (.l 2),xP (.stLc 2 1) [.t 15,.t 14] 2]
def a40s9:=Rg [] [nP 16 0,oP 17 (.call 21) [.t 16],fP 18 2 (.l 2),xP (.stLc 2 1) [.t 18,.t 17] 2]
def a40s10:=Sq a40s7 a40s9
def a40s11:=Ts [] [nP 11 0,oP 12 (.call 25) [.t 11,.c (.str [58])]] (.t 12) a40s10 .skip
def a40s13:=Rg [] [nP 19 0,oP 20 (.call 68) [.t 19],fP 21 4 (.l 2),xP (.stLc 2 1) [.t 21,.ts 20] 2]
def a40s15:=Rg [] [nP 22 0,oP 23 (.call 69) [.t 22],fP 24 5 (.l 2),xP (.stLc 2 1) [.t 24,.ts 23] 2]
def a40s18:=Rg [] [nP 27 0,oP 28 (.call 23) [.t 27],fP 29 6 (.l 2),xP (.stLc 2 1) [.t 29,.ts 28] 2]
def a40s19:=Ts [] [nP 25 0,oP 26 (.call 24) [.t 25,.c (.str [123])]] (.t 26) a40s18 .skip
def a40s21:=Rg [] [lP 30 2 true 7 (.l 2),xP (.stLc 1 7) [.l 1,.ts 30] 1]
def a40s27:=Sq a40s4 (Sq a40s11 (Sq a40s13 (Sq a40s15 (Sq a40s19 (Sq a40s21 .ret)))))
def a40s28:=Ts [] [nP 5 0,oP 6 (.call 25) [.t 5,.c (.str [46,46,46])],oP 7 (.un .not) [.t 6]] (.t 7) a40s27 .skip
def a40s30:=Rg [3] [oP 31 (.build [.int .u8 0,.str [],.str [],.str [],.list true [],.list true [],.list true []] [(0,1)]) [.c (.int .u8 3)],⟨.bx,.alloc [.int .u8 0,.str [],.str [],.str [],.list true [],.list true [],.list true []],[],some 3,none⟩,xP (.stLc 3 7) [.l 3,.ts 31] 3]
def a40s33:=Rg [] [nP 34 0,oP 35 (.call 21) [.t 34],fP 36 3 (.l 3),xP (.stLc 3 1) [.t 36,.t 35] 3]
def a40s36:=Rg [] [fP 39 0 (.l 3),xP (.stLc 3 1) [.t 39,.c (.int .u8 2)] 3]
def a40s38:=Rg [] [nP 40 0,oP 41 (.call 21) [.t 40],fP 42 2 (.l 3),xP (.stLc 3 1) [.t 42,.t 41] 3]
def a40s40:=Rg [] [nP 43 0,oP 44 (.call 69) [.t 43],fP 45 5 (.l 3),xP (.stLc 3 1) [.t 45,.ts 44] 3]
def a40s42:=Rg [] [lP 46 3 true 7 (.l 3),xP (.stLc 1 7) [.l 1,.ts 46] 1]
def a40s46:=Sq a40s36 (Sq a40s38 (Sq a40s40 (Sq a40s42 .ret)))
def a40s47:=Ts [] [nP 37 0,oP 38 (.call 18) [.t 37,.c (.int .u8 1)]] (.t 38) a40s46 .skip
def a40s48:=Ts [] [nP 32 0,oP 33 (.call 25) [.t 32,.c (.str [111,110])]] (.t 33) a40s33 a40s47
def a40s50:=Rg [] [nP 47 0,oP 48 (.call 69) [.t 47],fP 49 5 (.l 3),xP (.stLc 3 1) [.t 49,.ts 48] 3]
def a40s52:=Rg [] [nP 50 0,oP 51 (.call 23) [.t 50],fP 52 6 (.l 3),xP (.stLc 3 1) [.t 52,.ts 51] 3]
def a40s54:=Rg [] [lP 53 3 true 7 (.l 3),xP (.stLc 1 7) [.l 1,.ts 53] 1]
def a40c : ACode :=
  (Sq a40s1 (Sq a40s28 (Sq a40s30 (Sq a40s48 (Sq a40s50 (Sq a40s52 (Sq a40s54 .ret)))))))
def a40 : AFn := { np := 1,nv := 4,results := [.bx 1 true 7],code := a40c }
def a40v : List Nat:=[0,2,3,4]
def a40b : List Nat := [1,2,3]

def a41s1:=Rg [1] [⟨.bx,.alloc [.str [],.list true [],.bool false],[],some 1,none⟩]
def a41s3:=Rg [2] [⟨.bx,.alloc [.str [],.list true [],.bool false],[],some 2,none⟩]
def a41s7:=Rg [3] [nP 9 0,oP 10 (.call 41) [.t 9],⟨.bx,.alloc [.str [],.list true [],.bool false],[],some 3,none⟩,xP (.stLc 3 3) [.l 3,.ts 10] 3]
def a41s9:=Rg [] [lP 11 3 true 3 (.l 3),oP 12 (.bslice 3 [[.str [],.list true [],.bool false]] [0]) [.t 11],fP 13 1 (.l 2),xP (.stLc 2 1) [.t 13,.ts 12] 2]
def a41s11:=Rg [] [nP 14 0,oP 15 (.call 22) [.t 14,.c (.str [93])]]
def a41s13:=Sq a41s7 (Sq a41s9 a41s11)
def a41s15:=Rg [] [nP 16 0,oP 17 (.call 21) [.t 16],fP 18 0 (.l 2),xP (.stLc 2 1) [.t 18,.t 17] 2]
def a41s16:=Ts [] [nP 7 0,oP 8 (.call 25) [.t 7,.c (.str [91])]] (.t 8) a41s13 a41s15
def a41s18:=Rg [] [nP 19 0,oP 20 (.call 25) [.t 19,.c (.str [33])],fP 21 2 (.l 2),xP (.stLc 2 1) [.t 21,.t 20] 2]
def a41s19:=Sq a41s16 a41s18
def a41s20:=Ts [] [nP 5 0,oP 6 (.call 39) [.t 5]] (.t 6) a41s19 .skip
def a41s22:=Rg [] [nP 22 0,oP 23 .nilchk [.t 22],fP 24 2 (.t 23),oP 25 (.ldSt false 1) [.t 24],bP 26 .sub (.t 25) (.c (.int .i64 1)),oP 27 .nilchk [.t 22],fP 28 2 (.t 27),op .none (.stSt 1) [.t 28,.t 26]]
def a41s24:=Rg [] [lP 29 2 true 3 (.l 2),xP (.stLc 1 3) [.l 1,.ts 29] 1]
def a41c : ACode :=
  (Sq a41s1 (Sq a41s3 (Sq a41s20 (Sq a41s22 (Sq a41s24 .ret)))))
def a41 : AFn := { np := 1,nv := 4,results := [.bx 1 true 3],code := a41c }
def a41v : List Nat:=[0,2,3,4]
def a41b : List Nat := [1,2,3]

def a42s1:=Rg [2] [⟨.bx,.alloc [.int .u8 0,.int .i64 0,.str [],.list true [],.list true []],[],some 2,none⟩]
def a42s3:=Rg [3] [⟨.bx,.alloc [.int .u8 0,.int .i64 0,.str [],.list true [],.list true []],[],some 3,none⟩]
def a42s6:=Rg [] [nP 8 0,nP 9 1,oP 10 (.call 70) [.t 8,.t 9],xP (.stLc 3 5) [.l 3,.ts 10] 3]
def a42s7:=Ts [] [nP 6 0,oP 7 (.call 39) [.t 6]] (.t 7) a42s6 .skip
def a42s9:=Rg [] [nP 11 0,oP 12 .nilchk [.t 11],fP 13 2 (.t 12),oP 14 (.ldSt false 1) [.t 13],bP 15 .sub (.t 14) (.c (.int .i64 1)),oP 16 .nilchk [.t 11],fP 17 2 (.t 16),op .none (.stSt 1) [.t 17,.t 15]]
def a42s11:=Rg [] [lP 18 3 true 5 (.l 3),xP (.stLc 2 5) [.l 2,.ts 18] 2]
def a42c : ACode :=
  (Sq a42s1 (Sq a42s3 (Sq a42s7 (Sq a42s9 (Sq a42s11 .ret)))))
def a42 : AFn := { np := 2,nv := 4,results := [.bx 2 true 5],code := a42c }
def a42v : List Nat:=[0,1,4,5]
def a42b : List Nat := [2,3]

def a43s1:=Rg [1] [⟨.bx,.alloc [.int .u8 0,.str [],.list true [],.list true []],[],some 1,none⟩]
def a43s3:=Rg [2] [⟨.bx,.alloc [.int .u8 0,.str [],.list true [],.list true []],[],some 2,none⟩]
def a43s6:=Rg [] [fP 13 0 (.l 2),xP (.stLc 2 1) [.t 13,.c (.int .u8 1)] 2]
def a43s9:=Rg [] [fP 17 0 (.l 2),xP (.stLc 2 1) [.t 17,.c (.int .u8 2)] 2]
def a43s12:=Rg [] [fP 21 0 (.l 2),xP (.stLc 2 1) [.t 21,.c (.int .u8 3)] 2]
def a43s15:=Rg [] [fP 25 0 (.l 2),xP (.stLc 2 1) [.t 25,.c (.int .u8 4)] 2]
def a43s18:=Rg [] [fP 29 0 (.l 2),xP (.stLc 2 1) [.t 29,.c (.int .u8 5)] 2]
def a43s20:=Rg [] [nP 7 0,oP 8 (.call 20) [.t 7,.c (.int .i64 4)]]
def a43s22:=Rg [] [lP 9 2 true 4 (.l 2),xP (.stLc 1 4) [.l 1,.ts 9] 1]
def a43s25:=Ts [] [nP 27 0,oP 28 (.call 19) [.t 27,.c (.str [105,110,112,117,116])],mP 26 (.t 28)] (.t 26) a43s18 (Sq a43s20 (Sq a43s22 .ret))
def a43s26:=Ts [] [nP 23 0,oP 24 (.call 19) [.t 23,.c (.str [101,110,117,109])],mP 22 (.t 24)] (.t 22) a43s15 a43s25
def a43s27:=Ts [] [nP 19 0,oP 20 (.call 19) [.t 19,.c (.str [117,110,105,111,110])],mP 18 (.t 20)] (.t 18) a43s12 a43s26
def a43s28:=Ts [] [nP 15 0,oP 16 (.call 19) [.t 15,.c (.str [105,110,116,101,114,102,97,99,101])],mP 14 (.t 16)] (.t 14) a43s9 a43s27
def a43s29:=Ts [] [nP 11 0,oP 12 (.call 19) [.t 11,.c (.str [116,121,112,101])],mP 10 (.t 12)] (.t 10) a43s6 a43s28
def a43s32:=Rg [] [nP 30 0,oP 31 .nilchk [.t 30],fP 32 1 (.t 31),oP 33 (.ldSt false 1) [.t 32],bP 34 .add (.t 33) (.c (.int .i64 1)),oP 35 .nilchk [.t 30],fP 36 1 (.t 35),op .none (.stSt 1) [.t 36,.t 34]]
def a43s34:=Rg [] [nP 37 0,oP 38 (.call 21) [.t 37],fP 39 1 (.l 2),xP (.stLc 2 1) [.t 39,.t 38] 2]
def a43s36:=Rg [] [fP 40 0 (.l 2),⟨.v 6,.ldLc 2 false 1,[.t 40],some 2,none⟩]
def a43s39:=Rg [] [nP 88 0,oP 89 (.call 22) [.t 88,.c (.str [61])]]
def a43s41:=Rg [] [nP 90 0,oP 91 (.call 71) [.t 90,.c (.str [124])],fP 92 3 (.l 2),xP (.stLc 2 1) [.t 92,.ts 91] 2]
def a43s45:=Rg [] [nP 95 0,oP 96 (.call 22) [.t 95,.c (.str [123])]]
def a43s47:=Rg [] [vP 3 (.c (.bool true))]
def a43s49:=Ts [] [nP 97 0,oP 98 .nilchk [.t 97],fP 99 4 (.t 98),oP 100 (.ldSt false 1) [.t 99],bP 101 .eql (.t 100) (.c (.int .i64 0)),mP 102 (.t 101),gP 103 .mv [.v 3] 102 true,gP 104 .mv [.t 103] 102 true,gP 105 .mv [.v 0] 104 false,gP 106 (.call 25) [.t 105,.c (.str [125])] 104 false,gP 107 (.un .not) [.t 106] 104 false,gP 108 .pick [.t 104,.c (.bool true),.t 107] 102 true,oP 109 .pick [.t 102,.t 108,.c (.bool false)]] (.t 109) .skip (.exit 4)
def a43s52:=Rg [] [nP 120 0,oP 121 (.call 20) [.t 120,.c (.int .i64 4)]]
def a43s53:=Ts [] [nP 110 0,oP 111 (.call 19) [.t 110,.c (.str [116,114,117,101])],mP 112 (.t 111),gP 113 .mv [.v 0] 112 false,gP 114 (.call 19) [.t 113,.c (.str [102,97,108,115,101])] 112 false,oP 115 .pick [.t 112,.c (.bool true),.t 114],mP 116 (.t 115),gP 117 .mv [.v 0] 116 false,gP 118 (.call 19) [.t 117,.c (.str [110,117,108,108])] 116 false,oP 119 .pick [.t 116,.c (.bool true),.t 118]] (.t 119) a43s52 .skip
def a43s55:=Rg [] [fP 122 3 (.l 2),⟨.t 123,.ldLcS 2,[.t 122],some 2,none⟩,nP 124 0,oP 125 (.call 21) [.t 124],oP 126 (.bslice 1 [[.str []]] [0]) [.t 125],oP 127 (.app 1 16) [.ts 123,.t 126],fP 128 3 (.l 2),xP (.stLc 2 1) [.t 128,.ts 127] 2]
def a43s59:=Rg [] [vP 3 (.c (.bool false))]
def a43s68:=Rg [] [nP 131 0,oP 132 (.call 22) [.t 131,.c (.str [123])]]
def a43s70:=Rg [] [nP 133 0,oP 134 (.call 72) [.t 133,.c (.str [125])],fP 135 2 (.l 2),xP (.stLc 2 1) [.t 135,.ts 134] 2]
def a43s74:=Rg [] [nP 49 0,oP 50 (.call 71) [.t 49,.c (.str [38])],fP 51 3 (.l 2),xP (.stLc 2 1) [.t 51,.ts 50] 2]
def a43s75:=Ts [] [fP 42 0 (.l 2),lP 43 2 false 1 (.t 42),bP 44 .eql (.t 43) (.c (.int .u8 1)),mP 45 (.t 44),gP 46 .mv [.v 0] 45 true,gP 47 (.call 25) [.t 46,.c (.str [105,109,112,108,101,109,101,110,116,115])] 45 true,oP 48 .pick [.t 45,.t 47,.c (.bool false)]] (.t 48) a43s74 .skip
def a43s77:=Rg [] [nP 52 0,oP 53 (.call 22) [.t 52,.c (.str [123])]]
def a43s79:=Rg [] [vP 4 (.c (.bool true))]
def a43s81:=Ts [] [nP 54 0,oP 55 .nilchk [.t 54],fP 56 4 (.t 55),oP 57 (.ldSt false 1) [.t 56],bP 58 .eql (.t 57) (.c (.int .i64 0)),mP 59 (.t 58),gP 60 .mv [.v 4] 59 true,gP 61 .mv [.t 60] 59 true,gP 62 .mv [.v 0] 61 false,gP 63 (.call 25) [.t 62,.c (.str [125])] 61 false,gP 64 (.un .not) [.t 63] 61 false,gP 65 .pick [.t 61,.c (.bool true),.t 64] 59 true,oP 66 .pick [.t 59,.t 65,.c (.bool false)]] (.t 66) .skip (.exit 2)
def a43s83:=Rg [5] [nP 67 0,oP 68 (.call 21) [.t 67],oP 69 (.build [.str [],.list true [],.str [],.list true [],.bool false,.bool false,.int .u8 0,.int .i64 0,.str [],.list true [],.list true []] [(0,1)]) [.t 68],⟨.bx,.alloc [.str [],.list true [],.str [],.list true [],.bool false,.bool false,.int .u8 0,.int .i64 0,.str [],.list true [],.list true []],[],some 5,none⟩,xP (.stLc 5 11) [.l 5,.ts 69] 5]
def a43s86:=Rg [] [nP 72 0,oP 73 (.call 72) [.t 72,.c (.str [41])],fP 74 1 (.l 5),xP (.stLc 5 1) [.t 74,.ts 73] 5]
def a43s87:=Ts [] [nP 70 0,oP 71 (.call 25) [.t 70,.c (.str [40])]] (.t 71) a43s86 .skip
def a43s89:=Rg [] [nP 75 0,oP 76 (.call 22) [.t 75,.c (.str [58])]]
def a43s91:=Rg [] [nP 77 0,oP 78 (.call 41) [.t 77],fP 79 2 (.l 5),xP (.stLc 5 3) [.t 79,.ts 78] 5]
def a43s93:=Rg [] [fP 80 2 (.l 2),⟨.t 81,.ldLcS 2,[.t 80],some 2,none⟩,lP 82 5 true 11 (.l 5),oP 83 (.bslice 11 [[.str [],.list true [],.str [],.list true [],.bool false,.bool false,.int .u8 0,.int .i64 0,.str [],.list true [],.list true []]] [0]) [.t 82],oP 84 (.app 11 176) [.ts 81,.t 83],fP 85 2 (.l 2),xP (.stLc 2 1) [.t 85,.ts 84] 2]
def a43s100:=Rg [] [vP 4 (.c (.bool false))]
def a43s108:=Ts [] [bP 130 .eql (.v 6) (.c (.int .u8 5)),mP 129 (.t 130)] (.t 129) (Sq a43s68 a43s70) (Sq a43s75 (Sq a43s77 (Sq a43s79 (Bk 2 (Lp (Sq a43s81 (Sq (Bk 3 (Sq a43s83 (Sq a43s87 (Sq a43s89 (Sq a43s91 a43s93))))) a43s100)))))))
def a43s109:=Ts [] [bP 94 .eql (.v 6) (.c (.int .u8 4)),mP 93 (.t 94)] (.t 93) (Sq a43s45 (Sq a43s47 (Bk 4 (Lp (Sq a43s49 (Sq (Bk 5 (Sq a43s53 a43s55)) a43s59)))))) a43s108
def a43s110:=Ts [] [bP 87 .eql (.v 6) (.c (.int .u8 3)),mP 86 (.t 87)] (.t 86) (Sq a43s39 a43s41) a43s109
def a43s114:=Rg [] [lP 136 2 true 4 (.l 2),xP (.stLc 1 4) [.l 1,.ts 136] 1]
def a43c : ACode :=
  (Sq a43s1 (Sq a43s3 (Sq (Bk 0 a43s29) (Sq a43s32 (Sq a43s34 (Sq (Sq a43s36 (Bk 1 a43s110)) (Sq a43s114 .ret)))))))
def a43 : AFn := { np := 1,nv := 7,results := [.bx 1 true 4],code := a43c }
def a43v : List Nat:=[0,2,3,4,5,6,41]
def a43b : List Nat := [1,2,5]

def a44 : AFn := { np := 1,nv := 0,results := [],code := .skip,ext := some (cloneX 4 72) }
def a45s1:=Rg [] [vP 2 (.c (.bool false))]
def a45s3:=Rg [] [nP 5 0,nP 6 1,oP 7 (.call 73) [.t 5,.t 6],bP 8 .geq (.t 7) (.c (.int .i64 0)),vP 2 (.t 8)]
def a45c : ACode :=
  (Sq a45s1 (Sq a45s3 .ret))
def a45 : AFn := { np := 2,nv := 3,results := [.v 2],code := a45c }
def a45v : List Nat:=[0,1,4]
def a45b : List Nat := []

def a46s1:=Rg [] [vP 2 (.c (.bool false))]
def a46s3:=Rg [] [nP 5 0,nP 6 1,oP 7 (.call 74) [.t 5,.t 6],vP 2 (.t 7)]
def a46c : ACode :=
  (Sq a46s1 (Sq a46s3 .ret))
def a46 : AFn := { np := 2,nv := 3,results := [.v 2],code := a46c }
def a46v : List Nat:=[0,1,4]
def a46b : List Nat := []

def a47s1:=Rg [2,3] [⟨.bx,.boxV,[.v 1],some 2,none⟩,⟨.bx,.alloc [.int .i64 0,.str []],[],some 3,none⟩]
def a47s3:=Rg [4] [fP 16 2 (.l 2),lP 17 2 false 1 (.t 16),oP 18 (.call 76) [.t 17],fP 19 3 (.l 2),lP 20 2 false 1 (.t 19),oP 21 (.app 1 16) [.ts 18,.t 20],oP 22 (.call 75) [.t 21],⟨.bx,.alloc [.int .i64 0,.str []],[],some 4,none⟩,xP (.stLc 4 2) [.l 4,.t 22] 4]
def a47s6:=Rg [] [lP 31 4 true 2 (.l 4),xP (.stLc 3 2) [.l 3,.t 31] 3]
def a47s8:=Ts [] [fP 23 0 (.l 4),lP 24 4 false 1 (.t 23),bP 25 .neq (.t 24) (.c (.int .i64 0)),mP 26 (.t 25),gP 27 (.fad 0) [.l 2] 26 true,⟨.t 28,.ldLc 2 false 1,[.t 27],some 2,some (.t 26,true)⟩,gP 29 (.bin .neq) [.t 28,.c (.int .u8 1)] 26 true,oP 30 .pick [.t 26,.t 29,.c (.bool false)]] (.t 30) (Sq a47s6 .ret) .skip
def a47s11:=Rg [5] [fP 32 2 (.l 2),lP 33 2 false 1 (.t 32),oP 34 (.call 76) [.t 33],oP 35 (.call 75) [.t 34],⟨.bx,.alloc [.int .i64 0,.str []],[],some 5,none⟩,xP (.stLc 5 2) [.l 5,.t 35] 5]
def a47s14:=Rg [] [lP 39 5 true 2 (.l 5),xP (.stLc 3 2) [.l 3,.t 39] 3]
def a47s16:=Ts [] [fP 36 0 (.l 5),lP 37 5 false 1 (.t 36),bP 38 .neq (.t 37) (.c (.int .i64 0))] (.t 38) (Sq a47s14 .ret) .skip
def a47s19:=Rg [6] [fP 40 3 (.l 2),lP 41 2 false 1 (.t 40),oP 42 (.call 75) [.t 41],⟨.bx,.alloc [.int .i64 0,.str []],[],some 6,none⟩,xP (.stLc 6 2) [.l 6,.t 42] 6]
def a47s22:=Rg [] [lP 46 6 true 2 (.l 6),xP (.stLc 3 2) [.l 3,.t 46] 3]
def a47s24:=Ts [] [fP 43 0 (.l 6),lP 44 6 false 1 (.t 43),bP 45 .neq (.t 44) (.c (.int .i64 0))] (.t 45) (Sq a47s22 .ret) .skip
def a47s27:=Rg [] [fP 47 2 (.l 2),⟨.v 13,.ldLc 2 false 1,[.t 47],some 2,none⟩,op (.v 14) .lenL [.v 13],vP 15 (.c (.int .i64 0))]
def a47s29:=Ts [] [bP 51 .lss (.v 15) (.v 14)] (.t 51) .skip (.exit 0)
def a47s31:=Rg [7] [oP 52 (.iad 11) [.v 13,.v 15],oP 53 (.ldRo true 11) [.t 52],⟨.bx,.alloc [.str [],.list true [],.str [],.list true [],.bool false,.bool false,.int .u8 0,.int .i64 0,.str [],.list true [],.list true []],[],some 7,none⟩,xP (.stLc 7 11) [.l 7,.ts 53] 7]
def a47s33:=Rg [8] [nP 54 0,lP 55 7 true 11 (.l 7),fP 56 0 (.l 2),lP 57 2 false 1 (.t 56),bP 58 .eql (.t 57) (.c (.int .u8 5)),oP 59 (.call 77) [.t 54,.t 55,.t 58],⟨.bx,.alloc [.int .i64 0,.str []],[],some 8,none⟩,xP (.stLc 8 2) [.l 8,.t 59] 8]
def a47s36:=Rg [] [lP 63 8 true 2 (.l 8),xP (.stLc 3 2) [.l 3,.t 63] 3]
def a47s38:=Ts [] [fP 60 0 (.l 8),lP 61 8 false 1 (.t 60),bP 62 .neq (.t 61) (.c (.int .i64 0))] (.t 62) (Sq a47s36 .ret) .skip
def a47s43:=Rg [] [bP 64 .add (.v 15) (.c (.int .i64 1)),vP 15 (.t 64)]
def a47s50:=Rg [] [oP 65 .mkM [],op .none (.mset 0) [.t 65,.c (.int .u8 1),.c (.int .u8 2)],op .none (.mset 0) [.t 65,.c (.int .u8 3),.c (.int .u8 1)],mP 66 (.t 65),fP 67 0 (.l 2),lP 68 2 false 1 (.t 67),oP 69 (.mget 0 [.int .u8 0] false false) [.t 66,.t 68],vP 9 (.t 69)]
def a47s52:=Rg [] [fP 70 3 (.l 2),⟨.v 16,.ldLc 2 false 1,[.t 70],some 2,none⟩,op (.v 17) .lenL [.v 16],vP 18 (.c (.int .i64 0))]
def a47s54:=Ts [] [bP 74 .lss (.v 18) (.v 17)] (.t 74) .skip (.exit 2)
def a47s56:=Rg [] [oP 75 (.iad 1) [.v 16,.v 18],oP 76 (.ldRo false 1) [.t 75],vP 10 (.t 76)]
def a47s58:=Rg [11] [nP 78 0,nP 79 10,oP 80 (.call 48) [.t 78,.t 79],mP 77 (.t 80),oP 81 (.ext 0) [.t 77],oP 82 (.ext 1) [.t 77],⟨.bx,.alloc [.int .u8 0,.str [],.list true [],.list true []],[],some 11,none⟩,xP (.stLc 11 4) [.l 11,.ts 81] 11,vP 12 (.t 82)]
def a47s62:=Rg [] [nP 90 10,oP 91 (.build [.int .i64 0,.str []] [(0,1),(1,1)]) [.c (.int .i64 6),.t 90],xP (.stLc 3 2) [.l 3,.t 91] 3]
def a47s66:=Rg [] [nP 101 10,oP 102 (.build [.int .i64 0,.str []] [(0,1),(1,1)]) [.c (.int .i64 8),.t 101],xP (.stLc 3 2) [.l 3,.t 102] 3]
def a47s70:=Rg [] [nP 114 10,oP 115 (.build [.int .i64 0,.str []] [(0,1),(1,1)]) [.c (.int .i64 3),.t 114],xP (.stLc 3 2) [.l 3,.t 115] 3]
def a47s72:=Ts [] [fP 104 0 (.l 2),lP 105 2 false 1 (.t 104),bP 106 .eql (.t 105) (.c (.int .u8 1)),mP 107 (.t 106),gP 108 .mv [.v 0] 107 true,⟨.t 109,.ldLc 2 true 4,[.l 2],some 2,some (.t 107,true)⟩,⟨.t 110,.ldLc 11 true 4,[.l 11],some 11,some (.t 107,true)⟩,gP 111 (.call 79) [.t 108,.t 109,.t 110] 107 true,gP 112 (.un .not) [.t 111] 107 true,oP 113 .pick [.t 107,.t 112,.c (.bool false)],mP 103 (.t 113)] (.t 103) (Sq a47s70 .ret) .skip
def a47s73:=Ts [] [fP 93 0 (.l 11),lP 94 11 false 1 (.t 93),nP 95 9,bP 96 .neq (.t 94) (.t 95),mP 97 (.t 96),gP 98 .mv [.v 10] 97 false,gP 99 (.call 78) [.t 98] 97 false,oP 100 .pick [.t 97,.c (.bool true),.t 99],mP 92 (.t 100)] (.t 92) (Sq a47s66 .ret) a47s72
def a47s74:=Ts [] [nP 88 12,oP 89 (.un .not) [.t 88],mP 87 (.t 89)] (.t 87) (Sq a47s62 .ret) a47s73
def a47s75:=Ts [] [fP 84 0 (.l 2),lP 85 2 false 1 (.t 84),bP 86 .eql (.t 85) (.c (.int .u8 4)),mP 83 (.t 86)] (.t 83) .skip a47s74
def a47s81:=Rg [] [bP 116 .add (.v 18) (.c (.int .i64 1)),vP 18 (.t 116)]
def a47s88:=Rg [] [oP 117 (.build [.int .i64 0,.str []] []) [],xP (.stLc 3 2) [.l 3,.t 117] 3]
def a47c : ACode :=
  (Sq a47s1 (Sq (Sq a47s3 a47s8) (Sq (Sq a47s11 a47s16) (Sq (Sq a47s19 a47s24) (Sq (Sq a47s27 (Bk 0 (Lp (Sq a47s29 (Sq (Bk 1 (Sq a47s31 (Sq a47s33 a47s38))) a47s43))))) (Sq a47s50 (Sq (Sq a47s52 (Bk 2 (Lp (Sq a47s54 (Sq (Bk 3 (Sq a47s56 (Sq a47s58 (Bk 4 a47s75)))) a47s81))))) (Sq a47s88 .ret))))))))
def a47 : AFn := { np := 2,nv := 19,results := [.bx 3 true 2],code := a47c }
def a47v : List Nat:=[0,1,3,4,5,6,7,9,10,11,13,14,15,48,49,50,71,72,73]
def a47b : List Nat := [2,3,4,5,6,7,8,11]

def a48s1:=Rg [2] [⟨.bx,.alloc [.int .u8 0,.str [],.list true [],.list true []],[],some 2,none⟩,vP 3 (.c (.bool false))]
def a48s4:=Rg [] [oP 10 (.build [.int .u8 0,.str [],.list true [],.list true []] []) [],xP (.stLc 2 4) [.l 2,.ts 10] 2,vP 3 (.c (.bool false))]
def a48s5:=Sq a48s4 .ret
def a48s6:=Ts [] [nP 8 0,oP 9 (.binP .eql) [.t 8,.c (.nilp)]] (.t 9) a48s5 .skip
def a48s8:=Rg [] [nP 12 0,oP 13 .nilchk [.t 12],fP 14 1 (.t 13),oP 15 (.ldSt false 1) [.t 14],nP 16 1,oP 17 (.mget 1 [.int .i64 0] false true) [.t 15,.t 16],mP 11 (.t 17),oP 18 (.ext 0) [.t 11],oP 19 (.ext 1) [.t 11],vP 4 (.t 18),vP 5 (.t 19)]
def a48s11:=Rg [] [oP 22 (.build [.int .u8 0,.str [],.list true [],.list true []] []) [],xP (.stLc 2 4) [.l 2,.ts 22] 2,vP 3 (.c (.bool false))]
def a48s12:=Sq a48s11 .ret
def a48s13:=Ts [] [nP 20 5,oP 21 (.un .not) [.t 20]] (.t 21) a48s12 .skip
def a48s15:=Rg [] [nP 23 0,oP 24 .nilchk [.t 23],fP 25 0 (.t 24),oP 26 (.ldSt false 1) [.t 25],nP 27 4,oP 28 (.iad 4) [.t 26,.t 27],oP 29 (.ldRo true 4) [.t 28],xP (.stLc 2 4) [.l 2,.ts 29] 2,vP 3 (.c (.bool true))]
def a48c : ACode :=
  (Sq a48s1 (Sq a48s6 (Sq a48s8 (Sq a48s13 (Sq a48s15 .ret)))))
def a48 : AFn := { np := 2,nv := 6,results := [.bx 2 true 4,.v 3],code := a48c }
def a48v : List Nat:=[0,1,4,5,6,7]
def a48b : List Nat := [2]

def a49s1:=Rg [2,3] [⟨.bx,.boxV,[.v 1],some 2,none⟩,⟨.bx,.alloc [.int .i64 0,.str []],[],some 3,none⟩]
def a49s4:=Rg [] [oP 16 (.build [.int .i64 0,.str []] []) [],xP (.stLc 3 2) [.l 3,.t 16] 3]
def a49s6:=Ts [] [fP 8 0 (.l 2),lP 9 2 false 1 (.t 8),bP 10 .neq (.t 9) (.c (.int .u8 1)),mP 11 (.t 10),gP 12 (.fad 0) [.l 2] 11 true,⟨.t 13,.ldLc 2 false 1,[.t 12],some 2,some (.t 11,true)⟩,gP 14 (.bin .neq) [.t 13,.c (.int .u8 2)] 11 true,oP 15 .pick [.t 11,.t 14,.c (.bool false)]] (.t 15) (Sq a49s4 .ret) .skip
def a49s8:=Rg [] [fP 17 2 (.l 2),⟨.v 6,.ldLc 2 false 1,[.t 17],some 2,none⟩,op (.v 7) .lenL [.v 6],vP 8 (.c (.int .i64 0))]
def a49s10:=Ts [] [bP 21 .lss (.v 8) (.v 7)] (.t 21) .skip (.exit 0)
def a49s12:=Rg [4] [oP 22 (.iad 11) [.v 6,.v 8],oP 23 (.ldRo true 11) [.t 22],⟨.bx,.alloc [.str [],.list true [],.str [],.list true [],.bool false,.bool false,.int .u8 0,.int .i64 0,.str [],.list true [],.list true []],[],some 4,none⟩,xP (.stLc 4 11) [.l 4,.ts 23] 4]
def a49s14:=Rg [] [fP 24 1 (.l 4),lP 25 4 false 1 (.t 24),oP 26 .lenL [.t 25],bP 27 .eql (.t 26) (.c (.int .i64 0)),vP 5 (.t 27)]
def a49s16:=Rg [] [fP 28 1 (.l 2),⟨.v 9,.ldLc 2 false 1,[.t 28],some 2,none⟩]
def a49s19:=Rg [] [nP 32 0,lP 33 4 true 11 (.l 4),oP 34 (.call 80) [.t 32,.t 33],mP 35 (.t 34),gP 36 .mv [.v 0] 35 false,⟨.t 37,.ldLc 4 true 11,[.l 4],some 4,some (.t 35,false)⟩,gP 38 (.call 81) [.t 36,.t 37] 35 false,oP 39 .pick [.t 35,.c (.bool true),.t 38],vP 5 (.t 39)]
def a49s22:=Rg [] [fP 42 0 (.l 2),lP 43 2 false 1 (.t 42),bP 44 .eql (.t 43) (.c (.int .u8 1)),mP 45 (.t 44),gP 46 .mv [.v 0] 45 true,⟨.t 47,.ldLc 4 true 11,[.l 4],some 4,some (.t 45,true)⟩,gP 48 (.call 82) [.t 46,.t 47] 45 true,oP 49 .pick [.t 45,.t 48,.c (.bool false)],vP 5 (.t 49)]
def a49s23:=Ts [] [oP 41 (.bin .eql) [.v 9,.c (.str [77,117,116,97,116,105,111,110])],mP 40 (.t 41)] (.t 40) a49s22 .skip
def a49s24:=Ts [] [oP 31 (.bin .eql) [.v 9,.c (.str [81,117,101,114,121])],mP 30 (.t 31)] (.t 30) a49s19 a49s23
def a49s29:=Rg [] [fP 52 0 (.l 4),lP 53 4 false 1 (.t 52),oP 54 (.build [.int .i64 0,.str []] [(0,1),(1,1)]) [.c (.int .i64 3),.t 53],xP (.stLc 3 2) [.l 3,.t 54] 3]
def a49s31:=Ts [] [nP 50 5,oP 51 (.un .not) [.t 50]] (.t 51) (Sq a49s29 .ret) .skip
def a49s37:=Rg [] [bP 55 .add (.v 8) (.c (.int .i64 1)),vP 8 (.t 55)]
def a49s44:=Rg [] [oP 56 (.build [.int .i64 0,.str []] []) [],xP (.stLc 3 2) [.l 3,.t 56] 3]
def a49c : ACode :=
  (Sq a49s1 (Sq a49s6 (Sq (Sq a49s8 (Bk 0 (Lp (Sq a49s10 (Sq (Bk 1 (Sq a49s12 (Sq a49s14 (Sq (Sq a49s16 (Bk 2 a49s24)) a49s31)))) a49s37))))) (Sq a49s44 .ret))))
def a49 : AFn := { np := 2,nv := 10,results := [.bx 3 true 2],code := a49c }
def a49v : List Nat:=[0,1,3,4,6,7,18,19,20,29]
def a49b : List Nat := [2,3,4]

def a50s1:=Rg [] [vP 1 (.c (.bool false))]
def a50s3:=Rg [] [nP 3 0,oP 4 (.bin .eql) [.t 3,.c (.str [66,111,111,108,101,97,110])],mP 5 (.t 4),gP 6 .mv [.v 0] 5 false,gP 7 (.bin .eql) [.t 6,.c (.str [73,68])] 5 false,oP 8 .pick [.t 5,.c (.bool true),.t 7],mP 9 (.t 8),gP 10 .mv [.v 0] 9 false,gP 11 (.bin .eql) [.t 10,.c (.str [73,110,116])] 9 false,oP 12 .pick [.t 9,.c (.bool true),.t 11],mP 13 (.t 12),gP 14 .mv [.v 0] 13 false,gP 15 (.bin .eql) [.t 14,.c (.str [83,116,114,105,110,103])] 13 false,oP 16 .pick [.t 13,.c (.bool true),.t 15],vP 1 (.t 16)]
def a50c : ACode :=
  (Sq a50s1 (Sq a50s3 .ret))
def a50 : AFn := { np := 1,nv := 2,results := [.v 1],code := a50c }
def a50v : List Nat:=[0,2]
def a50b : List Nat := []

def a51s1:=Rg [] [vP 2 (.c (.bool false))]
def a51s3:=Rg [] [vP 3 (.c (.int .i64 0))]
def a51s5:=Ts [] [nP 6 3,nP 7 0,oP 8 .lenL [.t 7],bP 9 .lss (.t 6) (.t 8)] (.t 9) .skip (.exit 0)
def a51s8:=Rg [] [vP 2 (.c (.bool true))]
def a51s10:=Ts [] [nP 12 0,nP 13 3,oP 14 (.iad 1) [.t 12,.t 13],oP 15 (.ldRo false 1) [.t 14],nP 16 1,bP 17 .eql (.t 15) (.t 16)] (.t 17) (Sq a51s8 .ret) .skip
def a51s13:=Rg [] [nP 10 3,bP 11 .add (.t 10) (.c (.int .i64 1)),vP 3 (.t 11)]
def a51s20:=Rg [] [vP 2 (.c (.bool false))]
def a51c : ACode :=
  (Sq a51s1 (Sq (Sq a51s3 (Bk 0 (Lp (Sq a51s5 (Sq (Bk 1 a51s10) a51s13))))) (Sq a51s20 .ret)))
def a51 : AFn := { np := 2,nv := 4,results := [.v 2],code := a51c }
def a51v : List Nat:=[0,1,4,5]
def a51b : List Nat := []

def a52s1:=Rg [] [vP 2 (.c (.bool false))]
def a52s3:=Rg [] [nP 5 0,oP 6 .lenS [.t 5],nP 7 1,oP 8 .lenS [.t 7],bP 9 .geq (.t 6) (.t 8),mP 10 (.t 9),gP 11 .mv [.v 0] 10 true,gP 12 .mv [.v 1] 10 true,gP 13 .lenS [.t 12] 10 true,gP 14 (.slS false true) [.t 11,.t 13] 10 true,gP 15 .mv [.v 1] 10 true,gP 16 (.bin .eql) [.t 14,.t 15] 10 true,oP 17 .pick [.t 10,.t 16,.c (.bool false)],vP 2 (.t 17)]
def a52c : ACode :=
  (Sq a52s1 (Sq a52s3 .ret))
def a52 : AFn := { np := 2,nv := 3,results := [.v 2],code := a52c }
def a52v : List Nat:=[0,1,4]
def a52b : List Nat := []

def a53s1:=Rg [2] [⟨.bx,.boxV,[.v 1],some 2,none⟩,op (.v 3) .mv [.c (.str [])],vP 4 (.c (.int .i64 0))]
def a53s4:=Rg [] [fP 23 2 (.l 2),lP 24 2 false 1 (.t 23),oP 25 (.call 84) [.t 24],oP 26 (.call 83) [.t 25],mP 22 (.t 26),oP 27 (.ext 0) [.t 22],oP 28 (.ext 1) [.t 22],vP 5 (.t 27),vP 6 (.t 28)]
def a53s7:=Rg [] [nP 31 5,nP 32 6,vP 3 (.t 31),vP 4 (.t 32)]
def a53s9:=Ts [] [nP 29 6,bP 30 .neq (.t 29) (.c (.int .i64 0))] (.t 30) (Sq a53s7 .ret) .skip
def a53s11:=Rg [] [fP 34 3 (.l 2),lP 35 2 false 1 (.t 34),oP 36 (.call 83) [.t 35],mP 33 (.t 36),oP 37 (.ext 0) [.t 33],oP 38 (.ext 1) [.t 33],vP 5 (.t 37),vP 6 (.t 38)]
def a53s14:=Rg [] [nP 41 5,nP 42 6,vP 3 (.t 41),vP 4 (.t 42)]
def a53s16:=Ts [] [nP 39 6,bP 40 .neq (.t 39) (.c (.int .i64 0))] (.t 40) (Sq a53s14 .ret) .skip
def a53s21:=Rg [] [op (.v 7) .mv [.c (.list true [])]]
def a53s23:=Rg [] [mP 43 (.vs 7),fP 44 2 (.l 2),lP 45 2 false 1 (.t 44),oP 46 (.call 84) [.t 45],oP 47 (.app 1 16) [.ts 43,.t 46],vP 7 (.ts 47)]
def a53s25:=Rg [] [mP 49 (.vs 7),fP 50 3 (.l 2),lP 51 2 false 1 (.t 50),oP 52 (.app 1 16) [.ts 49,.t 51],oP 53 (.call 83) [.t 52],mP 48 (.t 53),oP 54 (.ext 0) [.t 48],oP 55 (.ext 1) [.t 48],vP 8 (.t 54),vP 9 (.t 55)]
def a53s28:=Rg [] [nP 58 8,nP 59 9,vP 3 (.t 58),vP 4 (.t 59)]
def a53s30:=Ts [] [nP 56 9,bP 57 .neq (.t 56) (.c (.int .i64 0))] (.t 57) (Sq a53s28 .ret) .skip
def a53s34:=Ts [] [fP 19 0 (.l 2),lP 20 2 false 1 (.t 19),bP 21 .eql (.t 20) (.c (.int .u8 1))] (.t 21) (Sq a53s4 (Sq a53s9 (Sq a53s11 a53s16))) (Sq a53s21 (Sq a53s23 (Sq a53s25 a53s30)))
def a53s36:=Rg [] [vP 10 (.c (.int .i64 0))]
def a53s38:=Ts [] [nP 60 10,fP 61 2 (.l 2),lP 62 2 false 1 (.t 61),oP 63 .lenL [.t 62],bP 64 .lss (.t 60) (.t 63)] (.t 64) .skip (.exit 0)
def a53s40:=Rg [] [nP 68 0,fP 69 2 (.l 2),lP 70 2 false 1 (.t 69),nP 71 10,oP 72 (.iad 11) [.t 70,.t 71],oP 73 (.ldRo true 11) [.t 72],fP 74 0 (.l 2),lP 75 2 false 1 (.t 74),bP 76 .eql (.t 75) (.c (.int .u8 5)),oP 77 (.call 85) [.t 68,.t 73,.t 76],mP 67 (.t 77),oP 78 (.ext 0) [.t 67],oP 79 (.ext 1) [.t 67],vP 11 (.t 78),vP 12 (.t 79)]
def a53s43:=Rg [] [nP 82 11,nP 83 12,vP 3 (.t 82),vP 4 (.t 83)]
def a53s45:=Ts [] [nP 80 12,bP 81 .neq (.t 80) (.c (.int .i64 0))] (.t 81) (Sq a53s43 .ret) .skip
def a53s49:=Rg [] [nP 65 10,bP 66 .add (.t 65) (.c (.int .i64 1)),vP 10 (.t 66)]
def a53s56:=Rg [] [vP 13 (.c (.int .i64 0))]
def a53s58:=Ts [] [nP 84 13,fP 85 3 (.l 2),lP 86 2 false 1 (.t 85),oP 87 .lenL [.t 86],bP 88 .lss (.t 84) (.t 87),mP 89 (.t 88),gP 90 (.fad 0) [.l 2] 89 true,⟨.t 91,.ldLc 2 false 1,[.t 90],some 2,some (.t 89,true)⟩,gP 92 (.bin .neq) [.t 91,.c (.int .u8 4)] 89 true,oP 93 .pick [.t 89,.t 92,.c (.bool false)]] (.t 93) .skip (.exit 2)
def a53s60:=Rg [] [fP 96 3 (.l 2),lP 97 2 false 1 (.t 96),nP 98 13,oP 99 (.iad 1) [.t 97,.t 98],oP 100 (.ldRo false 1) [.t 99],vP 14 (.t 100)]
def a53s62:=Rg [15] [nP 101 0,nP 102 14,oP 103 (.call 54) [.t 101,.t 102],⟨.bx,.alloc [.int .u8 0,.str [],.list true [],.list true []],[],some 15,none⟩,xP (.stLc 15 4) [.l 15,.ts 103] 15]
def a53s65:=Rg [] [nP 108 14,vP 3 (.t 108),vP 4 (.c (.int .i64 6))]
def a53s69:=Rg [] [nP 137 14,vP 3 (.t 137),vP 4 (.c (.int .i64 8))]
def a53s71:=Ts [] [fP 110 0 (.l 2),lP 111 2 false 1 (.t 110),bP 112 .eql (.t 111) (.c (.int .u8 1)),mP 113 (.t 112),gP 114 (.fad 0) [.l 15] 113 true,⟨.t 115,.ldLc 15 false 1,[.t 114],some 15,some (.t 113,true)⟩,gP 116 (.bin .neq) [.t 115,.c (.int .u8 2)] 113 true,oP 117 .pick [.t 113,.t 116,.c (.bool false)],mP 118 (.t 117),gP 119 (.fad 0) [.l 2] 118 false,⟨.t 120,.ldLc 2 false 1,[.t 119],some 2,some (.t 118,false)⟩,gP 121 (.bin .eql) [.t 120,.c (.int .u8 3)] 118 false,gP 122 .mv [.t 121] 118 false,gP 123 (.fad 0) [.l 15] 122 true,⟨.t 124,.ldLc 15 false 1,[.t 123],some 15,some (.t 122,true)⟩,gP 125 (.bin .neq) [.t 124,.c (.int .u8 1)] 122 true,gP 126 .pick [.t 122,.t 125,.c (.bool false)] 118 false,oP 127 .pick [.t 118,.c (.bool true),.t 126],mP 128 (.t 127),gP 129 (.fad 0) [.l 2] 128 false,⟨.t 130,.ldLc 2 false 1,[.t 129],some 2,some (.t 128,false)⟩,gP 131 (.bin .eql) [.t 130,.c (.int .u8 2)] 128 false,oP 132 .pick [.t 128,.c (.bool true),.t 131],mP 133 (.t 132),gP 134 .mv [.v 14] 133 false,gP 135 (.call 86) [.t 134] 133 false,oP 136 .pick [.t 133,.c (.bool true),.t 135],mP 109 (.t 136)] (.t 109) (Sq a53s69 .ret) .skip
def a53s72:=Ts [] [fP 105 0 (.l 15),lP 106 15 false 1 (.t 105),bP 107 .eql (.t 106) (.c (.int .u8 0)),mP 104 (.t 107)] (.t 104) (Sq a53s65 .ret) a53s71
def a53s75:=Rg [] [vP 16 (.c (.int .i64 0))]
def a53s77:=Ts [] [nP 138 16,fP 139 2 (.l 15),lP 140 15 false 1 (.t 139),oP 141 .lenL [.t 140],bP 142 .lss (.t 138) (.t 141),mP 143 (.t 142),gP 144 (.fad 0) [.l 2] 143 true,⟨.t 145,.ldLc 2 false 1,[.t 144],some 2,some (.t 143,true)⟩,gP 146 (.bin .eql) [.t 145,.c (.int .u8 1)] 143 true,oP 147 .pick [.t 143,.t 146,.c (.bool false)]] (.t 147) .skip (.exit 5)
def a53s79:=Rg [] [fP 150 2 (.l 2),lP 151 2 false 1 (.t 150),fP 152 2 (.l 15),lP 153 15 false 1 (.t 152),nP 154 16,oP 155 (.iad 11) [.t 153,.t 154],fP 156 0 (.t 155),oP 157 (.ldRo false 1) [.t 156],oP 158 (.call 87) [.t 151,.t 157],vP 17 (.t 158)]
def a53s82:=Rg [] [nP 177 14,vP 3 (.t 177),vP 4 (.c (.int .i64 3))]
def a53s84:=Ts [] [nP 159 17,bP 160 .lss (.t 159) (.c (.int .i64 0)),mP 161 (.t 160),gP 162 (.fad 2) [.l 2] 161 false,⟨.t 163,.ldLc 2 false 1,[.t 162],some 2,some (.t 161,false)⟩,gP 164 .mv [.v 17] 161 false,gP 165 (.iad 11) [.t 163,.t 164] 161 false,gP 166 (.fad 2) [.t 165] 161 false,gP 167 (.ldRo true 3) [.t 166] 161 false,gP 168 (.fad 2) [.l 15] 161 false,⟨.t 169,.ldLc 15 false 1,[.t 168],some 15,some (.t 161,false)⟩,gP 170 .mv [.v 16] 161 false,gP 171 (.iad 11) [.t 169,.t 170] 161 false,gP 172 (.fad 2) [.t 171] 161 false,gP 173 (.ldRo true 3) [.t 172] 161 false,gP 174 (.call 88) [.t 167,.t 173] 161 false,gP 175 (.un .not) [.t 174] 161 false,oP 176 .pick [.t 161,.c (.bool true),.t 175]] (.t 176) (Sq a53s82 .ret) .skip
def a53s88:=Rg [] [nP 148 16,bP 149 .add (.t 148) (.c (.int .i64 1)),vP 16 (.t 149)]
def a53s99:=Rg [] [nP 94 13,bP 95 .add (.t 94) (.c (.int .i64 1)),vP 13 (.t 95)]
def a53s106:=Rg [] [op (.v 3) .mv [.c (.str [])],vP 4 (.c (.int .i64 0))]
def a53c : ACode :=
  (Sq a53s1 (Sq a53s34 (Sq (Sq a53s36 (Bk 0 (Lp (Sq a53s38 (Sq (Bk 1 (Sq a53s40 a53s45)) a53s49))))) (Sq (Sq a53s56 (Bk 2 (Lp (Sq a53s58 (Sq (Bk 3 (Sq a53s60 (Sq a53s62 (Sq (Bk 4 a53s72) (Sq a53s75 (Bk 5 (Lp (Sq a53s77 (Sq (Bk 6 (Sq a53s79 a53s84)) a53s88))))))))) a53s99))))) (Sq a53s106 .ret)))))
def a53 : AFn := { np := 2,nv := 18,results := [.v 3,.v 4],code := a53c }
def a53v : List Nat:=[0,1,3,4,5,6,7,8,9,10,11,12,13,14,15,16,17,18]
def a53b : List Nat := [2,15]

def a54s1:=Rg [2] [⟨.bx,.alloc [.int .u8 0,.str [],.list true [],.list true []],[],some 2,none⟩]
def a54s3:=Rg [] [vP 3 (.c (.int .i64 0))]
def a54s5:=Ts [] [nP 6 3,nP 7 0,oP 8 .nilchk [.t 7],fP 9 0 (.t 8),oP 10 (.ldSt false 1) [.t 9],oP 11 .lenL [.t 10],bP 12 .lss (.t 6) (.t 11)] (.t 12) .skip (.exit 0)
def a54s8:=Rg [] [nP 25 0,oP 26 .nilchk [.t 25],fP 27 0 (.t 26),oP 28 (.ldSt false 1) [.t 27],nP 29 3,oP 30 (.iad 4) [.t 28,.t 29],oP 31 (.ldRo true 4) [.t 30],xP (.stLc 2 4) [.l 2,.ts 31] 2]
def a54s10:=Ts [] [nP 15 0,oP 16 .nilchk [.t 15],fP 17 0 (.t 16),oP 18 (.ldSt false 1) [.t 17],nP 19 3,oP 20 (.iad 4) [.t 18,.t 19],fP 21 1 (.t 20),oP 22 (.ldRo false 1) [.t 21],nP 23 1,bP 24 .eql (.t 22) (.t 23)] (.t 24) (Sq a54s8 .ret) .skip
def a54s13:=Rg [] [nP 13 3,bP 14 .add (.t 13) (.c (.int .i64 1)),vP 3 (.t 14)]
def a54s20:=Rg [] [oP 32 (.build [.int .u8 0,.str [],.list true [],.list true []] []) [],xP (.stLc 2 4) [.l 2,.ts 32] 2]
def a54c : ACode :=
  (Sq a54s1 (Sq (Sq a54s3 (Bk 0 (Lp (Sq a54s5 (Sq (Bk 1 a54s10) a54s13))))) (Sq a54s20 .ret)))
def a54 : AFn := { np := 2,nv := 4,results := [.bx 2 true 4],code := a54c }
def a54v : List Nat:=[0,1,4,5]
def a54b : List Nat := [2]

def a55s1:=Rg [3,4] [⟨.bx,.boxV,[.v 1],some 3,none⟩,⟨.bx,.boxV,[.v 2],some 4,none⟩,vP 5 (.c (.bool false))]
def a55s3:=Rg [] [fP 8 1 (.l 3),⟨.v 7,.ldLc 3 false 1,[.t 8],some 3,none⟩]
def a55s6:=Rg [] [fP 12 2 (.l 4),lP 13 4 true 3 (.t 12),oP 14 (.call 89) [.t 13],vP 6 (.t 14)]
def a55s9:=Rg [] [vP 5 (.c (.bool false))]
def a55s11:=Ts [] [nP 15 0,nP 16 6,oP 17 (.call 90) [.t 15,.t 16],oP 18 (.un .not) [.t 17]] (.t 18) (Sq a55s9 .ret) .skip
def a55s14:=Rg [] [fP 23 1 (.l 4),lP 24 4 false 1 (.t 23),oP 25 (.iad 11) [.t 24,.c (.int .i64 0)],oP 26 (.ldRo true 11) [.t 25],oP 27 (.call 91) [.t 26],mP 28 (.t 27),gP 29 (.fad 2) [.l 4] 28 true,gP 30 (.fad 1) [.t 29] 28 true,⟨.t 31,.ldLc 4 false 1,[.t 30],some 4,some (.t 28,true)⟩,gP 32 .lenL [.t 31] 28 true,gP 33 (.bin .eql) [.t 32,.c (.int .i64 0)] 28 true,oP 34 .pick [.t 28,.t 33,.c (.bool false)],mP 35 (.t 34),gP 36 (.fad 2) [.l 4] 35 true,gP 37 (.fad 2) [.t 36] 35 true,⟨.t 38,.ldLc 4 false 1,[.t 37],some 4,some (.t 35,true)⟩,gP 39 (.un .not) [.t 38] 35 true,oP 40 .pick [.t 35,.t 39,.c (.bool false)],vP 5 (.t 40)]
def a55s16:=Ts [] [fP 19 1 (.l 4),lP 20 4 false 1 (.t 19),oP 21 .lenL [.t 20],bP 22 .eql (.t 21) (.c (.int .i64 1))] (.t 22) (Sq a55s14 .ret) .skip
def a55s18:=Rg [] [fP 41 1 (.l 4),lP 42 4 false 1 (.t 41),oP 43 .lenL [.t 42],bP 44 .eql (.t 43) (.c (.int .i64 0)),mP 45 (.t 44),gP 46 (.fad 2) [.l 4] 45 true,gP 47 (.fad 1) [.t 46] 45 true,⟨.t 48,.ldLc 4 false 1,[.t 47],some 4,some (.t 45,true)⟩,gP 49 .lenL [.t 48] 45 true,gP 50 (.bin .gtr) [.t 49,.c (.int .i64 0)] 45 true,oP 51 .pick [.t 45,.t 50,.c (.bool false)],mP 52 (.t 51),gP 53 (.fad 2) [.l 4] 52 true,gP 54 (.fad 2) [.t 53] 52 true,⟨.t 55,.ldLc 4 false 1,[.t 54],some 4,some (.t 52,true)⟩,oP 56 .pick [.t 52,.t 55,.c (.bool false)],mP 57 (.t 56),gP 58 (.fad 2) [.l 4] 57 true,gP 59 (.fad 0) [.t 58] 57 true,⟨.t 60,.ldLc 4 false 1,[.t 59],some 4,some (.t 57,true)⟩,gP 61 (.bin .eql) [.t 60,.c (.str [])] 57 true,oP 62 .pick [.t 57,.t 61,.c (.bool false)],mP 63 (.t 62),gP 64 (.fad 2) [.l 4] 63 true,gP 65 (.fad 1) [.t 64] 63 true,⟨.t 66,.ldLc 4 false 1,[.t 65],some 4,some (.t 63,true)⟩,gP 67 (.iad 3) [.t 66,.c (.int .i64 0)] 63 true,gP 68 (.fad 1) [.t 67] 63 true,gP 69 (.ldRo false 1) [.t 68] 63 true,gP 70 .lenL [.t 69] 63 true,gP 71 (.bin .eql) [.t 70,.c (.int .i64 0)] 63 true,oP 72 .pick [.t 63,.t 71,.c (.bool false)],mP 73 (.t 72),gP 74 (.fad 2) [.l 4] 73 true,gP 75 (.fad 1) [.t 74] 73 true,⟨.t 76,.ldLc 4 false 1,[.t 75],some 4,some (.t 73,true)⟩,gP 77 (.iad 3) [.t 76,.c (.int .i64 0)] 73 true,gP 78 (.fad 2) [.t 77] 73 true,gP 79 (.ldRo false 1) [.t 78] 73 true,oP 80 .pick [.t 73,.t 79,.c (.bool false)],vP 5 (.t 80)]
def a55s25:=Rg [] [fP 83 0 (.l 3),lP 84 3 false 1 (.t 83),bP 85 .eql (.t 84) (.c (.int .u8 1)),mP 86 (.t 85),gP 87 .mv [.v 0] 86 true,⟨.t 88,.ldLc 4 true 11,[.l 4],some 4,some (.t 86,true)⟩,gP 89 (.call 92) [.t 87,.t 88] 86 true,oP 90 .pick [.t 86,.t 89,.c (.bool false)],vP 5 (.t 90)]
def a55s27:=Ts [] [oP 82 (.bin .eql) [.v 7,.c (.str [77,117,116,97,116,105,111,110])],mP 81 (.t 82)] (.t 81) (Sq a55s25 .ret) .skip
def a55s28:=Ts [] [oP 11 (.bin .eql) [.v 7,.c (.str [81,117,101,114,121])],mP 10 (.t 11)] (.t 10) (Sq a55s6 (Sq a55s11 (Sq a55s16 (Sq a55s18 .ret)))) a55s27
def a55s32:=Rg [] [fP 91 1 (.l 4),lP 92 4 false 1 (.t 91),oP 93 .lenL [.t 92],bP 94 .eql (.t 93) (.c (.int .i64 0)),vP 5 (.t 94)]
def a55c : ACode :=
  (Sq a55s1 (Sq (Sq a55s3 (Bk 0 a55s28)) (Sq a55s32 .ret)))
def a55 : AFn := { np := 3,nv := 8,results := [.v 5],code := a55c }
def a55v : List Nat:=[0,1,2,4,5,6,7,9]
def a55b : List Nat := [3,4]

def a56s1:=Rg [3] [op (.v 2) .boxO [.v 0],⟨.bx,.boxV,[.v 1],some 3,none⟩,vP 4 (.c (.bool false))]
def a56s3:=Rg [] [fP 5 5 (.l 3),lP 6 3 false 1 (.t 5),oP 7 (.mkF 94 0) [.v 2],oP 8 (.call 93) [.t 6,.t 7],oP 9 (.un .not) [.t 8],vP 4 (.t 9)]
def a56c : ACode :=
  (Sq a56s1 (Sq a56s3 .ret))
def a56 : AFn := { np := 2,nv := 5,results := [.v 4],code := a56c }
def a56v : List Nat:=[0,1,2,3,4]
def a56b : List Nat := [3]

def a57s1:=Rg [2] [⟨.bx,.boxV,[.v 1],some 2,none⟩]
def a57s3:=Rg [] [fP 6 2 (.l 2),lP 7 2 false 1 (.t 6),op (.v 3) (.allocO [.str []]) [],op .none (.stSt 1) [.v 3,.t 7]]
def a57s6:=Rg [] [fP 11 1 (.l 2),lP 12 2 false 1 (.t 11),op .none (.stSt 1) [.v 3,.t 12]]
def a57s7:=Ts [] [fP 8 1 (.l 2),lP 9 2 false 1 (.t 8),oP 10 (.bin .neq) [.t 9,.c (.str [])]] (.t 10) a57s6 .skip
def a57s9:=Rg [] [nP 13 0,oP 14 .nilchk [.t 13],fP 15 10 (.t 14),oP 16 (.ldSt false 1) [.t 15],oP 17 (.mkF 97 0) [.v 3],oP 18 (.call 96) [.t 16,.t 17],vP 4 (.t 18)]
def a57s12:=Rg [] [nP 21 0,nP 22 0,oP 23 .nilchk [.t 22],fP 24 10 (.t 23),oP 25 .ldStS [.t 24],oP 26 (.ldSt false 1) [.v 3],oP 27 (.build [.str [],.list true []] [(0,1),(1,1)]) [.t 26,.c (.list true [])],oP 28 (.bsliceM 2 [[.str [],.list true []]] [0]) [.ts 27],oP 29 (.appM 2 40) [.ts 25,.t 28],oP 30 .nilchk [.t 21],fP 31 10 (.t 30),op .none (.stSt 1) [.t 31,.t 29]]
def a57s14:=Rg [] [nP 32 0,oP 33 .nilchk [.t 32],fP 34 10 (.t 33),oP 35 (.ldSt false 1) [.t 34],oP 36 .lenL [.t 35],bP 37 .sub (.t 36) (.c (.int .i64 1)),vP 4 (.t 37)]
def a57s15:=Sq a57s12 a57s14
def a57s16:=Ts [] [nP 19 4,bP 20 .lss (.t 19) (.c (.int .i64 0))] (.t 20) a57s15 .skip
def a57s18:=Rg [] [nP 40 0,oP 41 .nilchk [.t 40],fP 42 10 (.t 41),oP 43 (.ldSt false 1) [.t 42],nP 44 4,oP 45 (.iad 2) [.t 43,.t 44],fP 46 1 (.t 45),oP 47 .ldStS [.t 46],⟨.v 5,.ldLc 2 true 7,[.l 2],some 2,none⟩,op (.v 6) .lenL [.t 47],oP 50 (.bsliceM 7 [[.int .u8 0,.str [],.str [],.str [],.list true [],.list true [],.list true []]] [0]) [.c (.agg [.int .u8 0,.str [],.str [],.str [],.list true [],.list true [],.list true []])],op (.v 7) (.appM 7 128) [.ts 47,.t 50],oP 52 (.iad 2) [.t 43,.t 44],fP 53 1 (.t 52),op .none (.stSt 1) [.t 53,.v 7]]
def a57s20:=Rg [] [oP 54 (.iad 7) [.v 7,.v 6],op .none (.stSt 7) [.t 54,.v 5]]
def a57s21:=Sq a57s18 a57s20
def a57s23:=Rg [] [nP 55 0,oP 56 .nilchk [.t 55],fP 57 10 (.t 56),oP 58 (.ldStR false 1) [.t 57,.v 0],nP 59 4,nP 60 0,oP 61 .nilchk [.t 60],fP 62 10 (.t 61),oP 63 (.ldSt false 1) [.t 62],nP 64 4,oP 65 (.iad 2) [.t 63,.t 64],fP 66 1 (.t 65),oP 67 .ldStS [.t 66],lP 68 2 true 7 (.l 2),oP 69 (.bsliceM 7 [[.int .u8 0,.str [],.str [],.str [],.list true [],.list true [],.list true []]] [0]) [.ts 68],oP 70 (.appM 7 128) [.ts 67,.t 69,.v 0],oP 71 (.iad 2) [.t 58,.t 59],fP 72 1 (.t 71),op .none (.stSt 1) [.t 72,.t 70]]
def a57s24 : ACode := .either [5,6,7] a57s21 a57s23
def a57c : ACode :=
  (Sq a57s1 (Sq a57s3 (Sq a57s7 (Sq a57s9 (Sq a57s16 a57s24)))))
def a57 : AFn := { np := 2,nv := 8,results := [],code := a57c }
def a57v : List Nat:=[0,1,3,4,5,48,49,51]
def a57b : List Nat := [2]

def a58s1:=Rg [] [vP 2 (.c (.int .i64 0))]
def a58s3:=Rg [] [nP 6 0,op (.v 4) .lenL [.t 6],vP 5 (.c (.int .i64 0))]
def a58s5:=Ts [] [bP 9 .lss (.v 5) (.v 4)] (.t 9) .skip (.exit 0)
def a58s7:=Rg [] [nP 10 5,vP 3 (.t 10)]
def a58s10:=Rg [] [nP 17 3,vP 2 (.t 17)]
def a58s11:=Sq a58s10 .ret
def a58s12:=Ts [] [nP 11 1,nP 12 0,nP 13 3,oP 14 (.iad 3) [.t 12,.t 13],oP 15 (.ldRo true 3) [.t 14],oP 16 .callV [.t 11,.t 15]] (.t 16) a58s11 .skip
def a58s16:=Rg [] [bP 18 .add (.v 5) (.c (.int .i64 1)),vP 5 (.t 18)]
def a58s23:=Rg [] [vP 2 (.c (.int .i64 (-1)))]
def a58c : ACode :=
  (Sq a58s1 (Sq (Sq a58s3 (Bk 0 (Lp (Sq a58s5 (Sq (Bk 1 (Sq a58s7 a58s12)) a58s16))))) (Sq a58s23 .ret)))
def a58 : AFn := { np := 2,nv := 6,results := [.v 2],code := a58c }
def a58v : List Nat:=[0,1,4,5,7,8]
def a58b : List Nat := []

def a59s1:=Rg [2] [⟨.bx,.boxV,[.v 0],some 2,none⟩,vP 3 (.c (.bool false))]
def a59s3:=Rg [] [fP 4 0 (.l 2),lP 5 2 false 1 (.t 4),fP 6 2 (.v 1),oP 7 (.ldSt false 1) [.t 6],bP 8 .eql (.t 5) (.t 7),vP 3 (.t 8)]
def a59c : ACode :=
  (Sq a59s1 (Sq a59s3 .ret))
def a59 : AFn := { np := 2,nv := 4,results := [.v 3],code := a59c }
def a59v : List Nat:=[0,1,2,3]
def a59b : List Nat := [2]

def a60s1:=Rg [] [vP 2 (.c (.bool false))]
def a60s3:=Rg [1000000,1000001,1000002,1000003,1000004,1000005,1000006,1000007,1000008,1000009,1000010,1000011,1000013,1000014,1000015,1000016,1000012,1000017,1000018,1000019] [nP 5 1,nP 6 0,oP 7 .nilchk [.t 6],fP 8 3 (.t 7),oP 9 (.ldSt false 1) [.t 8],bP 10 .eql (.t 5) (.t 9),mP 11 (.t 10),gP 12 .mv [.v 0] 11 false,gP 13 .nilchk [.t 12] 11 false,gP 14 (.fad 0) [.t 13] 11 false,gP 15 (.ldSt false 1) [.t 14] 11 false,gP 16 .mv [.v 1] 11 false,gP 18 .mv [.v 0] 11 false,gP 19 .nilchk [.t 18] 11 false,gP 20 (.fad 3) [.t 19] 11 false,gP 21 (.ldStR false 1) [.t 20,.v 0] 11 false,gP 17 (.callA 98 2) [.t 15,.t 16,.v 0] 11 false,gP 22 (.call 45) [.t 17,.t 21] 11 false,oP 23 .pick [.t 11,.c (.bool true),.t 22],vP 2 (.t 23)]
def a60c : ACode :=
  (Sq a60s1 (Sq a60s3 .ret))
def a60 : AFn := { np := 2,nv := 3,results := [.v 2],code := a60c }
def a60v : List Nat:=[0,1,4]
def a60b : List Nat := []

def a64s1:=Rg [] [vP 1 (.c (.bool false))]
def a64s3:=Rg [] [nP 3 0,bP 4 .geq (.t 3) (.c (.int .u8 97)),mP 5 (.t 4),gP 6 .mv [.v 0] 5 true,gP 7 (.bin .leq) [.t 6,.c (.int .u8 122)] 5 true,oP 8 .pick [.t 5,.t 7,.c (.bool false)],mP 9 (.t 8),gP 10 .mv [.v 0] 9 false,gP 11 (.bin .geq) [.t 10,.c (.int .u8 65)] 9 false,gP 12 .mv [.t 11] 9 false,gP 13 .mv [.v 0] 12 true,gP 14 (.bin .leq) [.t 13,.c (.int .u8 90)] 12 true,gP 15 .pick [.t 12,.t 14,.c (.bool false)] 9 false,oP 16 .pick [.t 9,.c (.bool true),.t 15],mP 17 (.t 16),gP 18 .mv [.v 0] 17 false,gP 19 (.bin .eql) [.t 18,.c (.int .u8 95)] 17 false,oP 20 .pick [.t 17,.c (.bool true),.t 19],vP 1 (.t 20)]
def a64c : ACode :=
  (Sq a64s1 (Sq a64s3 .ret))
def a64 : AFn := { np := 1,nv := 2,results := [.v 1],code := a64c }
def a64v : List Nat:=[0,2]
def a64b : List Nat := []

def a65s1:=Rg [] [vP 1 (.c (.bool false))]
def a65s3:=Rg [] [nP 3 0,bP 4 .geq (.t 3) (.c (.int .u8 48)),mP 5 (.t 4),gP 6 .mv [.v 0] 5 true,gP 7 (.bin .leq) [.t 6,.c (.int .u8 57)] 5 true,oP 8 .pick [.t 5,.t 7,.c (.bool false)],vP 1 (.t 8)]
def a65c : ACode :=
  (Sq a65s1 (Sq a65s3 .ret))
def a65 : AFn := { np := 1,nv := 2,results := [.v 1],code := a65c }
def a65v : List Nat:=[0,2]
def a65b : List Nat := []

def a66s1:=Rg [2] [⟨.bx,.alloc [.int .u8 0,.str [],.int .i64 0,.int .i64 0],[],some 2,none⟩,vP 3 (.c (.int .i64 0)),vP 4 (.c (.int .i64 0)),vP 5 (.c (.int .i64 0))]
def a66s3:=Rg [] [nP 12 1,vP 6 (.t 12)]
def a66s5:=Rg [] [nP 13 0,nP 14 6,oP 15 .idxS [.t 13,.t 14],bP 16 .eql (.t 15) (.c (.int .u8 45)),vP 7 (.t 16)]
def a66s8:=Rg [] [nP 18 6,bP 19 .add (.t 18) (.c (.int .i64 1)),vP 6 (.t 19)]
def a66s9:=Ts [] [nP 17 7] (.t 17) a66s8 .skip
def a66s11:=Rg [] [nP 20 6,vP 8 (.t 20)]
def a66s13:=Rg [] [vP 9 (.c (.int .i64 0))]
def a66s15:=Ts [] [nP 21 6,nP 22 0,oP 23 .lenS [.t 22],bP 24 .lss (.t 21) (.t 23),mP 25 (.t 24),gP 26 .mv [.v 0] 25 true,gP 27 .mv [.v 6] 25 true,gP 28 .idxS [.t 26,.t 27] 25 true,gP 29 (.call 65) [.t 28] 25 true,oP 30 .pick [.t 25,.t 29,.c (.bool false)]] (.t 30) .skip (.exit 0)
def a66s18:=Rg [] [nP 35 9,bP 36 .mul (.t 35) (.c (.int .i64 10)),nP 37 0,nP 38 6,oP 39 .idxS [.t 37,.t 38],bP 40 .sub (.t 39) (.c (.int .u8 48)),oP 41 (.conv .i64) [.t 40],bP 42 .add (.t 36) (.t 41),vP 9 (.t 42)]
def a66s19:=Ts [] [nP 31 6,nP 32 8,bP 33 .sub (.t 31) (.t 32),bP 34 .lss (.t 33) (.c (.int .i64 18))] (.t 34) a66s18 .skip
def a66s21:=Rg [] [nP 43 6,bP 44 .add (.t 43) (.c (.int .i64 1)),vP 6 (.t 44)]
def a66s29:=Rg [] [oP 49 (.build [.int .u8 0,.str [],.int .i64 0,.int .i64 0] []) [],nP 50 6,xP (.stLc 2 4) [.l 2,.t 49] 2,vP 3 (.c (.int .i64 0)),vP 4 (.t 50),vP 5 (.c (.int .i64 4))]
def a66s30:=Sq a66s29 .ret
def a66s33:=Rg [] [oP 62 (.build [.int .u8 0,.str [],.int .i64 0,.int .i64 0] []) [],nP 63 8,bP 64 .add (.t 63) (.c (.int .i64 1)),xP (.stLc 2 4) [.l 2,.t 62] 2,vP 3 (.c (.int .i64 0)),vP 4 (.t 64),vP 5 (.c (.int .i64 4))]
def a66s34:=Sq a66s33 .ret
def a66s37:=Rg [] [oP 82 (.build [.int .u8 0,.str [],.int .i64 0,.int .i64 0] []) [],nP 83 6,xP (.stLc 2 4) [.l 2,.t 82] 2,vP 3 (.c (.int .i64 0)),vP 4 (.t 83),vP 5 (.c (.int .i64 4))]
def a66s38:=Sq a66s37 .ret
def a66s41:=Rg [] [oP 89 (.build [.int .u8 0,.str [],.int .i64 0,.int .i64 0] []) [],nP 90 1,xP (.stLc 2 4) [.l 2,.t 89] 2,vP 3 (.c (.int .i64 0)),vP 4 (.t 90),vP 5 (.c (.int .i64 1))]
def a66s42:=Sq a66s41 .ret
def a66s43:=Ts [] [nP 85 6,nP 86 8,bP 87 .sub (.t 85) (.t 86),bP 88 .gtr (.t 87) (.c (.int .i64 18)),mP 84 (.t 88)] (.t 84) a66s42 .skip
def a66s44:=Ts [] [nP 66 6,nP 67 0,oP 68 .lenS [.t 67],bP 69 .lss (.t 66) (.t 68),mP 70 (.t 69),gP 71 .mv [.v 0] 70 true,gP 72 .mv [.v 6] 70 true,gP 73 .idxS [.t 71,.t 72] 70 true,gP 74 (.call 64) [.t 73] 70 true,gP 75 .mv [.t 74] 70 true,gP 76 .mv [.v 0] 75 false,gP 77 .mv [.v 6] 75 false,gP 78 .idxS [.t 76,.t 77] 75 false,gP 79 (.bin .eql) [.t 78,.c (.int .u8 46)] 75 false,gP 80 .pick [.t 75,.c (.bool true),.t 79] 70 true,oP 81 .pick [.t 70,.t 80,.c (.bool false)],mP 65 (.t 81)] (.t 65) a66s38 a66s43
def a66s45:=Ts [] [nP 52 0,nP 53 8,oP 54 .idxS [.t 52,.t 53],bP 55 .eql (.t 54) (.c (.int .u8 48)),mP 56 (.t 55),gP 57 .mv [.v 6] 56 true,gP 58 .mv [.v 8] 56 true,gP 59 (.bin .add) [.t 58,.c (.int .i64 1)] 56 true,gP 60 (.bin .gtr) [.t 57,.t 59] 56 true,oP 61 .pick [.t 56,.t 60,.c (.bool false)],mP 51 (.t 61)] (.t 51) a66s34 a66s44
def a66s46:=Ts [] [nP 46 6,nP 47 8,bP 48 .eql (.t 46) (.t 47),mP 45 (.t 48)] (.t 45) a66s30 a66s45
def a66s50:=Rg [] [nP 92 9,oP 93 (.un .neg) [.t 92],vP 9 (.t 93)]
def a66s51:=Ts [] [nP 91 7] (.t 91) a66s50 .skip
def a66s53:=Rg [] [nP 94 0,nP 95 1,nP 96 6,oP 97 (.slS true true) [.t 94,.t 95,.t 96],nP 98 9,oP 99 (.build [.int .u8 0,.str [],.int .i64 0,.int .i64 0] [(0,1),(1,1),(2,1)]) [.c (.int .u8 2),.t 97,.t 98],nP 100 6,xP (.stLc 2 4) [.l 2,.t 99] 2,vP 3 (.t 100),vP 4 (.c (.int .i64 0)),vP 5 (.c (.int .i64 0))]
def a66c : ACode :=
  (Sq a66s1 (Sq a66s3 (Sq a66s5 (Sq a66s9 (Sq a66s11 (Sq a66s13 (Sq (Bk 0 (Lp (Sq a66s15 (Bk 1 (Sq a66s19 a66s21))))) (Sq (Bk 2 a66s46) (Sq a66s51 (Sq a66s53 .ret))))))))))
def a66 : AFn := { np := 2,nv := 10,results := [.bx 2 true 4,.v 3,.v 4,.v 5],code := a66c }
def a66v : List Nat:=[0,1,4,5,6,7,8,9,10,11]
def a66b : List Nat := [2]

def a67s1:=Rg [2] [⟨.bx,.alloc [.int .u8 0,.str [],.int .i64 0,.int .i64 0],[],some 2,none⟩,vP 3 (.c (.int .i64 0)),vP 4 (.c (.int .i64 0)),vP 5 (.c (.int .i64 0))]
def a67s3:=Rg [] [op (.v 6) .mv [.c (.str [])]]
def a67s5:=Rg [] [nP 10 1,bP 11 .add (.t 10) (.c (.int .i64 1)),vP 7 (.t 11)]
def a67s7:=Ts [] [nP 12 7,nP 13 0,oP 14 .lenS [.t 13],bP 15 .lss (.t 12) (.t 14)] (.t 15) .skip (.exit 0)
def a67s9:=Rg [] [nP 16 0,nP 17 7,op (.v 8) .idxS [.t 16,.t 17]]
def a67s13:=Rg [] [oP 31 (.build [.int .u8 0,.str [],.int .i64 0,.int .i64 0] []) [],nP 32 1,xP (.stLc 2 4) [.l 2,.t 31] 2,vP 3 (.c (.int .i64 0)),vP 4 (.t 32),vP 5 (.c (.int .i64 2))]
def a67s14:=Sq a67s13 .ret
def a67s15:=Ts [] [nP 28 6,oP 29 .lenS [.t 28],bP 30 .gtr (.t 29) (.c (.int .i64 200))] (.t 30) a67s14 .skip
def a67s17:=Rg [] [nP 33 6,oP 34 (.build [.int .u8 0,.str [],.int .i64 0,.int .i64 0] [(0,1),(1,1)]) [.c (.int .u8 3),.t 33],nP 35 7,bP 36 .add (.t 35) (.c (.int .i64 1)),xP (.stLc 2 4) [.l 2,.t 34] 2,vP 3 (.t 36),vP 4 (.c (.int .i64 0)),vP 5 (.c (.int .i64 0))]
def a67s19:=Sq a67s15 (Sq a67s17 .ret)
def a67s22:=Rg [] [oP 39 (.build [.int .u8 0,.str [],.int .i64 0,.int .i64 0] []) [],nP 40 7,xP (.stLc 2 4) [.l 2,.t 39] 2,vP 3 (.c (.int .i64 0)),vP 4 (.t 40),vP 5 (.c (.int .i64 4))]
def a67s23:=Sq a67s22 .ret
def a67s26:=Rg [] [nP 43 7,bP 44 .add (.t 43) (.c (.int .i64 1)),vP 7 (.t 44)]
def a67s29:=Rg [] [oP 49 (.build [.int .u8 0,.str [],.int .i64 0,.int .i64 0] []) [],nP 50 7,xP (.stLc 2 4) [.l 2,.t 49] 2,vP 3 (.c (.int .i64 0)),vP 4 (.t 50),vP 5 (.c (.int .i64 4))]
def a67s30:=Sq a67s29 .ret
def a67s31:=Ts [] [nP 45 7,nP 46 0,oP 47 .lenS [.t 46],bP 48 .eql (.t 45) (.t 47)] (.t 48) a67s30 .skip
def a67s33:=Rg [] [nP 51 0,nP 52 7,op (.v 9) .idxS [.t 51,.t 52]]
def a67s36:=Rg [] [nP 58 6,oP 59 (.bin .add) [.t 58,.c (.str [10])],vP 6 (.t 59)]
def a67s39:=Rg [] [nP 62 6,oP 63 (.bin .add) [.t 62,.c (.str [9])],vP 6 (.t 63)]
def a67s43:=Rg [] [bP 67 .eql (.v 9) (.c (.int .u8 92)),vP 10 (.t 67)]
def a67s44:=Ts [] [bP 66 .eql (.v 9) (.c (.int .u8 47)),vP 10 (.t 66)] (.v 10) .skip a67s43
def a67s45:=Ts [] [bP 65 .eql (.v 9) (.c (.int .u8 34)),vP 10 (.t 65)] (.v 10) .skip a67s44
def a67s47:=Rg [] [nP 68 6,nP 69 0,nP 70 7,nP 71 7,bP 72 .add (.t 71) (.c (.int .i64 1)),oP 73 (.slS true true) [.t 69,.t 70,.t 72],bP 74 .add (.t 68) (.t 73),vP 6 (.t 74)]
def a67s49:=Rg [] [oP 54 (.build [.int .u8 0,.str [],.int .i64 0,.int .i64 0] []) [],nP 55 7,xP (.stLc 2 4) [.l 2,.t 54] 2,vP 3 (.c (.int .i64 0)),vP 4 (.t 55),vP 5 (.c (.int .i64 4))]
def a67s50:=Sq a67s49 .ret
def a67s51:=Ts [] [] (.v 10) a67s47 a67s50
def a67s52:=Sq a67s45 a67s51
def a67s53:=Ts [] [bP 61 .eql (.v 9) (.c (.int .u8 116)),mP 60 (.t 61)] (.t 60) a67s39 a67s52
def a67s54:=Ts [] [bP 57 .eql (.v 9) (.c (.int .u8 110)),mP 56 (.t 57)] (.t 56) a67s36 a67s53
def a67s58:=Sq a67s26 (Sq a67s31 (Sq a67s33 (Bk 3 a67s54)))
def a67s60:=Rg [] [nP 19 6,nP 20 0,nP 21 7,nP 22 7,bP 23 .add (.t 22) (.c (.int .i64 1)),oP 24 (.slS true true) [.t 20,.t 21,.t 23],bP 25 .add (.t 19) (.t 24),vP 6 (.t 25)]
def a67s61:=Ts [] [bP 42 .eql (.v 8) (.c (.int .u8 92)),mP 41 (.t 42)] (.t 41) a67s58 a67s60
def a67s62:=Ts [] [bP 38 .eql (.v 8) (.c (.int .u8 10)),mP 37 (.t 38)] (.t 37) a67s23 a67s61
def a67s63:=Ts [] [bP 27 .eql (.v 8) (.c (.int .u8 34)),mP 26 (.t 27)] (.t 26) a67s19 a67s62
def a67s67:=Rg [] [nP 75 7,bP 76 .add (.t 75) (.c (.int .i64 1)),vP 7 (.t 76)]
def a67s74:=Rg [] [oP 77 (.build [.int .u8 0,.str [],.int .i64 0,.int .i64 0] []) [],nP 78 7,xP (.stLc 2 4) [.l 2,.t 77] 2,vP 3 (.c (.int .i64 0)),vP 4 (.t 78),vP 5 (.c (.int .i64 4))]
def a67c : ACode :=
  (Sq a67s1 (Sq a67s3 (Sq a67s5 (Sq (Bk 0 (Lp (Sq a67s7 (Bk 1 (Sq (Sq a67s9 (Bk 2 a67s63)) a67s67))))) (Sq a67s74 .ret)))))
def a67 : AFn := { np := 2,nv := 11,results := [.bx 2 true 4,.v 3,.v 4,.v 5],code := a67c }
def a67v : List Nat:=[0,1,4,5,6,7,8,9,18,53,64]
def a67b : List Nat := [2]

def a68s1:=Rg [] [op (.v 1) .mv [.c (.list true [])]]
def a68s3:=Rg [] [op (.v 2) .mv [.c (.list true [])]]
def a68s6:=Rg [] [op (.v 1) .mv [.c (.list true [])]]
def a68s7:=Sq a68s6 .ret
def a68s8:=Ts [] [nP 6 0,oP 7 (.call 25) [.t 6,.c (.str [40])],oP 8 (.un .not) [.t 7]] (.t 8) a68s7 .skip
def a68s10:=Rg [] [vP 3 (.c (.bool true))]
def a68s12:=Ts [] [nP 9 0,oP 10 .nilchk [.t 9],fP 11 4 (.t 10),oP 12 (.ldSt false 1) [.t 11],bP 13 .eql (.t 12) (.c (.int .i64 0)),mP 14 (.t 13),gP 15 .mv [.v 3] 14 true,gP 16 .mv [.t 15] 14 true,gP 17 .mv [.v 0] 16 false,gP 18 (.call 25) [.t 17,.c (.str [41])] 16 false,gP 19 (.un .not) [.t 18] 16 false,gP 20 .pick [.t 16,.c (.bool true),.t 19] 14 true,oP 21 .pick [.t 14,.t 20,.c (.bool false)]] (.t 21) .skip (.exit 0)
def a68s14:=Rg [4] [nP 22 0,oP 23 (.call 21) [.t 22],oP 24 (.build [.str [],.int .u8 0,.int .i64 0,.str [],.list true [],.list true []] [(0,1)]) [.t 23],⟨.bx,.alloc [.str [],.int .u8 0,.int .i64 0,.str [],.list true [],.list true []],[],some 4,none⟩,xP (.stLc 4 6) [.l 4,.ts 24] 4]
def a68s16:=Rg [] [nP 25 0,oP 26 (.call 22) [.t 25,.c (.str [58])]]
def a68s18:=Rg [] [nP 27 0,oP 28 (.call 42) [.t 27,.c (.bool false)],fP 29 1 (.l 4),xP (.stLc 4 5) [.t 29,.ts 28] 4]
def a68s20:=Rg [] [mP 30 (.vs 2),lP 31 4 true 6 (.l 4),oP 32 (.bslice 6 [[.str [],.int .u8 0,.int .i64 0,.str [],.list true [],.list true []]] [0]) [.t 31],oP 33 (.app 6 96) [.ts 30,.t 32],vP 2 (.ts 33)]
def a68s26:=Rg [] [vP 3 (.c (.bool false))]
def a68s33:=Rg [] [nP 34 2,vP 1 (.ts 34)]
def a68c : ACode :=
  (Sq a68s1 (Sq a68s3 (Sq a68s8 (Sq (Sq a68s10 (Bk 0 (Lp (Sq a68s12 (Sq (Bk 1 (Sq a68s14 (Sq a68s16 (Sq a68s18 a68s20)))) a68s26))))) (Sq a68s33 .ret)))))
def a68 : AFn := { np := 1,nv := 5,results := [.v 1],code := a68c }
def a68v : List Nat:=[0,2,3,4,5]
def a68b : List Nat := [4]

def a69s1:=Rg [] [op (.v 1) .mv [.c (.list true [])]]
def a69s3:=Rg [] [op (.v 2) .mv [.c (.list true [])]]
def a69s5:=Ts [] [nP 5 0,oP 6 (.call 25) [.t 5,.c (.str [64])]] (.t 6) .skip (.exit 0)
def a69s7:=Rg [3] [nP 7 0,oP 8 (.call 21) [.t 7],oP 9 (.build [.str [],.list true []] [(0,1)]) [.t 8],⟨.bx,.alloc [.str [],.list true []],[],some 3,none⟩,xP (.stLc 3 2) [.l 3,.ts 9] 3]
def a69s9:=Rg [] [nP 10 0,oP 11 (.call 68) [.t 10],fP 12 1 (.l 3),xP (.stLc 3 1) [.t 12,.ts 11] 3]
def a69s11:=Rg [] [mP 13 (.vs 2),lP 14 3 true 2 (.l 3),oP 15 (.bslice 2 [[.str [],.list true []]] [0]) [.t 14],oP 16 (.app 2 40) [.ts 13,.t 15],vP 2 (.ts 16)]
def a69s19:=Rg [] [nP 17 2,vP 1 (.ts 17)]
def a69c : ACode :=
  (Sq a69s1 (Sq a69s3 (Sq (Bk 0 (Lp (Sq a69s5 (Bk 1 (Sq a69s7 (Sq a69s9 a69s11)))))) (Sq a69s19 .ret))))
def a69 : AFn := { np := 1,nv := 4,results := [.v 1],code := a69c }
def a69v : List Nat:=[0,2,3,4]
def a69b : List Nat := [3]

def a70s1:=Rg [2] [⟨.bx,.alloc [.int .u8 0,.int .i64 0,.str [],.list true [],.list true []],[],some 2,none⟩]
def a70s3:=Rg [3] [nP 10 0,oP 11 .nilchk [.t 10],fP 12 0 (.t 11),oP 13 (.ldSt false 1) [.t 12],nP 14 0,oP 15 .nilchk [.t 14],fP 16 1 (.t 15),oP 17 (.ldSt false 1) [.t 16],oP 18 (.iad 4) [.t 13,.t 17],oP 19 (.ldRo true 4) [.t 18],⟨.bx,.alloc [.int .u8 0,.str [],.int .i64 0,.int .i64 0],[],some 3,none⟩,xP (.stLc 3 4) [.l 3,.t 19] 3]
def a70s6:=Rg [] [nP 24 0,oP 25 .nilchk [.t 24],fP 26 1 (.t 25),oP 27 (.ldSt false 1) [.t 26],bP 28 .add (.t 27) (.c (.int .i64 1)),oP 29 .nilchk [.t 24],fP 30 1 (.t 29),op .none (.stSt 1) [.t 30,.t 28]]
def a70s8:=Rg [] [fP 31 2 (.l 3),lP 32 3 false 1 (.t 31),oP 33 (.build [.int .u8 0,.int .i64 0,.str [],.list true [],.list true []] [(0,1),(1,1)]) [.c (.int .u8 1),.t 32],xP (.stLc 2 5) [.l 2,.ts 33] 2]
def a70s10:=Sq a70s6 (Sq a70s8 .ret)
def a70s13:=Rg [] [nP 38 0,oP 39 .nilchk [.t 38],fP 40 1 (.t 39),oP 41 (.ldSt false 1) [.t 40],bP 42 .add (.t 41) (.c (.int .i64 1)),oP 43 .nilchk [.t 38],fP 44 1 (.t 43),op .none (.stSt 1) [.t 44,.t 42]]
def a70s15:=Rg [] [fP 45 1 (.l 3),lP 46 3 false 1 (.t 45),oP 47 (.build [.int .u8 0,.int .i64 0,.str [],.list true [],.list true []] [(0,1),(2,1)]) [.c (.int .u8 2),.t 46],xP (.stLc 2 5) [.l 2,.ts 47] 2]
def a70s17:=Sq a70s13 (Sq a70s15 .ret)
def a70s20:=Rg [] [oP 51 (.build [.int .u8 0,.int .i64 0,.str [],.list true [],.list true []] [(0,1),(1,1)]) [.c (.int .u8 3),.c (.int .i64 1)],xP (.stLc 2 5) [.l 2,.ts 51] 2]
def a70s21:=Sq a70s20 .ret
def a70s24:=Rg [] [oP 55 (.build [.int .u8 0,.int .i64 0,.str [],.list true [],.list true []] [(0,1)]) [.c (.int .u8 3)],xP (.stLc 2 5) [.l 2,.ts 55] 2]
def a70s25:=Sq a70s24 .ret
def a70s28:=Rg [] [oP 59 (.build [.int .u8 0,.int .i64 0,.str [],.list true [],.list true []] []) [],xP (.stLc 2 5) [.l 2,.ts 59] 2]
def a70s29:=Sq a70s28 .ret
def a70s32:=Rg [] [nP 64 0,oP 65 .nilchk [.t 64],fP 66 1 (.t 65),oP 67 (.ldSt false 1) [.t 66],bP 68 .add (.t 67) (.c (.int .i64 1)),oP 69 .nilchk [.t 64],fP 70 1 (.t 69),op .none (.stSt 1) [.t 70,.t 68]]
def a70s34:=Rg [] [fP 71 1 (.l 3),lP 72 3 false 1 (.t 71),oP 73 (.build [.int .u8 0,.int .i64 0,.str [],.list true [],.list true []] [(0,1),(2,1)]) [.c (.int .u8 4),.t 72],xP (.stLc 2 5) [.l 2,.ts 73] 2]
def a70s36:=Sq a70s32 (Sq a70s34 .ret)
def a70s39:=Rg [] [nP 81 0,oP 82 .nilchk [.t 81],fP 83 1 (.t 82),oP 84 (.ldSt false 1) [.t 83],bP 85 .add (.t 84) (.c (.int .i64 1)),oP 86 .nilchk [.t 81],fP 87 1 (.t 86),op .none (.stSt 1) [.t 87,.t 85]]
def a70s41:=Rg [] [nP 88 0,oP 89 (.call 21) [.t 88],oP 90 (.build [.int .u8 0,.int .i64 0,.str [],.list true [],.list true []] [(0,1),(2,1)]) [.c (.int .u8 7),.t 89],xP (.stLc 2 5) [.l 2,.ts 90] 2]
def a70s43:=Sq a70s39 (Sq a70s41 .ret)
def a70s46:=Rg [4] [oP 94 (.build [.int .u8 0,.int .i64 0,.str [],.list true [],.list true []] [(0,1)]) [.c (.int .u8 5)],⟨.bx,.alloc [.int .u8 0,.int .i64 0,.str [],.list true [],.list true []],[],some 4,none⟩,xP (.stLc 4 5) [.l 4,.ts 94] 4]
def a70s48:=Ts [] [nP 95 0,oP 96 .nilchk [.t 95],fP 97 4 (.t 96),oP 98 (.ldSt false 1) [.t 97],bP 99 .eql (.t 98) (.c (.int .i64 0)),mP 100 (.t 99),gP 101 .mv [.v 0] 100 true,gP 102 (.call 25) [.t 101,.c (.str [93])] 100 true,gP 103 (.un .not) [.t 102] 100 true,oP 104 .pick [.t 100,.t 103,.c (.bool false)]] (.t 104) .skip (.exit 1)
def a70s50:=Rg [5] [nP 105 0,nP 106 1,oP 107 (.call 42) [.t 105,.t 106],⟨.bx,.alloc [.int .u8 0,.int .i64 0,.str [],.list true [],.list true []],[],some 5,none⟩,xP (.stLc 5 5) [.l 5,.ts 107] 5]
def a70s52:=Rg [] [fP 108 4 (.l 4),⟨.t 109,.ldLcS 4,[.t 108],some 4,none⟩,lP 110 5 true 5 (.l 5),oP 111 (.bslice 5 [[.int .u8 0,.int .i64 0,.str [],.list true [],.list true []]] [0]) [.t 110],oP 112 (.app 5 80) [.ts 109,.t 111],fP 113 4 (.l 4),xP (.stLc 4 1) [.t 113,.ts 112] 4]
def a70s59:=Rg [] [lP 114 4 true 5 (.l 4),xP (.stLc 2 5) [.l 2,.ts 114] 2]
def a70s62:=Sq a70s46 (Sq (Bk 1 (Lp (Sq a70s48 (Bk 2 (Sq a70s50 a70s52))))) (Sq a70s59 .ret))
def a70s65:=Rg [6] [oP 118 (.build [.int .u8 0,.int .i64 0,.str [],.list true [],.list true []] [(0,1)]) [.c (.int .u8 6)],⟨.bx,.alloc [.int .u8 0,.int .i64 0,.str [],.list true [],.list true []],[],some 6,none⟩,xP (.stLc 6 5) [.l 6,.ts 118] 6]
def a70s67:=Ts [] [nP 119 0,oP 120 .nilchk [.t 119],fP 121 4 (.t 120),oP 122 (.ldSt false 1) [.t 121],bP 123 .eql (.t 122) (.c (.int .i64 0)),mP 124 (.t 123),gP 125 .mv [.v 0] 124 true,gP 126 (.call 25) [.t 125,.c (.str [125])] 124 true,gP 127 (.un .not) [.t 126] 124 true,oP 128 .pick [.t 124,.t 127,.c (.bool false)]] (.t 128) .skip (.exit 3)
def a70s69:=Rg [] [fP 129 3 (.l 6),⟨.t 130,.ldLcS 6,[.t 129],some 6,none⟩,nP 131 0,oP 132 (.call 21) [.t 131],oP 133 (.bslice 1 [[.str []]] [0]) [.t 132],oP 134 (.app 1 16) [.ts 130,.t 133],fP 135 3 (.l 6),xP (.stLc 6 1) [.t 135,.ts 134] 6]
def a70s71:=Rg [] [nP 136 0,oP 137 (.call 22) [.t 136,.c (.str [58])]]
def a70s73:=Rg [7] [nP 138 0,nP 139 1,oP 140 (.call 42) [.t 138,.t 139],⟨.bx,.alloc [.int .u8 0,.int .i64 0,.str [],.list true [],.list true []],[],some 7,none⟩,xP (.stLc 7 5) [.l 7,.ts 140] 7]
def a70s75:=Rg [] [fP 141 4 (.l 6),⟨.t 142,.ldLcS 6,[.t 141],some 6,none⟩,lP 143 7 true 5 (.l 7),oP 144 (.bslice 5 [[.int .u8 0,.int .i64 0,.str [],.list true [],.list true []]] [0]) [.t 143],oP 145 (.app 5 80) [.ts 142,.t 144],fP 146 4 (.l 6),xP (.stLc 6 1) [.t 146,.ts 145] 6]
def a70s84:=Rg [] [lP 147 6 true 5 (.l 6),xP (.stLc 2 5) [.l 2,.ts 147] 2]
def a70s87:=Sq a70s65 (Sq (Bk 3 (Lp (Sq a70s67 (Bk 4 (Sq a70s69 (Sq a70s71 (Sq a70s73 a70s75))))))) (Sq a70s84 .ret))
def a70s88:=Ts [] [nP 116 0,oP 117 (.call 25) [.t 116,.c (.str [123])],mP 115 (.t 117)] (.t 115) a70s87 .skip
def a70s89:=Ts [] [nP 92 0,oP 93 (.call 25) [.t 92,.c (.str [91])],mP 91 (.t 93)] (.t 91) a70s62 a70s88
def a70s90:=Ts [] [nP 75 0,oP 76 (.call 24) [.t 75,.c (.str [36])],mP 77 (.t 76),gP 78 .mv [.v 1] 77 true,gP 79 (.un .not) [.t 78] 77 true,oP 80 .pick [.t 77,.t 79,.c (.bool false)],mP 74 (.t 80)] (.t 74) a70s43 a70s89
def a70s91:=Ts [] [fP 61 0 (.l 3),lP 62 3 false 1 (.t 61),bP 63 .eql (.t 62) (.c (.int .u8 1)),mP 60 (.t 63)] (.t 60) a70s36 a70s90
def a70s92:=Ts [] [nP 57 0,oP 58 (.call 25) [.t 57,.c (.str [110,117,108,108])],mP 56 (.t 58)] (.t 56) a70s29 a70s91
def a70s93:=Ts [] [nP 53 0,oP 54 (.call 25) [.t 53,.c (.str [102,97,108,115,101])],mP 52 (.t 54)] (.t 52) a70s25 a70s92
def a70s94:=Ts [] [nP 49 0,oP 50 (.call 25) [.t 49,.c (.str [116,114,117,101])],mP 48 (.t 50)] (.t 48) a70s21 a70s93
def a70s95:=Ts [] [fP 35 0 (.l 3),lP 36 3 false 1 (.t 35),bP 37 .eql (.t 36) (.c (.int .u8 3)),mP 34 (.t 37)] (.t 34) a70s17 a70s94
def a70s96:=Ts [] [fP 21 0 (.l 3),lP 22 3 false 1 (.t 21),bP 23 .eql (.t 22) (.c (.int .u8 2)),mP 20 (.t 23)] (.t 20) a70s10 a70s95
def a70s99:=Rg [] [nP 148 0,oP 149 (.call 20) [.t 148,.c (.int .i64 4)]]
def a70s101:=Rg [] [oP 150 (.build [.int .u8 0,.int .i64 0,.str [],.list true [],.list true []] []) [],xP (.stLc 2 5) [.l 2,.ts 150] 2]
def a70c : ACode :=
  (Sq a70s1 (Sq a70s3 (Sq (Bk 0 a70s96) (Sq a70s99 (Sq a70s101 .ret)))))
def a70 : AFn := { np := 2,nv := 8,results := [.bx 2 true 5],code := a70c }
def a70v : List Nat:=[0,1,4,5,6,7,8,9]
def a70b : List Nat := [2,3,4,5,6,7]

def a71s1:=Rg [] [op (.v 2) .mv [.c (.list true [])]]
def a71s3:=Rg [] [nP 6 0,nP 7 1,oP 8 (.call 25) [.t 6,.t 7]]
def a71s5:=Rg [] [nP 9 0,oP 10 (.call 21) [.t 9],oP 11 (.bslice 1 [[.str []]] [0]) [.t 10],vP 3 (.ts 11)]
def a71s7:=Ts [] [nP 12 0,nP 13 1,oP 14 (.call 25) [.t 12,.t 13]] (.t 14) .skip (.exit 0)
def a71s9:=Rg [] [mP 15 (.vs 3),nP 16 0,oP 17 (.call 21) [.t 16],oP 18 (.bslice 1 [[.str []]] [0]) [.t 17],oP 19 (.app 1 16) [.ts 15,.t 18],vP 3 (.ts 19)]
def a71s15:=Rg [] [nP 20 3,vP 2 (.ts 20)]
def a71c : ACode :=
  (Sq a71s1 (Sq a71s3 (Sq a71s5 (Sq (Bk 0 (Lp (Sq a71s7 (Bk 1 a71s9)))) (Sq a71s15 .ret)))))
def a71 : AFn := { np := 2,nv := 4,results := [.v 2],code := a71c }
def a71v : List Nat:=[0,1,4,5]
def a71b : List Nat := []

def a72s1:=Rg [] [op (.v 2) .mv [.c (.list true [])]]
def a72s3:=Rg [] [op (.v 3) .mv [.c (.list true [])]]
def a72s5:=Rg [] [vP 4 (.c (.bool true))]
def a72s7:=Ts [] [nP 8 0,oP 9 .nilchk [.t 8],fP 10 4 (.t 9),oP 11 (.ldSt false 1) [.t 10],bP 12 .eql (.t 11) (.c (.int .i64 0)),mP 13 (.t 12),gP 14 .mv [.v 4] 13 true,gP 15 .mv [.t 14] 13 true,gP 16 .mv [.v 0] 15 false,gP 17 .mv [.v 1] 15 false,gP 18 (.call 25) [.t 16,.t 17] 15 false,gP 19 (.un .not) [.t 18] 15 false,gP 20 .pick [.t 15,.c (.bool true),.t 19] 13 true,oP 21 .pick [.t 13,.t 20,.c (.bool false)]] (.t 21) .skip (.exit 0)
def a72s9:=Rg [5] [nP 22 0,oP 23 (.call 21) [.t 22],oP 24 (.build [.str [],.list true [],.str [],.list true [],.bool false,.bool false,.int .u8 0,.int .i64 0,.str [],.list true [],.list true []] [(0,1)]) [.t 23],⟨.bx,.alloc [.str [],.list true [],.str [],.list true [],.bool false,.bool false,.int .u8 0,.int .i64 0,.str [],.list true [],.list true []],[],some 5,none⟩,xP (.stLc 5 11) [.l 5,.ts 24] 5]
def a72s11:=Rg [] [nP 25 0,oP 26 (.call 22) [.t 25,.c (.str [58])]]
def a72s13:=Rg [] [nP 27 0,oP 28 (.call 41) [.t 27],fP 29 2 (.l 5),xP (.stLc 5 3) [.t 29,.ts 28] 5]
def a72s16:=Rg [] [fP 32 5 (.l 5),xP (.stLc 5 1) [.t 32,.c (.bool true)] 5]
def a72s18:=Rg [] [nP 33 0,oP 34 (.call 42) [.t 33,.c (.bool true)],fP 35 6 (.l 5),xP (.stLc 5 5) [.t 35,.ts 34] 5]
def a72s20:=Ts [] [nP 30 0,oP 31 (.call 25) [.t 30,.c (.str [61])]] (.t 31) (Sq a72s16 a72s18) .skip
def a72s22:=Rg [] [mP 36 (.vs 3),lP 37 5 true 11 (.l 5),oP 38 (.bslice 11 [[.str [],.list true [],.str [],.list true [],.bool false,.bool false,.int .u8 0,.int .i64 0,.str [],.list true [],.list true []]] [0]) [.t 37],oP 39 (.app 11 176) [.ts 36,.t 38],vP 3 (.ts 39)]
def a72s29:=Rg [] [vP 4 (.c (.bool false))]
def a72s36:=Rg [] [nP 40 3,vP 2 (.ts 40)]
def a72c : ACode :=
  (Sq a72s1 (Sq a72s3 (Sq (Sq a72s5 (Bk 0 (Lp (Sq a72s7 (Sq (Bk 1 (Sq a72s9 (Sq a72s11 (Sq a72s13 (Sq a72s20 a72s22))))) a72s29))))) (Sq a72s36 .ret))))
def a72 : AFn := { np := 2,nv := 6,results := [.v 2],code := a72c }
def a72v : List Nat:=[0,1,4,5,6,7]
def a72b : List Nat := [5]

def a73s1:=Rg [] [vP 2 (.c (.int .i64 0))]
def a73s3:=Rg [] [nP 6 0,op (.v 4) .lenL [.t 6],vP 5 (.c (.int .i64 0))]
def a73s5:=Ts [] [bP 9 .lss (.v 5) (.v 4)] (.t 9) .skip (.exit 0)
def a73s7:=Rg [] [nP 10 5,vP 3 (.t 10)]
def a73s10:=Rg [] [nP 17 3,vP 2 (.t 17)]
def a73s11:=Sq a73s10 .ret
def a73s12:=Ts [] [nP 11 1,nP 12 0,nP 13 3,oP 14 (.iad 1) [.t 12,.t 13],oP 15 (.ldRo false 1) [.t 14],bP 16 .eql (.t 11) (.t 15)] (.t 16) a73s11 .skip
def a73s16:=Rg [] [bP 18 .add (.v 5) (.c (.int .i64 1)),vP 5 (.t 18)]
def a73s23:=Rg [] [vP 2 (.c (.int .i64 (-1)))]
def a73c : ACode :=
  (Sq a73s1 (Sq (Sq a73s3 (Bk 0 (Lp (Sq a73s5 (Sq (Bk 1 (Sq a73s7 a73s12)) a73s16))))) (Sq a73s23 .ret)))
def a73 : AFn := { np := 2,nv := 6,results := [.v 2],code := a73c }
def a73v : List Nat:=[0,1,4,5,7,8]
def a73b : List Nat := []

def a74s1:=Rg [] [vP 2 (.c (.bool false))]
def a74s3:=Rg [] [nP 5 0,oP 6 .lenS [.t 5],nP 7 1,oP 8 .lenS [.t 7],bP 9 .geq (.t 6) (.t 8),mP 10 (.t 9),gP 11 .mv [.v 0] 10 true,gP 12 .mv [.v 1] 10 true,gP 13 .lenS [.t 12] 10 true,gP 14 (.slS false true) [.t 11,.t 13] 10 true,gP 15 .mv [.v 1] 10 true,gP 16 (.bin .eql) [.t 14,.t 15] 10 true,oP 17 .pick [.t 10,.t 16,.c (.bool false)],vP 2 (.t 17)]
def a74c : ACode :=
  (Sq a74s1 (Sq a74s3 .ret))
def a74 : AFn := { np := 2,nv := 3,results := [.v 2],code := a74c }
def a74v : List Nat:=[0,1,4]
def a74b : List Nat := []

def a75s1:=Rg [1] [⟨.bx,.alloc [.int .i64 0,.str []],[],some 1,none⟩]
def a75s3:=Rg [] [vP 4 (.v 0),op (.v 5) .lenL [.v 4],vP 6 (.c (.int .i64 0))]
def a75s5:=Ts [] [bP 8 .lss (.v 6) (.v 5)] (.t 8) .skip (.exit 0)
def a75s7:=Rg [] [nP 9 6,oP 10 (.iad 1) [.v 4,.v 6],oP 11 (.ldRo false 1) [.t 10],vP 2 (.t 9),vP 3 (.t 11)]
def a75s10:=Rg [] [nP 17 3,oP 18 (.build [.int .i64 0,.str []] [(0,1),(1,1)]) [.c (.int .i64 7),.t 17],xP (.stLc 1 2) [.l 1,.t 18] 1]
def a75s12:=Ts [] [nP 12 0,nP 13 2,oP 14 (.slL 1 false true) [.t 12,.t 13],nP 15 3,oP 16 (.call 45) [.t 14,.t 15]] (.t 16) (Sq a75s10 .ret) .skip
def a75s15:=Rg [] [nP 21 3,oP 22 (.build [.int .i64 0,.str []] [(0,1),(1,1)]) [.c (.int .i64 1),.t 21],xP (.stLc 1 2) [.l 1,.t 22] 1]
def a75s17:=Ts [] [nP 19 3,oP 20 (.call 46) [.t 19,.c (.str [95,95])]] (.t 20) (Sq a75s15 .ret) .skip
def a75s22:=Rg [] [bP 23 .add (.v 6) (.c (.int .i64 1)),vP 6 (.t 23)]
def a75s29:=Rg [] [oP 24 (.build [.int .i64 0,.str []] []) [],xP (.stLc 1 2) [.l 1,.t 24] 1]
def a75c : ACode :=
  (Sq a75s1 (Sq (Sq a75s3 (Bk 0 (Lp (Sq a75s5 (Sq (Bk 1 (Sq a75s7 (Sq a75s12 a75s17))) a75s22))))) (Sq a75s29 .ret)))
def a75 : AFn := { np := 1,nv := 7,results := [.bx 1 true 2],code := a75c }
def a75v : List Nat:=[0,2,3,4,5,6,7]
def a75b : List Nat := [1]

def a76s1:=Rg [] [op (.v 1) .mv [.c (.list true [])]]
def a76s3:=Rg [] [op (.v 2) .mv [.c (.list true [])]]
def a76s5:=Rg [] [vP 4 (.v 0),op (.v 5) .lenL [.v 4],vP 6 (.c (.int .i64 0))]
def a76s7:=Ts [] [bP 9 .lss (.v 6) (.v 5)] (.t 9) .skip (.exit 0)
def a76s9:=Rg [3] [oP 10 (.iad 11) [.v 4,.v 6],oP 11 (.ldRo true 11) [.t 10],⟨.bx,.alloc [.str [],.list true [],.str [],.list true [],.bool false,.bool false,.int .u8 0,.int .i64 0,.str [],.list true [],.list true []],[],some 3,none⟩,xP (.stLc 3 11) [.l 3,.ts 11] 3]
def a76s11:=Rg [] [mP 12 (.vs 2),fP 13 0 (.l 3),lP 14 3 false 1 (.t 13),oP 15 (.bslice 1 [[.str []]] [0]) [.t 14],oP 16 (.app 1 16) [.ts 12,.t 15],vP 2 (.ts 16)]
def a76s15:=Rg [] [bP 17 .add (.v 6) (.c (.int .i64 1)),vP 6 (.t 17)]
def a76s22:=Rg [] [mP 18 (.vs 2),vP 1 (.ts 18)]
def a76c : ACode :=
  (Sq a76s1 (Sq a76s3 (Sq (Sq a76s5 (Bk 0 (Lp (Sq a76s7 (Sq (Bk 1 (Sq a76s9 a76s11)) a76s15))))) (Sq a76s22 .ret))))
def a76 : AFn := { np := 1,nv := 7,results := [.vs 1],code := a76c }
def a76v : List Nat:=[0,2,3,5,6,7,8]
def a76b : List Nat := [3]

def a77s1:=Rg [3,4] [⟨.bx,.boxV,[.v 1],some 3,none⟩,⟨.bx,.alloc [.int .i64 0,.str []],[],some 4,none⟩]
def a77s3:=Rg [] [fP 15 2 (.l 3),lP 16 3 true 3 (.t 15),oP 17 (.call 102) [.t 16],vP 5 (.t 17)]
def a77s5:=Rg [6] [nP 19 0,nP 20 5,oP 21 (.call 48) [.t 19,.t 20],mP 18 (.t 21),oP 22 (.ext 0) [.t 18],oP 23 (.ext 1) [.t 18],⟨.bx,.alloc [.int .u8 0,.str [],.list true [],.list true []],[],some 6,none⟩,xP (.stLc 6 4) [.l 6,.ts 22] 6,vP 7 (.t 23)]
def a77s8:=Rg [] [nP 33 5,oP 34 (.build [.int .i64 0,.str []] [(0,1),(1,1)]) [.c (.int .i64 6),.t 33],xP (.stLc 4 2) [.l 4,.t 34] 4]
def a77s13:=Rg [] [nP 56 5,oP 57 (.call 78) [.t 56],vP 12 (.t 57)]
def a77s14:=Ts [] [nP 49 2,oP 50 (.un .not) [.t 49],mP 51 (.t 50),gP 52 .mv [.v 0] 51 true,gP 53 .mv [.v 5] 51 true,gP 54 (.call 105) [.t 52,.t 53] 51 true,oP 55 .pick [.t 51,.t 54,.c (.bool false)],vP 12 (.t 55)] (.v 12) .skip a77s13
def a77s15:=Ts [] [nP 36 2,mP 37 (.t 36),gP 38 .mv [.v 0] 37 true,gP 39 .mv [.v 5] 37 true,gP 40 (.call 103) [.t 38,.t 39] 37 true,gP 41 (.un .not) [.t 40] 37 true,oP 42 .pick [.t 37,.t 41,.c (.bool false)],mP 43 (.t 42),gP 44 .mv [.v 0] 43 true,gP 45 .mv [.v 5] 43 true,gP 46 (.call 104) [.t 44,.t 45] 43 true,gP 47 (.un .not) [.t 46] 43 true,oP 48 .pick [.t 43,.t 47,.c (.bool false)],vP 12 (.t 48)] (.v 12) .skip a77s14
def a77s17:=Rg [] [nP 58 5,oP 59 (.build [.int .i64 0,.str []] [(0,1),(1,1)]) [.c (.int .i64 8),.t 58],xP (.stLc 4 2) [.l 4,.t 59] 4]
def a77s21:=Rg [] [fP 72 0 (.l 3),lP 73 3 false 1 (.t 72),oP 74 (.build [.int .i64 0,.str []] [(0,1),(1,1)]) [.c (.int .i64 8),.t 73],xP (.stLc 4 2) [.l 4,.t 74] 4]
def a77s23:=Ts [] [fP 61 5 (.l 3),lP 62 3 false 1 (.t 61),mP 63 (.t 62),gP 64 .mv [.v 0] 63 true,gP 65 (.fad 2) [.l 3] 63 true,⟨.t 66,.ldLc 3 true 3,[.t 65],some 3,some (.t 63,true)⟩,gP 67 (.fad 6) [.l 3] 63 true,⟨.t 68,.ldLc 3 true 5,[.t 67],some 3,some (.t 63,true)⟩,gP 69 (.call 106) [.t 64,.t 66,.t 68] 63 true,gP 70 (.un .not) [.t 69] 63 true,oP 71 .pick [.t 63,.t 70,.c (.bool false)],mP 60 (.t 71)] (.t 60) (Sq a77s21 .ret) .skip
def a77s24:=Ts [] [] (.v 12) (Sq a77s17 .ret) a77s23
def a77s26:=Ts [] [nP 25 7,oP 26 (.un .not) [.t 25],mP 27 (.t 26),gP 28 .mv [.v 0] 27 true,gP 29 .mv [.v 5] 27 true,gP 30 (.call 103) [.t 28,.t 29] 27 true,gP 31 (.un .not) [.t 30] 27 true,oP 32 .pick [.t 27,.t 31,.c (.bool false)],mP 24 (.t 32)] (.t 24) (Sq a77s8 .ret) (Sq a77s15 a77s24)
def a77s29:=Rg [8] [fP 75 1 (.l 3),lP 76 3 false 1 (.t 75),oP 77 (.call 76) [.t 76],oP 78 (.call 75) [.t 77],⟨.bx,.alloc [.int .i64 0,.str []],[],some 8,none⟩,xP (.stLc 8 2) [.l 8,.t 78] 8]
def a77s32:=Rg [] [lP 82 8 true 2 (.l 8),xP (.stLc 4 2) [.l 4,.t 82] 4]
def a77s34:=Ts [] [fP 79 0 (.l 8),lP 80 8 false 1 (.t 79),bP 81 .neq (.t 80) (.c (.int .i64 0))] (.t 81) (Sq a77s32 .ret) .skip
def a77s37:=Rg [] [fP 83 1 (.l 3),⟨.v 13,.ldLc 3 false 1,[.t 83],some 3,none⟩,op (.v 14) .lenL [.v 13],vP 15 (.c (.int .i64 0))]
def a77s39:=Ts [] [bP 87 .lss (.v 15) (.v 14)] (.t 87) .skip (.exit 1)
def a77s41:=Rg [9] [oP 88 (.iad 11) [.v 13,.v 15],oP 89 (.ldRo true 11) [.t 88],⟨.bx,.alloc [.str [],.list true [],.str [],.list true [],.bool false,.bool false,.int .u8 0,.int .i64 0,.str [],.list true [],.list true []],[],some 9,none⟩,xP (.stLc 9 11) [.l 9,.ts 89] 9]
def a77s43:=Rg [] [fP 90 2 (.l 9),lP 91 9 true 3 (.t 90),oP 92 (.call 102) [.t 91],vP 10 (.t 92)]
def a77s47:=Rg [] [fP 106 0 (.l 9),lP 107 9 false 1 (.t 106),oP 108 (.build [.int .i64 0,.str []] [(0,1),(1,1)]) [.c (.int .i64 8),.t 107],xP (.stLc 4 2) [.l 4,.t 108] 4]
def a77s49:=Ts [] [fP 104 5 (.l 9),lP 105 9 false 1 (.t 104)] (.t 105) (Sq a77s47 .ret) .skip
def a77s51:=Rg [11] [nP 93 0,lP 94 9 true 11 (.l 9),oP 95 (.call 77) [.t 93,.t 94,.c (.bool true)],⟨.bx,.alloc [.int .i64 0,.str []],[],some 11,none⟩,xP (.stLc 11 2) [.l 11,.t 95] 11]
def a77s54:=Rg [] [lP 99 11 true 2 (.l 11),xP (.stLc 4 2) [.l 4,.t 99] 4]
def a77s56:=Ts [] [fP 96 0 (.l 11),lP 97 11 false 1 (.t 96),bP 98 .neq (.t 97) (.c (.int .i64 0))] (.t 98) (Sq a77s54 .ret) .skip
def a77s58:=Ts [] [nP 101 0,nP 102 10,oP 103 (.call 105) [.t 101,.t 102],mP 100 (.t 103)] (.t 100) a77s49 (Sq a77s51 a77s56)
def a77s64:=Rg [] [bP 109 .add (.v 15) (.c (.int .i64 1)),vP 15 (.t 109)]
def a77s71:=Rg [] [oP 110 (.build [.int .i64 0,.str []] []) [],xP (.stLc 4 2) [.l 4,.t 110] 4]
def a77c : ACode :=
  (Sq a77s1 (Sq a77s3 (Sq a77s5 (Sq (Bk 0 a77s26) (Sq (Sq a77s29 a77s34) (Sq (Sq a77s37 (Bk 1 (Lp (Sq a77s39 (Sq (Bk 2 (Sq a77s41 (Sq a77s43 (Bk 3 a77s58)))) a77s64))))) (Sq a77s71 .ret)))))))
def a77 : AFn := { np := 3,nv := 16,results := [.bx 4 true 2],code := a77c }
def a77v : List Nat:=[0,1,2,4,6,7,8,9,10,12,13,14,35,84,85,86]
def a77b : List Nat := [3,4,6,8,9,11]

def a78s1:=Rg [] [vP 1 (.c (.bool false))]
def a78s3:=Rg [] [nP 3 0,oP 4 (.bin .eql) [.t 3,.c (.str [81,117,101,114,121])],mP 5 (.t 4),gP 6 .mv [.v 0] 5 false,gP 7 (.bin .eql) [.t 6,.c (.str [77,117,116,97,116,105,111,110])] 5 false,oP 8 .pick [.t 5,.c (.bool true),.t 7],vP 1 (.t 8)]
def a78c : ACode :=
  (Sq a78s1 (Sq a78s3 .ret))
def a78 : AFn := { np := 1,nv := 2,results := [.v 1],code := a78c }
def a78v : List Nat:=[0,2]
def a78b : List Nat := []

def a79s1:=Rg [4] [op (.v 3) .boxO [.v 1],⟨.bx,.boxV,[.v 2],some 4,none⟩,vP 5 (.c (.bool false))]
def a79s3:=Rg [] [fP 7 2 (.l 4),lP 8 4 false 1 (.t 7),oP 9 (.mkF 108 0) [.v 3],oP 10 (.call 107) [.t 8,.t 9],oP 11 (.un .not) [.t 10],vP 5 (.t 11)]
def a79c : ACode :=
  (Sq a79s1 (Sq a79s3 .ret))
def a79 : AFn := { np := 3,nv := 6,results := [.v 5],code := a79c }
def a79v : List Nat:=[0,1,2,4,5,6]
def a79b : List Nat := [4]

def a80s1:=Rg [2] [⟨.bx,.boxV,[.v 1],some 2,none⟩,vP 3 (.c (.bool false))]
def a80s3:=Rg [] [fP 5 1 (.l 2),lP 6 2 false 1 (.t 5),oP 7 .lenL [.t 6],bP 8 .eql (.t 7) (.c (.int .i64 1)),mP 9 (.t 8),gP 10 (.fad 1) [.l 2] 9 true,⟨.t 11,.ldLc 2 false 1,[.t 10],some 2,some (.t 9,true)⟩,gP 12 (.iad 11) [.t 11,.c (.int .i64 0)] 9 true,gP 13 (.ldRo true 11) [.t 12] 9 true,gP 14 (.call 110) [.t 13] 9 true,oP 15 .pick [.t 9,.t 14,.c (.bool false)],mP 16 (.t 15),gP 17 (.fad 2) [.l 2] 16 true,gP 18 (.fad 1) [.t 17] 16 true,⟨.t 19,.ldLc 2 false 1,[.t 18],some 2,some (.t 16,true)⟩,gP 20 .lenL [.t 19] 16 true,gP 21 (.bin .eql) [.t 20,.c (.int .i64 0)] 16 true,oP 22 .pick [.t 16,.t 21,.c (.bool false)],mP 23 (.t 22),gP 24 (.fad 2) [.l 2] 23 true,gP 25 (.fad 2) [.t 24] 23 true,⟨.t 26,.ldLc 2 false 1,[.t 25],some 2,some (.t 23,true)⟩,gP 27 (.un .not) [.t 26] 23 true,oP 28 .pick [.t 23,.t 27,.c (.bool false)],mP 29 (.t 28),gP 30 .mv [.v 0] 29 true,gP 31 (.fad 2) [.l 2] 29 true,gP 32 (.fad 0) [.t 31] 29 true,⟨.t 33,.ldLc 2 false 1,[.t 32],some 2,some (.t 29,true)⟩,gP 34 (.call 111) [.t 30,.t 33] 29 true,oP 35 .pick [.t 29,.t 34,.c (.bool false)],vP 3 (.t 35)]
def a80c : ACode :=
  (Sq a80s1 (Sq a80s3 .ret))
def a80 : AFn := { np := 2,nv := 4,results := [.v 3],code := a80c }
def a80v : List Nat:=[0,1,3,4]
def a80b : List Nat := [2]

def a81s1:=Rg [2] [⟨.bx,.boxV,[.v 1],some 2,none⟩,vP 3 (.c (.bool false))]
def a81s3:=Rg [] [fP 5 1 (.l 2),lP 6 2 false 1 (.t 5),oP 7 .lenL [.t 6],bP 8 .eql (.t 7) (.c (.int .i64 0)),mP 9 (.t 8),gP 10 .mv [.v 0] 9 true,gP 11 (.fad 2) [.l 2] 9 true,⟨.t 12,.ldLc 2 true 3,[.t 11],some 2,some (.t 9,true)⟩,gP 13 (.call 102) [.t 12] 9 true,gP 14 (.call 111) [.t 10,.t 13] 9 true,oP 15 .pick [.t 9,.t 14,.c (.bool false)],mP 16 (.t 15),gP 17 (.fad 2) [.l 2] 16 true,⟨.t 18,.ldLc 2 true 3,[.t 17],some 2,some (.t 16,true)⟩,gP 19 (.fad 2) [.l 2] 16 true,⟨.t 20,.ldLc 2 true 3,[.t 19],some 2,some (.t 16,true)⟩,gP 21 (.call 102) [.t 20] 16 true,⟨.t 22,(.build [.str [],.list true [],.bool false] [(0,1),(2,1)]),[.t 21,.c (.bool true)],none,some (.t 16,true)⟩,⟨.t 23,.bslice 3 [[.str [],.list true [],.bool false]] [0],[.t 22],none,some (.t 16,true)⟩,⟨.t 24,(.build [.str [],.list true [],.bool false] [(1,1),(2,1)]),[.t 23,.c (.bool true)],none,some (.t 16,true)⟩,gP 25 (.call 109) [.t 18,.t 24] 16 true,oP 26 .pick [.t 16,.t 25,.c (.bool false)],vP 3 (.t 26)]
def a81c : ACode :=
  (Sq a81s1 (Sq a81s3 .ret))
def a81 : AFn := { np := 2,nv := 4,results := [.v 3],code := a81c }
def a81v : List Nat:=[0,1,3,4]
def a81b : List Nat := [2]

def a82s1:=Rg [3] [op (.v 2) .boxO [.v 0],⟨.bx,.boxV,[.v 1],some 3,none⟩,vP 4 (.c (.bool false))]
def a82s3:=Rg [] [fP 11 0 (.l 3),lP 12 3 false 1 (.t 11),oP 13 (.call 112) [.t 12],mP 10 (.t 13),oP 14 (.ext 0) [.t 10],oP 15 (.ext 1) [.t 10],vP 5 (.t 14),vP 6 (.t 15)]
def a82s5:=Rg [] [oP 17 (.ldSt false 1) [.v 2],nP 18 6,oP 19 (.call 48) [.t 17,.t 18],mP 16 (.t 19),oP 20 (.ext 0) [.t 16],oP 21 (.ext 1) [.t 16],op (.v 7) (.allocO [.int .u8 0,.str [],.list true [],.list true []]) [],op .none (.stSt 4) [.v 7,.ts 20],vP 8 (.t 21)]
def a82s8:=Rg [] [vP 4 (.c (.bool false))]
def a82s10:=Ts [] [nP 22 8,oP 23 (.un .not) [.t 22],mP 24 (.t 23),gP 25 (.fad 0) [.v 7] 24 false,gP 26 (.ldSt false 1) [.t 25] 24 false,gP 27 (.bin .neq) [.t 26,.c (.int .u8 1)] 24 false,oP 28 .pick [.t 24,.c (.bool true),.t 27],mP 29 (.t 28),gP 30 .mv [.v 6] 29 false,gP 31 (.call 78) [.t 30] 29 false,oP 32 .pick [.t 29,.c (.bool true),.t 31],mP 33 (.t 32),gP 34 (.fad 2) [.l 3] 33 false,⟨.t 35,.ldLc 3 true 3,[.t 34],some 3,some (.t 33,false)⟩,gP 36 .mv [.v 6] 33 false,⟨.t 37,(.build [.str [],.list true [],.bool false] [(0,1)]),[.t 36],none,some (.t 33,false)⟩,gP 38 (.call 109) [.t 35,.t 37] 33 false,gP 39 (.un .not) [.t 38] 33 false,oP 40 .pick [.t 33,.c (.bool true),.t 39]] (.t 40) (Sq a82s8 .ret) .skip
def a82s13:=Rg [] [fP 43 1 (.l 3),lP 44 3 false 1 (.t 43),oP 45 .lenL [.t 44],bP 46 .eql (.t 45) (.c (.int .i64 1)),mP 47 (.t 46),gP 48 (.fad 1) [.l 3] 47 true,⟨.t 49,.ldLc 3 false 1,[.t 48],some 3,some (.t 47,true)⟩,gP 50 (.iad 11) [.t 49,.c (.int .i64 0)] 47 true,gP 51 (.ldRo true 11) [.t 50] 47 true,gP 52 (.call 110) [.t 51] 47 true,oP 53 .pick [.t 47,.t 52,.c (.bool false)],vP 4 (.t 53)]
def a82s15:=Ts [] [nP 41 5,oP 42 (.bin .eql) [.t 41,.c (.str [100,101,108,101,116,101])]] (.t 42) (Sq a82s13 .ret) .skip
def a82s18:=Rg [] [vP 4 (.c (.bool false))]
def a82s20:=Ts [] [fP 54 1 (.l 3),lP 55 3 false 1 (.t 54),oP 56 .lenL [.t 55],bP 57 .neq (.t 56) (.c (.int .i64 2)),mP 58 (.t 57),gP 59 (.fad 1) [.l 3] 58 false,⟨.t 60,.ldLc 3 false 1,[.t 59],some 3,some (.t 58,false)⟩,gP 61 (.iad 11) [.t 60,.c (.int .i64 0)] 58 false,gP 62 (.ldRo true 11) [.t 61] 58 false,gP 63 (.call 110) [.t 62] 58 false,gP 64 (.un .not) [.t 63] 58 false,oP 65 .pick [.t 58,.c (.bool true),.t 64],mP 66 (.t 65),gP 67 (.fad 1) [.l 3] 66 false,⟨.t 68,.ldLc 3 false 1,[.t 67],some 3,some (.t 66,false)⟩,gP 69 (.iad 11) [.t 68,.c (.int .i64 1)] 66 false,gP 70 (.fad 0) [.t 69] 66 false,gP 71 (.ldRo false 1) [.t 70] 66 false,gP 72 (.bin .neq) [.t 71,.c (.str [105,110,112,117,116])] 66 false,oP 73 .pick [.t 66,.c (.bool true),.t 72],mP 74 (.t 73),gP 75 (.fad 1) [.l 3] 74 false,⟨.t 76,.ldLc 3 false 1,[.t 75],some 3,some (.t 74,false)⟩,gP 77 (.iad 11) [.t 76,.c (.int .i64 1)] 74 false,gP 78 (.fad 2) [.t 77] 74 false,gP 79 (.fad 2) [.t 78] 74 false,gP 80 (.ldRo false 1) [.t 79] 74 false,gP 81 (.un .not) [.t 80] 74 false,oP 82 .pick [.t 74,.c (.bool true),.t 81],mP 83 (.t 82),gP 84 (.fad 1) [.l 3] 83 false,⟨.t 85,.ldLc 3 false 1,[.t 84],some 3,some (.t 83,false)⟩,gP 86 (.iad 11) [.t 85,.c (.int .i64 1)] 83 false,gP 87 (.fad 2) [.t 86] 83 false,gP 88 (.fad 1) [.t 87] 83 false,gP 89 (.ldRo false 1) [.t 88] 83 false,gP 90 .lenL [.t 89] 83 false,gP 91 (.bin .gtr) [.t 90,.c (.int .i64 0)] 83 false,oP 92 .pick [.t 83,.c (.bool true),.t 91]] (.t 92) (Sq a82s18 .ret) .skip
def a82s22:=Rg [9] [oP 94 (.ldSt false 1) [.v 2],fP 95 1 (.l 3),lP 96 3 false 1 (.t 95),oP 97 (.iad 11) [.t 96,.c (.int .i64 1)],fP 98 2 (.t 97),fP 99 0 (.t 98),oP 100 (.ldRo false 1) [.t 99],oP 101 (.call 48) [.t 94,.t 100],mP 93 (.t 101),oP 102 (.ext 0) [.t 93],oP 103 (.ext 1) [.t 93],⟨.bx,.alloc [.int .u8 0,.str [],.list true [],.list true []],[],some 9,none⟩,xP (.stLc 9 4) [.l 9,.ts 102] 9,vP 8 (.t 103)]
def a82s25:=Rg [] [vP 4 (.c (.bool false))]
def a82s27:=Ts [] [nP 104 8,oP 105 (.un .not) [.t 104],mP 106 (.t 105),gP 107 (.fad 0) [.l 9] 106 false,⟨.t 108,.ldLc 9 false 1,[.t 107],some 9,some (.t 106,false)⟩,gP 109 (.bin .neq) [.t 108,.c (.int .u8 5)] 106 false,oP 110 .pick [.t 106,.c (.bool true),.t 109]] (.t 110) (Sq a82s25 .ret) .skip
def a82s29:=Rg [] [fP 111 2 (.l 9),lP 112 9 false 1 (.t 111),oP 113 (.mkF 113 0) [.v 7,.v 2],oP 114 (.call 107) [.t 112,.t 113],oP 115 (.un .not) [.t 114],vP 4 (.t 115)]
def a82c : ACode :=
  (Sq a82s1 (Sq a82s3 (Sq a82s5 (Sq a82s10 (Sq a82s15 (Sq a82s20 (Sq a82s22 (Sq a82s27 (Sq a82s29 .ret)))))))))
def a82 : AFn := { np := 2,nv := 10,results := [.v 4],code := a82c }
def a82v : List Nat:=[0,1,2,3,4,5,6,7,8,9]
def a82b : List Nat := [3,9]

def a83s1:=Rg [] [op (.v 1) .mv [.c (.str [])],vP 2 (.c (.int .i64 0))]
def a83s3:=Rg [] [vP 3 (.c (.int .i64 0))]
def a83s5:=Ts [] [nP 5 3,nP 6 0,oP 7 .lenL [.t 6],bP 8 .lss (.t 5) (.t 7)] (.t 8) .skip (.exit 0)
def a83s8:=Rg [] [nP 19 0,nP 20 3,oP 21 (.iad 1) [.t 19,.t 20],oP 22 (.ldRo false 1) [.t 21],vP 1 (.t 22),vP 2 (.c (.int .i64 7))]
def a83s10:=Ts [] [nP 11 0,nP 12 3,oP 13 (.slL 1 false true) [.t 11,.t 12],nP 14 0,nP 15 3,oP 16 (.iad 1) [.t 14,.t 15],oP 17 (.ldRo false 1) [.t 16],oP 18 (.call 51) [.t 13,.t 17]] (.t 18) (Sq a83s8 .ret) .skip
def a83s13:=Rg [] [nP 28 0,nP 29 3,oP 30 (.iad 1) [.t 28,.t 29],oP 31 (.ldRo false 1) [.t 30],vP 1 (.t 31),vP 2 (.c (.int .i64 1))]
def a83s15:=Ts [] [nP 23 0,nP 24 3,oP 25 (.iad 1) [.t 23,.t 24],oP 26 (.ldRo false 1) [.t 25],oP 27 (.call 52) [.t 26,.c (.str [95,95])]] (.t 27) (Sq a83s13 .ret) .skip
def a83s19:=Rg [] [nP 9 3,bP 10 .add (.t 9) (.c (.int .i64 1)),vP 3 (.t 10)]
def a83s26:=Rg [] [op (.v 1) .mv [.c (.str [])],vP 2 (.c (.int .i64 0))]
def a83c : ACode :=
  (Sq a83s1 (Sq (Sq a83s3 (Bk 0 (Lp (Sq a83s5 (Sq (Bk 1 (Sq a83s10 a83s15)) a83s19))))) (Sq a83s26 .ret)))
def a83 : AFn := { np := 1,nv := 4,results := [.v 1,.v 2],code := a83c }
def a83v : List Nat:=[0,2,3,4]
def a83b : List Nat := []

def a84s1:=Rg [] [op (.v 1) .mv [.c (.list true [])]]
def a84s3:=Rg [] [op (.v 2) .mv [.c (.list true [])]]
def a84s5:=Rg [] [vP 3 (.c (.int .i64 0))]
def a84s7:=Ts [] [nP 5 3,nP 6 0,oP 7 .lenL [.t 6],bP 8 .lss (.t 5) (.t 7)] (.t 8) .skip (.exit 0)
def a84s9:=Rg [] [mP 11 (.vs 2),nP 12 0,nP 13 3,oP 14 (.iad 11) [.t 12,.t 13],fP 15 0 (.t 14),oP 16 (.ldRo false 1) [.t 15],oP 17 (.bslice 1 [[.str []]] [0]) [.t 16],oP 18 (.app 1 16) [.ts 11,.t 17],vP 2 (.ts 18)]
def a84s12:=Rg [] [nP 9 3,bP 10 .add (.t 9) (.c (.int .i64 1)),vP 3 (.t 10)]
def a84s19:=Rg [] [nP 19 2,vP 1 (.ts 19)]
def a84c : ACode :=
  (Sq a84s1 (Sq a84s3 (Sq (Sq a84s5 (Bk 0 (Lp (Sq a84s7 (Sq (Bk 1 a84s9) a84s12))))) (Sq a84s19 .ret))))
def a84 : AFn := { np := 1,nv := 4,results := [.v 1],code := a84c }
def a84v : List Nat:=[0,2,3,4]
def a84b : List Nat := []

def a85s1:=Rg [3] [⟨.bx,.boxV,[.v 1],some 3,none⟩,op (.v 4) .mv [.c (.str [])],vP 5 (.c (.int .i64 0))]
def a85s3:=Rg [] [fP 14 2 (.l 3),lP 15 3 true 3 (.t 14),oP 16 (.call 89) [.t 15],vP 6 (.t 16)]
def a85s5:=Rg [] [nP 17 0,nP 18 6,oP 19 (.call 54) [.t 17,.t 18],oP 20 (.fld 0 1 false) [.t 19],vP 7 (.t 20)]
def a85s8:=Rg [] [nP 28 6,vP 4 (.t 28),vP 5 (.c (.int .i64 6))]
def a85s10:=Ts [] [nP 21 6,oP 22 (.call 50) [.t 21],oP 23 (.un .not) [.t 22],mP 24 (.t 23),gP 25 .mv [.v 7] 24 true,gP 26 (.bin .eql) [.t 25,.c (.int .u8 0)] 24 true,oP 27 .pick [.t 24,.t 26,.c (.bool false)]] (.t 27) (Sq a85s8 .ret) .skip
def a85s13:=Rg [] [nP 48 6,vP 4 (.t 48),vP 5 (.c (.int .i64 8))]
def a85s15:=Ts [] [nP 29 2,mP 30 (.t 29),gP 31 .mv [.v 0] 30 true,gP 32 .mv [.v 6] 30 true,gP 33 (.call 115) [.t 31,.t 32] 30 true,gP 34 (.un .not) [.t 33] 30 true,oP 35 .pick [.t 30,.t 34,.c (.bool false)],mP 36 (.t 35),gP 37 .mv [.v 2] 36 false,gP 38 (.un .not) [.t 37] 36 false,gP 39 .mv [.t 38] 36 false,gP 40 .mv [.v 7] 39 true,gP 41 (.bin .eql) [.t 40,.c (.int .u8 5)] 39 true,gP 42 .pick [.t 39,.t 41,.c (.bool false)] 36 false,oP 43 .pick [.t 36,.c (.bool true),.t 42],mP 44 (.t 43),gP 45 .mv [.v 6] 44 false,gP 46 (.call 86) [.t 45] 44 false,oP 47 .pick [.t 44,.c (.bool true),.t 46]] (.t 47) (Sq a85s13 .ret) .skip
def a85s18:=Rg [] [fP 60 0 (.l 3),lP 61 3 false 1 (.t 60),vP 4 (.t 61),vP 5 (.c (.int .i64 8))]
def a85s20:=Ts [] [fP 49 5 (.l 3),lP 50 3 false 1 (.t 49),mP 51 (.t 50),gP 52 .mv [.v 0] 51 true,gP 53 (.fad 2) [.l 3] 51 true,⟨.t 54,.ldLc 3 true 3,[.t 53],some 3,some (.t 51,true)⟩,gP 55 (.fad 6) [.l 3] 51 true,⟨.t 56,.ldLc 3 true 5,[.t 55],some 3,some (.t 51,true)⟩,gP 57 (.call 116) [.t 52,.t 54,.t 56,.c (.bool false)] 51 true,gP 58 (.un .not) [.t 57] 51 true,oP 59 .pick [.t 51,.t 58,.c (.bool false)]] (.t 59) (Sq a85s18 .ret) .skip
def a85s22:=Rg [] [fP 63 1 (.l 3),lP 64 3 false 1 (.t 63),oP 65 (.call 84) [.t 64],oP 66 (.call 83) [.t 65],mP 62 (.t 66),oP 67 (.ext 0) [.t 62],oP 68 (.ext 1) [.t 62],vP 8 (.t 67),vP 9 (.t 68)]
def a85s25:=Rg [] [nP 71 8,nP 72 9,vP 4 (.t 71),vP 5 (.t 72)]
def a85s27:=Ts [] [nP 69 9,bP 70 .neq (.t 69) (.c (.int .i64 0))] (.t 70) (Sq a85s25 .ret) .skip
def a85s29:=Rg [] [vP 10 (.c (.int .i64 0))]
def a85s31:=Ts [] [nP 73 10,fP 74 1 (.l 3),lP 75 3 false 1 (.t 74),oP 76 .lenL [.t 75],bP 77 .lss (.t 73) (.t 76)] (.t 77) .skip (.exit 0)
def a85s33:=Rg [11] [fP 80 1 (.l 3),lP 81 3 false 1 (.t 80),nP 82 10,oP 83 (.iad 11) [.t 81,.t 82],oP 84 (.ldRo true 11) [.t 83],⟨.bx,.alloc [.str [],.list true [],.str [],.list true [],.bool false,.bool false,.int .u8 0,.int .i64 0,.str [],.list true [],.list true []],[],some 11,none⟩,xP (.stLc 11 11) [.l 11,.ts 84] 11]
def a85s37:=Rg [] [fP 94 0 (.l 11),lP 95 11 false 1 (.t 94),vP 4 (.t 95),vP 5 (.c (.int .i64 8))]
def a85s39:=Ts [] [fP 92 5 (.l 11),lP 93 11 false 1 (.t 92)] (.t 93) (Sq a85s37 .ret) .skip
def a85s41:=Ts [] [nP 85 0,fP 86 2 (.l 11),lP 87 11 true 3 (.t 86),oP 88 (.call 89) [.t 87],oP 89 (.call 54) [.t 85,.t 88],oP 90 (.fld 0 1 false) [.t 89],bP 91 .eql (.t 90) (.c (.int .u8 5))] (.t 91) (Sq a85s39 (.exit 1)) .skip
def a85s43:=Rg [] [nP 97 0,lP 98 11 true 11 (.l 11),oP 99 (.call 85) [.t 97,.t 98,.c (.bool true)],mP 96 (.t 99),oP 100 (.ext 0) [.t 96],oP 101 (.ext 1) [.t 96],vP 8 (.t 100),vP 9 (.t 101)]
def a85s46:=Rg [] [nP 104 8,nP 105 9,vP 4 (.t 104),vP 5 (.t 105)]
def a85s48:=Ts [] [nP 102 9,bP 103 .neq (.t 102) (.c (.int .i64 0))] (.t 103) (Sq a85s46 .ret) .skip
def a85s54:=Rg [] [nP 78 10,bP 79 .add (.t 78) (.c (.int .i64 1)),vP 10 (.t 79)]
def a85s61:=Rg [] [op (.v 4) .mv [.c (.str [])],vP 5 (.c (.int .i64 0))]
def a85c : ACode :=
  (Sq a85s1 (Sq a85s3 (Sq a85s5 (Sq a85s10 (Sq a85s15 (Sq a85s20 (Sq a85s22 (Sq a85s27 (Sq (Sq a85s29 (Bk 0 (Lp (Sq a85s31 (Sq (Bk 1 (Sq a85s33 (Sq a85s41 (Sq a85s43 a85s48)))) a85s54))))) (Sq a85s61 .ret))))))))))
def a85 : AFn := { np := 3,nv := 12,results := [.v 4,.v 5],code := a85c }
def a85v : List Nat:=[0,1,2,4,6,7,8,9,10,11,12,13]
def a85b : List Nat := [3,11]

def a86s1:=Rg [] [vP 1 (.c (.bool false))]
def a86s3:=Rg [] [nP 3 0,oP 4 (.bin .eql) [.t 3,.c (.str [81,117,101,114,121])],mP 5 (.t 4),gP 6 .mv [.v 0] 5 false,gP 7 (.bin .eql) [.t 6,.c (.str [77,117,116,97,116,105,111,110])] 5 false,oP 8 .pick [.t 5,.c (.bool true),.t 7],vP 1 (.t 8)]
def a86c : ACode :=
  (Sq a86s1 (Sq a86s3 .ret))
def a86 : AFn := { np := 1,nv := 2,results := [.v 1],code := a86c }
def a86v : List Nat:=[0,2]
def a86b : List Nat := []

def a87s1:=Rg [] [vP 2 (.c (.int .i64 0))]
def a87s3:=Rg [] [vP 3 (.c (.int .i64 0))]
def a87s5:=Ts [] [nP 6 3,nP 7 0,oP 8 .lenL [.t 7],bP 9 .lss (.t 6) (.t 8)] (.t 9) .skip (.exit 0)
def a87s8:=Rg [] [nP 19 3,vP 2 (.t 19)]
def a87s10:=Ts [] [nP 12 0,nP 13 3,oP 14 (.iad 11) [.t 12,.t 13],fP 15 0 (.t 14),oP 16 (.ldRo false 1) [.t 15],nP 17 1,bP 18 .eql (.t 16) (.t 17)] (.t 18) (Sq a87s8 .ret) .skip
def a87s13:=Rg [] [nP 10 3,bP 11 .add (.t 10) (.c (.int .i64 1)),vP 3 (.t 11)]
def a87s20:=Rg [] [vP 2 (.c (.int .i64 (-1)))]
def a87c : ACode :=
  (Sq a87s1 (Sq (Sq a87s3 (Bk 0 (Lp (Sq a87s5 (Sq (Bk 1 a87s10) a87s13))))) (Sq a87s20 .ret)))
def a87 : AFn := { np := 2,nv := 4,results := [.v 2],code := a87c }
def a87v : List Nat:=[0,1,4,5]
def a87b : List Nat := []

def a88s1:=Rg [2,3] [⟨.bx,.boxV,[.v 0],some 2,none⟩,⟨.bx,.boxV,[.v 1],some 3,none⟩,vP 4 (.c (.bool false))]
def a88s4:=Rg [] [vP 4 (.c (.bool false))]
def a88s6:=Ts [] [fP 5 0 (.l 2),lP 6 2 false 1 (.t 5),fP 7 0 (.l 3),lP 8 3 false 1 (.t 7),bP 9 .neq (.t 6) (.t 8),mP 10 (.t 9),gP 11 (.fad 2) [.l 2] 10 false,⟨.t 12,.ldLc 2 false 1,[.t 11],some 2,some (.t 10,false)⟩,gP 13 (.fad 2) [.l 3] 10 false,⟨.t 14,.ldLc 3 false 1,[.t 13],some 3,some (.t 10,false)⟩,gP 15 (.binB .neq) [.t 12,.t 14] 10 false,oP 16 .pick [.t 10,.c (.bool true),.t 15],mP 17 (.t 16),gP 18 (.fad 1) [.l 2] 17 false,⟨.t 19,.ldLc 2 false 1,[.t 18],some 2,some (.t 17,false)⟩,gP 20 .lenL [.t 19] 17 false,gP 21 (.fad 1) [.l 3] 17 false,⟨.t 22,.ldLc 3 false 1,[.t 21],some 3,some (.t 17,false)⟩,gP 23 .lenL [.t 22] 17 false,gP 24 (.bin .neq) [.t 20,.t 23] 17 false,oP 25 .pick [.t 17,.c (.bool true),.t 24]] (.t 25) (Sq a88s4 .ret) .skip
def a88s8:=Rg [] [fP 26 1 (.l 2),lP 27 2 false 1 (.t 26),oP 28 .lenL [.t 27],bP 29 .eql (.t 28) (.c (.int .i64 0)),mP 30 (.t 29),gP 31 (.fad 1) [.l 2] 30 false,⟨.t 32,.ldLc 2 false 1,[.t 31],some 2,some (.t 30,false)⟩,gP 33 (.iad 3) [.t 32,.c (.int .i64 0)] 30 false,gP 34 (.ldRo true 3) [.t 33] 30 false,gP 35 (.fad 1) [.l 3] 30 false,⟨.t 36,.ldLc 3 false 1,[.t 35],some 3,some (.t 30,false)⟩,gP 37 (.iad 3) [.t 36,.c (.int .i64 0)] 30 false,gP 38 (.ldRo true 3) [.t 37] 30 false,gP 39 (.call 88) [.t 34,.t 38] 30 false,oP 40 .pick [.t 30,.c (.bool true),.t 39],vP 4 (.t 40)]
def a88c : ACode :=
  (Sq a88s1 (Sq a88s6 (Sq a88s8 .ret)))
def a88 : AFn := { np := 2,nv := 5,results := [.v 4],code := a88c }
def a88v : List Nat:=[0,1,2,3,4]
def a88b : List Nat := [2,3]

def a89s1:=Rg [1] [⟨.bx,.boxV,[.v 0],some 1,none⟩,op (.v 2) .mv [.c (.str [])]]
def a89s4:=Rg [] [fP 7 1 (.l 1),lP 8 1 false 1 (.t 7),oP 9 (.iad 3) [.t 8,.c (.int .i64 0)],oP 10 (.ldRo true 3) [.t 9],oP 11 (.call 89) [.t 10],vP 2 (.t 11)]
def a89s6:=Ts [] [fP 3 1 (.l 1),lP 4 1 false 1 (.t 3),oP 5 .lenL [.t 4],bP 6 .gtr (.t 5) (.c (.int .i64 0))] (.t 6) (Sq a89s4 .ret) .skip
def a89s8:=Rg [] [fP 12 0 (.l 1),lP 13 1 false 1 (.t 12),vP 2 (.t 13)]
def a89c : ACode :=
  (Sq a89s1 (Sq a89s6 (Sq a89s8 .ret)))
def a89 : AFn := { np := 1,nv := 3,results := [.v 2],code := a89c }
def a89v : List Nat:=[0,1,2]
def a89b : List Nat := [1]

def a90s1:=Rg [] [vP 2 (.c (.bool false))]
def a90s3:=Rg [] [nP 6 0,nP 7 1,oP 8 (.call 54) [.t 6,.t 7],oP 9 (.fld 0 1 false) [.t 8],vP 3 (.t 9)]
def a90s5:=Rg [] [nP 10 1,oP 11 (.call 86) [.t 10],oP 12 (.un .not) [.t 11],mP 13 (.t 12),gP 14 .mv [.v 3] 13 true,gP 15 (.bin .eql) [.t 14,.c (.int .u8 1)] 13 true,gP 16 .mv [.t 15] 13 true,gP 17 .mv [.v 3] 16 false,gP 18 (.bin .eql) [.t 17,.c (.int .u8 2)] 16 false,gP 19 .pick [.t 16,.c (.bool true),.t 18] 13 true,gP 20 .mv [.t 19] 13 true,gP 21 .mv [.v 3] 20 false,gP 22 (.bin .eql) [.t 21,.c (.int .u8 3)] 20 false,gP 23 .pick [.t 20,.c (.bool true),.t 22] 13 true,oP 24 .pick [.t 13,.t 23,.c (.bool false)],vP 2 (.t 24)]
def a90c : ACode :=
  (Sq a90s1 (Sq a90s3 (Sq a90s5 .ret)))
def a90 : AFn := { np := 2,nv := 4,results := [.v 2],code := a90c }
def a90v : List Nat:=[0,1,4,5]
def a90b : List Nat := []

def a91s1:=Rg [1] [⟨.bx,.boxV,[.v 0],some 1,none⟩,vP 2 (.c (.bool false))]
def a91s3:=Rg [] [fP 3 0 (.l 1),lP 4 1 false 1 (.t 3),oP 5 (.bin .eql) [.t 4,.c (.str [105,100])],mP 6 (.t 5),gP 7 (.fad 2) [.l 1] 6 true,gP 8 (.fad 0) [.t 7] 6 true,⟨.t 9,.ldLc 1 false 1,[.t 8],some 1,some (.t 6,true)⟩,gP 10 (.bin .eql) [.t 9,.c (.str [73,68])] 6 true,oP 11 .pick [.t 6,.t 10,.c (.bool false)],mP 12 (.t 11),gP 13 (.fad 2) [.l 1] 12 true,gP 14 (.fad 2) [.t 13] 12 true,⟨.t 15,.ldLc 1 false 1,[.t 14],some 1,some (.t 12,true)⟩,oP 16 .pick [.t 12,.t 15,.c (.bool false)],mP 17 (.t 16),gP 18 (.fad 2) [.l 1] 17 true,gP 19 (.fad 1) [.t 18] 17 true,⟨.t 20,.ldLc 1 false 1,[.t 19],some 1,some (.t 17,true)⟩,gP 21 .lenL [.t 20] 17 true,gP 22 (.bin .eql) [.t 21,.c (.int .i64 0)] 17 true,oP 23 .pick [.t 17,.t 22,.c (.bool false)],mP 24 (.t 23),gP 25 (.fad 5) [.l 1] 24 true,⟨.t 26,.ldLc 1 false 1,[.t 25],some 1,some (.t 24,true)⟩,gP 27 (.un .not) [.t 26] 24 true,oP 28 .pick [.t 24,.t 27,.c (.bool false)],vP 2 (.t 28)]
def a91c : ACode :=
  (Sq a91s1 (Sq a91s3 .ret))
def a91 : AFn := { np := 1,nv := 3,results := [.v 2],code := a91c }
def a91v : List Nat:=[0,1,2]
def a91b : List Nat := [1]

def a92s1:=Rg [2] [⟨.bx,.boxV,[.v 1],some 2,none⟩,vP 3 (.c (.bool false))]
def a92s3:=Rg [] [fP 12 0 (.l 2),lP 13 2 false 1 (.t 12),oP 14 (.call 117) [.t 13],mP 11 (.t 14),oP 15 (.ext 0) [.t 11],oP 16 (.ext 1) [.t 11],vP 4 (.t 15),vP 5 (.t 16)]
def a92s5:=Rg [6] [nP 17 0,nP 18 5,oP 19 (.call 54) [.t 17,.t 18],⟨.bx,.alloc [.int .u8 0,.str [],.list true [],.list true []],[],some 6,none⟩,xP (.stLc 6 4) [.l 6,.ts 19] 6]
def a92s8:=Rg [] [vP 3 (.c (.bool false))]
def a92s10:=Ts [] [nP 20 4,oP 21 (.bin .eql) [.t 20,.c (.str [])],mP 22 (.t 21),gP 23 (.fad 0) [.l 6] 22 false,⟨.t 24,.ldLc 6 false 1,[.t 23],some 6,some (.t 22,false)⟩,gP 25 (.bin .neq) [.t 24,.c (.int .u8 1)] 22 false,oP 26 .pick [.t 22,.c (.bool true),.t 25],mP 27 (.t 26),gP 28 .mv [.v 5] 27 false,gP 29 (.call 86) [.t 28] 27 false,oP 30 .pick [.t 27,.c (.bool true),.t 29],mP 31 (.t 30),gP 32 (.fad 2) [.l 2] 31 false,gP 33 (.fad 1) [.t 32] 31 false,⟨.t 34,.ldLc 2 false 1,[.t 33],some 2,some (.t 31,false)⟩,gP 35 .lenL [.t 34] 31 false,gP 36 (.bin .gtr) [.t 35,.c (.int .i64 0)] 31 false,oP 37 .pick [.t 31,.c (.bool true),.t 36],mP 38 (.t 37),gP 39 (.fad 2) [.l 2] 38 false,gP 40 (.fad 2) [.t 39] 38 false,⟨.t 41,.ldLc 2 false 1,[.t 40],some 2,some (.t 38,false)⟩,oP 42 .pick [.t 38,.c (.bool true),.t 41],mP 43 (.t 42),gP 44 (.fad 2) [.l 2] 43 false,gP 45 (.fad 0) [.t 44] 43 false,⟨.t 46,.ldLc 2 false 1,[.t 45],some 2,some (.t 43,false)⟩,gP 47 .mv [.v 5] 43 false,gP 48 (.bin .neq) [.t 46,.t 47] 43 false,oP 49 .pick [.t 43,.c (.bool true),.t 48],mP 50 (.t 49),gP 51 (.fad 1) [.l 2] 50 false,⟨.t 52,.ldLc 2 false 1,[.t 51],some 2,some (.t 50,false)⟩,gP 53 .lenL [.t 52] 50 false,gP 54 (.bin .eql) [.t 53,.c (.int .i64 0)] 50 false,oP 55 .pick [.t 50,.c (.bool true),.t 54],mP 56 (.t 55),gP 57 (.fad 1) [.l 2] 56 false,⟨.t 58,.ldLc 2 false 1,[.t 57],some 2,some (.t 56,false)⟩,gP 59 (.iad 11) [.t 58,.c (.int .i64 0)] 56 false,gP 60 (.ldRo true 11) [.t 59] 56 false,gP 61 (.call 91) [.t 60] 56 false,gP 62 (.un .not) [.t 61] 56 false,oP 63 .pick [.t 56,.c (.bool true),.t 62]] (.t 63) (Sq a92s8 .ret) .skip
def a92s13:=Rg [] [fP 66 1 (.l 2),lP 67 2 false 1 (.t 66),oP 68 .lenL [.t 67],bP 69 .eql (.t 68) (.c (.int .i64 1)),vP 3 (.t 69)]
def a92s15:=Ts [] [nP 64 4,oP 65 (.bin .eql) [.t 64,.c (.str [100,101,108,101,116,101])]] (.t 65) (Sq a92s13 .ret) .skip
def a92s18:=Rg [] [vP 3 (.c (.bool false))]
def a92s20:=Ts [] [fP 70 1 (.l 2),lP 71 2 false 1 (.t 70),oP 72 .lenL [.t 71],bP 73 .neq (.t 72) (.c (.int .i64 2)),mP 74 (.t 73),gP 75 (.fad 1) [.l 2] 74 false,⟨.t 76,.ldLc 2 false 1,[.t 75],some 2,some (.t 74,false)⟩,gP 77 (.iad 11) [.t 76,.c (.int .i64 1)] 74 false,gP 78 (.fad 0) [.t 77] 74 false,gP 79 (.ldRo false 1) [.t 78] 74 false,gP 80 (.bin .neq) [.t 79,.c (.str [105,110,112,117,116])] 74 false,oP 81 .pick [.t 74,.c (.bool true),.t 80],mP 82 (.t 81),gP 83 (.fad 1) [.l 2] 82 false,⟨.t 84,.ldLc 2 false 1,[.t 83],some 2,some (.t 82,false)⟩,gP 85 (.iad 11) [.t 84,.c (.int .i64 1)] 82 false,gP 86 (.fad 2) [.t 85] 82 false,gP 87 (.fad 2) [.t 86] 82 false,gP 88 (.ldRo false 1) [.t 87] 82 false,gP 89 (.un .not) [.t 88] 82 false,oP 90 .pick [.t 82,.c (.bool true),.t 89],mP 91 (.t 90),gP 92 (.fad 1) [.l 2] 91 false,⟨.t 93,.ldLc 2 false 1,[.t 92],some 2,some (.t 91,false)⟩,gP 94 (.iad 11) [.t 93,.c (.int .i64 1)] 91 false,gP 95 (.fad 2) [.t 94] 91 false,gP 96 (.fad 1) [.t 95] 91 false,gP 97 (.ldRo false 1) [.t 96] 91 false,gP 98 .lenL [.t 97] 91 false,gP 99 (.bin .gtr) [.t 98,.c (.int .i64 0)] 91 false,oP 100 .pick [.t 91,.c (.bool true),.t 99]] (.t 100) (Sq a92s18 .ret) .skip
def a92s22:=Rg [7] [nP 101 0,fP 102 1 (.l 2),lP 103 2 false 1 (.t 102),oP 104 (.iad 11) [.t 103,.c (.int .i64 1)],fP 105 2 (.t 104),fP 106 0 (.t 105),oP 107 (.ldRo false 1) [.t 106],oP 108 (.call 54) [.t 101,.t 107],⟨.bx,.alloc [.int .u8 0,.str [],.list true [],.list true []],[],some 7,none⟩,xP (.stLc 7 4) [.l 7,.ts 108] 7]
def a92s25:=Rg [] [vP 3 (.c (.bool false))]
def a92s27:=Ts [] [fP 109 0 (.l 7),lP 110 7 false 1 (.t 109),bP 111 .neq (.t 110) (.c (.int .u8 5))] (.t 111) (Sq a92s25 .ret) .skip
def a92s29:=Rg [] [vP 8 (.c (.int .i64 0))]
def a92s31:=Ts [] [nP 112 8,fP 113 2 (.l 7),lP 114 7 false 1 (.t 113),oP 115 .lenL [.t 114],bP 116 .lss (.t 112) (.t 115)] (.t 116) .skip (.exit 0)
def a92s33:=Rg [] [fP 119 2 (.l 6),lP 120 6 false 1 (.t 119),fP 121 2 (.l 7),lP 122 7 false 1 (.t 121),nP 123 8,oP 124 (.iad 11) [.t 122,.t 123],fP 125 0 (.t 124),oP 126 (.ldRo false 1) [.t 125],oP 127 (.call 87) [.t 120,.t 126],vP 9 (.t 127)]
def a92s36:=Rg [] [vP 3 (.c (.bool false))]
def a92s38:=Ts [] [nP 128 9,bP 129 .lss (.t 128) (.c (.int .i64 0)),mP 130 (.t 129),gP 131 .mv [.v 0] 130 false,gP 132 (.fad 2) [.l 6] 130 false,⟨.t 133,.ldLc 6 false 1,[.t 132],some 6,some (.t 130,false)⟩,gP 134 .mv [.v 9] 130 false,gP 135 (.iad 11) [.t 133,.t 134] 130 false,gP 136 (.fad 2) [.t 135] 130 false,gP 137 (.ldRo true 3) [.t 136] 130 false,gP 138 (.fad 2) [.l 7] 130 false,⟨.t 139,.ldLc 7 false 1,[.t 138],some 7,some (.t 130,false)⟩,gP 140 .mv [.v 8] 130 false,gP 141 (.iad 11) [.t 139,.t 140] 130 false,gP 142 (.fad 2) [.t 141] 130 false,gP 143 (.ldRo true 3) [.t 142] 130 false,gP 144 (.call 118) [.t 131,.t 137,.t 143] 130 false,gP 145 (.un .not) [.t 144] 130 false,oP 146 .pick [.t 130,.c (.bool true),.t 145]] (.t 146) (Sq a92s36 .ret) .skip
def a92s42:=Rg [] [nP 117 8,bP 118 .add (.t 117) (.c (.int .i64 1)),vP 8 (.t 118)]
def a92s49:=Rg [] [vP 3 (.c (.bool true))]
def a92c : ACode :=
  (Sq a92s1 (Sq a92s3 (Sq a92s5 (Sq a92s10 (Sq a92s15 (Sq a92s20 (Sq a92s22 (Sq a92s27 (Sq (Sq a92s29 (Bk 0 (Lp (Sq a92s31 (Sq (Bk 1 (Sq a92s33 a92s38)) a92s42))))) (Sq a92s49 .ret))))))))))
def a92 : AFn := { np := 2,nv := 10,results := [.v 3],code := a92c }
def a92v : List Nat:=[0,1,3,4,5,6,7,8,9,10]
def a92b : List Nat := [2,6,7]

def a93s1:=Rg [] [vP 2 (.c (.bool false))]
def a93s3:=Rg [] [nP 5 0,nP 6 1,oP 7 (.call 119) [.t 5,.t 6],bP 8 .geq (.t 7) (.c (.int .i64 0)),vP 2 (.t 8)]
def a93c : ACode :=
  (Sq a93s1 (Sq a93s3 .ret))
def a93 : AFn := { np := 2,nv := 3,results := [.v 2],code := a93c }
def a93v : List Nat:=[0,1,4]
def a93b : List Nat := []

def a94s1:=Rg [2] [⟨.bx,.boxV,[.v 0],some 2,none⟩,vP 3 (.c (.bool false))]
def a94s3:=Rg [] [fP 4 0 (.l 2),lP 5 2 false 1 (.t 4),oP 6 (.bin .eql) [.t 5,.c (.str [115,107,105,112])],mP 7 (.t 6),gP 8 (.ldSt false 1) [.v 1] 7 true,⟨.t 9,.ldLc 2 true 2,[.l 2],some 2,some (.t 7,true)⟩,gP 10 (.call 95) [.t 8,.t 9] 7 true,oP 11 .pick [.t 7,.t 10,.c (.bool false)],mP 12 (.t 11),gP 13 (.fad 0) [.l 2] 12 false,⟨.t 14,.ldLc 2 false 1,[.t 13],some 2,some (.t 12,false)⟩,gP 15 (.bin .eql) [.t 14,.c (.str [105,110,99,108,117,100,101])] 12 false,gP 16 .mv [.t 15] 12 false,gP 17 (.ldSt false 1) [.v 1] 16 true,⟨.t 18,.ldLc 2 true 2,[.l 2],some 2,some (.t 16,true)⟩,gP 19 (.call 95) [.t 17,.t 18] 16 true,gP 20 (.un .not) [.t 19] 16 true,gP 21 .pick [.t 16,.t 20,.c (.bool false)] 12 false,oP 22 .pick [.t 12,.c (.bool true),.t 21],vP 3 (.t 22)]
def a94c : ACode :=
  (Sq a94s1 (Sq a94s3 .ret))
def a94 : AFn := { np := 2,nv := 4,results := [.v 3],code := a94c }
def a94v : List Nat:=[0,1,2,3]
def a94b : List Nat := [2]

def a95s1:=Rg [2] [⟨.bx,.boxV,[.v 1],some 2,none⟩,vP 3 (.c (.bool false))]
def a95s3:=Rg [] [fP 8 1 (.l 2),⟨.v 6,.ldLc 2 false 1,[.t 8],some 2,none⟩,op (.v 7) .lenL [.v 6],vP 8 (.c (.int .i64 0))]
def a95s5:=Ts [] [bP 12 .lss (.v 8) (.v 7)] (.t 12) .skip (.exit 0)
def a95s7:=Rg [4] [oP 13 (.iad 6) [.v 6,.v 8],oP 14 (.ldRo true 6) [.t 13],⟨.bx,.alloc [.str [],.int .u8 0,.int .i64 0,.str [],.list true [],.list true []],[],some 4,none⟩,xP (.stLc 4 6) [.l 4,.ts 14] 4]
def a95s9:=Rg [5] [fP 15 1 (.l 4),lP 16 4 true 5 (.t 15),⟨.bx,.alloc [.int .u8 0,.int .i64 0,.str [],.list true [],.list true []],[],some 5,none⟩,xP (.stLc 5 5) [.l 5,.ts 16] 5]
def a95s12:=Rg [] [nP 21 0,oP 22 .nilchk [.t 21],fP 23 4 (.t 22),oP 24 (.ldSt true 5) [.t 23],fP 25 2 (.l 5),lP 26 5 false 1 (.t 25),oP 27 (.call 120) [.t 24,.t 26],mP 20 (.t 27),oP 28 (.ext 0) [.t 20],oP 29 (.ext 1) [.t 20],xP (.stLc 5 5) [.l 5,.ts 28] 5]
def a95s13:=Ts [] [fP 17 0 (.l 5),lP 18 5 false 1 (.t 17),bP 19 .eql (.t 18) (.c (.int .u8 7))] (.t 19) a95s12 .skip
def a95s16:=Rg [] [fP 33 0 (.l 5),lP 34 5 false 1 (.t 33),bP 35 .eql (.t 34) (.c (.int .u8 3)),mP 36 (.t 35),gP 37 (.fad 1) [.l 5] 36 true,⟨.t 38,.ldLc 5 false 1,[.t 37],some 5,some (.t 36,true)⟩,gP 39 (.bin .eql) [.t 38,.c (.int .i64 1)] 36 true,oP 40 .pick [.t 36,.t 39,.c (.bool false)],vP 3 (.t 40)]
def a95s17:=Sq a95s16 .ret
def a95s18:=Ts [] [fP 30 0 (.l 4),lP 31 4 false 1 (.t 30),oP 32 (.bin .eql) [.t 31,.c (.str [105,102])]] (.t 32) a95s17 .skip
def a95s24:=Rg [] [bP 41 .add (.v 8) (.c (.int .i64 1)),vP 8 (.t 41)]
def a95s31:=Rg [] [vP 3 (.c (.bool false))]
def a95c : ACode :=
  (Sq a95s1 (Sq (Sq a95s3 (Bk 0 (Lp (Sq a95s5 (Sq (Bk 1 (Sq a95s7 (Sq a95s9 (Sq a95s13 a95s18)))) a95s24))))) (Sq a95s31 .ret)))
def a95 : AFn := { np := 2,nv := 9,results := [.v 3],code := a95c }
def a95v : List Nat:=[0,1,3,4,6,7,9,10,11]
def a95b : List Nat := [2,4,5]

def a96s1:=Rg [] [vP 2 (.c (.int .i64 0))]
def a96s3:=Rg [] [nP 6 0,op (.v 4) .lenL [.t 6],vP 5 (.c (.int .i64 0))]
def a96s5:=Ts [] [bP 9 .lss (.v 5) (.v 4)] (.t 9) .skip (.exit 0)
def a96s7:=Rg [] [nP 10 5,vP 3 (.t 10)]
def a96s10:=Rg [] [nP 17 3,vP 2 (.t 17)]
def a96s11:=Sq a96s10 .ret
def a96s12:=Ts [] [nP 11 1,nP 12 0,nP 13 3,oP 14 (.iad 2) [.t 12,.t 13],oP 15 (.ldSt true 2) [.t 14],oP 16 .callV [.t 11,.t 15]] (.t 16) a96s11 .skip
def a96s16:=Rg [] [bP 18 .add (.v 5) (.c (.int .i64 1)),vP 5 (.t 18)]
def a96s23:=Rg [] [vP 2 (.c (.int .i64 (-1)))]
def a96c : ACode :=
  (Sq a96s1 (Sq (Sq a96s3 (Bk 0 (Lp (Sq a96s5 (Sq (Bk 1 (Sq a96s7 a96s12)) a96s16))))) (Sq a96s23 .ret)))
def a96 : AFn := { np := 2,nv := 6,results := [.v 2],code := a96c }
def a96v : List Nat:=[0,1,4,5,7,8]
def a96b : List Nat := []

def a97s1:=Rg [2] [⟨.bx,.boxV,[.v 0],some 2,none⟩,vP 3 (.c (.bool false))]
def a97s3:=Rg [] [fP 4 0 (.l 2),lP 5 2 false 1 (.t 4),oP 6 (.ldSt false 1) [.v 1],bP 7 .eql (.t 5) (.t 6),vP 3 (.t 7)]
def a97c : ACode :=
  (Sq a97s1 (Sq a97s3 .ret))
def a97 : AFn := { np := 2,nv := 4,results := [.v 3],code := a97c }
def a97v : List Nat:=[0,1,2,3]
def a97b : List Nat := [2]

def a98s1:=Rg [] [op (.v 2) .mv [.c (.list true [])]]
def a98s3:=Rg [3] [nP 11 0,nP 12 1,oP 13 (.call 48) [.t 11,.t 12],mP 10 (.t 13),oP 14 (.ext 0) [.t 10],oP 15 (.ext 1) [.t 10],⟨.bx,.alloc [.int .u8 0,.str [],.list true [],.list true []],[],some 3,none⟩,xP (.stLc 3 4) [.l 3,.ts 14] 3,vP 4 (.t 15)]
def a98s6:=Rg [] [op (.v 2) .mv [.c (.list true [])]]
def a98s7:=Sq a98s6 .ret
def a98s10:=Rg [] [nP 23 1,oP 24 (.bslice 1 [[.str []]] [0]) [.t 23],vP 2 (.ts 24)]
def a98s11:=Sq a98s10 .ret
def a98s14:=Rg [] [fP 29 3 (.l 3),lP 30 3 false 1 (.t 29),oP 31 (.call 121) [.t 30],vP 2 (.ts 31)]
def a98s15:=Sq a98s14 .ret
def a98s18:=Rg [] [op (.v 2) .mv [.c (.list true [])]]
def a98s19:=Sq a98s18 .ret
def a98s20:=Ts [] [fP 33 0 (.l 3),lP 34 3 false 1 (.t 33),bP 35 .neq (.t 34) (.c (.int .u8 2)),mP 32 (.t 35)] (.t 32) a98s19 .skip
def a98s21:=Ts [] [fP 26 0 (.l 3),lP 27 3 false 1 (.t 26),bP 28 .eql (.t 27) (.c (.int .u8 3)),mP 25 (.t 28)] (.t 25) a98s15 a98s20
def a98s22:=Ts [] [fP 20 0 (.l 3),lP 21 3 false 1 (.t 20),bP 22 .eql (.t 21) (.c (.int .u8 1)),mP 19 (.t 22)] (.t 19) a98s11 a98s21
def a98s23:=Ts [] [nP 17 4,oP 18 (.un .not) [.t 17],mP 16 (.t 18)] (.t 16) a98s7 a98s22
def a98s26:=Rg [] [op (.v 5) .mv [.c (.list true [])]]
def a98s28:=Rg [] [nP 36 0,oP 37 .nilchk [.t 36],fP 38 0 (.t 37),op (.v 7) (.ldSt false 1) [.t 38],op (.v 8) .lenL [.v 7],vP 9 (.c (.int .i64 0))]
def a98s30:=Ts [] [bP 42 .lss (.v 9) (.v 8)] (.t 42) .skip (.exit 1)
def a98s32:=Rg [6] [oP 43 (.iad 4) [.v 7,.v 9],oP 44 (.ldRo true 4) [.t 43],⟨.bx,.alloc [.int .u8 0,.str [],.list true [],.list true []],[],some 6,none⟩,xP (.stLc 6 4) [.l 6,.ts 44] 6]
def a98s35:=Rg [] [mP 54 (.vs 5),fP 55 1 (.l 6),lP 56 6 false 1 (.t 55),oP 57 (.bslice 1 [[.str []]] [0]) [.t 56],oP 58 (.app 1 16) [.ts 54,.t 57],vP 5 (.ts 58)]
def a98s36:=Ts [] [fP 45 0 (.l 6),lP 46 6 false 1 (.t 45),bP 47 .eql (.t 46) (.c (.int .u8 1)),mP 48 (.t 47),gP 49 (.fad 3) [.l 6] 48 true,⟨.t 50,.ldLc 6 false 1,[.t 49],some 6,some (.t 48,true)⟩,gP 51 .mv [.v 1] 48 true,gP 52 (.call 45) [.t 50,.t 51] 48 true,oP 53 .pick [.t 48,.t 52,.c (.bool false)]] (.t 53) a98s35 .skip
def a98s40:=Rg [] [bP 59 .add (.v 9) (.c (.int .i64 1)),vP 9 (.t 59)]
def a98s47:=Rg [] [nP 60 5,vP 2 (.ts 60)]
def a98c : ACode :=
  (Sq a98s1 (Sq a98s3 (Sq (Bk 0 a98s23) (Sq a98s26 (Sq (Sq a98s28 (Bk 1 (Lp (Sq a98s30 (Sq (Bk 2 (Sq a98s32 a98s36)) a98s40))))) (Sq a98s47 .ret))))))
def a98 : AFn := { np := 2,nv := 10,results := [.v 2],code := a98c }
def a98v : List Nat:=[0,1,4,5,6,7,9,39,40,41]
def a98b : List Nat := [3,6]

def a102s1:=Rg [1] [⟨.bx,.boxV,[.v 0],some 1,none⟩,op (.v 2) .mv [.c (.str [])]]
def a102s3:=Ts [] [fP 3 1 (.l 1),lP 4 1 false 1 (.t 3),oP 5 .lenL [.t 4],bP 6 .gtr (.t 5) (.c (.int .i64 0))] (.t 6) .skip (.exit 0)
def a102s5:=Rg [] [fP 7 1 (.l 1),lP 8 1 false 1 (.t 7),oP 9 (.iad 3) [.t 8,.c (.int .i64 0)],oP 10 (.ldRo true 3) [.t 9],xP (.stLc 1 3) [.l 1,.ts 10] 1]
def a102s11:=Rg [] [fP 11 0 (.l 1),lP 12 1 false 1 (.t 11),vP 2 (.t 12)]
def a102c : ACode :=
  (Sq a102s1 (Sq (Bk 0 (Lp (Sq a102s3 (Bk 1 a102s5)))) (Sq a102s11 .ret)))
def a102 : AFn := { np := 1,nv := 3,results := [.v 2],code := a102c }
def a102v : List Nat:=[0,1,2]
def a102b : List Nat := [1]

def a103s1:=Rg [] [vP 2 (.c (.bool false))]
def a103s3:=Rg [] [nP 5 0,oP 6 (.binP .neq) [.t 5,.c (.nilp)],mP 7 (.t 6),gP 8 (.slA 4 1 false false) [.c (.ro [.str [66,111,111,108,101,97,110],.str [73,68],.str [73,110,116],.str [83,116,114,105,110,103]])] 7 true,gP 9 .mv [.v 1] 7 true,gP 10 (.call 45) [.t 8,.t 9] 7 true,oP 11 .pick [.t 7,.t 10,.c (.bool false)],vP 2 (.t 11)]
def a103c : ACode :=
  (Sq a103s1 (Sq a103s3 .ret))
def a103 : AFn := { np := 2,nv := 3,results := [.v 2],code := a103c }
def a103v : List Nat:=[0,1,4]
def a103b : List Nat := []

def a104s1:=Rg [] [vP 2 (.c (.bool false))]
def a104s3:=Rg [] [nP 5 0,nP 6 1,oP 7 (.call 123) [.t 5,.t 6,.c (.int .u8 4)],vP 2 (.t 7)]
def a104c : ACode :=
  (Sq a104s1 (Sq a104s3 .ret))
def a104 : AFn := { np := 2,nv := 3,results := [.v 2],code := a104c }
def a104v : List Nat:=[0,1,4]
def a104b : List Nat := []

def a105s1:=Rg [] [vP 2 (.c (.bool false))]
def a105s3:=Rg [] [nP 5 0,nP 6 1,oP 7 (.call 123) [.t 5,.t 6,.c (.int .u8 5)],vP 2 (.t 7)]
def a105c : ACode :=
  (Sq a105s1 (Sq a105s3 .ret))
def a105 : AFn := { np := 2,nv := 3,results := [.v 2],code := a105c }
def a105v : List Nat:=[0,1,4]
def a105b : List Nat := []

def a106s1:=Rg [5] [op (.v 3) .boxO [.v 0],op (.v 4) .boxO [.v 1],⟨.bx,.boxV,[.v 2],some 5,none⟩,vP 6 (.c (.bool false))]
def a106s4:=Rg [] [fP 12 2 (.v 4),oP 13 (.ldSt false 1) [.t 12],oP 14 (.un .not) [.t 13],vP 6 (.t 14)]
def a106s6:=Ts [] [fP 9 0 (.l 5),lP 10 5 false 1 (.t 9),bP 11 .eql (.t 10) (.c (.int .u8 0))] (.t 11) (Sq a106s4 .ret) .skip
def a106s10:=Rg [] [oP 22 (.ldSt false 1) [.v 3],fP 23 1 (.v 4),oP 24 (.ldSt false 1) [.t 23],oP 25 (.iad 3) [.t 24,.c (.int .i64 0)],oP 26 (.ldRo true 3) [.t 25],lP 27 5 true 5 (.l 5),oP 28 (.call 106) [.t 22,.t 26,.t 27],vP 6 (.t 28)]
def a106s12:=Ts [] [fP 19 0 (.l 5),lP 20 5 false 1 (.t 19),bP 21 .neq (.t 20) (.c (.int .u8 5))] (.t 21) (Sq a106s10 .ret) .skip
def a106s14:=Rg [] [fP 29 4 (.l 5),lP 30 5 false 1 (.t 29),oP 31 (.mkF 125 0) [.v 3,.v 4],oP 32 (.call 124) [.t 30,.t 31],oP 33 (.un .not) [.t 32],vP 6 (.t 33)]
def a106s17:=Ts [] [fP 15 1 (.v 4),oP 16 (.ldSt false 1) [.t 15],oP 17 .lenL [.t 16],bP 18 .gtr (.t 17) (.c (.int .i64 0))] (.t 18) (Sq a106s12 (Sq a106s14 .ret)) .skip
def a106s19:=Rg [] [fP 34 0 (.v 4),op (.v 8) (.ldSt false 1) [.t 34]]
def a106s22:=Rg [] [fP 38 0 (.l 5),lP 39 5 false 1 (.t 38),bP 40 .eql (.t 39) (.c (.int .u8 1)),mP 41 (.t 40),gP 42 (.fad 1) [.l 5] 41 true,⟨.t 43,.ldLc 5 false 1,[.t 42],some 5,some (.t 41,true)⟩,gP 44 (.fad 1) [.l 5] 41 true,⟨.t 45,.ldLc 5 false 1,[.t 44],some 5,some (.t 41,true)⟩,gP 46 (.conv .i32) [.t 45] 41 true,gP 47 (.conv .i64) [.t 46] 41 true,gP 48 (.bin .eql) [.t 43,.t 47] 41 true,oP 49 .pick [.t 41,.t 48,.c (.bool false)],vP 6 (.t 49)]
def a106s26:=Rg [] [fP 52 0 (.l 5),lP 53 5 false 1 (.t 52),bP 54 .eql (.t 53) (.c (.int .u8 2)),vP 6 (.t 54)]
def a106s30:=Rg [] [fP 57 0 (.l 5),lP 58 5 false 1 (.t 57),bP 59 .eql (.t 58) (.c (.int .u8 3)),vP 6 (.t 59)]
def a106s34:=Rg [] [fP 62 0 (.l 5),lP 63 5 false 1 (.t 62),bP 64 .eql (.t 63) (.c (.int .u8 2)),mP 65 (.t 64),gP 66 (.fad 0) [.l 5] 65 false,⟨.t 67,.ldLc 5 false 1,[.t 66],some 5,some (.t 65,false)⟩,gP 68 (.bin .eql) [.t 67,.c (.int .u8 1)] 65 false,oP 69 .pick [.t 65,.c (.bool true),.t 68],vP 6 (.t 69)]
def a106s36:=Ts [] [oP 61 (.bin .eql) [.v 8,.c (.str [73,68])],mP 60 (.t 61)] (.t 60) (Sq a106s34 .ret) .skip
def a106s37:=Ts [] [oP 56 (.bin .eql) [.v 8,.c (.str [66,111,111,108,101,97,110])],mP 55 (.t 56)] (.t 55) (Sq a106s30 .ret) a106s36
def a106s38:=Ts [] [oP 51 (.bin .eql) [.v 8,.c (.str [83,116,114,105,110,103])],mP 50 (.t 51)] (.t 50) (Sq a106s26 .ret) a106s37
def a106s39:=Ts [] [oP 37 (.bin .eql) [.v 8,.c (.str [73,110,116])],mP 36 (.t 37)] (.t 36) (Sq a106s22 .ret) a106s38
def a106s43:=Rg [7] [oP 71 (.ldSt false 1) [.v 3],fP 72 0 (.v 4),oP 73 (.ldSt false 1) [.t 72],oP 74 (.call 48) [.t 71,.t 73],mP 70 (.t 74),oP 75 (.ext 0) [.t 70],oP 76 (.ext 1) [.t 70],⟨.bx,.alloc [.int .u8 0,.str [],.list true [],.list true []],[],some 7,none⟩,xP (.stLc 7 4) [.l 7,.ts 75] 7,mP 8 (.t 76)]
def a106s45:=Rg [] [fP 77 0 (.l 7),⟨.v 9,.ldLc 7 false 1,[.t 77],some 7,none⟩]
def a106s48:=Rg [] [fP 81 0 (.l 5),lP 82 5 false 1 (.t 81),bP 83 .eql (.t 82) (.c (.int .u8 4)),mP 84 (.t 83),gP 85 (.fad 3) [.l 7] 84 true,⟨.t 86,.ldLc 7 false 1,[.t 85],some 7,some (.t 84,true)⟩,gP 87 (.fad 2) [.l 5] 84 true,⟨.t 88,.ldLc 5 false 1,[.t 87],some 5,some (.t 84,true)⟩,gP 89 (.call 45) [.t 86,.t 88] 84 true,oP 90 .pick [.t 84,.t 89,.c (.bool false)],vP 6 (.t 90)]
def a106s52:=Rg [] [fP 93 0 (.l 5),lP 94 5 false 1 (.t 93),bP 95 .eql (.t 94) (.c (.int .u8 6)),mP 96 (.t 95),gP 97 (.ldSt false 1) [.v 3] 96 true,⟨.t 98,.ldLc 7 true 4,[.l 7],some 7,some (.t 96,true)⟩,⟨.t 99,.ldLc 5 true 5,[.l 5],some 5,some (.t 96,true)⟩,gP 100 (.call 126) [.t 97,.t 98,.t 99] 96 true,oP 101 .pick [.t 96,.t 100,.c (.bool false)],vP 6 (.t 101)]
def a106s54:=Ts [] [bP 92 .eql (.v 9) (.c (.int .u8 5)),mP 91 (.t 92)] (.t 91) (Sq a106s52 .ret) .skip
def a106s55:=Ts [] [bP 80 .eql (.v 9) (.c (.int .u8 4)),mP 79 (.t 80)] (.t 79) (Sq a106s48 .ret) a106s54
def a106s59:=Rg [] [vP 6 (.c (.bool false))]
def a106c : ACode :=
  (Sq a106s1 (Sq a106s6 (Sq a106s17 (Sq (Sq a106s19 (Bk 0 a106s39)) (Sq a106s43 (Sq (Sq a106s45 (Bk 1 a106s55)) (Sq a106s59 .ret)))))))
def a106 : AFn := { np := 3,nv := 10,results := [.v 6],code := a106c }
def a106v : List Nat:=[0,1,2,3,4,5,6,7,35,78]
def a106b : List Nat := [5,7]

def a107s1:=Rg [] [vP 2 (.c (.bool false))]
def a107s3:=Rg [] [nP 5 0,nP 6 1,oP 7 (.call 127) [.t 5,.t 6],bP 8 .geq (.t 7) (.c (.int .i64 0)),vP 2 (.t 8)]
def a107c : ACode :=
  (Sq a107s1 (Sq a107s3 .ret))
def a107 : AFn := { np := 2,nv := 3,results := [.v 2],code := a107c }
def a107v : List Nat:=[0,1,4]
def a107b : List Nat := []

def a108s1:=Rg [2] [⟨.bx,.boxV,[.v 0],some 2,none⟩,vP 3 (.c (.bool false))]
def a108s3:=Rg [] [fP 5 2 (.v 1),oP 6 (.ldSt false 1) [.t 5],oP 7 (.call 76) [.t 6],fP 8 0 (.l 2),lP 9 2 false 1 (.t 8),oP 10 (.call 73) [.t 7,.t 9],vP 4 (.t 10)]
def a108s5:=Rg [] [nP 11 4,bP 12 .lss (.t 11) (.c (.int .i64 0)),mP 13 (.t 12),gP 14 (.fad 2) [.v 1] 13 false,gP 15 (.ldSt false 1) [.t 14] 13 false,gP 16 .mv [.v 4] 13 false,gP 17 (.iad 11) [.t 15,.t 16] 13 false,gP 18 (.fad 2) [.t 17] 13 false,gP 19 (.ldRo true 3) [.t 18] 13 false,gP 20 (.fad 2) [.l 2] 13 false,⟨.t 21,.ldLc 2 true 3,[.t 20],some 2,some (.t 13,false)⟩,gP 22 (.call 109) [.t 19,.t 21] 13 false,gP 23 (.un .not) [.t 22] 13 false,oP 24 .pick [.t 13,.c (.bool true),.t 23],vP 3 (.t 24)]
def a108c : ACode :=
  (Sq a108s1 (Sq a108s3 (Sq a108s5 .ret)))
def a108 : AFn := { np := 2,nv := 5,results := [.v 3],code := a108c }
def a108v : List Nat:=[0,1,2,3,4]
def a108b : List Nat := [2]

def a109s1:=Rg [2,3] [⟨.bx,.boxV,[.v 0],some 2,none⟩,⟨.bx,.boxV,[.v 1],some 3,none⟩,vP 4 (.c (.bool false))]
def a109s3:=Rg [] [fP 5 0 (.l 2),lP 6 2 false 1 (.t 5),fP 7 0 (.l 3),lP 8 3 false 1 (.t 7),bP 9 .eql (.t 6) (.t 8),mP 10 (.t 9),gP 11 (.fad 2) [.l 2] 10 true,⟨.t 12,.ldLc 2 false 1,[.t 11],some 2,some (.t 10,true)⟩,gP 13 (.fad 2) [.l 3] 10 true,⟨.t 14,.ldLc 3 false 1,[.t 13],some 3,some (.t 10,true)⟩,gP 15 (.binB .eql) [.t 12,.t 14] 10 true,oP 16 .pick [.t 10,.t 15,.c (.bool false)],mP 17 (.t 16),gP 18 (.fad 1) [.l 2] 17 true,⟨.t 19,.ldLc 2 false 1,[.t 18],some 2,some (.t 17,true)⟩,gP 20 (.fad 1) [.l 3] 17 true,⟨.t 21,.ldLc 3 false 1,[.t 20],some 3,some (.t 17,true)⟩,gP 22 (.call 128) [.t 19,.t 21,.c (.func 109 [] [])] 17 true,oP 23 .pick [.t 17,.t 22,.c (.bool false)],vP 4 (.t 23)]
def a109c : ACode :=
  (Sq a109s1 (Sq a109s3 .ret))
def a109 : AFn := { np := 2,nv := 5,results := [.v 4],code := a109c }
def a109v : List Nat:=[0,1,2,3,4]
def a109b : List Nat := [2,3]

def a110s1:=Rg [1] [⟨.bx,.boxV,[.v 0],some 1,none⟩,vP 2 (.c (.bool false))]
def a110s3:=Rg [] [fP 3 0 (.l 1),lP 4 1 false 1 (.t 3),oP 5 (.bin .eql) [.t 4,.c (.str [105,100])],mP 6 (.t 5),gP 7 (.fad 5) [.l 1] 6 true,⟨.t 8,.ldLc 1 false 1,[.t 7],some 1,some (.t 6,true)⟩,gP 9 (.un .not) [.t 8] 6 true,oP 10 .pick [.t 6,.t 9,.c (.bool false)],mP 11 (.t 10),gP 12 (.fad 2) [.l 1] 11 true,⟨.t 13,.ldLc 1 true 3,[.t 12],some 1,some (.t 11,true)⟩,⟨.t 14,(.build [.str [],.list true [],.bool false] [(0,1),(2,1)]),[.c (.str [73,68]),.c (.bool true)],none,some (.t 11,true)⟩,gP 15 (.call 109) [.t 13,.t 14] 11 true,oP 16 .pick [.t 11,.t 15,.c (.bool false)],vP 2 (.t 16)]
def a110c : ACode :=
  (Sq a110s1 (Sq a110s3 .ret))
def a110 : AFn := { np := 1,nv := 3,results := [.v 2],code := a110c }
def a110v : List Nat:=[0,1,2]
def a110b : List Nat := [1]

def a111s1:=Rg [] [vP 2 (.c (.bool false))]
def a111s3:=Rg [] [nP 5 1,oP 6 (.call 78) [.t 5],oP 7 (.un .not) [.t 6],mP 8 (.t 7),gP 9 .mv [.v 0] 8 true,gP 10 .mv [.v 1] 8 true,gP 11 (.call 123) [.t 9,.t 10,.c (.int .u8 1)] 8 true,gP 12 .mv [.t 11] 8 true,gP 13 .mv [.v 0] 12 false,gP 14 .mv [.v 1] 12 false,gP 15 (.call 123) [.t 13,.t 14,.c (.int .u8 2)] 12 false,gP 16 .pick [.t 12,.c (.bool true),.t 15] 8 true,gP 17 .mv [.t 16] 8 true,gP 18 .mv [.v 0] 17 false,gP 19 .mv [.v 1] 17 false,gP 20 (.call 123) [.t 18,.t 19,.c (.int .u8 3)] 17 false,gP 21 .pick [.t 17,.c (.bool true),.t 20] 8 true,oP 22 .pick [.t 8,.t 21,.c (.bool false)],vP 2 (.t 22)]
def a111c : ACode :=
  (Sq a111s1 (Sq a111s3 .ret))
def a111 : AFn := { np := 2,nv := 3,results := [.v 2],code := a111c }
def a111v : List Nat:=[0,1,4]
def a111b : List Nat := []

def a112s1:=Rg [] [op (.v 1) .mv [.c (.str [])],op (.v 2) .mv [.c (.str [])]]
def a112s3:=Rg [] [op (.v 6) (.bslice 1 [[.str []],[.str []],[.str []]] [0,1,2]) [.c (.str [99,114,101,97,116,101]),.c (.str [117,112,100,97,116,101]),.c (.str [100,101,108,101,116,101])],op (.v 7) .lenL [.v 6],vP 8 (.c (.int .i64 0))]
def a112s5:=Ts [] [bP 11 .lss (.v 8) (.v 7)] (.t 11) .skip (.exit 0)
def a112s7:=Rg [] [oP 12 (.iad 1) [.v 6,.v 8],oP 13 (.ldRo false 1) [.t 12],vP 3 (.t 13)]
def a112s9:=Rg [] [nP 15 0,nP 16 3,oP 17 (.call 129) [.t 15,.t 16],mP 14 (.t 17),oP 18 (.ext 0) [.t 14],oP 19 (.ext 1) [.t 14],vP 4 (.t 18),vP 5 (.t 19)]
def a112s12:=Rg [] [nP 21 3,nP 22 4,vP 1 (.t 21),vP 2 (.t 22)]
def a112s14:=Ts [] [nP 20 5] (.t 20) (Sq a112s12 .ret) .skip
def a112s19:=Rg [] [bP 23 .add (.v 8) (.c (.int .i64 1)),vP 8 (.t 23)]
def a112s26:=Rg [] [op (.v 1) .mv [.c (.str [])],op (.v 2) .mv [.c (.str [])]]
def a112c : ACode :=
  (Sq a112s1 (Sq (Sq a112s3 (Bk 0 (Lp (Sq a112s5 (Sq (Bk 1 (Sq a112s7 (Sq a112s9 a112s14))) a112s19))))) (Sq a112s26 .ret)))
def a112 : AFn := { np := 1,nv := 9,results := [.v 1,.v 2],code := a112c }
def a112v : List Nat:=[0,2,3,5,6,7,8,9,10]
def a112b : List Nat := []

def a113s1:=Rg [3] [⟨.bx,.boxV,[.v 0],some 3,none⟩,vP 4 (.c (.bool false))]
def a113s3:=Rg [] [fP 6 2 (.v 1),oP 7 (.ldSt false 1) [.t 6],oP 8 (.call 76) [.t 7],fP 9 0 (.l 3),lP 10 3 false 1 (.t 9),oP 11 (.call 73) [.t 8,.t 10],vP 5 (.t 11)]
def a113s5:=Rg [] [nP 12 5,bP 13 .lss (.t 12) (.c (.int .i64 0)),mP 14 (.t 13),gP 15 (.ldSt false 1) [.v 2] 14 false,gP 16 (.fad 2) [.v 1] 14 false,gP 17 (.ldSt false 1) [.t 16] 14 false,gP 18 .mv [.v 5] 14 false,gP 19 (.iad 11) [.t 17,.t 18] 14 false,gP 20 (.fad 2) [.t 19] 14 false,gP 21 (.ldRo true 3) [.t 20] 14 false,gP 22 (.fad 2) [.l 3] 14 false,⟨.t 23,.ldLc 3 true 3,[.t 22],some 3,some (.t 14,false)⟩,gP 24 (.call 114) [.t 15,.t 21,.t 23] 14 false,gP 25 (.un .not) [.t 24] 14 false,oP 26 .pick [.t 14,.c (.bool true),.t 25],vP 4 (.t 26)]
def a113c : ACode :=
  (Sq a113s1 (Sq a113s3 (Sq a113s5 .ret)))
def a113 : AFn := { np := 3,nv := 6,results := [.v 4],code := a113c }
def a113v : List Nat:=[0,1,2,3,4,5]
def a113b : List Nat := [3]

def a114s1:=Rg [3,4] [⟨.bx,.boxV,[.v 1],some 3,none⟩,⟨.bx,.boxV,[.v 2],some 4,none⟩,vP 5 (.c (.bool false))]
def a114s4:=Rg [] [vP 5 (.c (.bool false))]
def a114s6:=Ts [] [fP 7 1 (.l 3),lP 8 3 false 1 (.t 7),oP 9 .lenL [.t 8],fP 10 1 (.l 4),lP 11 4 false 1 (.t 10),oP 12 .lenL [.t 11],bP 13 .neq (.t 9) (.t 12)] (.t 13) (Sq a114s4 .ret) .skip
def a114s9:=Rg [] [nP 18 0,fP 19 1 (.l 3),lP 20 3 false 1 (.t 19),oP 21 (.iad 3) [.t 20,.c (.int .i64 0)],oP 22 (.ldRo true 3) [.t 21],fP 23 1 (.l 4),lP 24 4 false 1 (.t 23),oP 25 (.iad 3) [.t 24,.c (.int .i64 0)],oP 26 (.ldRo true 3) [.t 25],oP 27 (.call 114) [.t 18,.t 22,.t 26],vP 5 (.t 27)]
def a114s11:=Ts [] [fP 14 1 (.l 3),lP 15 3 false 1 (.t 14),oP 16 .lenL [.t 15],bP 17 .gtr (.t 16) (.c (.int .i64 0))] (.t 17) (Sq a114s9 .ret) .skip
def a114s13:=Rg [] [fP 28 0 (.l 3),lP 29 3 false 1 (.t 28),fP 30 0 (.l 4),lP 31 4 false 1 (.t 30),bP 32 .eql (.t 29) (.t 31),mP 33 (.t 32),gP 34 .mv [.v 0] 33 false,gP 35 (.fad 0) [.l 3] 33 false,⟨.t 36,.ldLc 3 false 1,[.t 35],some 3,some (.t 33,false)⟩,gP 37 (.call 111) [.t 34,.t 36] 33 false,gP 38 .mv [.t 37] 33 false,gP 39 (.fad 0) [.l 4] 38 true,⟨.t 40,.ldLc 4 false 1,[.t 39],some 4,some (.t 38,true)⟩,gP 41 (.bin .eql) [.t 40,.c (.str [73,68])] 38 true,gP 42 .pick [.t 38,.t 41,.c (.bool false)] 33 false,oP 43 .pick [.t 33,.c (.bool true),.t 42],vP 5 (.t 43)]
def a114c : ACode :=
  (Sq a114s1 (Sq a114s6 (Sq a114s11 (Sq a114s13 .ret))))
def a114 : AFn := { np := 3,nv := 6,results := [.v 5],code := a114c }
def a114v : List Nat:=[0,1,2,4,5,6]
def a114b : List Nat := [3,4]

def a115s1:=Rg [] [vP 2 (.c (.bool false))]
def a115s3:=Rg [] [nP 5 1,oP 6 (.call 50) [.t 5],mP 7 (.t 6),gP 8 .mv [.v 0] 7 false,gP 9 .mv [.v 1] 7 false,gP 10 (.call 54) [.t 8,.t 9] 7 false,gP 11 (.fld 0 1 false) [.t 10] 7 false,gP 12 (.bin .eql) [.t 11,.c (.int .u8 4)] 7 false,oP 13 .pick [.t 7,.c (.bool true),.t 12],vP 2 (.t 13)]
def a115c : ACode :=
  (Sq a115s1 (Sq a115s3 .ret))
def a115 : AFn := { np := 2,nv := 3,results := [.v 2],code := a115c }
def a115v : List Nat:=[0,1,4]
def a115b : List Nat := []

def a116s1:=Rg [4,5] [⟨.bx,.boxV,[.v 1],some 4,none⟩,⟨.bx,.boxV,[.v 2],some 5,none⟩,vP 6 (.c (.bool false))]
def a116s4:=Rg [] [vP 6 (.c (.bool true))]
def a116s6:=Ts [] [fP 14 0 (.l 5),lP 15 5 false 1 (.t 14),bP 16 .eql (.t 15) (.c (.int .u8 7)),mP 17 (.t 16),gP 18 .mv [.v 3] 17 true,oP 19 .pick [.t 17,.t 18,.c (.bool false)]] (.t 19) (Sq a116s4 .ret) .skip
def a116s9:=Rg [] [fP 23 2 (.l 4),lP 24 4 false 1 (.t 23),oP 25 (.un .not) [.t 24],vP 6 (.t 25)]
def a116s11:=Ts [] [fP 20 0 (.l 5),lP 21 5 false 1 (.t 20),bP 22 .eql (.t 21) (.c (.int .u8 0))] (.t 22) (Sq a116s9 .ret) .skip
def a116s15:=Rg [] [nP 33 0,fP 34 1 (.l 4),lP 35 4 false 1 (.t 34),oP 36 (.iad 3) [.t 35,.c (.int .i64 0)],oP 37 (.ldRo true 3) [.t 36],lP 38 5 true 5 (.l 5),nP 39 3,oP 40 (.call 116) [.t 33,.t 37,.t 38,.t 39],vP 6 (.t 40)]
def a116s17:=Ts [] [fP 30 0 (.l 5),lP 31 5 false 1 (.t 30),bP 32 .neq (.t 31) (.c (.int .u8 5))] (.t 32) (Sq a116s15 .ret) .skip
def a116s19:=Rg [] [vP 7 (.c (.int .i64 0))]
def a116s21:=Ts [] [nP 41 7,fP 42 4 (.l 5),lP 43 5 false 1 (.t 42),oP 44 .lenL [.t 43],bP 45 .lss (.t 41) (.t 44)] (.t 45) .skip (.exit 0)
def a116s24:=Rg [] [vP 6 (.c (.bool false))]
def a116s26:=Ts [] [nP 48 0,fP 49 1 (.l 4),lP 50 4 false 1 (.t 49),oP 51 (.iad 3) [.t 50,.c (.int .i64 0)],oP 52 (.ldRo true 3) [.t 51],fP 53 4 (.l 5),lP 54 5 false 1 (.t 53),nP 55 7,oP 56 (.iad 5) [.t 54,.t 55],oP 57 (.ldRo true 5) [.t 56],nP 58 3,oP 59 (.call 116) [.t 48,.t 52,.t 57,.t 58],oP 60 (.un .not) [.t 59]] (.t 60) (Sq a116s24 .ret) .skip
def a116s29:=Rg [] [nP 46 7,bP 47 .add (.t 46) (.c (.int .i64 1)),vP 7 (.t 47)]
def a116s36:=Rg [] [vP 6 (.c (.bool true))]
def a116s40:=Ts [] [fP 26 1 (.l 4),lP 27 4 false 1 (.t 26),oP 28 .lenL [.t 27],bP 29 .gtr (.t 28) (.c (.int .i64 0))] (.t 29) (Sq a116s17 (Sq (Sq a116s19 (Bk 0 (Lp (Sq a116s21 (Sq (Bk 1 a116s26) a116s29))))) (Sq a116s36 .ret))) .skip
def a116s42:=Rg [] [fP 61 0 (.l 4),⟨.v 12,.ldLc 4 false 1,[.t 61],some 4,none⟩]
def a116s45:=Rg [] [fP 65 0 (.l 5),lP 66 5 false 1 (.t 65),bP 67 .eql (.t 66) (.c (.int .u8 1)),mP 68 (.t 67),gP 69 (.fad 1) [.l 5] 68 true,⟨.t 70,.ldLc 5 false 1,[.t 69],some 5,some (.t 68,true)⟩,gP 71 (.bin .geq) [.t 70,.c (.int .i64 (-2147483648))] 68 true,oP 72 .pick [.t 68,.t 71,.c (.bool false)],mP 73 (.t 72),gP 74 (.fad 1) [.l 5] 73 true,⟨.t 75,.ldLc 5 false 1,[.t 74],some 5,some (.t 73,true)⟩,gP 76 (.bin .leq) [.t 75,.c (.int .i64 2147483647)] 73 true,oP 77 .pick [.t 73,.t 76,.c (.bool false)],vP 6 (.t 77)]
def a116s49:=Rg [] [fP 80 0 (.l 5),lP 81 5 false 1 (.t 80),bP 82 .eql (.t 81) (.c (.int .u8 2)),vP 6 (.t 82)]
def a116s53:=Rg [] [fP 85 0 (.l 5),lP 86 5 false 1 (.t 85),bP 87 .eql (.t 86) (.c (.int .u8 3)),vP 6 (.t 87)]
def a116s57:=Rg [] [fP 90 0 (.l 5),lP 91 5 false 1 (.t 90),bP 92 .eql (.t 91) (.c (.int .u8 2)),mP 93 (.t 92),gP 94 (.fad 0) [.l 5] 93 false,⟨.t 95,.ldLc 5 false 1,[.t 94],some 5,some (.t 93,false)⟩,gP 96 (.bin .eql) [.t 95,.c (.int .u8 1)] 93 false,oP 97 .pick [.t 93,.c (.bool true),.t 96],vP 6 (.t 97)]
def a116s59:=Ts [] [oP 89 (.bin .eql) [.v 12,.c (.str [73,68])],mP 88 (.t 89)] (.t 88) (Sq a116s57 .ret) .skip
def a116s60:=Ts [] [oP 84 (.bin .eql) [.v 12,.c (.str [66,111,111,108,101,97,110])],mP 83 (.t 84)] (.t 83) (Sq a116s53 .ret) a116s59
def a116s61:=Ts [] [oP 79 (.bin .eql) [.v 12,.c (.str [83,116,114,105,110,103])],mP 78 (.t 79)] (.t 78) (Sq a116s49 .ret) a116s60
def a116s62:=Ts [] [oP 64 (.bin .eql) [.v 12,.c (.str [73,110,116])],mP 63 (.t 64)] (.t 63) (Sq a116s45 .ret) a116s61
def a116s66:=Rg [8] [nP 98 0,fP 99 0 (.l 4),lP 100 4 false 1 (.t 99),oP 101 (.call 54) [.t 98,.t 100],⟨.bx,.alloc [.int .u8 0,.str [],.list true [],.list true []],[],some 8,none⟩,xP (.stLc 8 4) [.l 8,.ts 101] 8]
def a116s69:=Rg [] [fP 105 0 (.l 5),lP 106 5 false 1 (.t 105),bP 107 .eql (.t 106) (.c (.int .u8 4)),mP 108 (.t 107),gP 109 (.fad 3) [.l 8] 108 true,⟨.t 110,.ldLc 8 false 1,[.t 109],some 8,some (.t 108,true)⟩,gP 111 (.fad 2) [.l 5] 108 true,⟨.t 112,.ldLc 5 false 1,[.t 111],some 5,some (.t 108,true)⟩,gP 113 (.call 51) [.t 110,.t 112] 108 true,oP 114 .pick [.t 108,.t 113,.c (.bool false)],vP 6 (.t 114)]
def a116s71:=Ts [] [fP 102 0 (.l 8),lP 103 8 false 1 (.t 102),bP 104 .eql (.t 103) (.c (.int .u8 4))] (.t 104) (Sq a116s69 .ret) .skip
def a116s74:=Rg [] [vP 6 (.c (.bool false))]
def a116s76:=Ts [] [fP 115 0 (.l 8),lP 116 8 false 1 (.t 115),bP 117 .neq (.t 116) (.c (.int .u8 5)),mP 118 (.t 117),gP 119 (.fad 0) [.l 5] 118 false,⟨.t 120,.ldLc 5 false 1,[.t 119],some 5,some (.t 118,false)⟩,gP 121 (.bin .neq) [.t 120,.c (.int .u8 6)] 118 false,oP 122 .pick [.t 118,.c (.bool true),.t 121]] (.t 122) (Sq a116s74 .ret) .skip
def a116s78:=Rg [] [vP 9 (.c (.int .i64 0))]
def a116s80:=Ts [] [nP 123 9,fP 124 3 (.l 5),lP 125 5 false 1 (.t 124),oP 126 .lenL [.t 125],bP 127 .lss (.t 123) (.t 126)] (.t 127) .skip (.exit 3)
def a116s82:=Rg [] [fP 130 2 (.l 8),lP 131 8 false 1 (.t 130),fP 132 3 (.l 5),lP 133 5 false 1 (.t 132),nP 134 9,oP 135 (.iad 1) [.t 133,.t 134],oP 136 (.ldRo false 1) [.t 135],oP 137 (.call 87) [.t 131,.t 136],vP 10 (.t 137)]
def a116s85:=Rg [] [vP 6 (.c (.bool false))]
def a116s87:=Ts [] [nP 138 10,bP 139 .lss (.t 138) (.c (.int .i64 0)),mP 140 (.t 139),gP 141 (.fad 3) [.l 5] 140 false,⟨.t 142,.ldLc 5 false 1,[.t 141],some 5,some (.t 140,false)⟩,gP 143 .mv [.v 9] 140 false,gP 144 (.slL 1 false true) [.t 142,.t 143] 140 false,gP 145 (.fad 3) [.l 5] 140 false,⟨.t 146,.ldLc 5 false 1,[.t 145],some 5,some (.t 140,false)⟩,gP 147 .mv [.v 9] 140 false,gP 148 (.iad 1) [.t 146,.t 147] 140 false,gP 149 (.ldRo false 1) [.t 148] 140 false,gP 150 (.call 51) [.t 144,.t 149] 140 false,oP 151 .pick [.t 140,.c (.bool true),.t 150],mP 152 (.t 151),gP 153 .mv [.v 0] 152 false,gP 154 (.fad 2) [.l 8] 152 false,⟨.t 155,.ldLc 8 false 1,[.t 154],some 8,some (.t 152,false)⟩,gP 156 .mv [.v 10] 152 false,gP 157 (.iad 11) [.t 155,.t 156] 152 false,gP 158 (.fad 2) [.t 157] 152 false,gP 159 (.ldRo true 3) [.t 158] 152 false,gP 160 (.fad 4) [.l 5] 152 false,⟨.t 161,.ldLc 5 false 1,[.t 160],some 5,some (.t 152,false)⟩,gP 162 .mv [.v 9] 152 false,gP 163 (.iad 5) [.t 161,.t 162] 152 false,gP 164 (.ldRo true 5) [.t 163] 152 false,gP 165 .mv [.v 3] 152 false,gP 166 (.call 116) [.t 153,.t 159,.t 164,.t 165] 152 false,gP 167 (.un .not) [.t 166] 152 false,oP 168 .pick [.t 152,.c (.bool true),.t 167]] (.t 168) (Sq a116s85 .ret) .skip
def a116s91:=Rg [] [nP 128 9,bP 129 .add (.t 128) (.c (.int .i64 1)),vP 9 (.t 129)]
def a116s98:=Rg [] [vP 11 (.c (.int .i64 0))]
def a116s100:=Ts [] [nP 169 11,fP 170 2 (.l 8),lP 171 8 false 1 (.t 170),oP 172 .lenL [.t 171],bP 173 .lss (.t 169) (.t 172)] (.t 173) .skip (.exit 5)
def a116s103:=Rg [] [vP 6 (.c (.bool false))]
def a116s105:=Ts [] [fP 176 2 (.l 8),lP 177 8 false 1 (.t 176),nP 178 11,oP 179 (.iad 11) [.t 177,.t 178],fP 180 2 (.t 179),fP 181 2 (.t 180),oP 182 (.ldRo false 1) [.t 181],mP 183 (.t 182),gP 184 (.fad 2) [.l 8] 183 true,⟨.t 185,.ldLc 8 false 1,[.t 184],some 8,some (.t 183,true)⟩,gP 186 .mv [.v 11] 183 true,gP 187 (.iad 11) [.t 185,.t 186] 183 true,gP 188 (.fad 5) [.t 187] 183 true,gP 189 (.ldRo false 1) [.t 188] 183 true,gP 190 (.un .not) [.t 189] 183 true,oP 191 .pick [.t 183,.t 190,.c (.bool false)],mP 192 (.t 191),gP 193 (.fad 3) [.l 5] 192 true,⟨.t 194,.ldLc 5 false 1,[.t 193],some 5,some (.t 192,true)⟩,gP 195 (.fad 2) [.l 8] 192 true,⟨.t 196,.ldLc 8 false 1,[.t 195],some 8,some (.t 192,true)⟩,gP 197 .mv [.v 11] 192 true,gP 198 (.iad 11) [.t 196,.t 197] 192 true,gP 199 (.fad 0) [.t 198] 192 true,gP 200 (.ldRo false 1) [.t 199] 192 true,gP 201 (.call 51) [.t 194,.t 200] 192 true,gP 202 (.un .not) [.t 201] 192 true,oP 203 .pick [.t 192,.t 202,.c (.bool false)]] (.t 203) (Sq a116s103 .ret) .skip
def a116s108:=Rg [] [nP 174 11,bP 175 .add (.t 174) (.c (.int .i64 1)),vP 11 (.t 175)]
def a116s115:=Rg [] [vP 6 (.c (.bool true))]
def a116c : ACode :=
  (Sq a116s1 (Sq a116s6 (Sq a116s11 (Sq a116s40 (Sq (Sq a116s42 (Bk 2 a116s62)) (Sq a116s66 (Sq a116s71 (Sq a116s76 (Sq (Sq a116s78 (Bk 3 (Lp (Sq a116s80 (Sq (Bk 4 (Sq a116s82 a116s87)) a116s91))))) (Sq (Sq a116s98 (Bk 5 (Lp (Sq a116s100 (Sq (Bk 6 a116s105) a116s108))))) (Sq a116s115 .ret)))))))))))
def a116 : AFn := { np := 4,nv := 13,results := [.v 6],code := a116c }
def a116v : List Nat:=[0,1,2,3,5,6,8,9,10,11,12,13,62]
def a116b : List Nat := [4,5,8]

def a117s1:=Rg [] [op (.v 1) .mv [.c (.str [])],op (.v 2) .mv [.c (.str [])]]
def a117s3:=Rg [] [oP 6 (.bslice 1 [[.str []],[.str []],[.str []]] [0,1,2]) [.c (.str [99,114,101,97,116,101]),.c (.str [117,112,100,97,116,101]),.c (.str [100,101,108,101,116,101])],vP 3 (.ts 6)]
def a117s5:=Rg [] [vP 4 (.c (.int .i64 0))]
def a117s7:=Ts [] [nP 7 4,bP 8 .lss (.t 7) (.c (.int .i64 3))] (.t 8) .skip (.exit 0)
def a117s10:=Rg [] [nP 17 3,nP 18 4,oP 19 (.iad 1) [.t 17,.t 18],oP 20 (.ldRo false 1) [.t 19],nP 21 0,oP 22 (.slS true false) [.t 21,.c (.int .i64 6)],vP 1 (.t 20),vP 2 (.t 22)]
def a117s12:=Ts [] [nP 11 0,nP 12 3,nP 13 4,oP 14 (.iad 1) [.t 12,.t 13],oP 15 (.ldRo false 1) [.t 14],oP 16 (.call 52) [.t 11,.t 15]] (.t 16) (Sq a117s10 .ret) .skip
def a117s15:=Rg [] [nP 9 4,bP 10 .add (.t 9) (.c (.int .i64 1)),vP 4 (.t 10)]
def a117s22:=Rg [] [op (.v 1) .mv [.c (.str [])],op (.v 2) .mv [.c (.str [])]]
def a117c : ACode :=
  (Sq a117s1 (Sq a117s3 (Sq (Sq a117s5 (Bk 0 (Lp (Sq a117s7 (Sq (Bk 1 a117s12) a117s15))))) (Sq a117s22 .ret))))
def a117 : AFn := { np := 1,nv := 5,results := [.v 1,.v 2],code := a117c }
def a117v : List Nat:=[0,2,3,4,5]
def a117b : List Nat := []

def a118s1:=Rg [3,4] [⟨.bx,.boxV,[.v 1],some 3,none⟩,⟨.bx,.boxV,[.v 2],some 4,none⟩,vP 5 (.c (.bool false))]
def a118s4:=Rg [] [fP 17 1 (.l 3),lP 18 3 false 1 (.t 17),oP 19 .lenL [.t 18],bP 20 .gtr (.t 19) (.c (.int .i64 0)),mP 21 (.t 20),gP 22 (.fad 1) [.l 4] 21 true,⟨.t 23,.ldLc 4 false 1,[.t 22],some 4,some (.t 21,true)⟩,gP 24 .lenL [.t 23] 21 true,gP 25 (.bin .gtr) [.t 24,.c (.int .i64 0)] 21 true,oP 26 .pick [.t 21,.t 25,.c (.bool false)],mP 27 (.t 26),gP 28 .mv [.v 0] 27 true,gP 29 (.fad 1) [.l 3] 27 true,⟨.t 30,.ldLc 3 false 1,[.t 29],some 3,some (.t 27,true)⟩,gP 31 (.iad 3) [.t 30,.c (.int .i64 0)] 27 true,gP 32 (.ldRo true 3) [.t 31] 27 true,gP 33 (.fad 1) [.l 4] 27 true,⟨.t 34,.ldLc 4 false 1,[.t 33],some 4,some (.t 27,true)⟩,gP 35 (.iad 3) [.t 34,.c (.int .i64 0)] 27 true,gP 36 (.ldRo true 3) [.t 35] 27 true,gP 37 (.call 118) [.t 28,.t 32,.t 36] 27 true,oP 38 .pick [.t 27,.t 37,.c (.bool false)],vP 5 (.t 38)]
def a118s6:=Ts [] [fP 7 1 (.l 3),lP 8 3 false 1 (.t 7),oP 9 .lenL [.t 8],bP 10 .gtr (.t 9) (.c (.int .i64 0)),mP 11 (.t 10),gP 12 (.fad 1) [.l 4] 11 false,⟨.t 13,.ldLc 4 false 1,[.t 12],some 4,some (.t 11,false)⟩,gP 14 .lenL [.t 13] 11 false,gP 15 (.bin .gtr) [.t 14,.c (.int .i64 0)] 11 false,oP 16 .pick [.t 11,.c (.bool true),.t 15]] (.t 16) (Sq a118s4 .ret) .skip
def a118s8:=Rg [] [fP 39 0 (.l 3),lP 40 3 false 1 (.t 39),fP 41 0 (.l 4),lP 42 4 false 1 (.t 41),bP 43 .eql (.t 40) (.t 42),mP 44 (.t 43),gP 45 (.fad 0) [.l 4] 44 false,⟨.t 46,.ldLc 4 false 1,[.t 45],some 4,some (.t 44,false)⟩,gP 47 (.bin .eql) [.t 46,.c (.str [73,68])] 44 false,gP 48 .mv [.t 47] 44 false,gP 49 .mv [.v 0] 48 true,gP 50 (.fad 0) [.l 3] 48 true,⟨.t 51,.ldLc 3 false 1,[.t 50],some 3,some (.t 48,true)⟩,gP 52 (.call 90) [.t 49,.t 51] 48 true,gP 53 .pick [.t 48,.t 52,.c (.bool false)] 44 false,oP 54 .pick [.t 44,.c (.bool true),.t 53],vP 5 (.t 54)]
def a118c : ACode :=
  (Sq a118s1 (Sq a118s6 (Sq a118s8 .ret)))
def a118 : AFn := { np := 3,nv := 6,results := [.v 5],code := a118c }
def a118v : List Nat:=[0,1,2,4,5,6]
def a118b : List Nat := [3,4]

def a119s1:=Rg [] [vP 2 (.c (.int .i64 0))]
def a119s3:=Rg [] [nP 6 0,op (.v 4) .lenL [.t 6],vP 5 (.c (.int .i64 0))]
def a119s5:=Ts [] [bP 9 .lss (.v 5) (.v 4)] (.t 9) .skip (.exit 0)
def a119s7:=Rg [] [nP 10 5,vP 3 (.t 10)]
def a119s10:=Rg [] [nP 17 3,vP 2 (.t 17)]
def a119s11:=Sq a119s10 .ret
def a119s12:=Ts [] [nP 11 1,nP 12 0,nP 13 3,oP 14 (.iad 2) [.t 12,.t 13],oP 15 (.ldRo true 2) [.t 14],oP 16 .callV [.t 11,.t 15]] (.t 16) a119s11 .skip
def a119s16:=Rg [] [bP 18 .add (.v 5) (.c (.int .i64 1)),vP 5 (.t 18)]
def a119s23:=Rg [] [vP 2 (.c (.int .i64 (-1)))]
def a119c : ACode :=
  (Sq a119s1 (Sq (Sq a119s3 (Bk 0 (Lp (Sq a119s5 (Sq (Bk 1 (Sq a119s7 a119s12)) a119s16))))) (Sq a119s23 .ret)))
def a119 : AFn := { np := 2,nv := 6,results := [.v 2],code := a119c }
def a119v : List Nat:=[0,1,4,5,7,8]
def a119b : List Nat := []

def a120s1:=Rg [2,3] [⟨.bx,.boxV,[.v 0],some 2,none⟩,⟨.bx,.alloc [.int .u8 0,.int .i64 0,.str [],.list true [],.list true []],[],some 3,none⟩,vP 4 (.c (.bool false))]
def a120s3:=Rg [] [fP 7 3 (.l 2),lP 8 2 false 1 (.t 7),nP 9 1,oP 10 (.call 73) [.t 8,.t 9],vP 5 (.t 10)]
def a120s6:=Rg [] [oP 18 (.build [.int .u8 0,.int .i64 0,.str [],.list true [],.list true []] []) [],xP (.stLc 3 5) [.l 3,.ts 18] 3,vP 4 (.c (.bool false))]
def a120s7:=Sq a120s6 .ret
def a120s8:=Ts [] [nP 11 5,bP 12 .lss (.t 11) (.c (.int .i64 0)),mP 13 (.t 12),gP 14 (.fad 0) [.l 2] 13 false,⟨.t 15,.ldLc 2 false 1,[.t 14],some 2,some (.t 13,false)⟩,gP 16 (.bin .neq) [.t 15,.c (.int .u8 6)] 13 false,oP 17 .pick [.t 13,.c (.bool true),.t 16]] (.t 17) a120s7 .skip
def a120s10:=Rg [] [fP 19 4 (.l 2),lP 20 2 false 1 (.t 19),nP 21 5,oP 22 (.iad 5) [.t 20,.t 21],oP 23 (.ldRo true 5) [.t 22],xP (.stLc 3 5) [.l 3,.ts 23] 3,vP 4 (.c (.bool true))]
def a120c : ACode :=
  (Sq a120s1 (Sq a120s3 (Sq a120s8 (Sq a120s10 .ret))))
def a120 : AFn := { np := 2,nv := 6,results := [.bx 3 true 5,.v 4],code := a120c }
def a120v : List Nat:=[0,1,2,4,5,6]
def a120b : List Nat := [2,3]

def a121 : AFn := { np := 1,nv := 0,results := [],code := .skip,ext := some (cloneX 1 16) }
def a123s1:=Rg [] [vP 3 (.c (.bool false))]
def a123s3:=Rg [4] [nP 10 0,nP 11 1,oP 12 (.call 48) [.t 10,.t 11],mP 9 (.t 12),oP 13 (.ext 0) [.t 9],oP 14 (.ext 1) [.t 9],⟨.bx,.alloc [.int .u8 0,.str [],.list true [],.list true []],[],some 4,none⟩,xP (.stLc 4 4) [.l 4,.ts 13] 4,vP 5 (.t 14)]
def a123s5:=Rg [] [nP 15 5,mP 16 (.t 15),gP 17 (.fad 0) [.l 4] 16 true,⟨.t 18,.ldLc 4 false 1,[.t 17],some 4,some (.t 16,true)⟩,gP 19 .mv [.v 2] 16 true,gP 20 (.bin .eql) [.t 18,.t 19] 16 true,oP 21 .pick [.t 16,.t 20,.c (.bool false)],vP 3 (.t 21)]
def a123c : ACode :=
  (Sq a123s1 (Sq a123s3 (Sq a123s5 .ret)))
def a123 : AFn := { np := 3,nv := 6,results := [.v 3],code := a123c }
def a123v : List Nat:=[0,1,2,6,7,8]
def a123b : List Nat := [4]

def a124s1:=Rg [] [vP 2 (.c (.bool false))]
def a124s3:=Rg [] [nP 5 0,nP 6 1,oP 7 (.call 132) [.t 5,.t 6],bP 8 .geq (.t 7) (.c (.int .i64 0)),vP 2 (.t 8)]
def a124c : ACode :=
  (Sq a124s1 (Sq a124s3 .ret))
def a124 : AFn := { np := 2,nv := 3,results := [.v 2],code := a124c }
def a124v : List Nat:=[0,1,4]
def a124b : List Nat := []

def a125s1:=Rg [3] [⟨.bx,.boxV,[.v 0],some 3,none⟩,vP 4 (.c (.bool false))]
def a125s3:=Rg [] [oP 5 (.ldSt false 1) [.v 1],fP 6 1 (.v 2),oP 7 (.ldSt false 1) [.t 6],oP 8 (.iad 3) [.t 7,.c (.int .i64 0)],oP 9 (.ldRo true 3) [.t 8],lP 10 3 true 5 (.l 3),oP 11 (.call 106) [.t 5,.t 9,.t 10],oP 12 (.un .not) [.t 11],vP 4 (.t 12)]
def a125c : ACode :=
  (Sq a125s1 (Sq a125s3 .ret))
def a125 : AFn := { np := 3,nv := 5,results := [.v 4],code := a125c }
def a125v : List Nat:=[0,1,2,3,4]
def a125b : List Nat := [3]

def a126s1:=Rg [3] [⟨.bx,.boxV,[.v 1],some 3,none⟩,op (.v 4) .boxO [.v 2],vP 5 (.c (.bool false))]
def a126s3:=Rg [] [fP 10 3 (.v 4),op (.v 9) (.ldSt false 1) [.t 10],op (.v 10) .lenL [.v 9],vP 11 (.c (.int .i64 0))]
def a126s5:=Ts [] [bP 14 .lss (.v 11) (.v 10)] (.t 14) .skip (.exit 0)
def a126s7:=Rg [] [nP 15 11,oP 16 (.iad 1) [.v 9,.v 11],oP 17 (.ldRo false 1) [.t 16],vP 6 (.t 15),vP 7 (.t 17)]
def a126s9:=Rg [] [fP 18 2 (.l 3),lP 19 3 false 1 (.t 18),oP 20 (.call 76) [.t 19],nP 21 7,oP 22 (.call 73) [.t 20,.t 21],vP 8 (.t 22)]
def a126s12:=Rg [] [vP 5 (.c (.bool false))]
def a126s14:=Ts [] [nP 23 8,bP 24 .lss (.t 23) (.c (.int .i64 0)),mP 25 (.t 24),gP 26 (.fad 3) [.v 4] 25 false,gP 27 (.ldSt false 1) [.t 26] 25 false,gP 28 .mv [.v 6] 25 false,gP 29 (.slL 1 false true) [.t 27,.t 28] 25 false,gP 30 .mv [.v 7] 25 false,gP 31 (.call 45) [.t 29,.t 30] 25 false,oP 32 .pick [.t 25,.c (.bool true),.t 31],mP 33 (.t 32),gP 34 .mv [.v 0] 33 false,gP 35 (.fad 2) [.l 3] 33 false,⟨.t 36,.ldLc 3 false 1,[.t 35],some 3,some (.t 33,false)⟩,gP 37 .mv [.v 8] 33 false,gP 38 (.iad 11) [.t 36,.t 37] 33 false,gP 39 (.fad 2) [.t 38] 33 false,gP 40 (.ldRo true 3) [.t 39] 33 false,gP 41 (.fad 4) [.v 4] 33 false,gP 42 (.ldSt false 1) [.t 41] 33 false,gP 43 .mv [.v 6] 33 false,gP 44 (.iad 5) [.t 42,.t 43] 33 false,gP 45 (.ldRo true 5) [.t 44] 33 false,gP 46 (.call 106) [.t 34,.t 40,.t 45] 33 false,gP 47 (.un .not) [.t 46] 33 false,oP 48 .pick [.t 33,.c (.bool true),.t 47]] (.t 48) (Sq a126s12 .ret) .skip
def a126s19:=Rg [] [bP 49 .add (.v 11) (.c (.int .i64 1)),vP 11 (.t 49)]
def a126s26:=Rg [] [fP 50 2 (.l 3),lP 51 3 false 1 (.t 50),oP 52 (.mkF 133 0) [.v 4],oP 53 (.call 107) [.t 51,.t 52],oP 54 (.un .not) [.t 53],vP 5 (.t 54)]
def a126c : ACode :=
  (Sq a126s1 (Sq (Sq a126s3 (Bk 0 (Lp (Sq a126s5 (Sq (Bk 1 (Sq a126s7 (Sq a126s9 a126s14))) a126s19))))) (Sq a126s26 .ret)))
def a126 : AFn := { np := 3,nv := 12,results := [.v 5],code := a126c }
def a126v : List Nat:=[0,1,2,4,5,6,7,8,9,11,12,13]
def a126b : List Nat := [3]

def a127s1:=Rg [] [vP 2 (.c (.int .i64 0))]
def a127s3:=Rg [] [nP 6 0,op (.v 4) .lenL [.t 6],vP 5 (.c (.int .i64 0))]
def a127s5:=Ts [] [bP 9 .lss (.v 5) (.v 4)] (.t 9) .skip (.exit 0)
def a127s7:=Rg [] [nP 10 5,vP 3 (.t 10)]
def a127s10:=Rg [] [nP 17 3,vP 2 (.t 17)]
def a127s12:=Ts [] [nP 11 1,nP 12 0,nP 13 3,oP 14 (.iad 11) [.t 12,.t 13],oP 15 (.ldRo true 11) [.t 14],oP 16 .callV [.t 11,.t 15]] (.t 16) (Sq a127s10 .ret) .skip
def a127s16:=Rg [] [bP 18 .add (.v 5) (.c (.int .i64 1)),vP 5 (.t 18)]
def a127s23:=Rg [] [vP 2 (.c (.int .i64 (-1)))]
def a127c : ACode :=
  (Sq a127s1 (Sq (Sq a127s3 (Bk 0 (Lp (Sq a127s5 (Sq (Bk 1 (Sq a127s7 a127s12)) a127s16))))) (Sq a127s23 .ret)))
def a127 : AFn := { np := 2,nv := 6,results := [.v 2],code := a127c }
def a127v : List Nat:=[0,1,4,5,7,8]
def a127b : List Nat := []

def a128s1:=Rg [] [vP 3 (.c (.bool false))]
def a128s4:=Rg [] [vP 3 (.c (.bool false))]
def a128s6:=Ts [] [nP 10 0,oP 11 .lenL [.t 10],nP 12 1,oP 13 .lenL [.t 12],bP 14 .neq (.t 11) (.t 13)] (.t 14) (Sq a128s4 .ret) .skip
def a128s8:=Rg [] [vP 7 (.v 0),op (.v 8) .lenL [.v 7],vP 9 (.c (.int .i64 0))]
def a128s10:=Ts [] [bP 18 .lss (.v 9) (.v 8)] (.t 18) .skip (.exit 0)
def a128s12:=Rg [5] [nP 19 9,oP 20 (.iad 3) [.v 7,.v 9],oP 21 (.ldRo true 3) [.t 20],⟨.bx,.alloc [.str [],.list true [],.bool false],[],some 5,none⟩,vP 4 (.t 19),xP (.stLc 5 3) [.l 5,.ts 21] 5]
def a128s14:=Rg [6] [nP 22 1,nP 23 4,oP 24 (.iad 3) [.t 22,.t 23],oP 25 (.ldRo true 3) [.t 24],⟨.bx,.alloc [.str [],.list true [],.bool false],[],some 6,none⟩,xP (.stLc 6 3) [.l 6,.ts 25] 6]
def a128s17:=Rg [] [vP 3 (.c (.bool false))]
def a128s19:=Ts [] [nP 26 2,lP 27 5 true 3 (.l 5),lP 28 6 true 3 (.l 6),oP 29 .callV [.t 26,.t 27,.t 28],oP 30 (.un .not) [.t 29]] (.t 30) (Sq a128s17 .ret) .skip
def a128s24:=Rg [] [bP 31 .add (.v 9) (.c (.int .i64 1)),vP 9 (.t 31)]
def a128s31:=Rg [] [vP 3 (.c (.bool true))]
def a128c : ACode :=
  (Sq a128s1 (Sq a128s6 (Sq (Sq a128s8 (Bk 0 (Lp (Sq a128s10 (Sq (Bk 1 (Sq a128s12 (Sq a128s14 a128s19))) a128s24))))) (Sq a128s31 .ret))))
def a128 : AFn := { np := 3,nv := 10,results := [.v 3],code := a128c }
def a128v : List Nat:=[0,1,2,6,7,8,9,15,16,17]
def a128b : List Nat := [5,6]

def a129s1:=Rg [] [op (.v 2) .mv [.c (.str [])],vP 3 (.c (.bool false))]
def a129s3:=Rg [] [nP 6 0,nP 7 1,oP 8 (.call 134) [.t 6,.t 7],oP 9 (.ext 0) [.t 8],oP 10 (.ext 1) [.t 8],vP 2 (.t 9),vP 3 (.t 10)]
def a129c : ACode :=
  (Sq a129s1 (Sq a129s3 .ret))
def a129 : AFn := { np := 2,nv := 4,results := [.v 2,.v 3],code := a129c }
def a129v : List Nat:=[0,1,4,5]
def a129b : List Nat := []

def a132s1:=Rg [] [vP 2 (.c (.int .i64 0))]
def a132s3:=Rg [] [nP 6 0,op (.v 4) .lenL [.t 6],vP 5 (.c (.int .i64 0))]
def a132s5:=Ts [] [bP 9 .lss (.v 5) (.v 4)] (.t 9) .skip (.exit 0)
def a132s7:=Rg [] [nP 10 5,vP 3 (.t 10)]
def a132s10:=Rg [] [nP 17 3,vP 2 (.t 17)]
def a132s12:=Ts [] [nP 11 1,nP 12 0,nP 13 3,oP 14 (.iad 5) [.t 12,.t 13],oP 15 (.ldRo true 5) [.t 14],oP 16 .callV [.t 11,.t 15]] (.t 16) (Sq a132s10 .ret) .skip
def a132s16:=Rg [] [bP 18 .add (.v 5) (.c (.int .i64 1)),vP 5 (.t 18)]
def a132s23:=Rg [] [vP 2 (.c (.int .i64 (-1)))]
def a132c : ACode :=
  (Sq a132s1 (Sq (Sq a132s3 (Bk 0 (Lp (Sq a132s5 (Sq (Bk 1 (Sq a132s7 a132s12)) a132s16))))) (Sq a132s23 .ret)))
def a132 : AFn := { np := 2,nv := 6,results := [.v 2],code := a132c }
def a132v : List Nat:=[0,1,4,5,7,8]
def a132b : List Nat := []

def a133s1:=Rg [2] [⟨.bx,.boxV,[.v 0],some 2,none⟩,vP 3 (.c (.bool false))]
def a133s3:=Rg [] [fP 4 2 (.l 2),fP 5 2 (.t 4),lP 6 2 false 1 (.t 5),mP 7 (.t 6),gP 8 (.fad 5) [.l 2] 7 true,⟨.t 9,.ldLc 2 false 1,[.t 8],some 2,some (.t 7,true)⟩,gP 10 (.un .not) [.t 9] 7 true,oP 11 .pick [.t 7,.t 10,.c (.bool false)],mP 12 (.t 11),gP 13 (.fad 3) [.v 1] 12 true,gP 14 (.ldSt false 1) [.t 13] 12 true,gP 15 (.fad 0) [.l 2] 12 true,⟨.t 16,.ldLc 2 false 1,[.t 15],some 2,some (.t 12,true)⟩,gP 17 (.call 45) [.t 14,.t 16] 12 true,gP 18 (.un .not) [.t 17] 12 true,oP 19 .pick [.t 12,.t 18,.c (.bool false)],vP 3 (.t 19)]
def a133c : ACode :=
  (Sq a133s1 (Sq a133s3 .ret))
def a133 : AFn := { np := 2,nv := 4,results := [.v 3],code := a133c }
def a133v : List Nat:=[0,1,2,3]
def a133b : List Nat := [2]

def a134s1:=Rg [] [op (.v 2) .mv [.c (.str [])],vP 3 (.c (.bool false))]
def a134s4:=Rg [] [nP 10 0,vP 2 (.t 10),vP 3 (.c (.bool false))]
def a134s6:=Ts [] [nP 6 0,nP 7 1,oP 8 (.call 74) [.t 6,.t 7],oP 9 (.un .not) [.t 8]] (.t 9) (Sq a134s4 .ret) .skip
def a134s8:=Rg [] [nP 11 0,nP 12 1,oP 13 .lenS [.t 12],oP 14 (.slS true false) [.t 11,.t 13],vP 2 (.t 14),vP 3 (.c (.bool true))]
def a134c : ACode :=
  (Sq a134s1 (Sq a134s6 (Sq a134s8 .ret)))
def a134 : AFn := { np := 2,nv := 4,results := [.v 2,.v 3],code := a134c }
def a134v : List Nat:=[0,1,4,5]
def a134b : List Nat := []

def tblL : List (List (Option AFn)) := [
  [none,none,none,none,none,none,some a6,none,none,some a9],
  [some a10,some a11,some a12,none,none,none,none,some a17,some a18,some a19],
  [some a20,some a21,some a22,some a23,some a24,some a25,some a26,some a27,some a28,some a29],
  [some a30,some a31,none,none,none,none,none,none,some a38,some a39],
  [some a40,some a41,some a42,some a43,some a44,some a45,some a46,some a47,some a48,some a49],
  [some a50,some a51,some a52,some a53,some a54,some a55,some a56,some a57,some a58,some a59],
  [some a60,none,none,none,some a64,some a65,some a66,some a67,some a68,some a69],
  [some a70,some a71,some a72,some a73,some a74,some a75,some a76,some a77,some a78,some a79],
  [some a80,some a81,some a82,some a83,some a84,some a85,some a86,some a87,some a88,some a89],
  [some a90,some a91,some a92,some a93,some a94,some a95,some a96,some a97,some a98,none],
  [none,none,some a102,some a103,some a104,some a105,some a106,some a107,some a108,some a109],
  [some a110,some a111,some a112,some a113,some a114,some a115,some a116,some a117,some a118,some a119],
  [some a120,some a121,none,some a123,some a124,some a125,some a126,some a127,some a128,some a129],
  [none,none,some a132,some a133,some a134,none,none,none,none,none],
  [none,none,none,none,none,none,none,none,none,none],
  [none,none,none,none,none,none,none,none,none,none]]
def tbl : Nat → Option AFn := nth2 tblL
def gts : List (Nat × List AV) := [(0,[.str [66,111,111,108,101,97,110],.str [73,68],.str [73,110,116],.str [83,116,114,105,110,103]])]
end Go.Cb.CodeA
