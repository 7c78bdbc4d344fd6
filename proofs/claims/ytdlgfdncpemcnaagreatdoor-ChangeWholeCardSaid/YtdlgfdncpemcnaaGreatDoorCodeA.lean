import Derived.Test.YtdlgfdncpemcnaaGreatDoorCodeAp0
set_option linter.all false
namespace Go.Cb.CodeA
open Go Go.Cb
open Go.Cb.ACode renaming seq→Sq,reg→Rg,test→Ts,blk→Bk,loop→Lp
def a128c:ACode :=
  (Sq a128s1 (Sq a128s6 (Sq a128s17 (Sq (Sq a128s19 (Bk 0 a128s39)) (Sq a128s43 (Sq (Sq a128s45 (Bk 1 a128s55)) (Sq a128s59 .ret)))))))
def a128:AFn:={ np:=3,nv:=10,results:=[.v 6],code:=a128c }
def f3c:=Rg [] [vP 2 (.c (.bool false))]
def d9b:=Rg [] [nP 5 0,nP 6 1,oP 7 (.call 178) [.t 5,.t 6],bP 8 .geq (.t 7) (.c (.int .i64 0)),vP 2 (.t 8)]
def f9n:ACode :=
  (Sq f3c (Sq d9b .ret))
def g7j:AFn:={ np:=2,nv:=3,results:=[.v 2],code:=f9n }
def e4G:=Rg [2] [⟨.bx,.boxV,[.v 0],some 2,none⟩,vP 3 (.c (.bool false))]
def d99:=Rg [] [fP 5 2 (.v 1),oP 6 (.ldSt false 1) [.t 5],oP 7 (.call 60) [.t 6],fP 8 0 (.l 2),lP 9 2 false 1 (.t 8),oP 10 (.call 57) [.t 7,.t 9],vP 4 (.t 10)]
def e4o:=Rg [] [nP 11 4,bP 12 .lss (.t 11) (.c (.int .i64 0)),mP 13 (.t 12),gP 14 (.fad 2) [.v 1] 13 false,gP 15 (.ldSt false 1) [.t 14] 13 false,gP 16 .mv [.v 4] 13 false,gP 17 (.iad 11) [.t 15,.t 16] 13 false,gP 18 (.fad 2) [.t 17] 13 false,gP 19 (.ldRo true 3) [.t 18] 13 false,gP 20 (.fad 2) [.l 2] 13 false,⟨.t 21,.ldLc 2 true 3,[.t 20],some 2,some (.t 13,false)⟩,gP 22 (.call 131) [.t 19,.t 21] 13 false,gP 23 (.un .not) [.t 22] 13 false,oP 24 .pick [.t 13,.c (.bool true),.t 23],vP 3 (.t 24)]
def f7k:ACode :=
  (Sq e4G (Sq d99 (Sq e4o .ret)))
def g7O:AFn:={ np:=2,nv:=5,results:=[.v 3],code:=f7k }
def d7M:=Rg [2,3] [⟨.bx,.boxV,[.v 0],some 2,none⟩,⟨.bx,.boxV,[.v 1],some 3,none⟩,vP 4 (.c (.bool false))]
def f1K:=Rg [] [fP 5 0 (.l 2),lP 6 2 false 1 (.t 5),fP 7 0 (.l 3),lP 8 3 false 1 (.t 7),bP 9 .eql (.t 6) (.t 8),mP 10 (.t 9),gP 11 (.fad 2) [.l 2] 10 true,⟨.t 12,.ldLc 2 false 1,[.t 11],some 2,some (.t 10,true)⟩,gP 13 (.fad 2) [.l 3] 10 true,⟨.t 14,.ldLc 3 false 1,[.t 13],some 3,some (.t 10,true)⟩,gP 15 (.binB .eql) [.t 12,.t 14] 10 true,oP 16 .pick [.t 10,.t 15,.c (.bool false)],mP 17 (.t 16),gP 18 (.fad 1) [.l 2] 17 true,⟨.t 19,.ldLc 2 false 1,[.t 18],some 2,some (.t 17,true)⟩,gP 20 (.fad 1) [.l 3] 17 true,⟨.t 21,.ldLc 3 false 1,[.t 20],some 3,some (.t 17,true)⟩,gP 22 (.call 189) [.t 19,.t 21,.c (.func 131 [] [])] 17 true,oP 23 .pick [.t 17,.t 22,.c (.bool false)],vP 4 (.t 23)]
def f5T:ACode :=
  (Sq d7M (Sq f1K .ret))
def g85:AFn:={ np:=2,nv:=5,results:=[.v 4],code:=f5T }
def d5h:=Rg [1] [⟨.bx,.boxV,[.v 0],some 1,none⟩,vP 2 (.c (.bool false))]
def e0i:=Rg [] [fP 3 0 (.l 1),lP 4 1 false 1 (.t 3),oP 5 (.bin .eql) [.t 4,.c (.str [105,100])],mP 6 (.t 5),gP 7 (.fad 5) [.l 1] 6 true,⟨.t 8,.ldLc 1 false 1,[.t 7],some 1,some (.t 6,true)⟩,gP 9 (.un .not) [.t 8] 6 true,oP 10 .pick [.t 6,.t 9,.c (.bool false)],mP 11 (.t 10),gP 12 (.fad 2) [.l 1] 11 true,⟨.t 13,.ldLc 1 true 3,[.t 12],some 1,some (.t 11,true)⟩,⟨.t 14,(.build [.str [],.list true [],.bool false] [(0,1),(2,1)]),[.c (.str [73,68]),.c (.bool true)],none,some (.t 11,true)⟩,gP 15 (.call 131) [.t 13,.t 14] 11 true,oP 16 .pick [.t 11,.t 15,.c (.bool false)],vP 2 (.t 16)]
def f7w:ACode :=
  (Sq d5h (Sq e0i .ret))
def g4r:AFn:={ np:=1,nv:=3,results:=[.v 2],code:=f7w }
def d52:=Rg [3] [⟨.bx,.boxV,[.v 0],some 3,none⟩,vP 4 (.c (.bool false))]
def e4p:=Rg [] [fP 6 2 (.v 1),oP 7 (.ldSt false 1) [.t 6],oP 8 (.call 60) [.t 7],fP 9 0 (.l 3),lP 10 3 false 1 (.t 9),oP 11 (.call 57) [.t 8,.t 10],vP 5 (.t 11)]
def e1A:=Rg [] [nP 12 5,bP 13 .lss (.t 12) (.c (.int .i64 0)),mP 14 (.t 13),gP 15 (.ldSt false 1) [.v 2] 14 false,gP 16 (.fad 2) [.v 1] 14 false,gP 17 (.ldSt false 1) [.t 16] 14 false,gP 18 .mv [.v 5] 14 false,gP 19 (.iad 11) [.t 17,.t 18] 14 false,gP 20 (.fad 2) [.t 19] 14 false,gP 21 (.ldRo true 3) [.t 20] 14 false,gP 22 (.fad 2) [.l 3] 14 false,⟨.t 23,.ldLc 3 true 3,[.t 22],some 3,some (.t 14,false)⟩,gP 24 (.call 134) [.t 15,.t 21,.t 23] 14 false,gP 25 (.un .not) [.t 24] 14 false,oP 26 .pick [.t 14,.c (.bool true),.t 25],vP 4 (.t 26)]
def g0z:ACode :=
  (Sq d52 (Sq e4p (Sq e1A .ret)))
def g76:AFn:={ np:=3,nv:=6,results:=[.v 4],code:=g0z }
def d5b:=Rg [3,4] [⟨.bx,.boxV,[.v 1],some 3,none⟩,⟨.bx,.boxV,[.v 2],some 4,none⟩,vP 5 (.c (.bool false))]
def d9I:=Rg [] [vP 5 (.c (.bool false))]
def e97:=Ts [] [fP 7 1 (.l 3),lP 8 3 false 1 (.t 7),oP 9 .lenL [.t 8],fP 10 1 (.l 4),lP 11 4 false 1 (.t 10),oP 12 .lenL [.t 11],bP 13 .neq (.t 9) (.t 12)] (.t 13) (Sq d9I .ret) .skip
def e8F:=Rg [] [nP 18 0,fP 19 1 (.l 3),lP 20 3 false 1 (.t 19),oP 21 (.iad 3) [.t 20,.c (.int .i64 0)],oP 22 (.ldRo true 3) [.t 21],fP 23 1 (.l 4),lP 24 4 false 1 (.t 23),oP 25 (.iad 3) [.t 24,.c (.int .i64 0)],oP 26 (.ldRo true 3) [.t 25],oP 27 (.call 134) [.t 18,.t 22,.t 26],vP 5 (.t 27)]
def d3V:=Ts [] [fP 14 1 (.l 3),lP 15 3 false 1 (.t 14),oP 16 .lenL [.t 15],bP 17 .gtr (.t 16) (.c (.int .i64 0))] (.t 17) (Sq e8F .ret) .skip
def c6i:=Rg [] [fP 28 0 (.l 3),lP 29 3 false 1 (.t 28),fP 30 0 (.l 4),lP 31 4 false 1 (.t 30),bP 32 .eql (.t 29) (.t 31),mP 33 (.t 32),gP 34 .mv [.v 0] 33 false,gP 35 (.fad 0) [.l 3] 33 false,⟨.t 36,.ldLc 3 false 1,[.t 35],some 3,some (.t 33,false)⟩,gP 37 (.call 111) [.t 34,.t 36] 33 false,gP 38 .mv [.t 37] 33 false,gP 39 (.fad 0) [.l 4] 38 true,⟨.t 40,.ldLc 4 false 1,[.t 39],some 4,some (.t 38,true)⟩,gP 41 (.bin .eql) [.t 40,.c (.str [73,68])] 38 true,gP 42 .pick [.t 38,.t 41,.c (.bool false)] 33 false,oP 43 .pick [.t 33,.c (.bool true),.t 42],vP 5 (.t 43)]
def f49:ACode :=
  (Sq d5b (Sq e97 (Sq d3V (Sq c6i .ret))))
def g8d:AFn:={ np:=3,nv:=6,results:=[.v 5],code:=f49 }
def e7c:=Rg [] [vP 2 (.c (.bool false))]
def d8z:=Rg [] [nP 5 1,oP 6 (.call 32) [.t 5],mP 7 (.t 6),gP 8 .mv [.v 0] 7 false,gP 9 .mv [.v 1] 7 false,gP 10 (.call 36) [.t 8,.t 9] 7 false,gP 11 (.fld 0 1 false) [.t 10] 7 false,gP 12 (.bin .eql) [.t 11,.c (.int .u8 4)] 7 false,oP 13 .pick [.t 7,.c (.bool true),.t 12],vP 2 (.t 13)]
def f9B:ACode :=
  (Sq e7c (Sq d8z .ret))
def g5K:AFn:={ np:=2,nv:=3,results:=[.v 2],code:=f9B }
def e7i:=Rg [4,5] [⟨.bx,.boxV,[.v 1],some 4,none⟩,⟨.bx,.boxV,[.v 2],some 5,none⟩,vP 6 (.c (.bool false))]
def e2p:=Rg [] [vP 6 (.c (.bool true))]
def d9V:=Ts [] [fP 14 0 (.l 5),lP 15 5 false 1 (.t 14),bP 16 .eql (.t 15) (.c (.int .u8 7)),mP 17 (.t 16),gP 18 .mv [.v 3] 17 true,oP 19 .pick [.t 17,.t 18,.c (.bool false)]] (.t 19) (Sq e2p .ret) .skip
def d62:=Rg [] [fP 23 2 (.l 4),lP 24 4 false 1 (.t 23),oP 25 (.un .not) [.t 24],vP 6 (.t 25)]
def c50:=Ts [] [fP 20 0 (.l 5),lP 21 5 false 1 (.t 20),bP 22 .eql (.t 21) (.c (.int .u8 0))] (.t 22) (Sq d62 .ret) .skip
def c5u:=Rg [] [nP 33 0,fP 34 1 (.l 4),lP 35 4 false 1 (.t 34),oP 36 (.iad 3) [.t 35,.c (.int .i64 0)],oP 37 (.ldRo true 3) [.t 36],lP 38 5 true 5 (.l 5),nP 39 3,oP 40 (.call 136) [.t 33,.t 37,.t 38,.t 39],vP 6 (.t 40)]
def d1o:=Ts [] [fP 30 0 (.l 5),lP 31 5 false 1 (.t 30),bP 32 .neq (.t 31) (.c (.int .u8 5))] (.t 32) (Sq c5u .ret) .skip
def c9h:=Rg [] [vP 7 (.c (.int .i64 0))]
def d14:=Ts [] [nP 41 7,fP 42 4 (.l 5),lP 43 5 false 1 (.t 42),oP 44 .lenL [.t 43],bP 45 .lss (.t 41) (.t 44)] (.t 45) .skip (.exit 0)
def c8h:=Rg [] [vP 6 (.c (.bool false))]
def c08:=Ts [] [nP 48 0,fP 49 1 (.l 4),lP 50 4 false 1 (.t 49),oP 51 (.iad 3) [.t 50,.c (.int .i64 0)],oP 52 (.ldRo true 3) [.t 51],fP 53 4 (.l 5),lP 54 5 false 1 (.t 53),nP 55 7,oP 56 (.iad 5) [.t 54,.t 55],oP 57 (.ldAn true 5) [.t 56],nP 58 3,oP 59 (.call 136) [.t 48,.t 52,.t 57,.t 58],oP 60 (.un .not) [.t 59]] (.t 60) (Sq c8h .ret) .skip
def d1L:=Rg [] [nP 46 7,bP 47 .add (.t 46) (.c (.int .i64 1)),vP 7 (.t 47)]
def c0N:=Rg [] [vP 6 (.c (.bool true))]
def c88:=Ts [] [fP 26 1 (.l 4),lP 27 4 false 1 (.t 26),oP 28 .lenL [.t 27],bP 29 .gtr (.t 28) (.c (.int .i64 0))] (.t 29) (Sq d1o (Sq (Sq c9h (Bk 0 (Lp (Sq d14 (Sq (Bk 1 c08) d1L))))) (Sq c0N .ret))) .skip
def c3T:=Rg [] [fP 61 0 (.l 4),⟨.v 12,.ldLc 4 false 1,[.t 61],some 4,none⟩]
def c0R:=Rg [] [fP 65 0 (.l 5),lP 66 5 false 1 (.t 65),bP 67 .eql (.t 66) (.c (.int .u8 1)),mP 68 (.t 67),gP 69 (.fad 1) [.l 5] 68 true,⟨.t 70,.ldLc 5 false 1,[.t 69],some 5,some (.t 68,true)⟩,gP 71 (.bin .geq) [.t 70,.c (.int .i64 (-2147483648))] 68 true,oP 72 .pick [.t 68,.t 71,.c (.bool false)],mP 73 (.t 72),gP 74 (.fad 1) [.l 5] 73 true,⟨.t 75,.ldLc 5 false 1,[.t 74],some 5,some (.t 73,true)⟩,gP 76 (.bin .leq) [.t 75,.c (.int .i64 2147483647)] 73 true,oP 77 .pick [.t 73,.t 76,.c (.bool false)],vP 6 (.t 77)]
def d0m:=Rg [] [fP 80 0 (.l 5),lP 81 5 false 1 (.t 80),bP 82 .eql (.t 81) (.c (.int .u8 2)),vP 6 (.t 82)]
def c5X:=Rg [] [fP 85 0 (.l 5),lP 86 5 false 1 (.t 85),bP 87 .eql (.t 86) (.c (.int .u8 3)),vP 6 (.t 87)]
def d1y:=Rg [] [fP 90 0 (.l 5),lP 91 5 false 1 (.t 90),bP 92 .eql (.t 91) (.c (.int .u8 2)),mP 93 (.t 92),gP 94 (.fad 0) [.l 5] 93 false,⟨.t 95,.ldLc 5 false 1,[.t 94],some 5,some (.t 93,false)⟩,gP 96 (.bin .eql) [.t 95,.c (.int .u8 1)] 93 false,oP 97 .pick [.t 93,.c (.bool true),.t 96],vP 6 (.t 97)]
def d2t:=Ts [] [oP 89 (.bin .eql) [.v 12,.c (.str [73,68])],mP 88 (.t 89)] (.t 88) (Sq d1y .ret) .skip
def c6e:=Ts [] [oP 84 (.bin .eql) [.v 12,.c (.str [66,111,111,108,101,97,110])],mP 83 (.t 84)] (.t 83) (Sq c5X .ret) d2t
def c1m:=Ts [] [oP 79 (.bin .eql) [.v 12,.c (.str [83,116,114,105,110,103])],mP 78 (.t 79)] (.t 78) (Sq d0m .ret) c6e
def c27:=Ts [] [oP 64 (.bin .eql) [.v 12,.c (.str [73,110,116])],mP 63 (.t 64)] (.t 63) (Sq c0R .ret) c1m
def c2w:=Rg [8] [nP 98 0,fP 99 0 (.l 4),lP 100 4 false 1 (.t 99),oP 101 (.call 36) [.t 98,.t 100],⟨.bx,.alloc [.int .u8 0,.str [],.list true [],.list true []],[],some 8,none⟩,xP (.stLc 8 4) [.l 8,.ts 101] 8]
def c4b:=Rg [] [fP 105 0 (.l 5),lP 106 5 false 1 (.t 105),bP 107 .eql (.t 106) (.c (.int .u8 4)),mP 108 (.t 107),gP 109 (.fad 3) [.l 8] 108 true,⟨.t 110,.ldLc 8 false 1,[.t 109],some 8,some (.t 108,true)⟩,gP 111 (.fad 2) [.l 5] 108 true,⟨.t 112,.ldLc 5 false 1,[.t 111],some 5,some (.t 108,true)⟩,gP 113 (.call 33) [.t 110,.t 112] 108 true,oP 114 .pick [.t 108,.t 113,.c (.bool false)],vP 6 (.t 114)]
def d3o:=Ts [] [fP 102 0 (.l 8),lP 103 8 false 1 (.t 102),bP 104 .eql (.t 103) (.c (.int .u8 4))] (.t 104) (Sq c4b .ret) .skip
def c1n:=Rg [] [vP 6 (.c (.bool false))]
def d35:=Ts [] [fP 115 0 (.l 8),lP 116 8 false 1 (.t 115),bP 117 .neq (.t 116) (.c (.int .u8 5)),mP 118 (.t 117),gP 119 (.fad 0) [.l 5] 118 false,⟨.t 120,.ldLc 5 false 1,[.t 119],some 5,some (.t 118,false)⟩,gP 121 (.bin .neq) [.t 120,.c (.int .u8 6)] 118 false,oP 122 .pick [.t 118,.c (.bool true),.t 121]] (.t 122) (Sq c1n .ret) .skip
def d3N:=Rg [] [vP 9 (.c (.int .i64 0))]
def c0X:=Ts [] [nP 123 9,fP 124 3 (.l 5),lP 125 5 false 1 (.t 124),oP 126 .lenL [.t 125],bP 127 .lss (.t 123) (.t 126)] (.t 127) .skip (.exit 3)
def c2h:=Rg [] [fP 130 2 (.l 8),lP 131 8 false 1 (.t 130),fP 132 3 (.l 5),lP 133 5 false 1 (.t 132),nP 134 9,oP 135 (.iad 1) [.t 133,.t 134],oP 136 (.ldAn false 1) [.t 135],oP 137 (.call 71) [.t 131,.t 136],vP 10 (.t 137)]
def d2I:=Rg [] [vP 6 (.c (.bool false))]
def c9j:=Ts [] [nP 138 10,bP 139 .lss (.t 138) (.c (.int .i64 0)),mP 140 (.t 139),gP 141 (.fad 3) [.l 5] 140 false,⟨.t 142,.ldLc 5 false 1,[.t 141],some 5,some (.t 140,false)⟩,gP 143 .mv [.v 9] 140 false,gP 144 (.slL 1 false true) [.t 142,.t 143] 140 false,gP 145 (.fad 3) [.l 5] 140 false,⟨.t 146,.ldLc 5 false 1,[.t 145],some 5,some (.t 140,false)⟩,gP 147 .mv [.v 9] 140 false,gP 148 (.iad 1) [.t 146,.t 147] 140 false,gP 149 (.ldAn false 1) [.t 148] 140 false,gP 150 (.call 33) [.t 144,.t 149] 140 false,oP 151 .pick [.t 140,.c (.bool true),.t 150],mP 152 (.t 151),gP 153 .mv [.v 0] 152 false,gP 154 (.fad 2) [.l 8] 152 false,⟨.t 155,.ldLc 8 false 1,[.t 154],some 8,some (.t 152,false)⟩,gP 156 .mv [.v 10] 152 false,gP 157 (.iad 11) [.t 155,.t 156] 152 false,gP 158 (.fad 2) [.t 157] 152 false,gP 159 (.ldRo true 3) [.t 158] 152 false,gP 160 (.fad 4) [.l 5] 152 false,⟨.t 161,.ldLc 5 false 1,[.t 160],some 5,some (.t 152,false)⟩,gP 162 .mv [.v 9] 152 false,gP 163 (.iad 5) [.t 161,.t 162] 152 false,gP 164 (.ldAn true 5) [.t 163] 152 false,gP 165 .mv [.v 3] 152 false,gP 166 (.call 136) [.t 153,.t 159,.t 164,.t 165] 152 false,gP 167 (.un .not) [.t 166] 152 false,oP 168 .pick [.t 152,.c (.bool true),.t 167]] (.t 168) (Sq d2I .ret) .skip
def c02:=Rg [] [nP 128 9,bP 129 .add (.t 128) (.c (.int .i64 1)),vP 9 (.t 129)]
def d1f:=Rg [] [vP 11 (.c (.int .i64 0))]
def b9X:=Ts [] [nP 169 11,fP 170 2 (.l 8),lP 171 8 false 1 (.t 170),oP 172 .lenL [.t 171],bP 173 .lss (.t 169) (.t 172)] (.t 173) .skip (.exit 5)
def b9U:=Rg [] [vP 6 (.c (.bool false))]
def b7O:=Ts [] [fP 176 2 (.l 8),lP 177 8 false 1 (.t 176),nP 178 11,oP 179 (.iad 11) [.t 177,.t 178],fP 180 2 (.t 179),fP 181 2 (.t 180),oP 182 (.ldRo false 1) [.t 181],mP 183 (.t 182),gP 184 (.fad 2) [.l 8] 183 true,⟨.t 185,.ldLc 8 false 1,[.t 184],some 8,some (.t 183,true)⟩,gP 186 .mv [.v 11] 183 true,gP 187 (.iad 11) [.t 185,.t 186] 183 true,gP 188 (.fad 5) [.t 187] 183 true,gP 189 (.ldRo false 1) [.t 188] 183 true,gP 190 (.un .not) [.t 189] 183 true,oP 191 .pick [.t 183,.t 190,.c (.bool false)],mP 192 (.t 191),gP 193 (.fad 3) [.l 5] 192 true,⟨.t 194,.ldLc 5 false 1,[.t 193],some 5,some (.t 192,true)⟩,gP 195 (.fad 2) [.l 8] 192 true,⟨.t 196,.ldLc 8 false 1,[.t 195],some 8,some (.t 192,true)⟩,gP 197 .mv [.v 11] 192 true,gP 198 (.iad 11) [.t 196,.t 197] 192 true,gP 199 (.fad 0) [.t 198] 192 true,gP 200 (.ldRo false 1) [.t 199] 192 true,gP 201 (.call 33) [.t 194,.t 200] 192 true,gP 202 (.un .not) [.t 201] 192 true,oP 203 .pick [.t 192,.t 202,.c (.bool false)]] (.t 203) (Sq b9U .ret) .skip
def b87:=Rg [] [nP 174 11,bP 175 .add (.t 174) (.c (.int .i64 1)),vP 11 (.t 175)]
def b8U:=Rg [] [vP 6 (.c (.bool true))]
def f9i:ACode :=
  (Sq e7i (Sq d9V (Sq c50 (Sq c88 (Sq (Sq c3T (Bk 2 c27)) (Sq c2w (Sq d3o (Sq d35 (Sq (Sq d3N (Bk 3 (Lp (Sq c0X (Sq (Bk 4 (Sq c2h c9j)) c02))))) (Sq (Sq d1f (Bk 5 (Lp (Sq b9X (Sq (Bk 6 b7O) b87))))) (Sq b8U .ret)))))))))))
def g5A:AFn:={ np:=4,nv:=13,results:=[.v 6],code:=f9i }
def e8Q:=Rg [] [op (.v 1) .mv [.c (.str [])],op (.v 2) .mv [.c (.str [])]]
def e2Y:=Rg [] [oP 6 (.bslice 1 [[.str []],[.str []],[.str []]] [0,1,2]) [.c (.str [99,114,101,97,116,101]),.c (.str [117,112,100,97,116,101]),.c (.str [100,101,108,101,116,101])],vP 3 (.ts 6)]
def d4D:=Rg [] [vP 4 (.c (.int .i64 0))]
def e3Z:=Ts [] [nP 7 4,bP 8 .lss (.t 7) (.c (.int .i64 3))] (.t 8) .skip (.exit 0)
def d0s:=Rg [] [nP 17 3,nP 18 4,oP 19 (.iad 1) [.t 17,.t 18],oP 20 (.ldAn false 1) [.t 19],nP 21 0,oP 22 (.slS true false) [.t 21,.c (.int .i64 6)],vP 1 (.t 20),vP 2 (.t 22)]
def d11:=Ts [] [nP 11 0,nP 12 3,nP 13 4,oP 14 (.iad 1) [.t 12,.t 13],oP 15 (.ldAn false 1) [.t 14],oP 16 (.call 34) [.t 11,.t 15]] (.t 16) (Sq d0s .ret) .skip
def d0H:=Rg [] [nP 9 4,bP 10 .add (.t 9) (.c (.int .i64 1)),vP 4 (.t 10)]
def d05:=Rg [] [op (.v 1) .mv [.c (.str [])],op (.v 2) .mv [.c (.str [])]]
def f7C:ACode :=
  (Sq e8Q (Sq e2Y (Sq (Sq d4D (Bk 0 (Lp (Sq e3Z (Sq (Bk 1 d11) d0H))))) (Sq d05 .ret))))
def g34:AFn:={ np:=1,nv:=5,results:=[.v 1,.v 2],code:=f7C }
def f2l:=Rg [3,4] [⟨.bx,.boxV,[.v 1],some 3,none⟩,⟨.bx,.boxV,[.v 2],some 4,none⟩,vP 5 (.c (.bool false))]
def d68:=Rg [] [fP 17 1 (.l 3),lP 18 3 false 1 (.t 17),oP 19 .lenL [.t 18],bP 20 .gtr (.t 19) (.c (.int .i64 0)),mP 21 (.t 20),gP 22 (.fad 1) [.l 4] 21 true,⟨.t 23,.ldLc 4 false 1,[.t 22],some 4,some (.t 21,true)⟩,gP 24 .lenL [.t 23] 21 true,gP 25 (.bin .gtr) [.t 24,.c (.int .i64 0)] 21 true,oP 26 .pick [.t 21,.t 25,.c (.bool false)],mP 27 (.t 26),gP 28 .mv [.v 0] 27 true,gP 29 (.fad 1) [.l 3] 27 true,⟨.t 30,.ldLc 3 false 1,[.t 29],some 3,some (.t 27,true)⟩,gP 31 (.iad 3) [.t 30,.c (.int .i64 0)] 27 true,gP 32 (.ldRo true 3) [.t 31] 27 true,gP 33 (.fad 1) [.l 4] 27 true,⟨.t 34,.ldLc 4 false 1,[.t 33],some 4,some (.t 27,true)⟩,gP 35 (.iad 3) [.t 34,.c (.int .i64 0)] 27 true,gP 36 (.ldRo true 3) [.t 35] 27 true,gP 37 (.call 138) [.t 28,.t 32,.t 36] 27 true,oP 38 .pick [.t 27,.t 37,.c (.bool false)],vP 5 (.t 38)]
def d9W:=Ts [] [fP 7 1 (.l 3),lP 8 3 false 1 (.t 7),oP 9 .lenL [.t 8],bP 10 .gtr (.t 9) (.c (.int .i64 0)),mP 11 (.t 10),gP 12 (.fad 1) [.l 4] 11 false,⟨.t 13,.ldLc 4 false 1,[.t 12],some 4,some (.t 11,false)⟩,gP 14 .lenL [.t 13] 11 false,gP 15 (.bin .gtr) [.t 14,.c (.int .i64 0)] 11 false,oP 16 .pick [.t 11,.c (.bool true),.t 15]] (.t 16) (Sq d68 .ret) .skip
def e8K:=Rg [] [fP 39 0 (.l 3),lP 40 3 false 1 (.t 39),fP 41 0 (.l 4),lP 42 4 false 1 (.t 41),bP 43 .eql (.t 40) (.t 42),mP 44 (.t 43),gP 45 (.fad 0) [.l 4] 44 false,⟨.t 46,.ldLc 4 false 1,[.t 45],some 4,some (.t 44,false)⟩,gP 47 (.bin .eql) [.t 46,.c (.str [73,68])] 44 false,gP 48 .mv [.t 47] 44 false,gP 49 .mv [.v 0] 48 true,gP 50 (.fad 0) [.l 3] 48 true,⟨.t 51,.ldLc 3 false 1,[.t 50],some 3,some (.t 48,true)⟩,gP 52 (.call 74) [.t 49,.t 51] 48 true,gP 53 .pick [.t 48,.t 52,.c (.bool false)] 44 false,oP 54 .pick [.t 44,.c (.bool true),.t 53],vP 5 (.t 54)]
def f6I:ACode :=
  (Sq f2l (Sq d9W (Sq e8K .ret)))
def g3V:AFn:={ np:=3,nv:=6,results:=[.v 5],code:=f6I }
def e32:=Rg [] [vP 2 (.c (.int .i64 0))]
def d5I:=Rg [] [nP 6 0,op (.v 4) .lenS [.t 6],vP 5 (.c (.int .i64 0))]
def e9I:=Ts [] [bP 9 .lss (.v 5) (.v 4)] (.t 9) .skip (.exit 0)
def e28:=Rg [] [nP 10 5,vP 3 (.t 10)]
def c9K:=Rg [] [nP 17 3,vP 2 (.t 17)]
def d3D:=Ts [] [nP 11 1,nP 12 0,nP 13 3,oP 14 .idxS [.t 12,.t 13],oP 15 .callV [.t 11,.t 14],oP 16 (.un .not) [.t 15]] (.t 16) (Sq c9K .ret) .skip
def c1u:=Rg [] [bP 18 .add (.v 5) (.c (.int .i64 1)),vP 5 (.t 18)]
def c54:=Rg [] [nP 19 0,oP 20 .lenS [.t 19],vP 2 (.t 20)]
def g3k:ACode :=
  (Sq e32 (Sq (Sq d5I (Bk 0 (Lp (Sq e9I (Sq (Bk 1 (Sq e28 d3D)) c1u))))) (Sq c54 .ret)))
def g9v:AFn:={ np:=2,nv:=6,results:=[.v 2],code:=g3k }
def e31:=Rg [] [vP 1 (.c (.bool false))]
def e4b:=Rg [] [nP 3 0,oP 4 (.call 142) [.c (.str [32,9,13,10,44]),.t 3],bP 5 .geq (.t 4) (.c (.int .i64 0)),vP 1 (.t 5)]
def f9S:ACode :=
  (Sq e31 (Sq e4b .ret))
def g9f:AFn:={ np:=1,nv:=2,results:=[.v 1],code:=f9S }
def f3j:=Rg [] [vP 2 (.c (.int .i64 0))]
def e03:=Rg [] [nP 5 0,nP 6 1,oP 7 (.call 191) [.t 5,.t 6],vP 2 (.t 7)]
def f6E:ACode :=
  (Sq f3j (Sq e03 .ret))
def g9k:AFn:={ np:=2,nv:=3,results:=[.v 2],code:=f6E }
def f0D:=Rg [] [vP 1 (.c (.bool false))]
def f4J:=Rg [] [nP 3 0,bP 4 .neq (.t 3) (.c (.int .u8 10)),vP 1 (.t 4)]
def g04:ACode :=
  (Sq f0D (Sq f4J .ret))
def g5t:AFn:={ np:=1,nv:=2,results:=[.v 1],code:=g04 }
def d91:=Rg [1] [⟨.bx,.alloc [.int .u8 0,.str [],.int .i64 0,.int .i64 0],[],some 1,none⟩,vP 2 (.c (.int .i64 0)),vP 3 (.c (.int .i64 0)),vP 4 (.c (.int .i64 0))]
def e4n:=Rg [] [nP 8 0,oP 9 .idxS [.t 8,.c (.int .i64 0)],vP 5 (.t 9)]
def e0E:=Rg [] [nP 13 0,oP 14 (.call 140) [.t 13,.c (.func 193 [] [])],vP 6 (.t 14)]
def e1D:=Rg [] [oP 17 (.build [.int .u8 0,.str [],.int .i64 0,.int .i64 0] []) [],xP (.stLc 1 4) [.l 1,.t 17] 1,vP 2 (.c (.int .i64 0)),vP 3 (.c (.int .i64 0)),vP 4 (.c (.int .i64 2))]
def c4e:=Ts [] [nP 15 6,bP 16 .gtr (.t 15) (.c (.int .i64 32))] (.t 16) (Sq e1D .ret) .skip
def c9C:=Rg [] [nP 18 0,nP 19 6,oP 20 (.slS false true) [.t 18,.t 19],oP 21 (.build [.int .u8 0,.str [],.int .i64 0,.int .i64 0] [(0,1),(1,1)]) [.c (.int .u8 1),.t 20],nP 22 6,xP (.stLc 1 4) [.l 1,.t 21] 1,vP 2 (.t 22),vP 3 (.c (.int .i64 0)),vP 4 (.c (.int .i64 0))]
def d08:=Rg [] [nP 26 5,oP 27 (.call 194) [.t 26],vP 7 (.t 27)]
def c5m:=Ts [] [nP 24 5,bP 25 .eql (.t 24) (.c (.int .u8 45)),vP 7 (.t 25)] (.v 7) .skip d08
def c4r:=Rg [] [nP 28 0,oP 29 (.call 195) [.t 28],oP 30 (.ext 0) [.t 29],oP 31 (.ext 1) [.t 29],oP 32 (.ext 2) [.t 29],oP 33 (.ext 3) [.t 29],xP (.stLc 1 4) [.l 1,.t 30] 1,vP 2 (.t 31),vP 3 (.t 32),vP 4 (.t 33)]
def d0U:=Rg [] [nP 37 0,oP 38 (.call 196) [.t 37],oP 39 (.ext 0) [.t 38],oP 40 (.ext 1) [.t 38],oP 41 (.ext 2) [.t 38],oP 42 (.ext 3) [.t 38],xP (.stLc 1 4) [.l 1,.t 39] 1,vP 2 (.t 40),vP 3 (.t 41),vP 4 (.t 42)]
def c3P:=Rg [] [oP 46 (.build [.int .u8 0,.str [],.int .i64 0,.int .i64 0] [(0,1),(1,1)]) [.c (.int .u8 4),.c (.str [46,46,46])],xP (.stLc 1 4) [.l 1,.t 46] 1,vP 2 (.c (.int .i64 3)),vP 3 (.c (.int .i64 0)),vP 4 (.c (.int .i64 0))]
def c5h:=Rg [] [nP 51 0,oP 52 (.slS false true) [.t 51,.c (.int .i64 1)],oP 53 (.build [.int .u8 0,.str [],.int .i64 0,.int .i64 0] [(0,1),(1,1)]) [.c (.int .u8 4),.t 52],xP (.stLc 1 4) [.l 1,.t 53] 1,vP 2 (.c (.int .i64 1)),vP 3 (.c (.int .i64 0)),vP 4 (.c (.int .i64 0))]
def c8i:=Ts [] [nP 48 5,oP 49 (.call 142) [.c (.str [33,36,40,41,58,61,64,91,93,123,124,125,38]),.t 48],bP 50 .geq (.t 49) (.c (.int .i64 0)),mP 47 (.t 50)] (.t 47) (Sq c5h .ret) .skip
def c48:=Ts [] [nP 44 0,oP 45 (.call 28) [.t 44,.c (.str [46,46,46])],mP 43 (.t 45)] (.t 43) (Sq c3P .ret) c8i
def c1d:=Ts [] [nP 35 5,bP 36 .eql (.t 35) (.c (.int .u8 34)),mP 34 (.t 36)] (.t 34) (Sq d0U .ret) c48
def c5z:=Ts [] [] (.v 7) (Sq c4r .ret) c1d
def c35:=Ts [] [nP 11 5,oP 12 (.call 192) [.t 11],mP 10 (.t 12)] (.t 10) (Sq e0E (Sq c4e (Sq c9C .ret))) (Sq c5m c5z)
def d3t:=Rg [] [oP 54 (.build [.int .u8 0,.str [],.int .i64 0,.int .i64 0] []) [],xP (.stLc 1 4) [.l 1,.t 54] 1,vP 2 (.c (.int .i64 0)),vP 3 (.c (.int .i64 0)),vP 4 (.c (.int .i64 4))]
def g2S:ACode :=
  (Sq d91 (Sq (Sq e4n (Bk 0 c35)) (Sq d3t .ret)))
def g9m:AFn:={ np:=1,nv:=8,results:=[.bx 1 true 4,.v 2,.v 3,.v 4],code:=g2S }
def d9Z:=Rg [] [nP 2 0,oP 3 .nilchk [.t 2],fP 4 2 (.t 3),oP 5 (.ldSt false 1) [.t 4],bP 6 .add (.t 5) (.c (.int .i64 1)),oP 7 .nilchk [.t 2],fP 8 2 (.t 7),op .none (.stSt 1) [.t 8,.t 6]]
def e6B:=Rg [] [nP 14 0,oP 15 (.call 150) [.t 14,.c (.int .i64 5)]]
def e34:=Ts [] [nP 9 0,oP 10 .nilchk [.t 9],fP 11 2 (.t 10),oP 12 (.ldSt false 1) [.t 11],bP 13 .gtr (.t 12) (.c (.int .i64 24))] (.t 13) e6B .skip
def f7I:ACode :=
  (Sq d9Z e34)
def g4T:AFn:={ np:=1,nv:=1,results:=[],code:=f7I }
def f2p:=Rg [] [nP 2 0,oP 3 .nilchk [.t 2],fP 4 2 (.t 3),oP 5 (.ldSt false 1) [.t 4],bP 6 .sub (.t 5) (.c (.int .i64 1)),oP 7 .nilchk [.t 2],fP 8 2 (.t 7),op .none (.stSt 1) [.t 8,.t 6]]
def f6Q:ACode :=
  f2p
def g9o:AFn:={ np:=1,nv:=1,results:=[],code:=f6Q }
def e21:=Rg [] [op (.v 4) .mv [.c (.list true [])]]
def e1W:=Rg [] [nP 11 0,nP 12 1,oP 13 (.call 152) [.t 11,.t 12]]
def d6q:=Rg [] [op (.v 5) .mv [.c (.list true [])]]
def f01:=Rg [] [vP 6 (.c (.bool true))]
def d4u:=Ts [] [nP 14 6] (.t 14) .skip (.exit 0)
def c9U:=Rg [] [mP 19 (.vs 5),nP 20 3,oP 21 .callV [.t 20],oP 22 (.bslice 7 [[.int .u8 0,.str [],.str [],.str [],.list true [],.list true [],.list true []]] [0]) [.t 21],oP 23 (.app 7 128) [.ts 19,.t 22],vP 5 (.ts 23)]
def c3E:=Rg [] [nP 15 0,nP 16 2,oP 17 (.call 87) [.t 15,.t 16],oP 18 (.un .not) [.t 17],vP 6 (.t 18)]
def c2M:=Rg [] [nP 24 5,vP 4 (.ts 24)]
def f76:ACode :=
  (Sq e21 (Sq e1W (Sq d6q (Sq (Sq f01 (Bk 0 (Lp (Sq d4u (Sq (Bk 1 c9U) c3E))))) (Sq c2M .ret)))))
def g8k:AFn:={ np:=4,nv:=7,results:=[.v 4],code:=f76 }
def d5v:=Rg [1] [⟨.bx,.alloc [.int .u8 0,.str [],.str [],.str [],.list true [],.list true [],.list true []],[],some 1,none⟩]
def e6U:=Rg [2] [oP 7 (.build [.int .u8 0,.str [],.str [],.str [],.list true [],.list true [],.list true []] [(0,1)]) [.c (.int .u8 3)],⟨.bx,.alloc [.int .u8 0,.str [],.str [],.str [],.list true [],.list true [],.list true []],[],some 2,none⟩,xP (.stLc 2 7) [.l 2,.ts 7] 2]
def e3L:=Rg [] [nP 10 0,oP 11 (.call 151) [.t 10],fP 12 3 (.l 2),xP (.stLc 2 1) [.t 12,.t 11] 2]
def c8O:=Rg [] [nP 15 0,oP 16 (.call 151) [.t 15],fP 17 0 (.l 2),xP (.stLc 2 1) [.t 17,.c (.int .u8 2)] 2,fP 18 2 (.l 2),xP (.stLc 2 1) [.t 18,.t 16] 2]
def c3L:=Ts [] [nP 13 0,oP 14 (.call 84) [.t 13,.c (.int .u8 1)]] (.t 14) c8O .skip
def c8P:=Ts [] [nP 8 0,oP 9 (.call 87) [.t 8,.c (.str [111,110])]] (.t 9) e3L c3L
def d19:=Rg [] [nP 19 0,oP 20 (.call 197) [.t 19],fP 21 5 (.l 2),xP (.stLc 2 1) [.t 21,.ts 20] 2]
def c6W:=Rg [] [nP 25 0,oP 26 (.call 86) [.t 25],fP 27 6 (.l 2),xP (.stLc 2 1) [.t 27,.ts 26] 2]
def d3T:=Ts [] [fP 22 0 (.l 2),lP 23 2 false 1 (.t 22),bP 24 .eql (.t 23) (.c (.int .u8 3))] (.t 24) c6W .skip
def c3k:=Rg [] [lP 28 2 true 7 (.l 2),xP (.stLc 1 7) [.l 1,.ts 28] 1]
def c1o:=Ts [] [nP 5 0,oP 6 (.call 87) [.t 5,.c (.str [46,46,46])]] (.t 6) (Sq e6U (Sq c8P (Sq d19 (Sq d3T (Sq c3k .ret))))) .skip
def d1m:=Rg [3] [nP 29 0,oP 30 (.call 151) [.t 29],oP 31 (.build [.int .u8 0,.str [],.str [],.str [],.list true [],.list true [],.list true []] [(0,1),(2,1)]) [.c (.int .u8 1),.t 30],⟨.bx,.alloc [.int .u8 0,.str [],.str [],.str [],.list true [],.list true [],.list true []],[],some 3,none⟩,xP (.stLc 3 7) [.l 3,.ts 31] 3]
def d1N:=Rg [] [fP 34 2 (.l 3),lP 35 3 false 1 (.t 34),nP 36 0,oP 37 (.call 151) [.t 36],fP 38 1 (.l 3),xP (.stLc 3 1) [.t 38,.t 35] 3,fP 39 2 (.l 3),xP (.stLc 3 1) [.t 39,.t 37] 3]
def c4u:=Ts [] [nP 32 0,oP 33 (.call 87) [.t 32,.c (.str [58])]] (.t 33) d1N .skip
def c2f:=Rg [] [nP 40 0,oP 41 (.call 198) [.t 40],fP 42 4 (.l 3),xP (.stLc 3 1) [.t 42,.ts 41] 3]
def c1M:=Rg [] [nP 43 0,oP 44 (.call 197) [.t 43],fP 45 5 (.l 3),xP (.stLc 3 1) [.t 45,.ts 44] 3]
def d01:=Rg [] [nP 48 0,oP 49 (.call 86) [.t 48],fP 50 6 (.l 3),xP (.stLc 3 1) [.t 50,.ts 49] 3]
def c9N:=Ts [] [nP 46 0,oP 47 (.call 85) [.t 46,.c (.str [123])]] (.t 47) d01 .skip
def c69:=Rg [] [lP 51 3 true 7 (.l 3),xP (.stLc 1 7) [.l 1,.ts 51] 1]
def f9N:ACode :=
  (Sq d5v (Sq c1o (Sq d1m (Sq c4u (Sq c2f (Sq c1M (Sq c9N (Sq c69 .ret))))))))
def g84:AFn:={ np:=1,nv:=4,results:=[.bx 1 true 7],code:=f9N }
def e2M:=Rg [] [vP 2 (.c (.bool false))]
def e8p:=Rg [] [nP 5 0,oP 6 .nilchk [.t 5],fP 7 0 (.t 6),oP 8 (.ldSt false 1) [.t 7],nP 9 0,oP 10 .nilchk [.t 9],fP 11 1 (.t 10),oP 12 (.ldSt false 1) [.t 11],oP 13 (.iad 4) [.t 8,.t 12],fP 14 0 (.t 13),oP 15 (.ldRo false 1) [.t 14],bP 16 .eql (.t 15) (.c (.int .u8 1)),mP 17 (.t 16),gP 18 .mv [.v 0] 17 true,gP 19 .nilchk [.t 18] 17 true,gP 20 (.fad 0) [.t 19] 17 true,gP 21 (.ldSt false 1) [.t 20] 17 true,gP 22 .mv [.v 0] 17 true,gP 23 .nilchk [.t 22] 17 true,gP 24 (.fad 1) [.t 23] 17 true,gP 25 (.ldSt false 1) [.t 24] 17 true,gP 26 (.iad 4) [.t 21,.t 25] 17 true,gP 27 (.fad 1) [.t 26] 17 true,gP 28 (.ldRo false 1) [.t 27] 17 true,gP 29 .mv [.v 1] 17 true,gP 30 (.bin .eql) [.t 28,.t 29] 17 true,oP 31 .pick [.t 17,.t 30,.c (.bool false)],vP 2 (.t 31)]
def g1V:ACode :=
  (Sq e2M (Sq e8p .ret))
def g4C:AFn:={ np:=2,nv:=3,results:=[.v 2],code:=g1V }
def f0L:=Rg [] [nP 4 1,oP 5 (.build [.int .i64 0] [(0,1)]) [.t 4],oP 6 .stuck [],op .none .stuck []]
def f9E:ACode :=
  f0L
def g7T:AFn:={ np:=2,nv:=2,results:=[],code:=f9E }
def f4S:=Rg [] [op (.v 1) .mv [.c (.str [])]]
def e7J:=Rg [] [nP 6 0,oP 7 (.call 150) [.t 6,.c (.int .i64 4)]]
def f2m:=Ts [] [nP 3 0,oP 4 (.call 84) [.t 3,.c (.int .u8 1)],oP 5 (.un .not) [.t 4]] (.t 5) e7J .skip
def e0y:=Rg [] [nP 8 0,oP 9 .nilchk [.t 8],fP 10 1 (.t 9),oP 11 (.ldSt false 1) [.t 10],bP 12 .add (.t 11) (.c (.int .i64 1)),oP 13 .nilchk [.t 8],fP 14 1 (.t 13),op .none (.stSt 1) [.t 14,.t 12]]
def e72:=Rg [] [nP 15 0,oP 16 .nilchk [.t 15],fP 17 0 (.t 16),oP 18 (.ldSt false 1) [.t 17],nP 19 0,oP 20 .nilchk [.t 19],fP 21 1 (.t 20),oP 22 (.ldSt false 1) [.t 21],bP 23 .sub (.t 22) (.c (.int .i64 1)),oP 24 (.iad 4) [.t 18,.t 23],fP 25 1 (.t 24),oP 26 (.ldRo false 1) [.t 25],vP 1 (.t 26)]
def f8v:ACode :=
  (Sq f4S (Sq f2m (Sq e0y (Sq e72 .ret))))
def g51:AFn:={ np:=1,nv:=2,results:=[.v 1],code:=f8v }
def f4y:=Rg [] [nP 8 0,oP 9 (.call 150) [.t 8,.c (.int .i64 4)]]
def d9u:=Ts [] [nP 4 0,nP 5 1,oP 6 (.call 87) [.t 4,.t 5],oP 7 (.un .not) [.t 6]] (.t 7) f4y .skip
def f6f:ACode :=
  d9u
def g6D:AFn:={ np:=2,nv:=2,results:=[],code:=f6f }
def d6x:=Rg [] [op (.v 4) .mv [.c (.list true [])]]
def e74:=Rg [] [nP 11 0,nP 12 1,oP 13 (.call 152) [.t 11,.t 12]]
def e06:=Rg [] [op (.v 5) .mv [.c (.list true [])]]
def f1o:=Rg [] [vP 6 (.c (.bool true))]
def d9N:=Ts [] [nP 14 6] (.t 14) .skip (.exit 0)
def c0G:=Rg [] [mP 19 (.vs 5),nP 20 3,oP 21 .callV [.t 20],oP 22 (.bslice 10 [[.str [],.str [],.list true [],.bool false,.bool false,.int .u8 0,.int .i64 0,.str [],.list true [],.list true []]] [0]) [.t 21],oP 23 (.app 10 152) [.ts 19,.t 22],vP 5 (.ts 23)]
def c7z:=Rg [] [nP 15 0,nP 16 2,oP 17 (.call 87) [.t 15,.t 16],oP 18 (.un .not) [.t 17],vP 6 (.t 18)]
def c6w:=Rg [] [nP 24 5,vP 4 (.ts 24)]
def f6M:ACode :=
  (Sq d6x (Sq e74 (Sq e06 (Sq (Sq f1o (Bk 0 (Lp (Sq d9N (Sq (Bk 1 c0G) c7z))))) (Sq c6w .ret)))))
def g7r:AFn:={ np:=4,nv:=7,results:=[.v 4],code:=f6M }
def e7K:=Rg [1] [⟨.bx,.alloc [.str [],.str [],.list true [],.bool false,.bool false,.int .u8 0,.int .i64 0,.str [],.list true [],.list true []],[],some 1,none⟩]
def f0W:=Rg [] [nP 4 0,oP 5 (.call 152) [.t 4,.c (.str [36])]]
def f35:=Rg [2] [nP 6 0,oP 7 (.call 151) [.t 6],oP 8 (.build [.str [],.str [],.list true [],.bool false,.bool false,.int .u8 0,.int .i64 0,.str [],.list true [],.list true []] [(0,1)]) [.t 7],⟨.bx,.alloc [.str [],.str [],.list true [],.bool false,.bool false,.int .u8 0,.int .i64 0,.str [],.list true [],.list true []],[],some 2,none⟩,xP (.stLc 2 10) [.l 2,.ts 8] 2]
def f0j:=Rg [] [nP 9 0,oP 10 (.call 152) [.t 9,.c (.str [58])]]
def e4M:=Rg [] [nP 11 0,oP 12 (.call 199) [.t 11],fP 13 1 (.l 2),xP (.stLc 2 3) [.t 13,.ts 12] 2]
def d18:=Rg [] [nP 14 0,oP 15 (.call 87) [.t 14,.c (.str [61])],fP 16 4 (.l 2),xP (.stLc 2 1) [.t 16,.t 15] 2]
def c9D:=Rg [] [nP 19 0,oP 20 (.call 200) [.t 19,.c (.bool true)],fP 21 5 (.l 2),xP (.stLc 2 5) [.t 21,.ts 20] 2]
def d22:=Ts [] [fP 17 4 (.l 2),lP 18 2 false 1 (.t 17)] (.t 18) c9D .skip
def c07:=Rg [] [lP 22 2 true 10 (.l 2),xP (.stLc 1 10) [.l 1,.ts 22] 1]
def f8Q:ACode :=
  (Sq e7K (Sq f0W (Sq f35 (Sq f0j (Sq e4M (Sq (Sq d18 d22) (Sq c07 .ret)))))))
def g5D:AFn:={ np:=1,nv:=3,results:=[.bx 1 true 10],code:=f8Q }
def d4s:=Rg [2] [⟨.bx,.alloc [.str [],.str [],.list true []],[],some 2,none⟩,vP 3 (.c (.bool false))]
def f0Q:=Rg [] [nP 8 0,oP 9 .nilchk [.t 8],fP 10 1 (.t 9),fP 11 1 (.t 10),op (.v 5) (.ldSt false 1) [.t 11],op (.v 6) .lenL [.v 5],vP 7 (.c (.int .i64 0))]
def e6T:=Ts [] [bP 15 .lss (.v 7) (.v 6)] (.t 15) .skip (.exit 0)
def d7o:=Rg [4] [oP 16 (.iad 3) [.v 5,.v 7],oP 17 (.ldAn true 3) [.t 16],⟨.bx,.alloc [.str [],.str [],.list true []],[],some 4,none⟩,xP (.stLc 4 3) [.l 4,.ts 17] 4]
def c70:=Rg [] [lP 22 4 true 3 (.l 4),xP (.stLc 2 3) [.l 2,.ts 22] 2,vP 3 (.c (.bool true))]
def c7R:=Ts [] [fP 18 0 (.l 4),lP 19 4 false 1 (.t 18),nP 20 1,bP 21 .eql (.t 19) (.t 20)] (.t 21) (Sq c70 .ret) .skip
def d3f:=Rg [] [bP 23 .add (.v 7) (.c (.int .i64 1)),vP 7 (.t 23)]
def c6I:=Rg [] [oP 24 (.build [.str [],.str [],.list true []] []) [],xP (.stLc 2 3) [.l 2,.ts 24] 2,vP 3 (.c (.bool false))]
def f72:ACode :=
  (Sq d4s (Sq (Sq f0Q (Bk 0 (Lp (Sq e6T (Sq (Bk 1 (Sq d7o c7R)) d3f))))) (Sq c6I .ret)))
def g5v:AFn:={ np:=2,nv:=8,results:=[.bx 2 true 3,.v 3],code:=f72 }
def d6S:=Rg [1] [⟨.bx,.boxV,[.v 0],some 1,none⟩,op (.v 2) .mv [.c (.str [])]]
def e4s:=Rg [] [op (.v 2) .mv [.c (.str [77,117,116,97,116,105,111,110])]]
def f2k:=Ts [] [fP 3 0 (.l 1),lP 4 1 false 1 (.t 3)] (.t 4) (Sq e4s .ret) .skip
def e7r:=Rg [] [op (.v 2) .mv [.c (.str [81,117,101,114,121])]]
def f6r:ACode :=
  (Sq d6S (Sq f2k (Sq e7r .ret)))
def g5E:AFn:={ np:=1,nv:=3,results:=[.v 2],code:=f6r }
def e2q:=Rg [] [op (.v 2) .mv [.c (.list true [])]]
def e8h:=Rg [] [op (.v 3) .mv [.c (.list true [])]]
def e5r:=Rg [] [vP 5 (.v 0),op (.v 6) .lenL [.v 5],vP 7 (.c (.int .i64 0))]
def e2U:=Ts [] [bP 11 .lss (.v 7) (.v 6)] (.t 11) .skip (.exit 0)
def d48:=Rg [4] [oP 12 (.iad 10) [.v 5,.v 7],oP 13 (.ldRo true 10) [.t 12],⟨.bx,.alloc [.str [],.str [],.list true [],.bool false,.bool false,.int .u8 0,.int .i64 0,.str [],.list true [],.list true []],[],some 4,none⟩,xP (.stLc 4 10) [.l 4,.ts 13] 4]
def d2O:=Rg [] [mP 14 (.vs 3),nP 15 1,lP 16 4 true 10 (.l 4),oP 17 .callV [.t 15,.t 16],oP 18 (.bslice 1 [[.str []]] [0]) [.t 17],oP 19 (.app 1 16) [.ts 14,.t 18],vP 3 (.ts 19)]
def c9k:=Rg [] [bP 20 .add (.v 7) (.c (.int .i64 1)),vP 7 (.t 20)]
def c03:=Rg [] [nP 21 3,vP 2 (.ts 21)]
def g1l:ACode :=
  (Sq e2q (Sq e8h (Sq (Sq e5r (Bk 0 (Lp (Sq e2U (Sq (Bk 1 (Sq d48 d2O)) c9k))))) (Sq c03 .ret))))
def g9d:AFn:={ np:=2,nv:=8,results:=[.v 2],code:=g1l }
def e4j:=Rg [1] [⟨.bx,.boxV,[.v 0],some 1,none⟩,op (.v 2) .mv [.c (.str [])]]
def d9T:=Rg [] [fP 3 0 (.l 1),lP 4 1 false 1 (.t 3),vP 2 (.t 4)]
def f8b:ACode :=
  (Sq e4j (Sq d9T .ret))
def g5G:AFn:={ np:=1,nv:=3,results:=[.v 2],code:=f8b }
def f4z:=Rg [] [vP 2 (.c (.bool false))]
def e9d:=Rg [] [nP 5 0,nP 6 1,oP 7 (.call 125) [.t 5,.t 6],mP 8 (.t 7),gP 9 .mv [.v 0] 8 false,gP 10 .mv [.v 1] 8 false,gP 11 (.call 126) [.t 9,.t 10] 8 false,oP 12 .pick [.t 8,.c (.bool true),.t 11],vP 2 (.t 12)]
def f9v:ACode :=
  (Sq f4z (Sq e9d .ret))
def g8F:AFn:={ np:=2,nv:=3,results:=[.v 2],code:=f9v }
def d4i:=Rg [] [vP 7 (.v 2),op (.v 8) .lenL [.v 7],vP 9 (.c (.int .i64 0))]
def e6v:=Ts [] [bP 16 .lss (.v 9) (.v 8)] (.t 16) .skip (.exit 0)
def e5Y:=Rg [3] [oP 17 (.iad 7) [.v 7,.v 9],oP 18 (.ldAn true 7) [.t 17],⟨.bx,.alloc [.int .u8 0,.str [],.str [],.str [],.list true [],.list true [],.list true []],[],some 3,none⟩,xP (.stLc 3 7) [.l 3,.ts 18] 3]
def d8j:=Rg [] [fP 19 5 (.l 3),⟨.v 10,.ldLc 3 false 1,[.t 19],some 3,none⟩,op (.v 11) .lenL [.v 10],vP 12 (.c (.int .i64 0))]
def e57:=Ts [] [bP 23 .lss (.v 12) (.v 11)] (.t 23) .skip (.exit 2)
def d1O:=Rg [4] [oP 24 (.iad 2) [.v 10,.v 12],oP 25 (.ldRo true 2) [.t 24],⟨.bx,.alloc [.str [],.list true []],[],some 4,none⟩,xP (.stLc 4 2) [.l 4,.ts 25] 4]
def c3z:=Rg [] [nP 26 0,oP 27 .stuck [],fP 28 1 (.l 4),lP 29 4 false 1 (.t 28),oP 30 (.call 201) [.t 26,.t 27,.t 29]]
def c83:=Rg [] [bP 31 .add (.v 12) (.c (.int .i64 1)),vP 12 (.t 31)]
def c9M:=Rg [] [nP 32 1,vP 5 (.t 32)]
def c5K:=Rg [] [fP 41 3 (.l 3),lP 42 3 false 1 (.t 41),vP 5 (.t 42)]
def d1t:=Ts [] [fP 33 0 (.l 3),lP 34 3 false 1 (.t 33),bP 35 .eql (.t 34) (.c (.int .u8 3)),mP 36 (.t 35),gP 37 (.fad 3) [.l 3] 36 true,⟨.t 38,.ldLc 3 false 1,[.t 37],some 3,some (.t 36,true)⟩,gP 39 (.bin .neq) [.t 38,.c (.str [])] 36 true,oP 40 .pick [.t 36,.t 39,.c (.bool false)]] (.t 40) c5K .skip
def c8z:=Rg [6] [nP 47 0,oP 48 .nilchk [.t 47],fP 49 0 (.t 48),oP 50 (.ldSt false 1) [.t 49],oP 51 .nilchk [.t 50],fP 52 0 (.t 51),oP 53 (.ldSt false 1) [.t 52],nP 54 1,fP 55 2 (.l 3),lP 56 3 false 1 (.t 55),oP 57 (.call 45) [.t 53,.t 54,.t 56],mP 46 (.t 57),oP 58 (.ext 0) [.t 46],oP 59 (.ext 1) [.t 46],⟨.bx,.alloc [.str [],.list true [],.str [],.list true [],.bool false,.bool false,.int .u8 0,.int .i64 0,.str [],.list true [],.list true []],[],some 6,none⟩,xP (.stLc 6 11) [.l 6,.ts 58] 6,mP 12 (.t 59)]
def c52:=Rg [] [nP 60 0,fP 61 1 (.l 6),lP 62 6 false 1 (.t 61),fP 63 4 (.l 3),lP 64 3 false 1 (.t 63),oP 65 (.call 201) [.t 60,.t 62,.t 64]]
def c5f:=Rg [] [fP 66 2 (.l 6),lP 67 6 true 3 (.t 66),oP 68 (.call 124) [.t 67],vP 5 (.t 68)]
def c8D:=Ts [] [fP 43 0 (.l 3),lP 44 3 false 1 (.t 43),bP 45 .eql (.t 44) (.c (.int .u8 1))] (.t 45) (Sq c8z (Sq c52 c5f)) .skip
def c1X:=Rg [] [nP 69 0,nP 70 5,fP 71 6 (.l 3),lP 72 3 false 1 (.t 71),oP 73 (.call 160) [.t 69,.t 70,.t 72]]
def c1G:=Rg [] [bP 74 .add (.v 9) (.c (.int .i64 1)),vP 9 (.t 74)]
def g3h:ACode :=
  (Sq d4i (Bk 0 (Lp (Sq e6v (Sq (Bk 1 (Sq e5Y (Sq (Sq d8j (Bk 2 (Lp (Sq e57 (Sq (Bk 3 (Sq d1O c3z)) c83))))) (Sq c9M (Sq d1t (Sq c8D c1X)))))) c1G)))))
def g4s:AFn:={ np:=3,nv:=13,results:=[],code:=g3h }
def e4l:=Rg [] [op (.v 2) (.allocO [.list true []]) []]
def d9K:=Rg [] [nP 9 0,nP 10 1,oP 11 (.call 202) [.t 9,.t 10,.v 2],vP 3 (.ts 11)]
def e5i:=Rg [] [vP 7 (.v 3),op (.v 8) .lenL [.v 7],vP 9 (.c (.int .i64 0))]
def d6j:=Ts [] [bP 15 .lss (.v 9) (.v 8)] (.t 15) .skip (.exit 0)
def e80:=Rg [] [nP 16 9,oP 17 (.iad 7) [.v 7,.v 9],oP 18 (.ldAn true 7) [.t 17],op (.v 5) (.allocO [.int .u8 0,.str [],.str [],.str [],.list true [],.list true [],.list true []]) [],vP 4 (.t 16),op .none (.stSt 7) [.v 5,.ts 18]]
def c8I:=Rg [] [nP 19 3,oP 20 (.mkF 204 0) [.v 5],oP 21 (.call 203) [.t 19,.t 20],vP 6 (.t 21)]
def c4P:=Rg [] [nP 34 0,oP 35 (.ldSt true 7) [.v 5],oP 36 (.call 205) [.t 35],oP 37 (.call 90) [.t 34,.c (.int .i64 21),.t 36]]
def d0d:=Ts [] [nP 22 6,nP 23 4,bP 24 .lss (.t 22) (.t 23),mP 25 (.t 24),gP 26 (.ldSt true 7) [.v 5] 25 true,gP 27 .mv [.v 3] 25 true,gP 28 .mv [.v 6] 25 true,gP 29 (.iad 7) [.t 27,.t 28] 25 true,gP 30 (.ldAn true 7) [.t 29] 25 true,gP 31 (.call 206) [.t 26,.t 30] 25 true,gP 32 (.un .not) [.t 31] 25 true,oP 33 .pick [.t 25,.t 32,.c (.bool false)]] (.t 33) c4P .skip
def d2b:=Rg [] [bP 38 .add (.v 9) (.c (.int .i64 1)),vP 9 (.t 38)]
def f6q:ACode :=
  (Sq e4l (Sq d9K (Sq e5i (Bk 0 (Lp (Sq d6j (Sq (Bk 1 (Sq e80 (Sq c8I d0d))) d2b)))))))
def g7u:AFn:={ np:=2,nv:=10,results:=[],code:=f6q }
def e48:=Rg [] [nP 6 0,nP 7 1,oP 8 (.call 207) [.t 7,.c (.func 208 [] [])],oP 9 (.call 91) [.t 6,.c (.int .i64 19),.t 8]]
def f0m:=Rg [] [vP 3 (.v 1),op (.v 4) .lenL [.v 3],vP 5 (.c (.int .i64 0))]
def e88:=Ts [] [bP 13 .lss (.v 5) (.v 4)] (.t 13) .skip (.exit 0)
def f1b:=Rg [2] [oP 14 (.iad 2) [.v 3,.v 5],oP 15 (.ldRo true 2) [.t 14],⟨.bx,.alloc [.str [],.list true []],[],some 2,none⟩,xP (.stLc 2 2) [.l 2,.ts 15] 2]
def c6t:=Rg [] [nP 24 0,fP 25 0 (.l 2),lP 26 2 false 1 (.t 25),oP 27 (.call 90) [.t 24,.c (.int .i64 19),.t 26]]
def d3v:=Ts [] [fP 16 0 (.l 2),lP 17 2 false 1 (.t 16),oP 18 (.bin .neq) [.t 17,.c (.str [115,107,105,112])],mP 19 (.t 18),gP 20 (.fad 0) [.l 2] 19 true,⟨.t 21,.ldLc 2 false 1,[.t 20],some 2,some (.t 19,true)⟩,gP 22 (.bin .neq) [.t 21,.c (.str [105,110,99,108,117,100,101])] 19 true,oP 23 .pick [.t 19,.t 22,.c (.bool false)]] (.t 23) (Sq c6t (.exit 1)) .skip
def d0a:=Rg [] [nP 28 0,oP 29 .stuck [],fP 30 1 (.l 2),lP 31 2 false 1 (.t 30),oP 32 (.call 209) [.t 28,.t 29,.t 31]]
def d3m:=Rg [] [bP 33 .add (.v 5) (.c (.int .i64 1)),vP 5 (.t 33)]
def f9m:ACode :=
  (Sq e48 (Sq f0m (Bk 0 (Lp (Sq e88 (Sq (Bk 1 (Sq f1b (Sq d3v d0a))) d3m))))))
def g7N:AFn:={ np:=2,nv:=6,results:=[],code:=f9m }
def d6l:=Rg [3] [⟨.bx,.boxV,[.v 2],some 3,none⟩]
def f32:=Rg [4] [nP 10 0,oP 11 .nilchk [.t 10],fP 12 0 (.t 11),oP 13 (.ldSt false 1) [.t 12],nP 14 1,fP 15 2 (.l 3),lP 16 3 false 1 (.t 15),oP 17 (.call 45) [.t 13,.t 14,.t 16],mP 9 (.t 17),oP 18 (.ext 0) [.t 9],oP 19 (.ext 1) [.t 9],⟨.bx,.alloc [.str [],.list true [],.str [],.list true [],.bool false,.bool false,.int .u8 0,.int .i64 0,.str [],.list true [],.list true []],[],some 4,none⟩,xP (.stLc 4 11) [.l 4,.ts 18] 4,vP 5 (.t 19)]
def e0g:=Rg [] [nP 25 0,fP 26 2 (.l 3),lP 27 3 false 1 (.t 26),oP 28 (.call 90) [.t 25,.c (.int .i64 8),.t 27]]
def d9G:=Ts [] [nP 22 0,nP 23 1,oP 24 (.call 96) [.t 22,.t 23]] (.t 24) e0g .skip
def c2Q:=Rg [] [nP 29 0,fP 30 6 (.l 3),lP 31 3 false 1 (.t 30),oP 32 (.call 97) [.t 29,.c (.str []),.t 31]]
def d0T:=Ts [] [nP 20 5,oP 21 (.un .not) [.t 20]] (.t 21) (Sq d9G (Sq c2Q .ret)) .skip
def d1D:=Rg [] [fP 33 2 (.l 4),lP 34 4 true 3 (.t 33),oP 35 (.call 124) [.t 34],vP 6 (.t 35)]
def c4A:=Rg [] [nP 47 0,fP 48 2 (.l 3),lP 49 3 false 1 (.t 48),oP 50 (.call 90) [.t 47,.c (.int .i64 9),.t 49]]
def c2b:=Ts [] [nP 36 0,oP 37 .nilchk [.t 36],fP 38 0 (.t 37),oP 39 (.ldSt false 1) [.t 38],nP 40 6,oP 41 (.call 159) [.t 39,.t 40],fP 42 6 (.l 3),lP 43 3 false 1 (.t 42),oP 44 .lenL [.t 43],bP 45 .gtr (.t 44) (.c (.int .i64 0)),oP 46 (.binB .eql) [.t 41,.t 45]] (.t 46) c4A .skip
def c5W:=Rg [] [nP 51 0,fP 52 1 (.l 4),lP 53 4 false 1 (.t 52),fP 54 4 (.l 3),lP 55 3 false 1 (.t 54),oP 56 (.call 209) [.t 51,.t 53,.t 55]]
def c7M:=Rg [] [nP 57 0,nP 58 6,fP 59 6 (.l 3),lP 60 3 false 1 (.t 59),oP 61 (.call 97) [.t 57,.t 58,.t 60]]
def g2P:ACode :=
  (Sq d6l (Sq f32 (Sq d0T (Sq d1D (Sq c2b (Sq c5W c7M))))))
def g8t:AFn:={ np:=3,nv:=7,results:=[],code:=g2P }
def e99:=Rg [] [vP 3 (.c (.bool false))]
def f2h:=Rg [] [vP 3 (.c (.bool true))]
def e18:=Ts [] [nP 8 0,nP 9 1,oP 10 (.call 96) [.t 8,.t 9],oP 11 (.un .not) [.t 10],mP 12 (.t 11),gP 13 .mv [.v 0] 12 false,gP 14 .mv [.v 2] 12 false,gP 15 (.call 96) [.t 13,.t 14] 12 false,gP 16 (.un .not) [.t 15] 12 false,oP 17 .pick [.t 12,.c (.bool true),.t 16]] (.t 17) (Sq f2h .ret) .skip
def e9J:=Rg [] [nP 18 0,nP 19 2,oP 20 (.call 210) [.t 18,.t 19],op (.v 4) (.allocO [.list true []]) [],op .none (.stSt 1) [.v 4,.ts 20]]
def c2T:=Rg [] [nP 21 0,nP 22 1,oP 23 (.call 210) [.t 21,.t 22],oP 24 (.mkF 212 0) [.v 4],oP 25 (.call 211) [.t 23,.t 24],vP 3 (.t 25)]
def f68:ACode :=
  (Sq e99 (Sq e18 (Sq e9J (Sq c2T .ret))))
def a164:AFn:={ np:=3,nv:=5,results:=[.v 3],code:=f68 }
def e4w:=Rg [] [vP 5 (.c (.bool true))]
def d6D:=Rg [] [vP 6 (.c (.bool true))]
def d4A:=Rg [] [nP 21 2,nP 22 1,bP 23 .sub (.t 21) (.t 22),vP 7 (.t 23)]
def f2D:=Rg [] [nP 26 0,nP 27 1,nP 28 2,nP 29 4,oP 30 (.call 213) [.t 26,.t 27,.t 28,.t 29]]
def c5Y:=Ts [] [nP 24 7,bP 25 .leq (.t 24) (.c (.int .i64 12))] (.t 25) (Sq f2D .ret) .skip
def c8T:=Rg [] [nP 33 0,nP 34 1,nP 35 2,nP 36 4,oP 37 (.call 214) [.t 33,.t 34,.t 35,.t 36]]
def c66:=Ts [] [nP 31 3,bP 32 .eql (.t 31) (.c (.int .i64 0))] (.t 32) (Sq c8T .ret) .skip
def d0E:=Rg [] [nP 40 0,nP 41 1,nP 42 2,nP 43 4,oP 44 (.call 215) [.t 40,.t 41,.t 42,.t 43]]
def c6V:=Rg [] [nP 45 3,bP 46 .sub (.t 45) (.c (.int .i64 1)),vP 3 (.t 46)]
def c3j:=Ts [] [nP 38 5,oP 39 (.un .not) [.t 38]] (.t 39) (Sq d0E c6V) .skip
def c3V:=Rg [] [nP 48 0,nP 49 1,nP 50 2,nP 51 4,oP 52 (.call 216) [.t 48,.t 49,.t 50,.t 51],mP 47 (.t 52),oP 53 (.ext 0) [.t 47],oP 54 (.ext 1) [.t 47],vP 8 (.t 53),vP 9 (.t 54)]
def c1t:=Rg [] [nP 57 0,nP 58 1,nP 59 2,nP 60 4,oP 61 (.call 217) [.t 57,.t 58,.t 59,.t 60]]
def d37:=Rg [] [nP 62 2,bP 63 .sub (.t 62) (.c (.int .i64 1)),nP 64 8,nP 65 1,bP 66 .sub (.t 64) (.t 65),bP 67 .sub (.t 63) (.t 66),vP 8 (.t 67)]
def c6o:=Rg [] [vP 9 (.c (.int .i64 1))]
def d27:=Ts [] [nP 55 9,bP 56 .eql (.t 55) (.c (.int .i64 2))] (.t 56) (Sq c1t (Sq d37 c6o)) .skip
def c1W:=Ts [] [nP 76 0,nP 77 1,nP 78 2,nP 79 4,oP 80 (.call 218) [.t 76,.t 77,.t 78,.t 79]] (.t 80) .ret .skip
def c3A:=Ts [] [nP 68 5,mP 69 (.t 68),gP 70 .mv [.v 6] 69 true,oP 71 .pick [.t 69,.t 70,.c (.bool false)],mP 72 (.t 71),gP 73 .mv [.v 9] 72 true,gP 74 (.bin .eql) [.t 73,.c (.int .i64 1)] 72 true,oP 75 .pick [.t 72,.t 74,.c (.bool false)]] (.t 75) c1W .skip
def c3C:=Rg [] [nP 98 0,nP 99 1,nP 100 2,nP 101 8,nP 102 4,oP 103 (.call 219) [.t 98,.t 99,.t 100,.t 101,.t 102],vP 10 (.t 103)]
def c2u:=Rg [] [nP 104 10,vP 1 (.t 104)]
def c4I:=Ts [] [nP 81 1,bP 82 .gtr (.t 81) (.c (.int .i64 0)),mP 83 (.t 82),gP 84 .mv [.v 4] 83 true,gP 85 .mv [.v 0] 83 true,gP 86 .mv [.v 1] 83 true,gP 87 (.bin .sub) [.t 86,.c (.int .i64 1)] 83 true,gP 88 (.iad 2) [.t 85,.t 87] 83 true,gP 89 (.ldAn true 2) [.t 88] 83 true,gP 90 .mv [.v 0] 83 true,gP 91 .mv [.v 8] 83 true,gP 92 (.iad 2) [.t 90,.t 91] 83 true,gP 93 (.ldAn true 2) [.t 92] 83 true,gP 94 .callV [.t 84,.t 89,.t 93] 83 true,gP 95 (.bin .lss) [.t 94,.c (.int .i64 0)] 83 true,gP 96 (.un .not) [.t 95] 83 true,oP 97 .pick [.t 83,.t 96,.c (.bool false)]] (.t 97) (Sq c3C (Sq c2u (.exit 1))) .skip
def c7G:=Rg [] [nP 106 0,nP 107 1,nP 108 2,nP 109 8,nP 110 4,oP 111 (.call 220) [.t 106,.t 107,.t 108,.t 109,.t 110],mP 105 (.t 111),oP 112 (.ext 0) [.t 105],oP 113 (.ext 1) [.t 105],vP 11 (.t 112),vP 12 (.t 113)]
def c7m:=Rg [] [nP 114 12,vP 6 (.t 114)]
def d2a:=Rg [] [nP 115 11,nP 116 1,bP 117 .sub (.t 115) (.t 116),nP 118 2,nP 119 11,bP 120 .sub (.t 118) (.t 119),vP 13 (.t 117),vP 14 (.t 120)]
def c8k:=Rg [] [nP 121 7,bP 122 .quo (.t 121) (.c (.int .i64 8)),vP 15 (.t 122)]
def c5c:=Rg [] [nP 126 13,nP 127 15,bP 128 .geq (.t 126) (.t 127),vP 5 (.t 128)]
def c6C:=Rg [] [nP 129 0,nP 130 1,nP 131 11,nP 132 3,nP 133 4,oP 134 (.call 165) [.t 129,.t 130,.t 131,.t 132,.t 133]]
def d1a:=Rg [] [nP 135 11,bP 136 .add (.t 135) (.c (.int .i64 1)),vP 1 (.t 136)]
def c4p:=Rg [] [nP 137 14,nP 138 15,bP 139 .geq (.t 137) (.t 138),vP 5 (.t 139)]
def c4B:=Rg [] [nP 140 0,nP 141 11,bP 142 .add (.t 141) (.c (.int .i64 1)),nP 143 2,nP 144 3,nP 145 4,oP 146 (.call 165) [.t 140,.t 142,.t 143,.t 144,.t 145]]
def c1O:=Rg [] [nP 147 11,vP 2 (.t 147)]
def c4F:=Ts [] [nP 123 13,nP 124 14,bP 125 .lss (.t 123) (.t 124)] (.t 125) (Sq c5c (Sq c6C d1a)) (Sq c4p (Sq c4B c1O))
def g1y:ACode :=
  (Sq e4w (Sq d6D (Bk 0 (Lp (Bk 1 (Sq d4A (Sq c5Y (Sq c66 (Sq c3j (Sq c3V (Sq d27 (Sq c3A (Sq c4I (Sq c7G (Sq c7m (Sq d2a (Sq c8k c4F)))))))))))))))))
def g6q:AFn:={ np:=5,nv:=16,results:=[],code:=g1y }
def e86:=Rg [] [nP 3 0,oP 4 (.conv .u32) [.t 3],oP 5 (.call 221) [.t 4],vP 1 (.t 5)]
def d4b:=Ts [] [vP 1 (.c (.int .i64 0))] (.c (.bool false)) (Sq e86 .ret) .skip
def e9e:=Rg [] [nP 6 0,oP 7 (.call 222) [.t 6],vP 1 (.t 7)]
def f7r:ACode :=
  (Sq d4b (Sq e9e .ret))
def g4Z:AFn:={ np:=1,nv:=2,results:=[.v 1],code:=f7r }
def d8k:=Rg [] [vP 1 (.c (.bool false))]
def e9O:=Rg [] [nP 3 0,nP 4 0,bP 5 .neq (.t 3) (.t 4),vP 1 (.t 5)]
def f5x:ACode :=
  (Sq d8k (Sq e9O .ret))
def a167:AFn:={ np:=1,nv:=2,results:=[.v 1],code:=f5x }
def e5F:=Rg [] [vP 1 (.c (.bool false))]
def f4u:=Rg [] [nP 3 0,nP 4 0,bP 5 .neq (.t 3) (.t 4),vP 1 (.t 5)]
def f9C:ACode :=
  (Sq e5F (Sq f4u .ret))
def g8y:AFn:={ np:=1,nv:=2,results:=[.v 1],code:=f9C }
def a169s1:=Rg [3,4,5,6] [⟨.bx,.boxV,[.v 0],some 3,none⟩,⟨.bx,.boxV,[.v 1],some 4,none⟩,⟨.bx,.boxV,[.v 2],some 5,none⟩,⟨.bx,.alloc [.int .u8 0,.int .i64 0,.str [],.list true [],.list true []],[],some 6,none⟩,vP 7 (.c (.bool false)),vP 8 (.c (.int .i64 0))]
def a169s4:=Rg [9] [fP 20 1 (.l 3),lP 21 3 true 5 (.t 20),fP 22 2 (.l 5),lP 23 5 false 1 (.t 22),oP 24 (.call 106) [.t 21,.t 23],mP 19 (.t 24),oP 25 (.ext 0) [.t 19],oP 26 (.ext 1) [.t 19],⟨.bx,.alloc [.int .u8 0,.int .i64 0,.str [],.list true [],.list true []],[],some 9,none⟩,xP (.stLc 9 5) [.l 9,.ts 25] 9,vP 10 (.t 26)]
def a169s7:=Rg [] [oP 37 (.build [.int .u8 0,.int .i64 0,.str [],.list true [],.list true []] []) [],xP (.stLc 6 5) [.l 6,.ts 37] 6,vP 7 (.c (.bool false)),vP 8 (.c (.int .i64 9))]
def a169s9:=Ts [] [nP 27 10,mP 28 (.t 27),gP 29 (.fad 0) [.l 9] 28 true,⟨.t 30,.ldLc 9 false 1,[.t 29],some 9,some (.t 28,true)⟩,gP 31 (.bin .eql) [.t 30,.c (.int .u8 0)] 28 true,oP 32 .pick [.t 28,.t 31,.c (.bool false)],mP 33 (.t 32),gP 34 (.fad 2) [.l 4] 33 true,⟨.t 35,.ldLc 4 false 1,[.t 34],some 4,some (.t 33,true)⟩,oP 36 .pick [.t 33,.t 35,.c (.bool false)]] (.t 36) (Sq a169s7 .ret) .skip
def a169s11:=Rg [] [lP 38 9 true 5 (.l 9),nP 39 10,xP (.stLc 6 5) [.l 6,.ts 38] 6,vP 7 (.t 39),vP 8 (.c (.int .i64 0))]
def a169s15:=Ts [] [fP 11 0 (.l 5),lP 12 5 false 1 (.t 11),bP 13 .eql (.t 12) (.c (.int .u8 7)),mP 14 (.t 13),gP 15 (.fad 6) [.l 3] 14 true,⟨.t 16,.ldLc 3 false 1,[.t 15],some 3,some (.t 14,true)⟩,gP 17 (.un .not) [.t 16] 14 true,oP 18 .pick [.t 14,.t 17,.c (.bool false)]] (.t 18) (Sq a169s4 (Sq a169s9 (Sq a169s11 .ret))) .skip
def a169s19:=Rg [] [oP 45 (.build [.int .u8 0,.int .i64 0,.str [],.list true [],.list true []] []) [],xP (.stLc 6 5) [.l 6,.ts 45] 6,vP 7 (.c (.bool false)),vP 8 (.c (.int .i64 9))]
def a169s21:=Ts [] [fP 43 2 (.l 4),lP 44 4 false 1 (.t 43)] (.t 44) (Sq a169s19 .ret) .skip
def a169s23:=Rg [] [lP 46 5 true 5 (.l 5),xP (.stLc 6 5) [.l 6,.ts 46] 6,vP 7 (.c (.bool true)),vP 8 (.c (.int .i64 0))]
def a169s26:=Ts [] [fP 40 0 (.l 5),lP 41 5 false 1 (.t 40),bP 42 .eql (.t 41) (.c (.int .u8 0))] (.t 42) (Sq a169s21 (Sq a169s23 .ret)) .skip
def a169s29:=Rg [] [lP 51 3 true 7 (.l 3),fP 52 1 (.l 4),lP 53 4 false 1 (.t 52),oP 54 (.iad 3) [.t 53,.c (.int .i64 0)],oP 55 (.ldRo true 3) [.t 54],lP 56 5 true 5 (.l 5),oP 57 (.call 223) [.t 51,.t 55,.t 56],oP 58 (.ext 0) [.t 57],oP 59 (.ext 1) [.t 57],oP 60 (.ext 2) [.t 57],xP (.stLc 6 5) [.l 6,.ts 58] 6,vP 7 (.t 59),vP 8 (.t 60)]
def a169s31:=Ts [] [fP 47 1 (.l 4),lP 48 4 false 1 (.t 47),oP 49 .lenL [.t 48],bP 50 .gtr (.t 49) (.c (.int .i64 0))] (.t 50) (Sq a169s29 .ret) .skip
def a169s33:=Rg [] [lP 61 3 true 7 (.l 3),fP 62 0 (.l 4),lP 63 4 false 1 (.t 62),lP 64 5 true 5 (.l 5),oP 65 (.call 224) [.t 61,.t 63,.t 64],oP 66 (.ext 0) [.t 65],oP 67 (.ext 1) [.t 65],oP 68 (.ext 2) [.t 65],xP (.stLc 6 5) [.l 6,.ts 66] 6,vP 7 (.t 67),vP 8 (.t 68)]
def a169c:ACode :=
  (Sq a169s1 (Sq a169s15 (Sq a169s26 (Sq a169s31 (Sq a169s33 .ret)))))
def a169:AFn:={ np:=3,nv:=11,results:=[.bx 6 true 5,.v 7,.v 8],code:=a169c }
def d5X:=Rg [3] [op (.v 2) .boxO [.v 0],⟨.bx,.boxV,[.v 1],some 3,none⟩,vP 4 (.c (.bool false))]
def d88:=Rg [] [fP 5 5 (.l 3),lP 6 3 false 1 (.t 5),oP 7 (.mkF 226 0) [.v 2],oP 8 (.call 225) [.t 6,.t 7],oP 9 (.un .not) [.t 8],vP 4 (.t 9)]
def f8m:ACode :=
  (Sq d5X (Sq d88 .ret))
def g7K:AFn:={ np:=2,nv:=5,results:=[.v 4],code:=f8m }
def a171s1:=Rg [2] [⟨.bx,.boxV,[.v 1],some 2,none⟩]
def a171s3:=Rg [] [fP 6 2 (.l 2),lP 7 2 false 1 (.t 6),op (.v 3) (.allocO [.str []]) [],op .none (.stSt 1) [.v 3,.t 7]]
def a171s6:=Rg [] [fP 11 1 (.l 2),lP 12 2 false 1 (.t 11),op .none (.stSt 1) [.v 3,.t 12]]
def a171s7:=Ts [] [fP 8 1 (.l 2),lP 9 2 false 1 (.t 8),oP 10 (.bin .neq) [.t 9,.c (.str [])]] (.t 10) a171s6 .skip
def a171s9:=Rg [] [nP 13 0,oP 14 .nilchk [.t 13],fP 15 10 (.t 14),oP 16 (.ldSt false 1) [.t 15],oP 17 (.mkF 229 0) [.v 3],oP 18 (.call 228) [.t 16,.t 17],vP 4 (.t 18)]
def a171s12:=Rg [] [nP 21 0,nP 22 0,oP 23 .nilchk [.t 22],fP 24 10 (.t 23),oP 25 .ldStS [.t 24],oP 26 (.ldSt false 1) [.v 3],oP 27 (.build [.str [],.list true []] [(0,1),(1,1)]) [.t 26,.c (.list true [])],oP 28 (.bsliceM 2 [[.str [],.list true []]] [0]) [.ts 27],oP 29 (.appM 2 40) [.ts 25,.t 28],oP 30 .nilchk [.t 21],fP 31 10 (.t 30),op .none (.stSt 1) [.t 31,.t 29]]
def a171s14:=Rg [] [nP 32 0,oP 33 .nilchk [.t 32],fP 34 10 (.t 33),oP 35 (.ldSt false 1) [.t 34],oP 36 .lenL [.t 35],bP 37 .sub (.t 36) (.c (.int .i64 1)),vP 4 (.t 37)]
def a171s16:=Ts [] [nP 19 4,bP 20 .lss (.t 19) (.c (.int .i64 0))] (.t 20) (Sq a171s12 a171s14) .skip
def a171s18:=Rg [] [nP 40 0,oP 41 .nilchk [.t 40],fP 42 10 (.t 41),oP 43 (.ldSt false 1) [.t 42],nP 44 4,oP 45 (.iad 2) [.t 43,.t 44],fP 46 1 (.t 45),oP 47 .ldStS [.t 46],⟨.v 5,.ldLc 2 true 7,[.l 2],some 2,none⟩,op (.v 6) .lenL [.t 47],oP 50 (.bsliceM 7 [[.int .u8 0,.str [],.str [],.str [],.list true [],.list true [],.list true []]] [0]) [.c (.agg [.int .u8 0,.str [],.str [],.str [],.list true [],.list true [],.list true []])],op (.v 7) (.appM 7 128) [.ts 47,.t 50],oP 52 (.iad 2) [.t 43,.t 44],fP 53 1 (.t 52),op .none (.stSt 1) [.t 53,.v 7]]
def a171s20:=Rg [] [oP 54 (.iad 7) [.v 7,.v 6],op .none (.stSt 7) [.t 54,.v 5]]
def a171s23:=Rg [] [nP 55 0,oP 56 .nilchk [.t 55],fP 57 10 (.t 56),oP 58 (.ldStR false 1) [.t 57,.v 0],nP 59 4,nP 60 0,oP 61 .nilchk [.t 60],fP 62 10 (.t 61),oP 63 (.ldSt false 1) [.t 62],nP 64 4,oP 65 (.iad 2) [.t 63,.t 64],fP 66 1 (.t 65),oP 67 .ldStS [.t 66],lP 68 2 true 7 (.l 2),oP 69 (.bsliceM 7 [[.int .u8 0,.str [],.str [],.str [],.list true [],.list true [],.list true []]] [0]) [.ts 68],oP 70 (.appM 7 128) [.ts 67,.t 69,.v 0],oP 71 (.iad 2) [.t 58,.t 59],fP 72 1 (.t 71),op .none (.stSt 1) [.t 72,.t 70]]
def a171s24:ACode:=.either [5,6,7] (Sq a171s18 a171s20) a171s23
def a171c:ACode :=
  (Sq a171s1 (Sq a171s3 (Sq a171s7 (Sq a171s9 (Sq a171s16 a171s24)))))
def a171:AFn:={ np:=2,nv:=8,results:=[],code:=a171c }
def e1K:=Rg [] [vP 2 (.c (.int .i64 0))]
def e39:=Rg [] [nP 6 0,op (.v 4) .lenL [.t 6],vP 5 (.c (.int .i64 0))]
def d5Z:=Ts [] [bP 9 .lss (.v 5) (.v 4)] (.t 9) .skip (.exit 0)
def f3R:=Rg [] [nP 10 5,vP 3 (.t 10)]
def c8w:=Rg [] [nP 17 3,vP 2 (.t 17)]
def c2V:=Ts [] [nP 11 1,nP 12 0,nP 13 3,oP 14 (.iad 3) [.t 12,.t 13],oP 15 (.ldAn true 3) [.t 14],oP 16 .callV [.t 11,.t 15]] (.t 16) (Sq c8w .ret) .skip
def c2p:=Rg [] [bP 18 .add (.v 5) (.c (.int .i64 1)),vP 5 (.t 18)]
def c0K:=Rg [] [vP 2 (.c (.int .i64 (-1)))]
def g1M:ACode :=
  (Sq e1K (Sq (Sq e39 (Bk 0 (Lp (Sq d5Z (Sq (Bk 1 (Sq f3R c2V)) c2p))))) (Sq c0K .ret)))
def g80:AFn:={ np:=2,nv:=6,results:=[.v 2],code:=g1M }
def e9s:=Rg [2] [⟨.bx,.boxV,[.v 0],some 2,none⟩,vP 3 (.c (.bool false))]
def d7L:=Rg [] [fP 4 0 (.l 2),lP 5 2 false 1 (.t 4),fP 6 2 (.v 1),oP 7 (.ldSt false 1) [.t 6],bP 8 .eql (.t 5) (.t 7),vP 3 (.t 8)]
def f55:ACode :=
  (Sq e9s (Sq d7L .ret))
def a173:AFn:={ np:=2,nv:=4,results:=[.v 3],code:=f55 }
def e2N:=Rg [] [vP 2 (.c (.bool false))]
def f04:=Rg [1000000,1000001,1000002,1000003,1000004,1000005,1000006,1000007,1000008,1000009,1000010,1000011,1000013,1000014,1000015,1000016,1000012,1000017,1000018,1000019] [nP 5 1,nP 6 0,oP 7 .nilchk [.t 6],fP 8 3 (.t 7),oP 9 (.ldSt false 1) [.t 8],bP 10 .eql (.t 5) (.t 9),mP 11 (.t 10),gP 12 .mv [.v 0] 11 false,gP 13 .nilchk [.t 12] 11 false,gP 14 (.fad 0) [.t 13] 11 false,gP 15 (.ldSt false 1) [.t 14] 11 false,gP 16 .mv [.v 1] 11 false,gP 18 .mv [.v 0] 11 false,gP 19 .nilchk [.t 18] 11 false,gP 20 (.fad 3) [.t 19] 11 false,gP 21 (.ldStR false 1) [.t 20,.v 0] 11 false,gP 17 (.callA 230 2) [.t 15,.t 16,.v 0] 11 false,gP 22 (.call 27) [.t 17,.t 21] 11 false,oP 23 .pick [.t 11,.c (.bool true),.t 22],vP 2 (.t 23)]
def f9o:ACode :=
  (Sq e2N (Sq f04 .ret))
def g7h:AFn:={ np:=2,nv:=3,results:=[.v 2],code:=f9o }
def e8B:=Rg [] [vP 3 (.c (.bool false))]
def e63:=Rg [4] [nP 10 0,nP 11 1,oP 12 (.call 30) [.t 10,.t 11],mP 9 (.t 12),oP 13 (.ext 0) [.t 9],oP 14 (.ext 1) [.t 9],⟨.bx,.alloc [.int .u8 0,.str [],.list true [],.list true []],[],some 4,none⟩,xP (.stLc 4 4) [.l 4,.ts 13] 4,vP 5 (.t 14)]
def e9X:=Rg [] [nP 15 5,mP 16 (.t 15),gP 17 (.fad 0) [.l 4] 16 true,⟨.t 18,.ldLc 4 false 1,[.t 17],some 4,some (.t 16,true)⟩,gP 19 .mv [.v 2] 16 true,gP 20 (.bin .eql) [.t 18,.t 19] 16 true,oP 21 .pick [.t 16,.t 20,.c (.bool false)],vP 3 (.t 21)]
def f6a:ACode :=
  (Sq e8B (Sq e63 (Sq e9X .ret)))
def g6f:AFn:={ np:=3,nv:=6,results:=[.v 3],code:=f6a }
def d7H:=Rg [3,4,5] [⟨.bx,.boxV,[.v 0],some 3,none⟩,⟨.bx,.boxV,[.v 2],some 4,none⟩,⟨.bx,.alloc [.int .u8 0,.int .i64 0,.str [],.list true [],.list true []],[],some 5,none⟩,op (.v 6) .mv [.c (.str [])],vP 7 (.c (.int .i64 0))]
def f1y:=Rg [] [fP 17 3 (.l 4),⟨.v 15,.ldLc 4 false 1,[.t 17],some 4,none⟩,op (.v 16) .lenL [.v 15],vP 17 (.c (.int .i64 0))]
def e3z:=Ts [] [bP 21 .lss (.v 17) (.v 16)] (.t 21) .skip (.exit 0)
def d5x:=Rg [] [nP 22 17,oP 23 (.iad 1) [.v 15,.v 17],oP 24 (.ldAn false 1) [.t 23],op (.v 9) (.allocO [.str []]) [],vP 8 (.t 22),op .none (.stSt 1) [.v 9,.t 24]]
def c1S:=Rg [] [oP 32 (.build [.int .u8 0,.int .i64 0,.str [],.list true [],.list true []] []) [],oP 33 (.ldSt false 1) [.v 9],xP (.stLc 5 5) [.l 5,.ts 32] 5,vP 6 (.t 33),vP 7 (.c (.int .i64 7))]
def c8x:=Rg [] [oP 39 (.build [.int .u8 0,.int .i64 0,.str [],.list true [],.list true []] []) [],oP 40 (.ldSt false 1) [.v 9],xP (.stLc 5 5) [.l 5,.ts 39] 5,vP 6 (.t 40),vP 7 (.c (.int .i64 6))]
def c89:=Ts [] [nP 35 1,oP 36 (.mkF 231 0) [.v 9],oP 37 (.call 129) [.t 35,.t 36],oP 38 (.un .not) [.t 37],mP 34 (.t 38)] (.t 34) (Sq c8x .ret) .skip
def c9S:=Ts [] [fP 26 3 (.l 4),lP 27 4 false 1 (.t 26),nP 28 8,oP 29 (.slL 1 false true) [.t 27,.t 28],oP 30 (.ldSt false 1) [.v 9],oP 31 (.call 27) [.t 29,.t 30],mP 25 (.t 31)] (.t 25) (Sq c1S .ret) c89
def c5H:=Rg [] [bP 41 .add (.v 17) (.c (.int .i64 1)),vP 17 (.t 41)]
def d09:=Rg [] [oP 42 (.build [.int .u8 0,.int .i64 0,.str [],.list true [],.list true []] [(0,1)]) [.c (.int .u8 6)],op (.v 10) (.allocO [.int .u8 0,.int .i64 0,.str [],.list true [],.list true []]) [],op .none (.stSt 5) [.v 10,.ts 42]]
def c1D:=Rg [] [vP 18 (.v 1),op (.v 19) .lenL [.v 18],vP 20 (.c (.int .i64 0))]
def c5p:=Ts [] [bP 46 .lss (.v 20) (.v 19)] (.t 46) .skip (.exit 3)
def c1V:=Rg [11] [oP 47 (.iad 11) [.v 18,.v 20],oP 48 (.ldRo true 11) [.t 47],⟨.bx,.alloc [.str [],.list true [],.str [],.list true [],.bool false,.bool false,.int .u8 0,.int .i64 0,.str [],.list true [],.list true []],[],some 11,none⟩,xP (.stLc 11 11) [.l 11,.ts 48] 11]
def c3x:=Rg [12] [lP 50 4 true 5 (.l 4),fP 51 0 (.l 11),lP 52 11 false 1 (.t 51),oP 53 (.call 106) [.t 50,.t 52],mP 49 (.t 53),oP 54 (.ext 0) [.t 49],oP 55 (.ext 1) [.t 49],⟨.bx,.alloc [.int .u8 0,.int .i64 0,.str [],.list true [],.list true []],[],some 12,none⟩,xP (.stLc 12 5) [.l 12,.ts 54] 12,vP 13 (.t 55)]
def c4Y:=Rg [] [vP 14 (.c (.int .i64 0))]
def c97:=Rg [] [lP 58 3 true 7 (.l 3),fP 59 2 (.l 11),lP 60 11 true 3 (.t 59),lP 61 12 true 5 (.l 12),oP 62 (.call 169) [.t 58,.t 60,.t 61],mP 57 (.t 62),oP 63 (.ext 0) [.t 57],oP 64 (.ext 1) [.t 57],oP 65 (.ext 2) [.t 57],xP (.stLc 12 5) [.l 12,.ts 63] 12,vP 13 (.t 64),vP 14 (.t 65)]
def c2o:=Ts [] [nP 56 13] (.t 56) c97 .skip
def c2e:=Rg [] [fP 77 0 (.l 3),lP 78 3 false 1 (.t 77),oP 79 (.build [.nilp,.int .u8 0,.int .i64 0,.str [],.list true [],.list true [],.bool false] [(0,1)]) [.t 78],fP 80 2 (.l 11),lP 81 11 true 3 (.t 80),fP 82 6 (.l 11),lP 83 11 true 5 (.t 82),oP 84 (.call 169) [.t 79,.t 81,.t 83],mP 76 (.t 84),oP 85 (.ext 0) [.t 76],oP 86 (.ext 1) [.t 76],oP 87 (.ext 2) [.t 76],xP (.stLc 12 5) [.l 12,.ts 85] 12,vP 13 (.t 86),vP 14 (.t 87)]
def c3d:=Ts [] [nP 66 14,bP 67 .eql (.t 66) (.c (.int .i64 0)),mP 68 (.t 67),gP 69 .mv [.v 13] 68 true,gP 70 (.un .not) [.t 69] 68 true,oP 71 .pick [.t 68,.t 70,.c (.bool false)],mP 72 (.t 71),gP 73 (.fad 5) [.l 11] 72 true,⟨.t 74,.ldLc 11 false 1,[.t 73],some 11,some (.t 72,true)⟩,oP 75 .pick [.t 72,.t 74,.c (.bool false)]] (.t 75) c2e .skip
def c9c:=Rg [] [oP 91 (.build [.int .u8 0,.int .i64 0,.str [],.list true [],.list true []] []) [],fP 92 0 (.l 11),lP 93 11 false 1 (.t 92),nP 94 14,xP (.stLc 5 5) [.l 5,.ts 91] 5,vP 6 (.t 93),vP 7 (.t 94)]
def d1k:=Rg [] [fP 97 0 (.l 11),lP 98 11 false 1 (.t 97),lP 99 12 true 5 (.l 12),oP 100 (.call 109) [.v 10,.t 98,.t 99]]
def d06:=Rg [] [oP 105 (.build [.int .u8 0,.int .i64 0,.str [],.list true [],.list true []] []) [],fP 106 0 (.l 11),lP 107 11 false 1 (.t 106),xP (.stLc 5 5) [.l 5,.ts 105] 5,vP 6 (.t 107),vP 7 (.c (.int .i64 9))]
def d0K:=Ts [] [fP 102 2 (.l 11),fP 103 2 (.t 102),lP 104 11 false 1 (.t 103),mP 101 (.t 104)] (.t 101) (Sq d06 .ret) .skip
def d0k:=Ts [] [nP 96 13,mP 95 (.t 96)] (.t 95) d1k d0K
def c1g:=Ts [] [nP 89 14,bP 90 .neq (.t 89) (.c (.int .i64 0)),mP 88 (.t 90)] (.t 88) (Sq c9c .ret) d0k
def d00:=Rg [] [bP 108 .add (.v 20) (.c (.int .i64 1)),vP 20 (.t 108)]
def d2Z:=Rg [] [oP 109 (.ldSt true 5) [.v 10],xP (.stLc 5 5) [.l 5,.ts 109] 5,op (.v 6) .mv [.c (.str [])],vP 7 (.c (.int .i64 0))]
def f6P:ACode :=
  (Sq d7H (Sq (Sq f1y (Bk 0 (Lp (Sq e3z (Sq (Bk 1 (Sq d5x (Bk 2 c9S))) c5H))))) (Sq d09 (Sq (Sq c1D (Bk 3 (Lp (Sq c5p (Sq (Bk 4 (Sq c1V (Sq c3x (Sq c4Y (Sq c2o (Sq c3d (Bk 5 c1g))))))) d00))))) (Sq d2Z .ret)))))
def g7S:AFn:={ np:=3,nv:=21,results:=[.bx 5 true 5,.v 6,.v 7],code:=f6P }
def a177s1:=Rg [2,3] [⟨.bx,.boxV,[.v 0],some 2,none⟩,⟨.bx,.alloc [.str [],.str [],.list true [],.list true []],[],some 3,none⟩,vP 4 (.c (.bool false))]
def a177s3:=Rg [] [lP 9 2 true 1 (.l 2),nP 10 1,oP 11 (.call 38) [.t 9,.t 10],mP 8 (.t 11),oP 12 (.ext 0) [.t 8],oP 13 (.ext 1) [.t 8],vP 5 (.t 12),vP 6 (.t 13)]
def a177s6:=Rg [] [oP 16 (.build [.str [],.str [],.list true [],.list true []] []) [],xP (.stLc 3 4) [.l 3,.ts 16] 3,vP 4 (.c (.bool false))]
def a177s8:=Ts [] [nP 14 6,oP 15 (.un .not) [.t 14]] (.t 15) (Sq a177s6 .ret) .skip
def a177s10:=Rg [] [fP 17 0 (.l 2),lP 18 2 false 1 (.t 17),nP 19 5,oP 20 (.iad 4) [.t 18,.t 19],oP 21 (.ldSt true 4) [.t 20],xP (.stLc 3 4) [.l 3,.ts 21] 3,vP 4 (.c (.bool true))]
def a177c:ACode :=
  (Sq a177s1 (Sq a177s3 (Sq a177s8 (Sq a177s10 .ret))))
def a177:AFn:={ np:=2,nv:=7,results:=[.bx 3 true 4,.v 4],code:=a177c }
def e9j:=Rg [] [vP 2 (.c (.int .i64 0))]
def d7R:=Rg [] [nP 6 0,op (.v 4) .lenL [.t 6],vP 5 (.c (.int .i64 0))]
def e0G:=Ts [] [bP 9 .lss (.v 5) (.v 4)] (.t 9) .skip (.exit 0)
def e6g:=Rg [] [nP 10 5,vP 3 (.t 10)]
def d2v:=Rg [] [nP 17 3,vP 2 (.t 17)]
def d1h:=Ts [] [nP 11 1,nP 12 0,nP 13 3,oP 14 (.iad 11) [.t 12,.t 13],oP 15 (.ldRo true 11) [.t 14],oP 16 .callV [.t 11,.t 15]] (.t 16) (Sq d2v .ret) .skip
def d16:=Rg [] [bP 18 .add (.v 5) (.c (.int .i64 1)),vP 5 (.t 18)]
def c7E:=Rg [] [vP 2 (.c (.int .i64 (-1)))]
def g3r:ACode :=
  (Sq e9j (Sq (Sq d7R (Bk 0 (Lp (Sq e0G (Sq (Bk 1 (Sq e6g d1h)) d16))))) (Sq c7E .ret)))
def g3Y:AFn:={ np:=2,nv:=6,results:=[.v 2],code:=g3r }
def e0I:=Rg [2] [⟨.bx,.boxV,[.v 0],some 2,none⟩,vP 3 (.c (.bool false))]
def f2T:=Rg [] [fP 4 0 (.l 2),lP 5 2 false 1 (.t 4),oP 6 (.ldSt false 1) [.v 1],bP 7 .eql (.t 5) (.t 6),vP 3 (.t 7)]
def f6p:ACode :=
  (Sq e0I (Sq f2T .ret))
def g8G:AFn:={ np:=2,nv:=4,results:=[.v 3],code:=f6p }
def d9L:=Rg [3,4,5] [⟨.bx,.boxV,[.v 0],some 3,none⟩,⟨.bx,.boxV,[.v 2],some 4,none⟩,⟨.bx,.alloc [.str [],.str [],.list true [],.list true []],[],some 5,none⟩]
def f2s:=Rg [] [fP 10 0 (.l 3),lP 11 3 false 1 (.t 10),fP 12 1 (.l 3),lP 13 3 false 1 (.t 12),oP 14 (.build [.str [],.str [],.list true [],.list true []] [(0,1),(1,1)]) [.t 11,.t 13],op (.v 6) (.allocO [.str [],.str [],.list true [],.list true []]) [],op .none (.stSt 4) [.v 6,.ts 14]]
def e1M:=Rg [] [fP 16 2 (.l 3),lP 17 3 false 1 (.t 16),nP 18 1,oP 19 (.call 232) [.t 17,.t 18],mP 15 (.t 19),oP 20 (.ext 0) [.t 15],oP 21 (.ext 1) [.t 15],vP 7 (.t 20),vP 8 (.t 21)]
def e2C:=Rg [] [fP 22 2 (.v 6),oP 23 (.ldStSR 2) [.t 22,.v 6],fP 24 2 (.l 3),lP 25 3 false 1 (.t 24),nP 26 7,oP 27 (.slL 1 false true) [.t 25,.t 26],oP 28 (.app 1 16) [.ts 23,.t 27],fP 29 3 (.v 6),oP 30 (.ldStSR 3) [.t 29,.v 6],fP 31 3 (.l 3),lP 32 3 false 1 (.t 31),nP 33 7,oP 34 (.slL 5 false true) [.t 32,.t 33],oP 35 (.app 5 80) [.ts 30,.t 34],fP 36 2 (.v 6),op .none (.stSt 1) [.t 36,.ts 28],fP 37 3 (.v 6),op .none (.stSt 1) [.t 37,.ts 35]]
def c7n:=Rg [] [fP 41 2 (.v 6),oP 42 (.ldStSR 2) [.t 41,.v 6],nP 43 1,oP 44 (.bslice 1 [[.str []]] [0]) [.t 43],oP 45 (.app 1 16) [.ts 42,.t 44],fP 46 3 (.v 6),oP 47 (.ldStSR 3) [.t 46,.v 6],lP 48 4 true 5 (.l 4),oP 49 (.bslice 5 [[.int .u8 0,.int .i64 0,.str [],.list true [],.list true []]] [0]) [.t 48],oP 50 (.app 5 80) [.ts 47,.t 49],fP 51 2 (.v 6),op .none (.stSt 1) [.t 51,.ts 45],fP 52 3 (.v 6),op .none (.stSt 1) [.t 52,.ts 50]]
def c9f:=Ts [] [fP 38 0 (.l 4),lP 39 4 false 1 (.t 38),bP 40 .neq (.t 39) (.c (.int .u8 0))] (.t 40) c7n .skip
def c2G:=Rg [] [nP 54 7,bP 55 .add (.t 54) (.c (.int .i64 1)),vP 7 (.t 55)]
def c2Z:=Ts [] [nP 53 8] (.t 53) c2G .skip
def c7c:=Rg [] [fP 56 2 (.v 6),oP 57 (.ldStSR 2) [.t 56,.v 6],fP 58 2 (.l 3),lP 59 3 false 1 (.t 58),nP 60 7,oP 61 (.slL 1 true false) [.t 59,.t 60],oP 62 (.app 1 16) [.ts 57,.t 61],fP 63 3 (.v 6),oP 64 (.ldStSR 3) [.t 63,.v 6],fP 65 3 (.l 3),lP 66 3 false 1 (.t 65),nP 67 7,oP 68 (.slL 5 true false) [.t 66,.t 67],oP 69 (.app 5 80) [.ts 64,.t 68],fP 70 2 (.v 6),op .none (.stSt 1) [.t 70,.ts 62],fP 71 3 (.v 6),op .none (.stSt 1) [.t 71,.ts 69]]
def c8y:=Rg [] [oP 72 (.ldSt true 4) [.v 6],xP (.stLc 5 4) [.l 5,.ts 72] 5]
def f7W:ACode :=
  (Sq d9L (Sq f2s (Sq e1M (Sq e2C (Sq c9f (Sq c2Z (Sq c7c (Sq c8y .ret))))))))
def g5W:AFn:={ np:=3,nv:=9,results:=[.bx 5 true 4],code:=f7W }
def f4A:=Rg [3,4,5] [⟨.bx,.boxV,[.v 1],some 3,none⟩,⟨.bx,.boxV,[.v 2],some 4,none⟩,⟨.bx,.alloc [.int .u8 0,.int .i64 0,.str [],.list true [],.list true []],[],some 5,none⟩]
def d8D:=Rg [6] [oP 20 (.build [.int .u8 0,.int .i64 0,.str [],.list true [],.list true []] [(0,1)]) [.c (.int .u8 5)],⟨.bx,.alloc [.int .u8 0,.int .i64 0,.str [],.list true [],.list true []],[],some 6,none⟩,xP (.stLc 6 5) [.l 6,.ts 20] 6]
def e9Y:=Rg [] [fP 21 4 (.l 4),⟨.v 8,.ldLc 4 false 1,[.t 21],some 4,none⟩,op (.v 9) .lenL [.v 8],vP 10 (.c (.int .i64 0))]
def d72:=Ts [] [bP 25 .lss (.v 10) (.v 9)] (.t 25) .skip (.exit 1)
def c3r:=Rg [7] [oP 26 (.iad 5) [.v 8,.v 10],oP 27 (.ldAn true 5) [.t 26],⟨.bx,.alloc [.int .u8 0,.int .i64 0,.str [],.list true [],.list true []],[],some 7,none⟩,xP (.stLc 7 5) [.l 7,.ts 27] 7]
def c3U:=Rg [] [fP 28 4 (.l 6),⟨.t 29,.ldLcS 6,[.t 28],some 6,none⟩,nP 30 0,fP 31 1 (.l 3),lP 32 3 false 1 (.t 31),oP 33 (.iad 3) [.t 32,.c (.int .i64 0)],oP 34 (.ldRo true 3) [.t 33],lP 35 7 true 5 (.l 7),oP 36 (.call 181) [.t 30,.t 34,.t 35],oP 37 (.bslice 5 [[.int .u8 0,.int .i64 0,.str [],.list true [],.list true []]] [0]) [.t 36],oP 38 (.app 5 80) [.ts 29,.t 37],fP 39 4 (.l 6),xP (.stLc 6 1) [.t 39,.ts 38] 6]
def c7O:=Rg [] [bP 40 .add (.v 10) (.c (.int .i64 1)),vP 10 (.t 40)]
def c5s:=Rg [] [lP 41 6 true 5 (.l 6),xP (.stLc 5 5) [.l 5,.ts 41] 5]
def c5x:=Rg [] [fP 52 2 (.l 4),lP 53 4 false 1 (.t 52),oP 54 (.build [.int .u8 0,.int .i64 0,.str [],.list true [],.list true []] [(0,1),(2,1)]) [.c (.int .u8 8),.t 53],xP (.stLc 5 5) [.l 5,.ts 54] 5]
def c7X:=Ts [] [fP 43 0 (.l 4),lP 44 4 false 1 (.t 43),bP 45 .eql (.t 44) (.c (.int .u8 2)),mP 46 (.t 45),gP 47 .mv [.v 0] 46 true,gP 48 (.fad 0) [.l 3] 46 true,⟨.t 49,.ldLc 3 false 1,[.t 48],some 3,some (.t 46,true)⟩,gP 50 (.call 111) [.t 47,.t 49] 46 true,oP 51 .pick [.t 46,.t 50,.c (.bool false)],mP 42 (.t 51)] (.t 42) (Sq c5x .ret) .skip
def d0Y:=Ts [] [fP 11 0 (.l 4),lP 12 4 false 1 (.t 11),bP 13 .eql (.t 12) (.c (.int .u8 5)),mP 14 (.t 13),gP 15 (.fad 1) [.l 3] 14 true,⟨.t 16,.ldLc 3 false 1,[.t 15],some 3,some (.t 14,true)⟩,gP 17 .lenL [.t 16] 14 true,gP 18 (.bin .gtr) [.t 17,.c (.int .i64 0)] 14 true,oP 19 .pick [.t 14,.t 18,.c (.bool false)],mP 10 (.t 19)] (.t 10) (Sq d8D (Sq (Sq e9Y (Bk 1 (Lp (Sq d72 (Sq (Bk 2 (Sq c3r c3U)) c7O))))) (Sq c5s .ret))) c7X
def c3h:=Rg [] [lP 55 4 true 5 (.l 4),xP (.stLc 5 5) [.l 5,.ts 55] 5]
def g12:ACode :=
  (Sq f4A (Sq (Bk 0 d0Y) (Sq c3h .ret)))
def g4e:AFn:={ np:=3,nv:=11,results:=[.bx 5 true 5],code:=g12 }
def a182s1:=Rg [5,6,7,8] [⟨.bx,.boxV,[.v 1],some 5,none⟩,⟨.bx,.boxV,[.v 2],some 6,none⟩,⟨.bx,.boxV,[.v 3],some 7,none⟩,⟨.bx,.alloc [.int .u8 0,.int .i64 0,.str [],.list true [],.list true []],[],some 8,none⟩,vP 9 (.c (.bool false))]
def a182s3:=Rg [] [nP 14 0,oP 15 .nilchk [.t 14],fP 16 11 (.t 15),oP 17 (.ldSt false 1) [.t 16],oP 18 .lenL [.t 17],vP 10 (.t 18)]
def a182s5:=Rg [11] [nP 19 0,lP 20 5 true 3 (.l 5),lP 21 6 true 5 (.l 6),lP 22 7 true 2 (.l 7),nP 23 4,oP 24 (.call 233) [.t 19,.t 20,.t 21,.t 22,.t 23],⟨.bx,.alloc [.int .u8 0,.int .i64 0,.str [],.list true [],.list true []],[],some 11,none⟩,xP (.stLc 11 5) [.l 11,.ts 24] 11]
def a182s9:=Rg [] [nP 39 0,nP 40 4,oP 41 (.call 234) [.t 39,.t 40,.c (.int .i64 9)]]
def a182s10:=Ts [] [nP 32 0,oP 33 .nilchk [.t 32],fP 34 11 (.t 33),oP 35 (.ldSt false 1) [.t 34],oP 36 .lenL [.t 35],nP 37 10,bP 38 .eql (.t 36) (.t 37)] (.t 38) a182s9 .skip
def a182s12:=Rg [] [oP 42 (.build [.int .u8 0,.int .i64 0,.str [],.list true [],.list true []] []) [],xP (.stLc 8 5) [.l 8,.ts 42] 8,vP 9 (.c (.bool false))]
def a182s15:=Ts [] [fP 25 0 (.l 11),lP 26 11 false 1 (.t 25),bP 27 .eql (.t 26) (.c (.int .u8 0)),mP 28 (.t 27),gP 29 (.fad 2) [.l 5] 28 true,⟨.t 30,.ldLc 5 false 1,[.t 29],some 5,some (.t 28,true)⟩,oP 31 .pick [.t 28,.t 30,.c (.bool false)]] (.t 31) (Sq a182s10 (Sq a182s12 .ret)) .skip
def a182s17:=Rg [] [lP 43 11 true 5 (.l 11),xP (.stLc 8 5) [.l 8,.ts 43] 8,vP 9 (.c (.bool true))]
def a182c:ACode :=
  (Sq a182s1 (Sq a182s3 (Sq a182s5 (Sq a182s15 (Sq a182s17 .ret)))))
def a182:AFn:={ np:=5,nv:=12,results:=[.bx 8 true 5,.v 9],code:=a182c }
def e0e:=Rg [] [op (.v 2) .mv [.c (.str [])],vP 3 (.c (.bool false))]
def e7N:=Rg [] [nP 6 0,nP 7 1,oP 8 (.call 235) [.t 6,.t 7],oP 9 (.ext 0) [.t 8],oP 10 (.ext 1) [.t 8],vP 2 (.t 9),vP 3 (.t 10)]
def f7o:ACode :=
  (Sq e0e (Sq e7N .ret))
def g3R:AFn:={ np:=2,nv:=4,results:=[.v 2,.v 3],code:=f7o }
def e2P:AFn:={ np:=3,nv:=0,results:=[],code:=.skip,ext:=some (Z3 4 80) }
def d6F:=Rg [2] [⟨.bx,.alloc [.int .u8 0,.int .i64 0,.str [],.list true [],.list true []],[],some 2,none⟩]
def f2C:=Rg [3] [nP 10 0,oP 11 .nilchk [.t 10],fP 12 0 (.t 11),oP 13 (.ldSt false 1) [.t 12],nP 14 0,oP 15 .nilchk [.t 14],fP 16 1 (.t 15),oP 17 (.ldSt false 1) [.t 16],oP 18 (.iad 4) [.t 13,.t 17],oP 19 (.ldRo true 4) [.t 18],⟨.bx,.alloc [.int .u8 0,.str [],.int .i64 0,.int .i64 0],[],some 3,none⟩,xP (.stLc 3 4) [.l 3,.t 19] 3]
def e0O:=Rg [] [nP 24 0,oP 25 .nilchk [.t 24],fP 26 1 (.t 25),oP 27 (.ldSt false 1) [.t 26],bP 28 .add (.t 27) (.c (.int .i64 1)),oP 29 .nilchk [.t 24],fP 30 1 (.t 29),op .none (.stSt 1) [.t 30,.t 28]]
def d6A:=Rg [] [fP 31 2 (.l 3),lP 32 3 false 1 (.t 31),oP 33 (.build [.int .u8 0,.int .i64 0,.str [],.list true [],.list true []] [(0,1),(1,1)]) [.c (.int .u8 1),.t 32],xP (.stLc 2 5) [.l 2,.ts 33] 2]
def c1w:=Rg [] [nP 38 0,oP 39 .nilchk [.t 38],fP 40 1 (.t 39),oP 41 (.ldSt false 1) [.t 40],bP 42 .add (.t 41) (.c (.int .i64 1)),oP 43 .nilchk [.t 38],fP 44 1 (.t 43),op .none (.stSt 1) [.t 44,.t 42]]
def d3M:=Rg [] [fP 45 1 (.l 3),lP 46 3 false 1 (.t 45),oP 47 (.build [.int .u8 0,.int .i64 0,.str [],.list true [],.list true []] [(0,1),(2,1)]) [.c (.int .u8 2),.t 46],xP (.stLc 2 5) [.l 2,.ts 47] 2]
def c2K:=Rg [] [oP 51 (.build [.int .u8 0,.int .i64 0,.str [],.list true [],.list true []] [(0,1),(1,1)]) [.c (.int .u8 3),.c (.int .i64 1)],xP (.stLc 2 5) [.l 2,.ts 51] 2]
def c3l:=Rg [] [oP 55 (.build [.int .u8 0,.int .i64 0,.str [],.list true [],.list true []] [(0,1)]) [.c (.int .u8 3)],xP (.stLc 2 5) [.l 2,.ts 55] 2]
def c7W:=Rg [] [oP 59 (.build [.int .u8 0,.int .i64 0,.str [],.list true [],.list true []] []) [],xP (.stLc 2 5) [.l 2,.ts 59] 2]
def c4v:=Rg [] [nP 64 0,oP 65 .nilchk [.t 64],fP 66 1 (.t 65),oP 67 (.ldSt false 1) [.t 66],bP 68 .add (.t 67) (.c (.int .i64 1)),oP 69 .nilchk [.t 64],fP 70 1 (.t 69),op .none (.stSt 1) [.t 70,.t 68]]
def c1y:=Rg [] [fP 71 1 (.l 3),lP 72 3 false 1 (.t 71),oP 73 (.build [.int .u8 0,.int .i64 0,.str [],.list true [],.list true []] [(0,1),(2,1)]) [.c (.int .u8 4),.t 72],xP (.stLc 2 5) [.l 2,.ts 73] 2]
def c38:=Rg [] [nP 81 0,oP 82 .nilchk [.t 81],fP 83 1 (.t 82),oP 84 (.ldSt false 1) [.t 83],bP 85 .add (.t 84) (.c (.int .i64 1)),oP 86 .nilchk [.t 81],fP 87 1 (.t 86),op .none (.stSt 1) [.t 87,.t 85]]
def c4k:=Rg [] [nP 88 0,oP 89 (.call 51) [.t 88],oP 90 (.build [.int .u8 0,.int .i64 0,.str [],.list true [],.list true []] [(0,1),(2,1)]) [.c (.int .u8 7),.t 89],xP (.stLc 2 5) [.l 2,.ts 90] 2]
def c1T:=Rg [4] [oP 94 (.build [.int .u8 0,.int .i64 0,.str [],.list true [],.list true []] [(0,1)]) [.c (.int .u8 5)],⟨.bx,.alloc [.int .u8 0,.int .i64 0,.str [],.list true [],.list true []],[],some 4,none⟩,xP (.stLc 4 5) [.l 4,.ts 94] 4]
def c37:=Ts [] [nP 95 0,oP 96 .nilchk [.t 95],fP 97 4 (.t 96),oP 98 (.ldSt false 1) [.t 97],bP 99 .eql (.t 98) (.c (.int .i64 0)),mP 100 (.t 99),gP 101 .mv [.v 0] 100 true,gP 102 (.call 54) [.t 101,.c (.str [93])] 100 true,gP 103 (.un .not) [.t 102] 100 true,oP 104 .pick [.t 100,.t 103,.c (.bool false)]] (.t 104) .skip (.exit 1)
def d0V:=Rg [5] [nP 105 0,nP 106 1,oP 107 (.call 122) [.t 105,.t 106],⟨.bx,.alloc [.int .u8 0,.int .i64 0,.str [],.list true [],.list true []],[],some 5,none⟩,xP (.stLc 5 5) [.l 5,.ts 107] 5]
def c2C:=Rg [] [fP 108 4 (.l 4),⟨.t 109,.ldLcS 4,[.t 108],some 4,none⟩,lP 110 5 true 5 (.l 5),oP 111 (.bslice 5 [[.int .u8 0,.int .i64 0,.str [],.list true [],.list true []]] [0]) [.t 110],oP 112 (.app 5 80) [.ts 109,.t 111],fP 113 4 (.l 4),xP (.stLc 4 1) [.t 113,.ts 112] 4]
def c9r:=Rg [] [lP 114 4 true 5 (.l 4),xP (.stLc 2 5) [.l 2,.ts 114] 2]
def c1C:=Rg [6] [oP 118 (.build [.int .u8 0,.int .i64 0,.str [],.list true [],.list true []] [(0,1)]) [.c (.int .u8 6)],⟨.bx,.alloc [.int .u8 0,.int .i64 0,.str [],.list true [],.list true []],[],some 6,none⟩,xP (.stLc 6 5) [.l 6,.ts 118] 6]
def d0g:=Ts [] [nP 119 0,oP 120 .nilchk [.t 119],fP 121 4 (.t 120),oP 122 (.ldSt false 1) [.t 121],bP 123 .eql (.t 122) (.c (.int .i64 0)),mP 124 (.t 123),gP 125 .mv [.v 0] 124 true,gP 126 (.call 54) [.t 125,.c (.str [125])] 124 true,gP 127 (.un .not) [.t 126] 124 true,oP 128 .pick [.t 124,.t 127,.c (.bool false)]] (.t 128) .skip (.exit 3)
def c91:=Rg [] [fP 129 3 (.l 6),⟨.t 130,.ldLcS 6,[.t 129],some 6,none⟩,nP 131 0,oP 132 (.call 51) [.t 131],oP 133 (.bslice 1 [[.str []]] [0]) [.t 132],oP 134 (.app 1 16) [.ts 130,.t 133],fP 135 3 (.l 6),xP (.stLc 6 1) [.t 135,.ts 134] 6]
def c7o:=Rg [] [nP 136 0,oP 137 (.call 52) [.t 136,.c (.str [58])]]
def d3L:=Rg [7] [nP 138 0,nP 139 1,oP 140 (.call 122) [.t 138,.t 139],⟨.bx,.alloc [.int .u8 0,.int .i64 0,.str [],.list true [],.list true []],[],some 7,none⟩,xP (.stLc 7 5) [.l 7,.ts 140] 7]
def c43:=Rg [] [fP 141 4 (.l 6),⟨.t 142,.ldLcS 6,[.t 141],some 6,none⟩,lP 143 7 true 5 (.l 7),oP 144 (.bslice 5 [[.int .u8 0,.int .i64 0,.str [],.list true [],.list true []]] [0]) [.t 143],oP 145 (.app 5 80) [.ts 142,.t 144],fP 146 4 (.l 6),xP (.stLc 6 1) [.t 146,.ts 145] 6]
def d2R:=Rg [] [lP 147 6 true 5 (.l 6),xP (.stLc 2 5) [.l 2,.ts 147] 2]
def d0h:=Ts [] [nP 116 0,oP 117 (.call 54) [.t 116,.c (.str [123])],mP 115 (.t 117)] (.t 115) (Sq c1C (Sq (Bk 3 (Lp (Sq d0g (Bk 4 (Sq c91 (Sq c7o (Sq d3L c43))))))) (Sq d2R .ret))) .skip
def c92:=Ts [] [nP 92 0,oP 93 (.call 54) [.t 92,.c (.str [91])],mP 91 (.t 93)] (.t 91) (Sq c1T (Sq (Bk 1 (Lp (Sq c37 (Bk 2 (Sq d0V c2C))))) (Sq c9r .ret))) d0h
def c9P:=Ts [] [nP 75 0,oP 76 (.call 121) [.t 75,.c (.str [36])],mP 77 (.t 76),gP 78 .mv [.v 1] 77 true,gP 79 (.un .not) [.t 78] 77 true,oP 80 .pick [.t 77,.t 79,.c (.bool false)],mP 74 (.t 80)] (.t 74) (Sq c38 (Sq c4k .ret)) c92
def c4K:=Ts [] [fP 61 0 (.l 3),lP 62 3 false 1 (.t 61),bP 63 .eql (.t 62) (.c (.int .u8 1)),mP 60 (.t 63)] (.t 60) (Sq c4v (Sq c1y .ret)) c9P
def c1j:=Ts [] [nP 57 0,oP 58 (.call 54) [.t 57,.c (.str [110,117,108,108])],mP 56 (.t 58)] (.t 56) (Sq c7W .ret) c4K
def d2A:=Ts [] [nP 53 0,oP 54 (.call 54) [.t 53,.c (.str [102,97,108,115,101])],mP 52 (.t 54)] (.t 52) (Sq c3l .ret) c1j
def d1z:=Ts [] [nP 49 0,oP 50 (.call 54) [.t 49,.c (.str [116,114,117,101])],mP 48 (.t 50)] (.t 48) (Sq c2K .ret) d2A
def c3g:=Ts [] [fP 35 0 (.l 3),lP 36 3 false 1 (.t 35),bP 37 .eql (.t 36) (.c (.int .u8 3)),mP 34 (.t 37)] (.t 34) (Sq c1w (Sq d3M .ret)) d1z
def c5y:=Ts [] [fP 21 0 (.l 3),lP 22 3 false 1 (.t 21),bP 23 .eql (.t 22) (.c (.int .u8 2)),mP 20 (.t 23)] (.t 20) (Sq e0O (Sq d6A .ret)) c3g
def c9F:=Rg [] [nP 148 0,oP 149 (.call 50) [.t 148,.c (.int .i64 4)]]
def c0c:=Rg [] [oP 150 (.build [.int .u8 0,.int .i64 0,.str [],.list true [],.list true []] []) [],xP (.stLc 2 5) [.l 2,.ts 150] 2]
def g1S:ACode :=
  (Sq d6F (Sq f2C (Sq (Bk 0 c5y) (Sq c9F (Sq c0c .ret)))))
def g8I:AFn:={ np:=2,nv:=8,results:=[.bx 2 true 5],code:=g1S }
def e8s:=Rg [] [vP 2 (.c (.bool false))]
def e6q:=Rg [] [nP 5 0,nP 6 1,oP 7 (.call 236) [.t 5,.t 6],bP 8 .geq (.t 7) (.c (.int .i64 0)),vP 2 (.t 8)]
def g3u:ACode :=
  (Sq e8s (Sq e6q .ret))
def g5R:AFn:={ np:=2,nv:=3,results:=[.v 2],code:=g3u }
def e7l:=Rg [3] [⟨.bx,.boxV,[.v 0],some 3,none⟩,vP 4 (.c (.bool false))]
def f4q:=Rg [] [oP 5 (.ldSt false 1) [.v 1],fP 6 1 (.v 2),oP 7 (.ldSt false 1) [.t 6],oP 8 (.iad 3) [.t 7,.c (.int .i64 0)],oP 9 (.ldRo true 3) [.t 8],lP 10 3 true 5 (.l 3),oP 11 (.call 128) [.t 5,.t 9,.t 10],oP 12 (.un .not) [.t 11],vP 4 (.t 12)]
def f6z:ACode :=
  (Sq e7l (Sq f4q .ret))
def g6u:AFn:={ np:=3,nv:=5,results:=[.v 4],code:=f6z }
def e0L:=Rg [3] [⟨.bx,.boxV,[.v 1],some 3,none⟩,op (.v 4) .boxO [.v 2],vP 5 (.c (.bool false))]
def e95:=Rg [] [fP 10 3 (.v 4),op (.v 9) (.ldSt false 1) [.t 10],op (.v 10) .lenL [.v 9],vP 11 (.c (.int .i64 0))]
def e9n:=Ts [] [bP 14 .lss (.v 11) (.v 10)] (.t 14) .skip (.exit 0)
def f4t:=Rg [] [nP 15 11,oP 16 (.iad 1) [.v 9,.v 11],oP 17 (.ldAn false 1) [.t 16],vP 6 (.t 15),vP 7 (.t 17)]
def e4y:=Rg [] [fP 18 2 (.l 3),lP 19 3 false 1 (.t 18),oP 20 (.call 60) [.t 19],nP 21 7,oP 22 (.call 57) [.t 20,.t 21],vP 8 (.t 22)]
def c80:=Rg [] [vP 5 (.c (.bool false))]
def c0L:=Ts [] [nP 23 8,bP 24 .lss (.t 23) (.c (.int .i64 0)),mP 25 (.t 24),gP 26 (.fad 3) [.v 4] 25 false,gP 27 (.ldSt false 1) [.t 26] 25 false,gP 28 .mv [.v 6] 25 false,gP 29 (.slL 1 false true) [.t 27,.t 28] 25 false,gP 30 .mv [.v 7] 25 false,gP 31 (.call 27) [.t 29,.t 30] 25 false,oP 32 .pick [.t 25,.c (.bool true),.t 31],mP 33 (.t 32),gP 34 .mv [.v 0] 33 false,gP 35 (.fad 2) [.l 3] 33 false,⟨.t 36,.ldLc 3 false 1,[.t 35],some 3,some (.t 33,false)⟩,gP 37 .mv [.v 8] 33 false,gP 38 (.iad 11) [.t 36,.t 37] 33 false,gP 39 (.fad 2) [.t 38] 33 false,gP 40 (.ldRo true 3) [.t 39] 33 false,gP 41 (.fad 4) [.v 4] 33 false,gP 42 (.ldSt false 1) [.t 41] 33 false,gP 43 .mv [.v 6] 33 false,gP 44 (.iad 5) [.t 42,.t 43] 33 false,gP 45 (.ldAn true 5) [.t 44] 33 false,gP 46 (.call 128) [.t 34,.t 40,.t 45] 33 false,gP 47 (.un .not) [.t 46] 33 false,oP 48 .pick [.t 33,.c (.bool true),.t 47]] (.t 48) (Sq c80 .ret) .skip
def c9q:=Rg [] [bP 49 .add (.v 11) (.c (.int .i64 1)),vP 11 (.t 49)]
def c94:=Rg [] [fP 50 2 (.l 3),lP 51 3 false 1 (.t 50),oP 52 (.mkF 237 0) [.v 4],oP 53 (.call 129) [.t 51,.t 52],oP 54 (.un .not) [.t 53],vP 5 (.t 54)]
def g0q:ACode :=
  (Sq e0L (Sq (Sq e95 (Bk 0 (Lp (Sq e9n (Sq (Bk 1 (Sq f4t (Sq e4y c0L))) c9q))))) (Sq c94 .ret)))
def g44:AFn:={ np:=3,nv:=12,results:=[.v 5],code:=g0q }
def f38:=Rg [] [vP 3 (.c (.bool false))]
def f3w:=Rg [] [vP 3 (.c (.bool false))]
def d5M:=Ts [] [nP 10 0,oP 11 .lenL [.t 10],nP 12 1,oP 13 .lenL [.t 12],bP 14 .neq (.t 11) (.t 13)] (.t 14) (Sq f3w .ret) .skip
def f0c:=Rg [] [vP 7 (.v 0),op (.v 8) .lenL [.v 7],vP 9 (.c (.int .i64 0))]
def d3w:=Ts [] [bP 18 .lss (.v 9) (.v 8)] (.t 18) .skip (.exit 0)
def d2z:=Rg [5] [nP 19 9,oP 20 (.iad 3) [.v 7,.v 9],oP 21 (.ldRo true 3) [.t 20],⟨.bx,.alloc [.str [],.list true [],.bool false],[],some 5,none⟩,vP 4 (.t 19),xP (.stLc 5 3) [.l 5,.ts 21] 5]
def c1R:=Rg [6] [nP 22 1,nP 23 4,oP 24 (.iad 3) [.t 22,.t 23],oP 25 (.ldRo true 3) [.t 24],⟨.bx,.alloc [.str [],.list true [],.bool false],[],some 6,none⟩,xP (.stLc 6 3) [.l 6,.ts 25] 6]
def c9J:=Rg [] [vP 3 (.c (.bool false))]
def d2D:=Ts [] [nP 26 2,lP 27 5 true 3 (.l 5),lP 28 6 true 3 (.l 6),oP 29 .callV [.t 26,.t 27,.t 28],oP 30 (.un .not) [.t 29]] (.t 30) (Sq c9J .ret) .skip
def c1x:=Rg [] [bP 31 .add (.v 9) (.c (.int .i64 1)),vP 9 (.t 31)]
def c5j:=Rg [] [vP 3 (.c (.bool true))]
def g2Y:ACode :=
  (Sq f38 (Sq d5M (Sq (Sq f0c (Bk 0 (Lp (Sq d3w (Sq (Bk 1 (Sq d2z (Sq c1R d2D))) c1x))))) (Sq c5j .ret))))
def g5x:AFn:={ np:=3,nv:=10,results:=[.v 3],code:=g2Y }
def e9a:AFn:={ np:=2,nv:=0,results:=[],code:=.skip,ext:=some (a2V) }
def d9m:=Rg [] [vP 1 (.c (.bool false))]
def d5d:=Rg [] [nP 3 0,bP 4 .eql (.t 3) (.c (.int .u8 95)),mP 5 (.t 4),gP 6 .mv [.v 0] 5 false,gP 7 (.bin .or) [.t 6,.c (.int .u8 32)] 5 false,gP 8 (.bin .geq) [.t 7,.c (.int .u8 97)] 5 false,gP 9 .mv [.t 8] 5 false,gP 10 .mv [.v 0] 9 true,gP 11 (.bin .or) [.t 10,.c (.int .u8 32)] 9 true,gP 12 (.bin .leq) [.t 11,.c (.int .u8 122)] 9 true,gP 13 .pick [.t 9,.t 12,.c (.bool false)] 5 false,oP 14 .pick [.t 5,.c (.bool true),.t 13],vP 1 (.t 14)]
def f5i:ACode :=
  (Sq d9m (Sq d5d .ret))
def g6o:AFn:={ np:=1,nv:=2,results:=[.v 1],code:=f5i }
def e6t:=Rg [] [vP 1 (.c (.bool false))]
def e94:=Rg [] [nP 3 0,oP 4 (.call 192) [.t 3],mP 5 (.t 4),gP 6 .mv [.v 0] 5 false,gP 7 (.call 194) [.t 6] 5 false,oP 8 .pick [.t 5,.c (.bool true),.t 7],vP 1 (.t 8)]
def g3f:ACode :=
  (Sq e6t (Sq e94 .ret))
def g72:AFn:={ np:=1,nv:=2,results:=[.v 1],code:=g3f }
def e8y:=Rg [] [vP 1 (.c (.bool false))]
def d56:=Rg [] [nP 3 0,bP 4 .geq (.t 3) (.c (.int .u8 48)),mP 5 (.t 4),gP 6 .mv [.v 0] 5 true,gP 7 (.bin .leq) [.t 6,.c (.int .u8 57)] 5 true,oP 8 .pick [.t 5,.t 7,.c (.bool false)],vP 1 (.t 8)]
def g2E:ACode :=
  (Sq e8y (Sq d56 .ret))
def g82:AFn:={ np:=1,nv:=2,results:=[.v 1],code:=g2E }
def f4h:=Rg [1] [⟨.bx,.alloc [.int .u8 0,.str [],.int .i64 0,.int .i64 0],[],some 1,none⟩,vP 2 (.c (.int .i64 0)),vP 3 (.c (.int .i64 0)),vP 4 (.c (.int .i64 0))]
def f2J:=Rg [] [vP 5 (.c (.int .i64 0))]
def e7v:=Rg [] [vP 5 (.c (.int .i64 1))]
def e3R:=Ts [] [nP 10 0,oP 11 .idxS [.t 10,.c (.int .i64 0)],bP 12 .eql (.t 11) (.c (.int .u8 45))] (.t 12) e7v .skip
def e82:=Rg [] [nP 13 5,nP 14 0,nP 15 5,oP 16 (.slS true false) [.t 14,.t 15],oP 17 (.call 140) [.t 16,.c (.func 194 [] [])],bP 18 .add (.t 13) (.t 17),vP 6 (.t 18)]
def c3D:=Rg [] [oP 23 (.build [.int .u8 0,.str [],.int .i64 0,.int .i64 0] []) [],nP 24 6,xP (.stLc 1 4) [.l 1,.t 23] 1,vP 2 (.c (.int .i64 0)),vP 3 (.t 24),vP 4 (.c (.int .i64 4))]
def c5F:=Rg [] [oP 36 (.build [.int .u8 0,.str [],.int .i64 0,.int .i64 0] []) [],nP 37 5,bP 38 .add (.t 37) (.c (.int .i64 1)),xP (.stLc 1 4) [.l 1,.t 36] 1,vP 2 (.c (.int .i64 0)),vP 3 (.t 38),vP 4 (.c (.int .i64 4))]
def c4O:=Rg [] [oP 56 (.build [.int .u8 0,.str [],.int .i64 0,.int .i64 0] []) [],nP 57 6,xP (.stLc 1 4) [.l 1,.t 56] 1,vP 2 (.c (.int .i64 0)),vP 3 (.t 57),vP 4 (.c (.int .i64 4))]
def c4x:=Rg [] [oP 63 (.build [.int .u8 0,.str [],.int .i64 0,.int .i64 0] []) [],xP (.stLc 1 4) [.l 1,.t 63] 1,vP 2 (.c (.int .i64 0)),vP 3 (.c (.int .i64 0)),vP 4 (.c (.int .i64 1))]
def c5I:=Ts [] [nP 59 6,nP 60 5,bP 61 .sub (.t 59) (.t 60),bP 62 .gtr (.t 61) (.c (.int .i64 18)),mP 58 (.t 62)] (.t 58) (Sq c4x .ret) .skip
def c9E:=Ts [] [nP 40 6,nP 41 0,oP 42 .lenS [.t 41],bP 43 .lss (.t 40) (.t 42),mP 44 (.t 43),gP 45 .mv [.v 0] 44 true,gP 46 .mv [.v 6] 44 true,gP 47 .idxS [.t 45,.t 46] 44 true,gP 48 (.call 192) [.t 47] 44 true,gP 49 .mv [.t 48] 44 true,gP 50 .mv [.v 0] 49 false,gP 51 .mv [.v 6] 49 false,gP 52 .idxS [.t 50,.t 51] 49 false,gP 53 (.bin .eql) [.t 52,.c (.int .u8 46)] 49 false,gP 54 .pick [.t 49,.c (.bool true),.t 53] 44 true,oP 55 .pick [.t 44,.t 54,.c (.bool false)],mP 39 (.t 55)] (.t 39) (Sq c4O .ret) c5I
def c1F:=Ts [] [nP 26 0,nP 27 5,oP 28 .idxS [.t 26,.t 27],bP 29 .eql (.t 28) (.c (.int .u8 48)),mP 30 (.t 29),gP 31 .mv [.v 6] 30 true,gP 32 .mv [.v 5] 30 true,gP 33 (.bin .add) [.t 32,.c (.int .i64 1)] 30 true,gP 34 (.bin .gtr) [.t 31,.t 33] 30 true,oP 35 .pick [.t 30,.t 34,.c (.bool false)],mP 25 (.t 35)] (.t 25) (Sq c5F .ret) c9E
def c0U:=Ts [] [nP 20 6,nP 21 5,bP 22 .eql (.t 20) (.t 21),mP 19 (.t 22)] (.t 19) (Sq c3D .ret) c1F
def c5i:=Rg [] [nP 65 0,nP 66 6,oP 67 (.slS false true) [.t 65,.t 66],oP 68 (.call 239) [.t 67,.c (.int .i64 10),.c (.int .i64 64)],mP 64 (.t 68),oP 69 (.ext 0) [.t 64],oP 70 (.ext 1) [.t 64],vP 7 (.t 69),mP 9 (.t 70)]
def c4j:=Rg [] [nP 71 0,nP 72 6,oP 73 (.slS false true) [.t 71,.t 72],nP 74 7,oP 75 (.build [.int .u8 0,.str [],.int .i64 0,.int .i64 0] [(0,1),(1,1),(2,1)]) [.c (.int .u8 2),.t 73,.t 74],nP 76 6,xP (.stLc 1 4) [.l 1,.t 75] 1,vP 2 (.t 76),vP 3 (.c (.int .i64 0)),vP 4 (.c (.int .i64 0))]
def f8f:ACode :=
  (Sq f4h (Sq f2J (Sq e3R (Sq e82 (Sq (Bk 0 c0U) (Sq c5i (Sq c4j .ret)))))))
def g6E:AFn:={ np:=1,nv:=8,results:=[.bx 1 true 4,.v 2,.v 3,.v 4],code:=f8f }
def d49:AFn:={ np:=1,nv:=0,results:=[],code:=.skip,ext:=some (a3j) }
def d95:=Rg [] [op (.v 1) .mv [.c (.list true [])]]
def e5G:=Rg [] [op (.v 2) .mv [.c (.list true [])]]
def f3k:=Ts [] [nP 4 0,oP 5 (.call 87) [.t 4,.c (.str [64])]] (.t 5) .skip (.exit 0)
def e0V:=Rg [] [mP 6 (.vs 2),nP 7 0,oP 8 (.call 151) [.t 7],nP 9 0,oP 10 (.call 198) [.t 9],oP 11 (.build [.str [],.list true []] [(0,1),(1,1)]) [.t 8,.t 10],oP 12 (.bslice 2 [[.str [],.list true []]] [0]) [.t 11],oP 13 (.app 2 40) [.ts 6,.t 12],vP 2 (.ts 13)]
def d2k:=Rg [] [nP 14 2,vP 1 (.ts 14)]
def f91:ACode :=
  (Sq d95 (Sq e5G (Sq (Bk 0 (Lp (Sq f3k (Bk 1 e0V)))) (Sq d2k .ret))))
def g9t:AFn:={ np:=1,nv:=3,results:=[.v 1],code:=f91 }
def e5j:=Rg [] [op (.v 1) .boxO [.v 0],op (.v 2) .mv [.c (.list true [])]]
def f4m:=Rg [] [op (.v 2) .mv [.c (.list true [])]]
def d4M:=Ts [] [oP 3 (.ldSt false 1) [.v 1],oP 4 (.call 85) [.t 3,.c (.str [40])],oP 5 (.un .not) [.t 4]] (.t 5) (Sq f4m .ret) .skip
def f4r:=Rg [] [oP 6 (.ldSt false 1) [.v 1],oP 7 (.mkF 244 0) [.v 1],oP 8 (.call 243) [.t 6,.c (.str [40]),.c (.str [41]),.t 7],vP 2 (.ts 8)]
def f7x:ACode :=
  (Sq e5j (Sq d4M (Sq f4r .ret)))
def g9g:AFn:={ np:=1,nv:=3,results:=[.v 2],code:=f7x }
def e25:=Rg [1] [⟨.bx,.alloc [.str [],.list true [],.bool false],[],some 1,none⟩]
def e1k:=Rg [] [nP 4 0,oP 5 (.call 145) [.t 4]]
def e5U:=Rg [] [op .none (.call 146) [.v 3]]
def f2K:=Rg [] [vP 3 (.v 0)]
def d8w:=Rg [2] [⟨.bx,.alloc [.str [],.list true [],.bool false],[],some 2,none⟩]
def c8N:=Rg [] [nP 9 0,oP 10 (.call 199) [.t 9],oP 11 (.bslice 3 [[.str [],.list true [],.bool false]] [0]) [.t 10],fP 12 1 (.l 2),xP (.stLc 2 1) [.t 12,.ts 11] 2]
def c1H:=Rg [] [nP 13 0,oP 14 (.call 152) [.t 13,.c (.str [93])]]
def c84:=Rg [] [nP 15 0,oP 16 (.call 151) [.t 15],fP 17 0 (.l 2),xP (.stLc 2 1) [.t 17,.t 16] 2]
def c8q:=Ts [] [nP 7 0,oP 8 (.call 87) [.t 7,.c (.str [91])]] (.t 8) (Sq c8N c1H) c84
def c9W:=Rg [] [nP 18 0,oP 19 (.call 87) [.t 18,.c (.str [33])],fP 20 2 (.l 2),xP (.stLc 2 1) [.t 20,.t 19] 2]
def c5d:=Rg [] [lP 21 2 true 3 (.l 2),xP (.stLc 1 3) [.l 1,.ts 21] 1]
def f85:ACode :=
  (Sq e25 (Sq e1k (Sq f2K (Sq (Bk 900000 (Sq d8w (Sq c8q (Sq c9W (Sq c5d (.exit 900000)))))) e5U))))
def d7b:AFn:={ np:=1,nv:=4,results:=[.bx 1 true 3],code:=f85 }
def e8z:=Rg [2] [⟨.bx,.alloc [.int .u8 0,.int .i64 0,.str [],.list true [],.list true []],[],some 2,none⟩]
def e5s:=Rg [] [nP 8 0,oP 9 (.call 145) [.t 8]]
def e7O:=Rg [] [op .none (.call 146) [.v 6]]
def e3f:=Rg [] [vP 6 (.v 0)]
def d7c:=Rg [3] [nP 11 0,oP 12 .nilchk [.t 11],fP 13 0 (.t 12),oP 14 (.ldSt false 1) [.t 13],nP 15 0,oP 16 .nilchk [.t 15],fP 17 1 (.t 16),oP 18 (.ldSt false 1) [.t 17],oP 19 (.iad 4) [.t 14,.t 18],oP 20 (.ldRo true 4) [.t 19],⟨.bx,.alloc [.int .u8 0,.str [],.int .i64 0,.int .i64 0],[],some 3,none⟩,xP (.stLc 3 4) [.l 3,.t 20] 3]
def c4W:=Rg [] [nP 25 0,oP 26 .nilchk [.t 25],fP 27 1 (.t 26),oP 28 (.ldSt false 1) [.t 27],bP 29 .add (.t 28) (.c (.int .i64 1)),oP 30 .nilchk [.t 25],fP 31 1 (.t 30),op .none (.stSt 1) [.t 31,.t 29]]
def d3I:=Rg [] [fP 32 2 (.l 3),lP 33 3 false 1 (.t 32),oP 34 (.build [.int .u8 0,.int .i64 0,.str [],.list true [],.list true []] [(0,1),(1,1)]) [.c (.int .u8 1),.t 33],xP (.stLc 2 5) [.l 2,.ts 34] 2]
def d1H:=Rg [] [nP 39 0,oP 40 .nilchk [.t 39],fP 41 1 (.t 40),oP 42 (.ldSt false 1) [.t 41],bP 43 .add (.t 42) (.c (.int .i64 1)),oP 44 .nilchk [.t 39],fP 45 1 (.t 44),op .none (.stSt 1) [.t 45,.t 43]]
def d1c:=Rg [] [fP 46 1 (.l 3),lP 47 3 false 1 (.t 46),oP 48 (.build [.int .u8 0,.int .i64 0,.str [],.list true [],.list true []] [(0,1),(2,1)]) [.c (.int .u8 2),.t 47],xP (.stLc 2 5) [.l 2,.ts 48] 2]
def c5R:=Rg [] [oP 52 (.build [.int .u8 0,.int .i64 0,.str [],.list true [],.list true []] [(0,1),(1,1)]) [.c (.int .u8 3),.c (.int .i64 1)],xP (.stLc 2 5) [.l 2,.ts 52] 2]
def c5V:=Rg [] [oP 56 (.build [.int .u8 0,.int .i64 0,.str [],.list true [],.list true []] [(0,1)]) [.c (.int .u8 3)],xP (.stLc 2 5) [.l 2,.ts 56] 2]
def c0H:=Rg [] [oP 60 (.build [.int .u8 0,.int .i64 0,.str [],.list true [],.list true []] []) [],xP (.stLc 2 5) [.l 2,.ts 60] 2]
def c2I:=Rg [] [nP 65 0,oP 66 .nilchk [.t 65],fP 67 1 (.t 66),oP 68 (.ldSt false 1) [.t 67],bP 69 .add (.t 68) (.c (.int .i64 1)),oP 70 .nilchk [.t 65],fP 71 1 (.t 70),op .none (.stSt 1) [.t 71,.t 69]]
def c2j:=Rg [] [fP 72 1 (.l 3),lP 73 3 false 1 (.t 72),oP 74 (.build [.int .u8 0,.int .i64 0,.str [],.list true [],.list true []] [(0,1),(2,1)]) [.c (.int .u8 4),.t 73],xP (.stLc 2 5) [.l 2,.ts 74] 2]
def c3p:=Rg [] [nP 82 0,oP 83 (.call 151) [.t 82],oP 84 (.build [.int .u8 0,.int .i64 0,.str [],.list true [],.list true []] [(0,1),(2,1)]) [.c (.int .u8 7),.t 83],xP (.stLc 2 5) [.l 2,.ts 84] 2]
def c0V:=Rg [4] [oP 88 (.build [.int .u8 0,.int .i64 0,.str [],.list true [],.list true []] [(0,1)]) [.c (.int .u8 5)],⟨.bx,.alloc [.int .u8 0,.int .i64 0,.str [],.list true [],.list true []],[],some 4,none⟩,xP (.stLc 4 5) [.l 4,.ts 88] 4]
def c2c:=Ts [] [nP 89 0,oP 90 (.call 87) [.t 89,.c (.str [93])],oP 91 (.un .not) [.t 90]] (.t 91) .skip (.exit 1)
def c9G:=Rg [] [fP 92 4 (.l 4),⟨.t 93,.ldLcS 4,[.t 92],some 4,none⟩,nP 94 0,nP 95 1,oP 96 (.call 200) [.t 94,.t 95],oP 97 (.bslice 5 [[.int .u8 0,.int .i64 0,.str [],.list true [],.list true []]] [0]) [.t 96],oP 98 (.app 5 80) [.ts 93,.t 97],fP 99 4 (.l 4),xP (.stLc 4 1) [.t 99,.ts 98] 4]
def c1L:=Rg [] [lP 100 4 true 5 (.l 4),xP (.stLc 2 5) [.l 2,.ts 100] 2]
def c6j:=Rg [5] [oP 104 (.build [.int .u8 0,.int .i64 0,.str [],.list true [],.list true []] [(0,1)]) [.c (.int .u8 6)],⟨.bx,.alloc [.int .u8 0,.int .i64 0,.str [],.list true [],.list true []],[],some 5,none⟩,xP (.stLc 5 5) [.l 5,.ts 104] 5]
def c9g:=Ts [] [nP 105 0,oP 106 (.call 87) [.t 105,.c (.str [125])],oP 107 (.un .not) [.t 106]] (.t 107) .skip (.exit 3)
def c5e:=Rg [] [fP 108 3 (.l 5),⟨.t 109,.ldLcS 5,[.t 108],some 5,none⟩,nP 110 0,oP 111 (.call 151) [.t 110],oP 112 (.bslice 1 [[.str []]] [0]) [.t 111],oP 113 (.app 1 16) [.ts 109,.t 112],fP 114 3 (.l 5),xP (.stLc 5 1) [.t 114,.ts 113] 5]
def c2W:=Rg [] [nP 115 0,oP 116 (.call 152) [.t 115,.c (.str [58])]]
def c8Z:=Rg [] [fP 117 4 (.l 5),⟨.t 118,.ldLcS 5,[.t 117],some 5,none⟩,nP 119 0,nP 120 1,oP 121 (.call 200) [.t 119,.t 120],oP 122 (.bslice 5 [[.int .u8 0,.int .i64 0,.str [],.list true [],.list true []]] [0]) [.t 121],oP 123 (.app 5 80) [.ts 118,.t 122],fP 124 4 (.l 5),xP (.stLc 5 1) [.t 124,.ts 123] 5]
def d0z:=Rg [] [lP 125 5 true 5 (.l 5),xP (.stLc 2 5) [.l 2,.ts 125] 2]
def c4w:=Ts [] [nP 102 0,oP 103 (.call 87) [.t 102,.c (.str [123])],mP 101 (.t 103)] (.t 101) (Sq c6j (Sq (Bk 3 (Lp (Sq c9g (Bk 4 (Sq c5e (Sq c2W c8Z)))))) (Sq d0z (.exit 900000)))) .skip
def c8o:=Ts [] [nP 86 0,oP 87 (.call 87) [.t 86,.c (.str [91])],mP 85 (.t 87)] (.t 85) (Sq c0V (Sq (Bk 1 (Lp (Sq c2c (Bk 2 c9G)))) (Sq c1L (.exit 900000)))) c4w
def c2S:=Ts [] [nP 76 1,oP 77 (.un .not) [.t 76],mP 78 (.t 77),gP 79 .mv [.v 0] 78 true,gP 80 (.call 87) [.t 79,.c (.str [36])] 78 true,oP 81 .pick [.t 78,.t 80,.c (.bool false)],mP 75 (.t 81)] (.t 75) (Sq c3p (.exit 900000)) c8o
def d31:=Ts [] [fP 62 0 (.l 3),lP 63 3 false 1 (.t 62),bP 64 .eql (.t 63) (.c (.int .u8 1)),mP 61 (.t 64)] (.t 61) (Sq c2I (Sq c2j (.exit 900000))) c2S
def c4i:=Ts [] [nP 58 0,oP 59 (.call 87) [.t 58,.c (.str [110,117,108,108])],mP 57 (.t 59)] (.t 57) (Sq c0H (.exit 900000)) d31
def d2X:=Ts [] [nP 54 0,oP 55 (.call 87) [.t 54,.c (.str [102,97,108,115,101])],mP 53 (.t 55)] (.t 53) (Sq c5V (.exit 900000)) c4i
def c5n:=Ts [] [nP 50 0,oP 51 (.call 87) [.t 50,.c (.str [116,114,117,101])],mP 49 (.t 51)] (.t 49) (Sq c5R (.exit 900000)) d2X
def c1P:=Ts [] [fP 36 0 (.l 3),lP 37 3 false 1 (.t 36),bP 38 .eql (.t 37) (.c (.int .u8 3)),mP 35 (.t 38)] (.t 35) (Sq d1H (Sq d1c (.exit 900000))) c5n
def d1e:=Ts [] [fP 22 0 (.l 3),lP 23 3 false 1 (.t 22),bP 24 .eql (.t 23) (.c (.int .u8 2)),mP 21 (.t 24)] (.t 21) (Sq c4W (Sq d3I (.exit 900000))) c1P
def c0O:=Rg [] [nP 126 0,oP 127 (.call 150) [.t 126,.c (.int .i64 4)]]
def c6u:=Rg [] [oP 128 (.build [.int .u8 0,.int .i64 0,.str [],.list true [],.list true []] []) [],xP (.stLc 2 5) [.l 2,.ts 128] 2]
def g0p:ACode :=
  (Sq e8z (Sq e5s (Sq e3f (Sq (Bk 900000 (Sq d7c (Sq (Bk 0 d1e) (Sq c0O (Sq c6u (.exit 900000)))))) e7O))))
def e9U:AFn:={ np:=2,nv:=7,results:=[.bx 2 true 5],code:=g0p }
def d5V:=Rg [] [vP 5 (.v 2),op (.v 6) .lenL [.v 5],vP 7 (.c (.int .i64 0))]
def e5Z:=Ts [] [bP 12 .lss (.v 7) (.v 6)] (.t 12) .skip (.exit 0)
def e23:=Rg [] [oP 13 (.iad 6) [.v 5,.v 7],oP 14 (.ldRo true 6) [.t 13],op (.v 3) (.allocO [.str [],.int .u8 0,.int .i64 0,.str [],.list true [],.list true []]) [],op .none (.stSt 6) [.v 3,.ts 14]]
def e7n:=Rg [] [nP 15 1,oP 16 (.mkF 245 0) [.v 3],oP 17 (.call 178) [.t 15,.t 16],vP 4 (.t 17)]
def c8s:=Rg [] [nP 20 0,fP 21 1 (.v 3),oP 22 (.ldSt true 5) [.t 21],oP 23 (.call 246) [.t 20,.c (.nilp),.c (.bool false),.t 22]]
def c8r:=Rg [] [nP 24 0,nP 25 1,nP 26 4,oP 27 (.iad 11) [.t 25,.t 26],fP 28 2 (.t 27),nP 29 1,nP 30 4,oP 31 (.iad 11) [.t 29,.t 30],fP 32 5 (.t 31),oP 33 (.ldRo false 1) [.t 32],fP 34 1 (.v 3),oP 35 (.ldSt true 5) [.t 34],oP 36 (.call 246) [.t 24,.t 28,.t 33,.t 35]]
def c2P:=Ts [] [nP 18 4,bP 19 .lss (.t 18) (.c (.int .i64 0))] (.t 19) c8s c8r
def d38:=Rg [] [bP 37 .add (.v 7) (.c (.int .i64 1)),vP 7 (.t 37)]
def f53:ACode :=
  (Sq d5V (Bk 0 (Lp (Sq e5Z (Sq (Bk 1 (Sq e23 (Sq e7n c2P))) d38)))))
def g7V:AFn:={ np:=3,nv:=8,results:=[],code:=f53 }
def e2G:=Rg [] [op (.v 3) .mv [.c (.list true [])]]
def d7y:=Rg [] [op (.v 4) .mv [.c (.list true [])]]
def e4P:=Rg [] [vP 8 (.v 1),op (.v 9) .lenL [.v 8],vP 10 (.c (.int .i64 0))]
def d8e:=Ts [] [bP 15 .lss (.v 10) (.v 9)] (.t 15) .skip (.exit 0)
def f3U:=Rg [5] [oP 16 (.iad 7) [.v 8,.v 10],oP 17 (.ldAn true 7) [.t 16],⟨.bx,.alloc [.int .u8 0,.str [],.str [],.str [],.list true [],.list true [],.list true []],[],some 5,none⟩,xP (.stLc 5 7) [.l 5,.ts 17] 5]
def c1a:=Rg [] [fP 18 0 (.l 5),⟨.v 11,.ldLc 5 false 1,[.t 18],some 5,none⟩]
def c3K:=Rg [] [mP 29 (.vs 4),lP 30 5 true 7 (.l 5),oP 31 (.bslice 7 [[.int .u8 0,.str [],.str [],.str [],.list true [],.list true [],.list true []]] [0]) [.t 30],oP 32 (.app 7 128) [.ts 29,.t 31],vP 4 (.ts 32)]
def c2F:=Rg [6] [nP 36 0,fP 37 2 (.l 5),lP 38 5 false 1 (.t 37),oP 39 (.call 155) [.t 36,.t 38],mP 35 (.t 39),oP 40 (.ext 0) [.t 35],oP 41 (.ext 1) [.t 35],⟨.bx,.alloc [.str [],.str [],.list true []],[],some 6,none⟩,xP (.stLc 6 3) [.l 6,.ts 40] 6,vP 7 (.t 41)]
def c3w:=Rg [] [nP 52 2,nP 53 2,oP 54 .nilchk [.t 53],oP 55 .ldStS [.t 54],fP 56 2 (.l 5),lP 57 5 false 1 (.t 56),oP 58 (.bslice 1 [[.str []]] [0]) [.t 57],oP 59 (.app 1 16) [.ts 55,.t 58],oP 60 .nilchk [.t 52],op .none (.stSt 1) [.t 60,.ts 59]]
def c7g:=Rg [] [mP 61 (.vs 4),nP 62 0,fP 63 2 (.l 6),lP 64 6 false 1 (.t 63),nP 65 2,oP 66 (.call 202) [.t 62,.t 64,.t 65],oP 67 (.app 7 128) [.ts 61,.t 66],vP 4 (.ts 67)]
def d2d:=Ts [] [nP 42 7,mP 43 (.t 42),gP 44 .mv [.v 2] 43 true,gP 45 .nilchk [.t 44] 43 true,gP 46 (.ldSt false 1) [.t 45] 43 true,gP 47 (.fad 2) [.l 5] 43 true,⟨.t 48,.ldLc 5 false 1,[.t 47],some 5,some (.t 43,true)⟩,gP 49 (.call 27) [.t 46,.t 48] 43 true,gP 50 (.un .not) [.t 49] 43 true,oP 51 .pick [.t 43,.t 50,.c (.bool false)]] (.t 51) (Sq c3w c7g) .skip
def c56:=Rg [] [mP 20 (.vs 4),nP 21 0,fP 22 6 (.l 5),lP 23 5 false 1 (.t 22),nP 24 2,oP 25 (.call 202) [.t 21,.t 23,.t 24],oP 26 (.app 7 128) [.ts 20,.t 25],vP 4 (.ts 26)]
def d2S:=Ts [] [bP 34 .eql (.v 11) (.c (.int .u8 2)),mP 33 (.t 34)] (.t 33) (Sq c2F d2d) c56
def c4n:=Ts [] [bP 28 .eql (.v 11) (.c (.int .u8 1)),mP 27 (.t 28)] (.t 27) c3K d2S
def c7B:=Rg [] [bP 68 .add (.v 10) (.c (.int .i64 1)),vP 10 (.t 68)]
def c30:=Rg [] [nP 69 4,vP 3 (.ts 69)]
def f43:ACode :=
  (Sq e2G (Sq d7y (Sq (Sq e4P (Bk 0 (Lp (Sq d8e (Sq (Bk 1 (Sq f3U (Sq c1a (Bk 2 c4n)))) c7B))))) (Sq c30 .ret))))
def g9j:AFn:={ np:=3,nv:=12,results:=[.v 3],code:=f43 }
def e7x:=Rg [] [vP 2 (.c (.int .i64 0))]
def e4J:=Rg [] [nP 6 0,op (.v 4) .lenL [.t 6],vP 5 (.c (.int .i64 0))]
def e1t:=Ts [] [bP 9 .lss (.v 5) (.v 4)] (.t 9) .skip (.exit 0)
def f18:=Rg [] [nP 10 5,vP 3 (.t 10)]
def d3W:=Rg [] [nP 17 3,vP 2 (.t 17)]
def c5b:=Ts [] [nP 11 1,nP 12 0,nP 13 3,oP 14 (.iad 7) [.t 12,.t 13],oP 15 (.ldAn true 7) [.t 14],oP 16 .callV [.t 11,.t 15]] (.t 16) (Sq d3W .ret) .skip
def c2O:=Rg [] [bP 18 .add (.v 5) (.c (.int .i64 1)),vP 5 (.t 18)]
def d3O:=Rg [] [vP 2 (.c (.int .i64 (-1)))]
def g1I:ACode :=
  (Sq e7x (Sq (Sq e4J (Bk 0 (Lp (Sq e1t (Sq (Bk 1 (Sq f18 c5b)) c2O))))) (Sq d3O .ret)))
def g4c:AFn:={ np:=2,nv:=6,results:=[.v 2],code:=g1I }
def a4o:=Rg [2] [⟨.bx,.boxV,[.v 0],some 2,none⟩,vP 3 (.c (.bool false))]
def a204r2:List AOper:=[
 lP 4 2 true 7 (.l 2),
 oP 6 (.ldStR true 7) [.v 1,.v 1],
 oP 5 (.callA 205 1) [.t 4,.v 1],
 oP 7 (.call 205) [.t 6],
 bP 8 .eql (.t 5) (.t 7),
 vP 3 (.t 8)]
def d4o:=Rg [1000000,1000002,1000001,1000003,1000004,1000005] a204r2
def f5u:ACode :=
  (Sq a4o (Sq d4o .ret))
def a204:AFn:={ np:=2,nv:=4,results:=[.v 3],code:=f5u }
def f1Z:=Rg [1] [⟨.bx,.boxV,[.v 0],some 1,none⟩,op (.v 2) .mv [.c (.str [])]]
def e4V:=Rg [] [fP 6 1 (.l 1),lP 7 1 false 1 (.t 6),vP 2 (.t 7)]
def d7E:=Ts [] [fP 3 1 (.l 1),lP 4 1 false 1 (.t 3),oP 5 (.bin .neq) [.t 4,.c (.str [])]] (.t 5) (Sq e4V .ret) .skip
def d6M:=Rg [] [fP 8 2 (.l 1),lP 9 1 false 1 (.t 8),vP 2 (.t 9)]
def g0P:ACode :=
  (Sq f1Z (Sq d7E (Sq d6M .ret)))
def a205:AFn:={ np:=1,nv:=3,results:=[.v 2],code:=g0P }
def e0r:=Rg [2,3] [⟨.bx,.boxV,[.v 0],some 2,none⟩,⟨.bx,.boxV,[.v 1],some 3,none⟩,vP 4 (.c (.bool false))]
def e4A:=Rg [] [fP 5 2 (.l 2),lP 6 2 false 1 (.t 5),fP 7 2 (.l 3),lP 8 3 false 1 (.t 7),bP 9 .eql (.t 6) (.t 8),mP 10 (.t 9),gP 11 (.fad 4) [.l 2] 10 true,⟨.t 12,.ldLc 2 false 1,[.t 11],some 2,some (.t 10,true)⟩,gP 13 (.fad 4) [.l 3] 10 true,⟨.t 14,.ldLc 3 false 1,[.t 13],some 3,some (.t 10,true)⟩,gP 15 (.call 247) [.t 12,.t 14] 10 true,oP 16 .pick [.t 10,.t 15,.c (.bool false)],mP 17 (.t 16),gP 18 (.fad 6) [.l 2] 17 true,⟨.t 19,.ldLc 2 false 1,[.t 18],some 2,some (.t 17,true)⟩,gP 20 (.fad 6) [.l 3] 17 true,⟨.t 21,.ldLc 3 false 1,[.t 20],some 3,some (.t 17,true)⟩,gP 22 (.call 248) [.t 19,.t 21,.c (.func 249 [] [])] 17 true,oP 23 .pick [.t 17,.t 22,.c (.bool false)],vP 4 (.t 23)]
def f8V:ACode :=
  (Sq e0r (Sq e4A .ret))
def g6a:AFn:={ np:=2,nv:=5,results:=[.v 4],code:=f8V }
def d65:=Rg [] [op (.v 2) .mv [.c (.list true [])]]
def e8G:=Rg [] [op (.v 3) .mv [.c (.list true [])]]
def f3Z:=Rg [] [vP 5 (.v 0),op (.v 6) .lenL [.v 5],vP 7 (.c (.int .i64 0))]
def f0h:=Ts [] [bP 11 .lss (.v 7) (.v 6)] (.t 11) .skip (.exit 0)
def d4X:=Rg [4] [oP 12 (.iad 2) [.v 5,.v 7],oP 13 (.ldRo true 2) [.t 12],⟨.bx,.alloc [.str [],.list true []],[],some 4,none⟩,xP (.stLc 4 2) [.l 4,.ts 13] 4]
def d3h:=Rg [] [mP 14 (.vs 3),nP 15 1,lP 16 4 true 2 (.l 4),oP 17 .callV [.t 15,.t 16],oP 18 (.bslice 1 [[.str []]] [0]) [.t 17],oP 19 (.app 1 16) [.ts 14,.t 18],vP 3 (.ts 19)]
def c7b:=Rg [] [bP 20 .add (.v 7) (.c (.int .i64 1)),vP 7 (.t 20)]
def c2m:=Rg [] [nP 21 3,vP 2 (.ts 21)]
def f8p:ACode :=
  (Sq d65 (Sq e8G (Sq (Sq f3Z (Bk 0 (Lp (Sq f0h (Sq (Bk 1 (Sq d4X d3h)) c7b))))) (Sq c2m .ret))))
def g9i:AFn:={ np:=2,nv:=8,results:=[.v 2],code:=f8p }
def f1j:=Rg [1] [⟨.bx,.boxV,[.v 0],some 1,none⟩,op (.v 2) .mv [.c (.str [])]]
def f1t:=Rg [] [fP 3 0 (.l 1),lP 4 1 false 1 (.t 3),vP 2 (.t 4)]
def f8G:ACode :=
  (Sq f1j (Sq f1t .ret))
def g56:AFn:={ np:=1,nv:=3,results:=[.v 2],code:=f8G }
def e7o:=Rg [] [nP 12 2,oP 13 (.call 250) [.t 12,.c (.func 251 [] [])],vP 3 (.ts 13)]
def e6o:=Rg [] [nP 14 0,nP 15 3,oP 16 (.call 91) [.t 14,.c (.int .i64 11),.t 15]]
def f4w:=Rg [] [vP 7 (.v 2),op (.v 8) .lenL [.v 7],vP 9 (.c (.int .i64 0))]
def f3E:=Ts [] [bP 20 .lss (.v 9) (.v 8)] (.t 20) .skip (.exit 0)
def e43:=Rg [] [oP 21 (.iad 6) [.v 7,.v 9],oP 22 (.ldRo true 6) [.t 21],op (.v 4) (.allocO [.str [],.int .u8 0,.int .i64 0,.str [],.list true [],.list true []]) [],op .none (.stSt 6) [.v 4,.ts 22]]
def c6Q:=Rg [] [nP 23 1,oP 24 (.mkF 252 0) [.v 4],oP 25 (.call 178) [.t 23,.t 24],vP 5 (.t 25)]
def c4Z:=Rg [] [nP 28 0,fP 29 0 (.v 4),oP 30 (.ldSt false 1) [.t 29],oP 31 (.call 90) [.t 28,.c (.int .i64 10),.t 30]]
def c29:=Rg [] [nP 42 0,fP 43 0 (.v 4),oP 44 (.ldSt false 1) [.t 43],oP 45 (.call 90) [.t 42,.c (.int .i64 13),.t 44]]
def d0v:=Ts [] [nP 32 0,nP 33 1,nP 34 5,oP 35 (.iad 11) [.t 33,.t 34],fP 36 2 (.t 35),oP 37 (.ldRo true 3) [.t 36],fP 38 1 (.v 4),oP 39 (.ldSt true 5) [.t 38],oP 40 (.call 253) [.t 32,.t 37,.t 39],oP 41 (.un .not) [.t 40]] (.t 41) c29 .skip
def d3x:=Ts [] [nP 26 5,bP 27 .lss (.t 26) (.c (.int .i64 0))] (.t 27) c4Z d0v
def c8g:=Rg [] [bP 46 .add (.v 9) (.c (.int .i64 1)),vP 9 (.t 46)]
def c9d:=Rg [] [vP 10 (.v 1),op (.v 11) .lenL [.v 10],vP 12 (.c (.int .i64 0))]
def c3c:=Ts [] [bP 50 .lss (.v 12) (.v 11)] (.t 50) .skip (.exit 2)
def c8S:=Rg [6] [oP 51 (.iad 11) [.v 10,.v 12],oP 52 (.ldRo true 11) [.t 51],⟨.bx,.alloc [.str [],.list true [],.str [],.list true [],.bool false,.bool false,.int .u8 0,.int .i64 0,.str [],.list true [],.list true []],[],some 6,none⟩,xP (.stLc 6 11) [.l 6,.ts 52] 6]
def c7h:=Rg [] [nP 68 0,fP 69 0 (.l 6),lP 70 6 false 1 (.t 69),oP 71 (.call 90) [.t 68,.c (.int .i64 12),.t 70]]
def d3n:=Ts [] [fP 53 2 (.l 6),fP 54 2 (.t 53),lP 55 6 false 1 (.t 54),mP 56 (.t 55),gP 57 (.fad 5) [.l 6] 56 true,⟨.t 58,.ldLc 6 false 1,[.t 57],some 6,some (.t 56,true)⟩,gP 59 (.un .not) [.t 58] 56 true,oP 60 .pick [.t 56,.t 59,.c (.bool false)],mP 61 (.t 60),gP 62 .mv [.v 3] 61 true,gP 63 (.fad 0) [.l 6] 61 true,⟨.t 64,.ldLc 6 false 1,[.t 63],some 6,some (.t 61,true)⟩,gP 65 (.call 27) [.t 62,.t 64] 61 true,gP 66 (.un .not) [.t 65] 61 true,oP 67 .pick [.t 61,.t 66,.c (.bool false)]] (.t 67) c7h .skip
def c3S:=Rg [] [bP 72 .add (.v 12) (.c (.int .i64 1)),vP 12 (.t 72)]
def g0i:ACode :=
  (Sq e7o (Sq e6o (Sq (Sq f4w (Bk 0 (Lp (Sq f3E (Sq (Bk 1 (Sq e43 (Sq c6Q d3x))) c8g))))) (Sq c9d (Bk 2 (Lp (Sq c3c (Sq (Bk 3 (Sq c8S d3n)) c3S))))))))
def g4n:AFn:={ np:=3,nv:=13,results:=[],code:=g0i }
def e7R:=Rg [] [op (.v 2) .mv [.c (.list true [])]]
def e0Q:=Rg [3] [nP 8 0,oP 9 .nilchk [.t 8],fP 10 0 (.t 9),oP 11 (.ldSt false 1) [.t 10],nP 12 1,oP 13 (.call 30) [.t 11,.t 12],mP 7 (.t 13),oP 14 (.ext 0) [.t 7],oP 15 (.ext 1) [.t 7],⟨.bx,.alloc [.int .u8 0,.str [],.list true [],.list true []],[],some 3,none⟩,xP (.stLc 3 4) [.l 3,.ts 14] 3,vP 4 (.t 15)]
def f3T:=Rg [] [nP 22 1,oP 23 (.bslice 1 [[.str []]] [0]) [.t 22],vP 2 (.ts 23)]
def f1J:=Ts [] [nP 16 4,mP 17 (.t 16),gP 18 (.fad 0) [.l 3] 17 true,⟨.t 19,.ldLc 3 false 1,[.t 18],some 3,some (.t 17,true)⟩,gP 20 (.bin .eql) [.t 19,.c (.int .u8 1)] 17 true,oP 21 .pick [.t 17,.t 20,.c (.bool false)]] (.t 21) (Sq f3T .ret) .skip
def c64:=Rg [] [nP 24 0,oP 25 .nilchk [.t 24],fP 26 0 (.t 25),oP 27 (.ldSt false 1) [.t 26],nP 28 1,oP 29 (.call 230) [.t 27,.t 28],vP 2 (.ts 29)]
def g0H:ACode :=
  (Sq e7R (Sq (Sq e0Q f1J) (Sq c64 .ret)))
def g3Z:AFn:={ np:=2,nv:=5,results:=[.v 2],code:=g0H }
def d9M:=Rg [] [vP 2 (.c (.bool false))]
def e6x:=Rg [] [nP 5 0,nP 6 1,oP 7 (.call 254) [.t 5,.t 6],bP 8 .geq (.t 7) (.c (.int .i64 0)),vP 2 (.t 8)]
def f5z:ACode :=
  (Sq d9M (Sq e6x .ret))
def g6N:AFn:={ np:=2,nv:=3,results:=[.v 2],code:=f5z }
def e0U:=Rg [] [vP 2 (.c (.bool false))]
def e0j:=Rg [] [oP 4 (.ldSt false 1) [.v 1],nP 5 0,oP 6 (.call 27) [.t 4,.t 5],vP 2 (.t 6)]
def f9W:ACode :=
  (Sq e0U (Sq e0j .ret))
def a212:AFn:={ np:=2,nv:=3,results:=[.v 2],code:=f9W }
def d7B:=Rg [] [nP 10 1,bP 11 .add (.t 10) (.c (.int .i64 1)),vP 4 (.t 11)]
def d6t:=Ts [] [nP 12 4,nP 13 2,bP 14 .lss (.t 12) (.t 13)] (.t 14) .skip (.exit 0)
def e2o:=Rg [] [nP 17 4,vP 5 (.t 17)]
def e9V:=Ts [] [nP 18 5,nP 19 1,bP 20 .gtr (.t 18) (.t 19),mP 21 (.t 20),gP 22 .mv [.v 3] 21 true,gP 23 .mv [.v 0] 21 true,gP 24 .mv [.v 5] 21 true,gP 25 (.iad 2) [.t 23,.t 24] 21 true,gP 26 (.ldAn true 2) [.t 25] 21 true,gP 27 .mv [.v 0] 21 true,gP 28 .mv [.v 5] 21 true,gP 29 (.bin .sub) [.t 28,.c (.int .i64 1)] 21 true,gP 30 (.iad 2) [.t 27,.t 29] 21 true,gP 31 (.ldAn true 2) [.t 30] 21 true,gP 32 .callV [.t 22,.t 26,.t 31] 21 true,gP 33 (.bin .lss) [.t 32,.c (.int .i64 0)] 21 true,oP 34 .pick [.t 21,.t 33,.c (.bool false)]] (.t 34) .skip (.exit 2)
def e9R:=Rg [] [nP 37 0,nP 38 5,nP 39 0,nP 40 5,bP 41 .sub (.t 40) (.c (.int .i64 1)),nP 42 0,nP 43 5,bP 44 .sub (.t 43) (.c (.int .i64 1)),oP 45 (.iad 2) [.t 42,.t 44],oP 46 (.ldAn true 2) [.t 45],nP 47 0,nP 48 5,oP 49 (.iad 2) [.t 47,.t 48],oP 50 (.ldAn true 2) [.t 49],oP 51 (.iad 2) [.t 37,.t 38],op .none (.stSt 2) [.t 51,.t 46],oP 52 (.iad 2) [.t 39,.t 41],op .none (.stSt 2) [.t 52,.t 50]]
def d33:=Rg [] [nP 35 5,bP 36 .sub (.t 35) (.c (.int .i64 1)),vP 5 (.t 36)]
def c3a:=Rg [] [nP 15 4,bP 16 .add (.t 15) (.c (.int .i64 1)),vP 4 (.t 16)]
def f8n:ACode :=
  (Sq d7B (Bk 0 (Lp (Sq d6t (Sq (Bk 1 (Sq e2o (Bk 2 (Lp (Sq e9V (Sq (Bk 3 e9R) d33)))))) c3a)))))
def a213:AFn:={ np:=4,nv:=6,results:=[],code:=f8n }
def f1g:=Rg [] [nP 13 1,vP 4 (.t 13)]
def f1Q:=Rg [] [vP 5 (.c (.int .i64 0))]
def d57:=Rg [] [nP 14 2,nP 15 1,bP 16 .sub (.t 14) (.t 15),vP 6 (.t 16)]
def e6b:=Rg [] [nP 17 6,bP 18 .sub (.t 17) (.c (.int .i64 1)),bP 19 .quo (.t 18) (.c (.int .i64 2)),vP 7 (.t 19)]
def e24:=Ts [] [nP 20 7,bP 21 .geq (.t 20) (.c (.int .i64 0))] (.t 21) .skip (.exit 0)
def c1U:=Rg [] [nP 24 0,nP 25 7,nP 26 6,nP 27 4,nP 28 3,oP 29 (.call 255) [.t 24,.t 25,.t 26,.t 27,.t 28]]
def d2y:=Rg [] [nP 22 7,bP 23 .sub (.t 22) (.c (.int .i64 1)),vP 7 (.t 23)]
def c90:=Rg [] [nP 30 6,bP 31 .sub (.t 30) (.c (.int .i64 1)),vP 8 (.t 31)]
def c7y:=Ts [] [nP 32 8,bP 33 .geq (.t 32) (.c (.int .i64 0))] (.t 33) .skip (.exit 2)
def c8M:=Rg [] [nP 36 0,nP 37 4,nP 38 0,nP 39 4,nP 40 8,bP 41 .add (.t 39) (.t 40),nP 42 0,nP 43 4,nP 44 8,bP 45 .add (.t 43) (.t 44),oP 46 (.iad 2) [.t 42,.t 45],oP 47 (.ldAn true 2) [.t 46],nP 48 0,nP 49 4,oP 50 (.iad 2) [.t 48,.t 49],oP 51 (.ldAn true 2) [.t 50],oP 52 (.iad 2) [.t 36,.t 37],op .none (.stSt 2) [.t 52,.t 47],oP 53 (.iad 2) [.t 38,.t 41],op .none (.stSt 2) [.t 53,.t 51]]
def c4z:=Rg [] [nP 54 0,nP 55 5,nP 56 8,nP 57 4,nP 58 3,oP 59 (.call 255) [.t 54,.t 55,.t 56,.t 57,.t 58]]
def d2m:=Rg [] [nP 34 8,bP 35 .sub (.t 34) (.c (.int .i64 1)),vP 8 (.t 35)]
def g3d:ACode :=
  (Sq f1g (Sq f1Q (Sq d57 (Sq (Sq e6b (Bk 0 (Lp (Sq e24 (Sq (Bk 1 c1U) d2y))))) (Sq c90 (Bk 2 (Lp (Sq c7y (Sq (Bk 3 (Sq c8M c4z)) d2m)))))))))
def g6w:AFn:={ np:=4,nv:=9,results:=[],code:=g3d }
def e3w:=Rg [] [nP 13 2,nP 14 1,bP 15 .sub (.t 13) (.t 14),vP 4 (.t 15)]
def f2r:=Rg [] [nP 18 4,oP 19 (.conv .u64) [.t 18],op (.v 5) (.allocO [.int .u64 0]) [],op .none (.stSt 1) [.v 5,.t 19]]
def f1I:=Rg [] [nP 20 4,oP 21 (.call 256) [.t 20],vP 6 (.t 21)]
def e4Y:=Rg [] [nP 22 1,nP 23 4,bP 24 .quo (.t 23) (.c (.int .i64 4)),bP 25 .mul (.t 24) (.c (.int .i64 2)),bP 26 .add (.t 22) (.t 25),bP 27 .sub (.t 26) (.c (.int .i64 1)),vP 7 (.t 27)]
def d1u:=Ts [] [nP 28 7,nP 29 1,nP 30 4,bP 31 .quo (.t 30) (.c (.int .i64 4)),bP 32 .mul (.t 31) (.c (.int .i64 2)),bP 33 .add (.t 29) (.t 32),bP 34 .add (.t 33) (.c (.int .i64 1)),bP 35 .leq (.t 28) (.t 34)] (.t 35) .skip (.exit 0)
def c40:=Rg [] [oP 38 (.call 257) [.v 5],nP 39 6,bP 40 .sub (.t 39) (.c (.int .u64 1)),bP 41 .and (.t 38) (.t 40),oP 42 (.conv .i64) [.t 41],vP 8 (.t 42)]
def c4d:=Rg [] [nP 46 8,nP 47 4,bP 48 .sub (.t 46) (.t 47),vP 8 (.t 48)]
def d1w:=Ts [] [nP 43 8,nP 44 4,bP 45 .geq (.t 43) (.t 44)] (.t 45) c4d .skip
def d0C:=Rg [] [nP 49 0,nP 50 7,nP 51 0,nP 52 1,nP 53 8,bP 54 .add (.t 52) (.t 53),nP 55 0,nP 56 1,nP 57 8,bP 58 .add (.t 56) (.t 57),oP 59 (.iad 2) [.t 55,.t 58],oP 60 (.ldAn true 2) [.t 59],nP 61 0,nP 62 7,oP 63 (.iad 2) [.t 61,.t 62],oP 64 (.ldAn true 2) [.t 63],oP 65 (.iad 2) [.t 49,.t 50],op .none (.stSt 2) [.t 65,.t 60],oP 66 (.iad 2) [.t 51,.t 54],op .none (.stSt 2) [.t 66,.t 64]]
def c7Y:=Rg [] [nP 36 7,bP 37 .add (.t 36) (.c (.int .i64 1)),vP 7 (.t 37)]
def d3d:=Ts [] [nP 16 4,bP 17 .geq (.t 16) (.c (.int .i64 8))] (.t 17) (Sq f2r (Sq f1I (Sq e4Y (Bk 0 (Lp (Sq d1u (Sq (Bk 1 (Sq c40 (Sq d1w d0C))) c7Y))))))) .skip
def g1f:ACode :=
  (Sq e3w d3d)
def g32:AFn:={ np:=4,nv:=9,results:=[],code:=g1f }
def d5W:=Rg [] [vP 4 (.c (.int .i64 0)),vP 5 (.c (.int .i64 0))]
def e6V:=Rg [] [nP 15 2,nP 16 1,bP 17 .sub (.t 15) (.t 16),vP 6 (.t 17)]
def e3O:=Rg [] [op (.v 7) (.allocO [.int .i64 0]) []]
def e6c:=Rg [] [nP 18 1,nP 19 6,bP 20 .quo (.t 19) (.c (.int .i64 4)),bP 21 .mul (.t 20) (.c (.int .i64 1)),bP 22 .add (.t 18) (.t 21),vP 8 (.t 22)]
def d7w:=Rg [] [nP 23 1,nP 24 6,bP 25 .quo (.t 24) (.c (.int .i64 4)),bP 26 .mul (.t 25) (.c (.int .i64 2)),bP 27 .add (.t 23) (.t 26),vP 9 (.t 27)]
def d2F:=Rg [] [nP 28 1,nP 29 6,bP 30 .quo (.t 29) (.c (.int .i64 4)),bP 31 .mul (.t 30) (.c (.int .i64 3)),bP 32 .add (.t 28) (.t 31),vP 10 (.t 32)]
def d0p:=Rg [] [nP 37 0,nP 38 8,nP 39 3,oP 40 (.call 258) [.t 37,.t 38,.v 7,.t 39],vP 8 (.t 40)]
def d39:=Rg [] [nP 41 0,nP 42 9,nP 43 3,oP 44 (.call 258) [.t 41,.t 42,.v 7,.t 43],vP 9 (.t 44)]
def c8J:=Rg [] [nP 45 0,nP 46 10,nP 47 3,oP 48 (.call 258) [.t 45,.t 46,.v 7,.t 47],vP 10 (.t 48)]
def c5T:=Ts [] [nP 35 6,bP 36 .geq (.t 35) (.c (.int .i64 50))] (.t 36) (Sq d0p (Sq d39 c8J)) .skip
def c6d:=Rg [] [nP 49 0,nP 50 8,nP 51 9,nP 52 10,nP 53 3,oP 54 (.call 259) [.t 49,.t 50,.t 51,.t 52,.v 7,.t 53],vP 9 (.t 54)]
def c3n:=Ts [] [nP 33 6,bP 34 .geq (.t 33) (.c (.int .i64 8))] (.t 34) (Sq c5T c6d) .skip
def c4Q:=Rg [] [op (.v 11) (.ldSt false 1) [.v 7]]
def c7v:=Rg [] [nP 59 9,vP 4 (.t 59),vP 5 (.c (.int .i64 1))]
def c32:=Rg [] [nP 62 9,vP 4 (.t 62),vP 5 (.c (.int .i64 2))]
def d1U:=Rg [] [nP 56 9,vP 4 (.t 56),vP 5 (.c (.int .i64 0))]
def c8c:=Ts [] [bP 61 .eql (.v 11) (.c (.int .i64 12)),mP 60 (.t 61)] (.t 60) (Sq c32 .ret) (Sq d1U .ret)
def d1B:=Ts [] [bP 58 .eql (.v 11) (.c (.int .i64 0)),mP 57 (.t 58)] (.t 57) (Sq c7v .ret) c8c
def f7F:ACode :=
  (Sq d5W (Sq e6V (Sq e3O (Sq e6c (Sq d7w (Sq d2F (Sq c3n (Sq c4Q (Bk 0 d1B)))))))))
def g6W:AFn:={ np:=4,nv:=12,results:=[.v 4,.v 5],code:=f7F }
def f0r:=Rg [] [nP 10 1,vP 4 (.t 10)]
def d97:=Rg [] [nP 11 2,bP 12 .sub (.t 11) (.c (.int .i64 1)),vP 5 (.t 12)]
def d7l:=Ts [] [nP 13 4,nP 14 5,bP 15 .lss (.t 13) (.t 14)] (.t 15) .skip (.exit 0)
def e8P:=Rg [] [nP 16 0,nP 17 4,nP 18 0,nP 19 5,nP 20 0,nP 21 5,oP 22 (.iad 2) [.t 20,.t 21],oP 23 (.ldAn true 2) [.t 22],nP 24 0,nP 25 4,oP 26 (.iad 2) [.t 24,.t 25],oP 27 (.ldAn true 2) [.t 26],oP 28 (.iad 2) [.t 16,.t 17],op .none (.stSt 2) [.t 28,.t 23],oP 29 (.iad 2) [.t 18,.t 19],op .none (.stSt 2) [.t 29,.t 27]]
def e9g:=Rg [] [nP 30 4,bP 31 .add (.t 30) (.c (.int .i64 1)),vP 4 (.t 31)]
def d2c:=Rg [] [nP 32 5,bP 33 .sub (.t 32) (.c (.int .i64 1)),vP 5 (.t 33)]
def g2g:ACode :=
  (Sq f0r (Sq d97 (Bk 0 (Lp (Sq d7l (Bk 1 (Sq e8P (Sq e9g d2c))))))))
def g4t:AFn:={ np:=4,nv:=6,results:=[],code:=g2g }
def e8b:=Rg [] [vP 4 (.c (.bool false))]
def d9x:=Rg [] [nP 13 1,bP 14 .add (.t 13) (.c (.int .i64 1)),vP 5 (.t 14)]
def f1d:=Rg [] [vP 6 (.c (.int .i64 0))]
def f3x:=Ts [] [nP 15 6,bP 16 .lss (.t 15) (.c (.int .i64 5))] (.t 16) .skip (.exit 0)
def e6K:=Ts [] [nP 19 5,nP 20 2,bP 21 .lss (.t 19) (.t 20),mP 22 (.t 21),gP 23 .mv [.v 3] 22 true,gP 24 .mv [.v 0] 22 true,gP 25 .mv [.v 5] 22 true,gP 26 (.iad 2) [.t 24,.t 25] 22 true,gP 27 (.ldAn true 2) [.t 26] 22 true,gP 28 .mv [.v 0] 22 true,gP 29 .mv [.v 5] 22 true,gP 30 (.bin .sub) [.t 29,.c (.int .i64 1)] 22 true,gP 31 (.iad 2) [.t 28,.t 30] 22 true,gP 32 (.ldAn true 2) [.t 31] 22 true,gP 33 .callV [.t 23,.t 27,.t 32] 22 true,gP 34 (.bin .lss) [.t 33,.c (.int .i64 0)] 22 true,gP 35 (.un .not) [.t 34] 22 true,oP 36 .pick [.t 22,.t 35,.c (.bool false)]] (.t 36) .skip (.exit 2)
def c1f:=Rg [] [nP 37 5,bP 38 .add (.t 37) (.c (.int .i64 1)),vP 5 (.t 38)]
def d0M:=Rg [] [vP 4 (.c (.bool true))]
def c3G:=Ts [] [nP 39 5,nP 40 2,bP 41 .eql (.t 39) (.t 40)] (.t 41) (Sq d0M .ret) .skip
def c6D:=Rg [] [vP 4 (.c (.bool false))]
def c6B:=Ts [] [nP 42 2,nP 43 1,bP 44 .sub (.t 42) (.t 43),bP 45 .lss (.t 44) (.c (.int .i64 50))] (.t 45) (Sq c6D .ret) .skip
def c4h:=Rg [] [nP 46 0,nP 47 5,nP 48 0,nP 49 5,bP 50 .sub (.t 49) (.c (.int .i64 1)),nP 51 0,nP 52 5,bP 53 .sub (.t 52) (.c (.int .i64 1)),oP 54 (.iad 2) [.t 51,.t 53],oP 55 (.ldAn true 2) [.t 54],nP 56 0,nP 57 5,oP 58 (.iad 2) [.t 56,.t 57],oP 59 (.ldAn true 2) [.t 58],oP 60 (.iad 2) [.t 46,.t 47],op .none (.stSt 2) [.t 60,.t 55],oP 61 (.iad 2) [.t 48,.t 50],op .none (.stSt 2) [.t 61,.t 59]]
def c6y:=Rg [] [nP 66 5,bP 67 .sub (.t 66) (.c (.int .i64 1)),vP 7 (.t 67)]
def c5A:=Ts [] [nP 68 7,bP 69 .geq (.t 68) (.c (.int .i64 1))] (.t 69) .skip (.exit 4)
def c99:=Ts [] [nP 72 3,nP 73 0,nP 74 7,oP 75 (.iad 2) [.t 73,.t 74],oP 76 (.ldAn true 2) [.t 75],nP 77 0,nP 78 7,bP 79 .sub (.t 78) (.c (.int .i64 1)),oP 80 (.iad 2) [.t 77,.t 79],oP 81 (.ldAn true 2) [.t 80],oP 82 .callV [.t 72,.t 76,.t 81],bP 83 .lss (.t 82) (.c (.int .i64 0)),oP 84 (.un .not) [.t 83]] (.t 84) (.exit 4) .skip
def d1p:=Rg [] [nP 85 0,nP 86 7,nP 87 0,nP 88 7,bP 89 .sub (.t 88) (.c (.int .i64 1)),nP 90 0,nP 91 7,bP 92 .sub (.t 91) (.c (.int .i64 1)),oP 93 (.iad 2) [.t 90,.t 92],oP 94 (.ldAn true 2) [.t 93],nP 95 0,nP 96 7,oP 97 (.iad 2) [.t 95,.t 96],oP 98 (.ldAn true 2) [.t 97],oP 99 (.iad 2) [.t 85,.t 86],op .none (.stSt 2) [.t 99,.t 94],oP 100 (.iad 2) [.t 87,.t 89],op .none (.stSt 2) [.t 100,.t 98]]
def d29:=Rg [] [nP 70 7,bP 71 .sub (.t 70) (.c (.int .i64 1)),vP 7 (.t 71)]
def c6m:=Ts [] [nP 62 5,nP 63 1,bP 64 .sub (.t 62) (.t 63),bP 65 .geq (.t 64) (.c (.int .i64 2))] (.t 65) (Sq c6y (Bk 4 (Lp (Sq c5A (Sq (Bk 5 (Sq c99 d1p)) d29))))) .skip
def c6q:=Rg [] [nP 105 5,bP 106 .add (.t 105) (.c (.int .i64 1)),vP 8 (.t 106)]
def c5G:=Ts [] [nP 107 8,nP 108 2,bP 109 .lss (.t 107) (.t 108)] (.t 109) .skip (.exit 6)
def d1M:=Ts [] [nP 112 3,nP 113 0,nP 114 8,oP 115 (.iad 2) [.t 113,.t 114],oP 116 (.ldAn true 2) [.t 115],nP 117 0,nP 118 8,bP 119 .sub (.t 118) (.c (.int .i64 1)),oP 120 (.iad 2) [.t 117,.t 119],oP 121 (.ldAn true 2) [.t 120],oP 122 .callV [.t 112,.t 116,.t 121],bP 123 .lss (.t 122) (.c (.int .i64 0)),oP 124 (.un .not) [.t 123]] (.t 124) (.exit 6) .skip
def c7L:=Rg [] [nP 125 0,nP 126 8,nP 127 0,nP 128 8,bP 129 .sub (.t 128) (.c (.int .i64 1)),nP 130 0,nP 131 8,bP 132 .sub (.t 131) (.c (.int .i64 1)),oP 133 (.iad 2) [.t 130,.t 132],oP 134 (.ldAn true 2) [.t 133],nP 135 0,nP 136 8,oP 137 (.iad 2) [.t 135,.t 136],oP 138 (.ldAn true 2) [.t 137],oP 139 (.iad 2) [.t 125,.t 126],op .none (.stSt 2) [.t 139,.t 134],oP 140 (.iad 2) [.t 127,.t 129],op .none (.stSt 2) [.t 140,.t 138]]
def c8f:=Rg [] [nP 110 8,bP 111 .add (.t 110) (.c (.int .i64 1)),vP 8 (.t 111)]
def c72:=Ts [] [nP 101 2,nP 102 5,bP 103 .sub (.t 101) (.t 102),bP 104 .geq (.t 103) (.c (.int .i64 2))] (.t 104) (Sq c6q (Bk 6 (Lp (Sq c5G (Sq (Bk 7 (Sq d1M c7L)) c8f))))) .skip
def c0J:=Rg [] [nP 17 6,bP 18 .add (.t 17) (.c (.int .i64 1)),vP 6 (.t 18)]
def d2i:=Rg [] [vP 4 (.c (.bool false))]
def g0A:ACode :=
  (Sq e8b (Sq d9x (Sq (Sq f1d (Bk 0 (Lp (Sq f3x (Sq (Bk 1 (Sq (Bk 2 (Lp (Sq e6K (Bk 3 c1f)))) (Sq c3G (Sq c6B (Sq c4h (Sq c6m c72)))))) c0J))))) (Sq d2i .ret))))
def g5H:AFn:={ np:=4,nv:=9,results:=[.v 4],code:=g0A }
def e6Y:=Rg [] [vP 5 (.c (.int .i64 0))]
def f0I:=Rg [] [nP 13 0,nP 14 1,nP 15 0,nP 16 3,nP 17 0,nP 18 3,oP 19 (.iad 2) [.t 17,.t 18],oP 20 (.ldAn true 2) [.t 19],nP 21 0,nP 22 1,oP 23 (.iad 2) [.t 21,.t 22],oP 24 (.ldAn true 2) [.t 23],oP 25 (.iad 2) [.t 13,.t 14],op .none (.stSt 2) [.t 25,.t 20],oP 26 (.iad 2) [.t 15,.t 16],op .none (.stSt 2) [.t 26,.t 24]]
def e2a:=Rg [] [nP 27 1,bP 28 .add (.t 27) (.c (.int .i64 1)),nP 29 2,bP 30 .sub (.t 29) (.c (.int .i64 1)),vP 6 (.t 28),vP 7 (.t 30)]
def d4L:=Ts [] [nP 31 6,nP 32 7,bP 33 .leq (.t 31) (.t 32),mP 34 (.t 33),gP 35 .mv [.v 4] 34 true,gP 36 .mv [.v 0] 34 true,gP 37 .mv [.v 1] 34 true,gP 38 (.iad 2) [.t 36,.t 37] 34 true,gP 39 (.ldAn true 2) [.t 38] 34 true,gP 40 .mv [.v 0] 34 true,gP 41 .mv [.v 6] 34 true,gP 42 (.iad 2) [.t 40,.t 41] 34 true,gP 43 (.ldAn true 2) [.t 42] 34 true,gP 44 .callV [.t 35,.t 39,.t 43] 34 true,gP 45 (.bin .lss) [.t 44,.c (.int .i64 0)] 34 true,gP 46 (.un .not) [.t 45] 34 true,oP 47 .pick [.t 34,.t 46,.c (.bool false)]] (.t 47) .skip (.exit 2)
def d5U:=Rg [] [nP 48 6,bP 49 .add (.t 48) (.c (.int .i64 1)),vP 6 (.t 49)]
def c5Z:=Ts [] [nP 50 6,nP 51 7,bP 52 .leq (.t 50) (.t 51),mP 53 (.t 52),gP 54 .mv [.v 4] 53 true,gP 55 .mv [.v 0] 53 true,gP 56 .mv [.v 1] 53 true,gP 57 (.iad 2) [.t 55,.t 56] 53 true,gP 58 (.ldAn true 2) [.t 57] 53 true,gP 59 .mv [.v 0] 53 true,gP 60 .mv [.v 7] 53 true,gP 61 (.iad 2) [.t 59,.t 60] 53 true,gP 62 (.ldAn true 2) [.t 61] 53 true,gP 63 .callV [.t 54,.t 58,.t 62] 53 true,gP 64 (.bin .lss) [.t 63,.c (.int .i64 0)] 53 true,oP 65 .pick [.t 53,.t 64,.c (.bool false)]] (.t 65) .skip (.exit 4)
def d2j:=Rg [] [nP 66 7,bP 67 .sub (.t 66) (.c (.int .i64 1)),vP 7 (.t 67)]
def c6H:=Ts [] [nP 68 6,nP 69 7,bP 70 .gtr (.t 68) (.t 69)] (.t 70) (.exit 0) .skip
def c1A:=Rg [] [nP 71 0,nP 72 6,nP 73 0,nP 74 7,nP 75 0,nP 76 7,oP 77 (.iad 2) [.t 75,.t 76],oP 78 (.ldAn true 2) [.t 77],nP 79 0,nP 80 6,oP 81 (.iad 2) [.t 79,.t 80],oP 82 (.ldAn true 2) [.t 81],oP 83 (.iad 2) [.t 71,.t 72],op .none (.stSt 2) [.t 83,.t 78],oP 84 (.iad 2) [.t 73,.t 74],op .none (.stSt 2) [.t 84,.t 82]]
def c5w:=Rg [] [nP 85 6,bP 86 .add (.t 85) (.c (.int .i64 1)),vP 6 (.t 86)]
def d0r:=Rg [] [nP 87 7,bP 88 .sub (.t 87) (.c (.int .i64 1)),vP 7 (.t 88)]
def c4L:=Rg [] [nP 89 6,vP 5 (.t 89)]
def f9k:ACode :=
  (Sq e6Y (Sq f0I (Sq e2a (Sq (Bk 0 (Lp (Bk 1 (Sq (Bk 2 (Lp (Sq d4L (Bk 3 d5U)))) (Sq (Bk 4 (Lp (Sq c5Z (Bk 5 d2j)))) (Sq c6H (Sq c1A (Sq c5w d0r)))))))) (Sq c4L .ret)))))
def g8m:AFn:={ np:=5,nv:=8,results:=[.v 5],code:=f9k }
def e5O:=Rg [] [vP 5 (.c (.int .i64 0)),vP 6 (.c (.bool false))]
def e1p:=Rg [] [nP 14 0,nP 15 1,nP 16 0,nP 17 3,nP 18 0,nP 19 3,oP 20 (.iad 2) [.t 18,.t 19],oP 21 (.ldAn true 2) [.t 20],nP 22 0,nP 23 1,oP 24 (.iad 2) [.t 22,.t 23],oP 25 (.ldAn true 2) [.t 24],oP 26 (.iad 2) [.t 14,.t 15],op .none (.stSt 2) [.t 26,.t 21],oP 27 (.iad 2) [.t 16,.t 17],op .none (.stSt 2) [.t 27,.t 25]]
def f29:=Rg [] [nP 28 1,bP 29 .add (.t 28) (.c (.int .i64 1)),nP 30 2,bP 31 .sub (.t 30) (.c (.int .i64 1)),vP 7 (.t 29),vP 8 (.t 31)]
def d8v:=Ts [] [nP 32 7,nP 33 8,bP 34 .leq (.t 32) (.t 33),mP 35 (.t 34),gP 36 .mv [.v 4] 35 true,gP 37 .mv [.v 0] 35 true,gP 38 .mv [.v 7] 35 true,gP 39 (.iad 2) [.t 37,.t 38] 35 true,gP 40 (.ldAn true 2) [.t 39] 35 true,gP 41 .mv [.v 0] 35 true,gP 42 .mv [.v 1] 35 true,gP 43 (.iad 2) [.t 41,.t 42] 35 true,gP 44 (.ldAn true 2) [.t 43] 35 true,gP 45 .callV [.t 36,.t 40,.t 44] 35 true,gP 46 (.bin .lss) [.t 45,.c (.int .i64 0)] 35 true,oP 47 .pick [.t 35,.t 46,.c (.bool false)]] (.t 47) .skip (.exit 0)
def f06:=Rg [] [nP 48 7,bP 49 .add (.t 48) (.c (.int .i64 1)),vP 7 (.t 49)]
def d3P:=Ts [] [nP 50 7,nP 51 8,bP 52 .leq (.t 50) (.t 51),mP 53 (.t 52),gP 54 .mv [.v 4] 53 true,gP 55 .mv [.v 0] 53 true,gP 56 .mv [.v 8] 53 true,gP 57 (.iad 2) [.t 55,.t 56] 53 true,gP 58 (.ldAn true 2) [.t 57] 53 true,gP 59 .mv [.v 0] 53 true,gP 60 .mv [.v 1] 53 true,gP 61 (.iad 2) [.t 59,.t 60] 53 true,gP 62 (.ldAn true 2) [.t 61] 53 true,gP 63 .callV [.t 54,.t 58,.t 62] 53 true,gP 64 (.bin .lss) [.t 63,.c (.int .i64 0)] 53 true,gP 65 (.un .not) [.t 64] 53 true,oP 66 .pick [.t 53,.t 65,.c (.bool false)]] (.t 66) .skip (.exit 2)
def d3Q:=Rg [] [nP 67 8,bP 68 .sub (.t 67) (.c (.int .i64 1)),vP 8 (.t 68)]
def d3b:=Rg [] [nP 72 0,nP 73 8,nP 74 0,nP 75 1,nP 76 0,nP 77 1,oP 78 (.iad 2) [.t 76,.t 77],oP 79 (.ldAn true 2) [.t 78],nP 80 0,nP 81 8,oP 82 (.iad 2) [.t 80,.t 81],oP 83 (.ldAn true 2) [.t 82],oP 84 (.iad 2) [.t 72,.t 73],op .none (.stSt 2) [.t 84,.t 79],oP 85 (.iad 2) [.t 74,.t 75],op .none (.stSt 2) [.t 85,.t 83]]
def c9u:=Rg [] [nP 86 8,vP 5 (.t 86),vP 6 (.c (.bool true))]
def c8A:=Ts [] [nP 69 7,nP 70 8,bP 71 .gtr (.t 69) (.t 70)] (.t 71) (Sq d3b (Sq c9u .ret)) .skip
def c87:=Rg [] [nP 87 0,nP 88 7,nP 89 0,nP 90 8,nP 91 0,nP 92 8,oP 93 (.iad 2) [.t 91,.t 92],oP 94 (.ldAn true 2) [.t 93],nP 95 0,nP 96 7,oP 97 (.iad 2) [.t 95,.t 96],oP 98 (.ldAn true 2) [.t 97],oP 99 (.iad 2) [.t 87,.t 88],op .none (.stSt 2) [.t 99,.t 94],oP 100 (.iad 2) [.t 89,.t 90],op .none (.stSt 2) [.t 100,.t 98]]
def c68:=Rg [] [nP 101 7,bP 102 .add (.t 101) (.c (.int .i64 1)),vP 7 (.t 102)]
def c4S:=Rg [] [nP 103 8,bP 104 .sub (.t 103) (.c (.int .i64 1)),vP 8 (.t 104)]
def c3o:=Ts [] [nP 105 7,nP 106 8,bP 107 .leq (.t 105) (.t 106),mP 108 (.t 107),gP 109 .mv [.v 4] 108 true,gP 110 .mv [.v 0] 108 true,gP 111 .mv [.v 7] 108 true,gP 112 (.iad 2) [.t 110,.t 111] 108 true,gP 113 (.ldAn true 2) [.t 112] 108 true,gP 114 .mv [.v 0] 108 true,gP 115 .mv [.v 1] 108 true,gP 116 (.iad 2) [.t 114,.t 115] 108 true,gP 117 (.ldAn true 2) [.t 116] 108 true,gP 118 .callV [.t 109,.t 113,.t 117] 108 true,gP 119 (.bin .lss) [.t 118,.c (.int .i64 0)] 108 true,oP 120 .pick [.t 108,.t 119,.c (.bool false)]] (.t 120) .skip (.exit 6)
def c9T:=Rg [] [nP 121 7,bP 122 .add (.t 121) (.c (.int .i64 1)),vP 7 (.t 122)]
def d3e:=Ts [] [nP 123 7,nP 124 8,bP 125 .leq (.t 123) (.t 124),mP 126 (.t 125),gP 127 .mv [.v 4] 126 true,gP 128 .mv [.v 0] 126 true,gP 129 .mv [.v 8] 126 true,gP 130 (.iad 2) [.t 128,.t 129] 126 true,gP 131 (.ldAn true 2) [.t 130] 126 true,gP 132 .mv [.v 0] 126 true,gP 133 .mv [.v 1] 126 true,gP 134 (.iad 2) [.t 132,.t 133] 126 true,gP 135 (.ldAn true 2) [.t 134] 126 true,gP 136 .callV [.t 127,.t 131,.t 135] 126 true,gP 137 (.bin .lss) [.t 136,.c (.int .i64 0)] 126 true,gP 138 (.un .not) [.t 137] 126 true,oP 139 .pick [.t 126,.t 138,.c (.bool false)]] (.t 139) .skip (.exit 8)
def c2N:=Rg [] [nP 140 8,bP 141 .sub (.t 140) (.c (.int .i64 1)),vP 8 (.t 141)]
def c5k:=Ts [] [nP 142 7,nP 143 8,bP 144 .gtr (.t 142) (.t 143)] (.t 144) (.exit 4) .skip
def c8d:=Rg [] [nP 145 0,nP 146 7,nP 147 0,nP 148 8,nP 149 0,nP 150 8,oP 151 (.iad 2) [.t 149,.t 150],oP 152 (.ldAn true 2) [.t 151],nP 153 0,nP 154 7,oP 155 (.iad 2) [.t 153,.t 154],oP 156 (.ldAn true 2) [.t 155],oP 157 (.iad 2) [.t 145,.t 146],op .none (.stSt 2) [.t 157,.t 152],oP 158 (.iad 2) [.t 147,.t 148],op .none (.stSt 2) [.t 158,.t 156]]
def d2h:=Rg [] [nP 159 7,bP 160 .add (.t 159) (.c (.int .i64 1)),vP 7 (.t 160)]
def d3U:=Rg [] [nP 161 8,bP 162 .sub (.t 161) (.c (.int .i64 1)),vP 8 (.t 162)]
def c06:=Rg [] [nP 163 0,nP 164 8,nP 165 0,nP 166 1,nP 167 0,nP 168 1,oP 169 (.iad 2) [.t 167,.t 168],oP 170 (.ldAn true 2) [.t 169],nP 171 0,nP 172 8,oP 173 (.iad 2) [.t 171,.t 172],oP 174 (.ldAn true 2) [.t 173],oP 175 (.iad 2) [.t 163,.t 164],op .none (.stSt 2) [.t 175,.t 170],oP 176 (.iad 2) [.t 165,.t 166],op .none (.stSt 2) [.t 176,.t 174]]
def c8b:=Rg [] [nP 177 8,vP 5 (.t 177),vP 6 (.c (.bool false))]
def g13:ACode :=
  (Sq e5O (Sq e1p (Sq f29 (Sq (Bk 0 (Lp (Sq d8v (Bk 1 f06)))) (Sq (Bk 2 (Lp (Sq d3P (Bk 3 d3Q)))) (Sq c8A (Sq c87 (Sq c68 (Sq c4S (Sq (Bk 4 (Lp (Bk 5 (Sq (Bk 6 (Lp (Sq c3o (Bk 7 c9T)))) (Sq (Bk 8 (Lp (Sq d3e (Bk 9 c2N)))) (Sq c5k (Sq c8d (Sq d2h d3U)))))))) (Sq c06 (Sq c8b .ret))))))))))))
def g4g:AFn:={ np:=5,nv:=9,results:=[.v 5,.v 6],code:=g13 }
def f4j:=Rg [] [vP 1 (.c (.int .i64 0))]
def d6a:=Rg [] [nP 5 0,bP 6 .shr (.t 5) (.c (.int .u64 16)),vP 0 (.t 6)]
def d9i:=Rg [] [vP 1 (.c (.int .i64 16))]
def e8Y:=Ts [] [nP 3 0,bP 4 .geq (.t 3) (.c (.int .u32 65536))] (.t 4) (Sq d6a d9i) .skip
def c6K:=Rg [] [nP 9 0,bP 10 .shr (.t 9) (.c (.int .u64 8)),vP 0 (.t 10)]
def c1v:=Rg [] [nP 11 1,bP 12 .add (.t 11) (.c (.int .i64 8)),vP 1 (.t 12)]
def c7Q:=Ts [] [nP 7 0,bP 8 .geq (.t 7) (.c (.int .u32 256))] (.t 8) (Sq c6K c1v) .skip
def c5O:=Rg [] [nP 13 1,nP 14 0,oP 15 (.conv .u8) [.t 14],oP 16 .idxS [.c (.str [0,1,2,2,3,3,3,3,4,4,4,4,4,4,4,4,5,5,5,5,5,5,5,5,5,5,5,5,5,5,5,5,6,6,6,6,6,6,6,6,6,6,6,6,6,6,6,6,6,6,6,6,6,6,6,6,6,6,6,6,6,6,6,6,7,7,7,7,7,7,7,7,7,7,7,7,7,7,7,7,7,7,7,7,7,7,7,7,7,7,7,7,7,7,7,7,7,7,7,7,7,7,7,7,7,7,7,7,7,7,7,7,7,7,7,7,7,7,7,7,7,7,7,7,7,7,7,7,8,8,8,8,8,8,8,8,8,8,8,8,8,8,8,8,8,8,8,8,8,8,8,8,8,8,8,8,8,8,8,8,8,8,8,8,8,8,8,8,8,8,8,8,8,8,8,8,8,8,8,8,8,8,8,8,8,8,8,8,8,8,8,8,8,8,8,8,8,8,8,8,8,8,8,8,8,8,8,8,8,8,8,8,8,8,8,8,8,8,8,8,8,8,8,8,8,8,8,8,8,8,8,8,8,8,8,8,8,8,8,8,8,8,8,8,8,8,8,8,8,8,8,8,8,8,8,8]),.t 15],oP 17 (.conv .i64) [.t 16],bP 18 .add (.t 13) (.t 17),vP 1 (.t 18)]
def f8k:ACode :=
  (Sq f4j (Sq e8Y (Sq c7Q (Sq c5O .ret))))
def g7b:AFn:={ np:=1,nv:=2,results:=[.v 1],code:=f8k }
def f24:=Rg [] [vP 1 (.c (.int .i64 0))]
def e9l:=Rg [] [nP 5 0,bP 6 .shr (.t 5) (.c (.int .u64 32)),vP 0 (.t 6)]
def d6r:=Rg [] [vP 1 (.c (.int .i64 32))]
def e9h:=Ts [] [nP 3 0,bP 4 .geq (.t 3) (.c (.int .u64 4294967296))] (.t 4) (Sq e9l d6r) .skip
def c2X:=Rg [] [nP 9 0,bP 10 .shr (.t 9) (.c (.int .u64 16)),vP 0 (.t 10)]
def d2E:=Rg [] [nP 11 1,bP 12 .add (.t 11) (.c (.int .i64 16)),vP 1 (.t 12)]
def c5D:=Ts [] [nP 7 0,bP 8 .geq (.t 7) (.c (.int .u64 65536))] (.t 8) (Sq c2X d2E) .skip
def c2n:=Rg [] [nP 15 0,bP 16 .shr (.t 15) (.c (.int .u64 8)),vP 0 (.t 16)]
def c5L:=Rg [] [nP 17 1,bP 18 .add (.t 17) (.c (.int .i64 8)),vP 1 (.t 18)]
def c7s:=Ts [] [nP 13 0,bP 14 .geq (.t 13) (.c (.int .u64 256))] (.t 14) (Sq c2n c5L) .skip
def c3s:=Rg [] [nP 19 1,nP 20 0,oP 21 (.conv .u8) [.t 20],oP 22 .idxS [.c (.str [0,1,2,2,3,3,3,3,4,4,4,4,4,4,4,4,5,5,5,5,5,5,5,5,5,5,5,5,5,5,5,5,6,6,6,6,6,6,6,6,6,6,6,6,6,6,6,6,6,6,6,6,6,6,6,6,6,6,6,6,6,6,6,6,7,7,7,7,7,7,7,7,7,7,7,7,7,7,7,7,7,7,7,7,7,7,7,7,7,7,7,7,7,7,7,7,7,7,7,7,7,7,7,7,7,7,7,7,7,7,7,7,7,7,7,7,7,7,7,7,7,7,7,7,7,7,7,7,8,8,8,8,8,8,8,8,8,8,8,8,8,8,8,8,8,8,8,8,8,8,8,8,8,8,8,8,8,8,8,8,8,8,8,8,8,8,8,8,8,8,8,8,8,8,8,8,8,8,8,8,8,8,8,8,8,8,8,8,8,8,8,8,8,8,8,8,8,8,8,8,8,8,8,8,8,8,8,8,8,8,8,8,8,8,8,8,8,8,8,8,8,8,8,8,8,8,8,8,8,8,8,8,8,8,8,8,8,8,8,8,8,8,8,8,8,8,8,8,8,8,8,8,8,8,8,8]),.t 21],oP 23 (.conv .i64) [.t 22],bP 24 .add (.t 19) (.t 23),vP 1 (.t 24)]
def g0u:ACode :=
  (Sq f24 (Sq e9h (Sq c5D (Sq c7s (Sq c3s .ret)))))
def g5i:AFn:={ np:=1,nv:=2,results:=[.v 1],code:=g0u }
def e6p:=Rg [3,4,5,6] [⟨.bx,.boxV,[.v 0],some 3,none⟩,⟨.bx,.boxV,[.v 1],some 4,none⟩,⟨.bx,.boxV,[.v 2],some 5,none⟩,⟨.bx,.alloc [.int .u8 0,.int .i64 0,.str [],.list true [],.list true []],[],some 6,none⟩,vP 7 (.c (.bool false)),vP 8 (.c (.int .i64 0))]
def e4U:=Rg [] [lP 16 5 true 5 (.l 5),oP 17 (.bslice 5 [[.int .u8 0,.int .i64 0,.str [],.list true [],.list true []]] [0]) [.t 16],vP 9 (.ts 17)]
def e9G:=Rg [] [fP 21 4 (.l 5),lP 22 5 false 1 (.t 21),vP 9 (.ts 22)]
def e7M:=Ts [] [fP 18 0 (.l 5),lP 19 5 false 1 (.t 18),bP 20 .eql (.t 19) (.c (.int .u8 5))] (.t 20) e9G .skip
def d8Q:=Rg [10] [oP 23 (.build [.int .u8 0,.int .i64 0,.str [],.list true [],.list true []] [(0,1)]) [.c (.int .u8 5)],⟨.bx,.alloc [.int .u8 0,.int .i64 0,.str [],.list true [],.list true []],[],some 10,none⟩,xP (.stLc 10 5) [.l 10,.ts 23] 10]
def d2w:=Rg [] [vP 15 (.v 9),op (.v 16) .lenL [.v 15],vP 17 (.c (.int .i64 0))]
def c6l:=Ts [] [bP 27 .lss (.v 17) (.v 16)] (.t 27) .skip (.exit 0)
def c8m:=Rg [11] [oP 28 (.iad 5) [.v 15,.v 17],oP 29 (.ldAn true 5) [.t 28],⟨.bx,.alloc [.int .u8 0,.int .i64 0,.str [],.list true [],.list true []],[],some 11,none⟩,xP (.stLc 11 5) [.l 11,.ts 29] 11]
def c9O:=Rg [12] [lP 31 3 true 7 (.l 3),lP 32 4 true 3 (.l 4),lP 33 11 true 5 (.l 11),oP 34 (.call 169) [.t 31,.t 32,.t 33],mP 30 (.t 34),oP 35 (.ext 0) [.t 30],oP 36 (.ext 1) [.t 30],oP 37 (.ext 2) [.t 30],⟨.bx,.alloc [.int .u8 0,.int .i64 0,.str [],.list true [],.list true []],[],some 12,none⟩,xP (.stLc 12 5) [.l 12,.ts 35] 12,vP 13 (.t 36),vP 14 (.t 37)]
def c9Z:=Rg [] [oP 41 (.build [.int .u8 0,.int .i64 0,.str [],.list true [],.list true []] []) [],nP 42 14,xP (.stLc 6 5) [.l 6,.ts 41] 6,vP 7 (.c (.bool false)),vP 8 (.t 42)]
def c5S:=Rg [] [oP 50 (.build [.int .u8 0,.int .i64 0,.str [],.list true [],.list true []] []) [],xP (.stLc 6 5) [.l 6,.ts 50] 6,vP 7 (.c (.bool false)),vP 8 (.c (.int .i64 9))]
def c7P:=Rg [] [oP 54 (.build [.int .u8 0,.int .i64 0,.str [],.list true [],.list true []] []) [],xP (.stLc 12 5) [.l 12,.ts 54] 12]
def c6T:=Ts [] [nP 52 13,oP 53 (.un .not) [.t 52],mP 51 (.t 53)] (.t 51) c7P .skip
def c6G:=Ts [] [nP 44 13,oP 45 (.un .not) [.t 44],mP 46 (.t 45),gP 47 (.fad 2) [.l 4] 46 true,⟨.t 48,.ldLc 4 false 1,[.t 47],some 4,some (.t 46,true)⟩,oP 49 .pick [.t 46,.t 48,.c (.bool false)],mP 43 (.t 49)] (.t 43) (Sq c5S .ret) c6T
def c6h:=Ts [] [nP 39 14,bP 40 .neq (.t 39) (.c (.int .i64 0)),mP 38 (.t 40)] (.t 38) (Sq c9Z .ret) c6G
def d0b:=Rg [] [fP 55 4 (.l 10),⟨.t 56,.ldLcS 10,[.t 55],some 10,none⟩,lP 57 12 true 5 (.l 12),oP 58 (.bslice 5 [[.int .u8 0,.int .i64 0,.str [],.list true [],.list true []]] [0]) [.t 57],oP 59 (.app 5 80) [.ts 56,.t 58],fP 60 4 (.l 10),xP (.stLc 10 1) [.t 60,.ts 59] 10]
def c1k:=Rg [] [bP 61 .add (.v 17) (.c (.int .i64 1)),vP 17 (.t 61)]
def c5M:=Rg [] [lP 62 10 true 5 (.l 10),xP (.stLc 6 5) [.l 6,.ts 62] 6,vP 7 (.c (.bool true)),vP 8 (.c (.int .i64 0))]
def g3l:ACode :=
  (Sq e6p (Sq e4U (Sq e7M (Sq d8Q (Sq (Sq d2w (Bk 0 (Lp (Sq c6l (Sq (Bk 1 (Sq c8m (Sq c9O (Sq (Bk 2 c6h) d0b)))) c1k))))) (Sq c5M .ret))))))
def g8i:AFn:={ np:=3,nv:=18,results:=[.bx 6 true 5,.v 7,.v 8],code:=g3l }
def a224s1:=Rg [3,4,5] [⟨.bx,.boxV,[.v 0],some 3,none⟩,⟨.bx,.boxV,[.v 2],some 4,none⟩,⟨.bx,.alloc [.int .u8 0,.int .i64 0,.str [],.list true [],.list true []],[],some 5,none⟩,vP 6 (.c (.bool false)),vP 7 (.c (.int .i64 0))]
def a224s3:=Rg [8] [fP 15 0 (.l 3),lP 16 3 false 1 (.t 15),nP 17 1,oP 18 (.call 30) [.t 16,.t 17],mP 14 (.t 18),oP 19 (.ext 0) [.t 14],oP 20 (.ext 1) [.t 14],⟨.bx,.alloc [.int .u8 0,.str [],.list true [],.list true []],[],some 8,none⟩,xP (.stLc 8 4) [.l 8,.ts 19] 8,mP 10 (.t 20)]
def a224s8:=Rg [] [nP 52 1,oP 53 (.bin .eql) [.t 52,.c (.str [73,68])],mP 54 (.t 53),gP 55 (.fad 0) [.l 4] 54 true,⟨.t 56,.ldLc 4 false 1,[.t 55],some 4,some (.t 54,true)⟩,gP 57 (.bin .eql) [.t 56,.c (.int .u8 2)] 54 true,oP 58 .pick [.t 54,.t 57,.c (.bool false)],vP 11 (.t 58)]
def a224s9:=Ts [] [nP 45 1,oP 46 (.bin .eql) [.t 45,.c (.str [66,111,111,108,101,97,110])],mP 47 (.t 46),gP 48 (.fad 0) [.l 4] 47 true,⟨.t 49,.ldLc 4 false 1,[.t 48],some 4,some (.t 47,true)⟩,gP 50 (.bin .eql) [.t 49,.c (.int .u8 3)] 47 true,oP 51 .pick [.t 47,.t 50,.c (.bool false)],vP 11 (.t 51)] (.v 11) .skip a224s8
def a224s10:=Ts [] [nP 38 1,oP 39 (.bin .eql) [.t 38,.c (.str [83,116,114,105,110,103])],mP 40 (.t 39),gP 41 (.fad 0) [.l 4] 40 true,⟨.t 42,.ldLc 4 false 1,[.t 41],some 4,some (.t 40,true)⟩,gP 43 (.bin .eql) [.t 42,.c (.int .u8 2)] 40 true,oP 44 .pick [.t 40,.t 43,.c (.bool false)],vP 11 (.t 44)] (.v 11) .skip a224s9
def a224s11:=Ts [] [nP 22 1,oP 23 (.bin .eql) [.t 22,.c (.str [73,110,116])],mP 24 (.t 23),gP 25 (.fad 0) [.l 4] 24 true,⟨.t 26,.ldLc 4 false 1,[.t 25],some 4,some (.t 24,true)⟩,gP 27 (.bin .eql) [.t 26,.c (.int .u8 1)] 24 true,oP 28 .pick [.t 24,.t 27,.c (.bool false)],mP 29 (.t 28),gP 30 (.fad 1) [.l 4] 29 true,⟨.t 31,.ldLc 4 false 1,[.t 30],some 4,some (.t 29,true)⟩,gP 32 (.fad 1) [.l 4] 29 true,⟨.t 33,.ldLc 4 false 1,[.t 32],some 4,some (.t 29,true)⟩,gP 34 (.conv .i32) [.t 33] 29 true,gP 35 (.conv .i64) [.t 34] 29 true,gP 36 (.bin .eql) [.t 31,.t 35] 29 true,oP 37 .pick [.t 29,.t 36,.c (.bool false)],vP 11 (.t 37)] (.v 11) .skip a224s10
def a224s13:=Rg [] [lP 59 4 true 5 (.l 4),xP (.stLc 5 5) [.l 5,.ts 59] 5,vP 6 (.c (.bool true)),vP 7 (.c (.int .i64 0))]
def a224s17:=Rg [] [fP 68 1 (.l 4),lP 69 4 false 1 (.t 68),oP 70 (.call 260) [.t 69,.c (.int .i64 10)],oP 71 (.build [.int .u8 0,.int .i64 0,.str [],.list true [],.list true []] [(0,1),(2,1)]) [.c (.int .u8 2),.t 70],xP (.stLc 5 5) [.l 5,.ts 71] 5,vP 6 (.c (.bool true)),vP 7 (.c (.int .i64 0))]
def a224s21:=Rg [] [fP 97 2 (.l 4),lP 98 4 false 1 (.t 97),oP 99 (.build [.int .u8 0,.int .i64 0,.str [],.list true [],.list true []] [(0,1),(2,1)]) [.c (.int .u8 4),.t 98],xP (.stLc 5 5) [.l 5,.ts 99] 5,vP 6 (.c (.bool true)),vP 7 (.c (.int .i64 0))]
def a224s25:=Rg [9] [lP 110 3 true 7 (.l 3),fP 111 2 (.l 8),lP 112 8 false 1 (.t 111),lP 113 4 true 5 (.l 4),oP 114 (.call 176) [.t 110,.t 112,.t 113],mP 109 (.t 114),oP 115 (.ext 0) [.t 109],oP 116 (.ext 1) [.t 109],oP 117 (.ext 2) [.t 109],⟨.bx,.alloc [.int .u8 0,.int .i64 0,.str [],.list true [],.list true []],[],some 9,none⟩,xP (.stLc 9 5) [.l 9,.ts 115] 9,mP 12 (.t 116),vP 10 (.t 117)]
def a224s27:=Rg [] [lP 118 9 true 5 (.l 9),nP 119 10,bP 120 .eql (.t 119) (.c (.int .i64 0)),nP 121 10,xP (.stLc 5 5) [.l 5,.ts 118] 5,vP 6 (.t 120),vP 7 (.t 121)]
def a224s30:=Ts [] [fP 101 0 (.l 8),lP 102 8 false 1 (.t 101),bP 103 .eql (.t 102) (.c (.int .u8 5)),mP 104 (.t 103),gP 105 (.fad 0) [.l 4] 104 true,⟨.t 106,.ldLc 4 false 1,[.t 105],some 4,some (.t 104,true)⟩,gP 107 (.bin .eql) [.t 106,.c (.int .u8 6)] 104 true,oP 108 .pick [.t 104,.t 107,.c (.bool false)],mP 100 (.t 108)] (.t 100) (Sq a224s25 (Sq a224s27 .ret)) .skip
def a224s31:=Ts [] [fP 73 0 (.l 8),lP 74 8 false 1 (.t 73),bP 75 .eql (.t 74) (.c (.int .u8 4)),mP 76 (.t 75),gP 77 (.fad 0) [.l 4] 76 true,⟨.t 78,.ldLc 4 false 1,[.t 77],some 4,some (.t 76,true)⟩,gP 79 (.bin .eql) [.t 78,.c (.int .u8 4)] 76 true,gP 80 .mv [.t 79] 76 true,gP 81 (.fad 0) [.l 4] 80 false,⟨.t 82,.ldLc 4 false 1,[.t 81],some 4,some (.t 80,false)⟩,gP 83 (.bin .eql) [.t 82,.c (.int .u8 2)] 80 false,gP 84 .mv [.t 83] 80 false,gP 85 (.fad 6) [.l 3] 84 true,⟨.t 86,.ldLc 3 false 1,[.t 85],some 3,some (.t 84,true)⟩,gP 87 .pick [.t 84,.t 86,.c (.bool false)] 80 false,gP 88 .pick [.t 80,.c (.bool true),.t 87] 76 true,oP 89 .pick [.t 76,.t 88,.c (.bool false)],mP 90 (.t 89),gP 91 (.fad 3) [.l 8] 90 true,⟨.t 92,.ldLc 8 false 1,[.t 91],some 8,some (.t 90,true)⟩,gP 93 (.fad 2) [.l 4] 90 true,⟨.t 94,.ldLc 4 false 1,[.t 93],some 4,some (.t 90,true)⟩,gP 95 (.call 27) [.t 92,.t 94] 90 true,oP 96 .pick [.t 90,.t 95,.c (.bool false)],mP 72 (.t 96)] (.t 72) (Sq a224s21 .ret) a224s30
def a224s32:=Ts [] [nP 61 1,oP 62 (.bin .eql) [.t 61,.c (.str [73,68])],mP 63 (.t 62),gP 64 (.fad 0) [.l 4] 63 true,⟨.t 65,.ldLc 4 false 1,[.t 64],some 4,some (.t 63,true)⟩,gP 66 (.bin .eql) [.t 65,.c (.int .u8 1)] 63 true,oP 67 .pick [.t 63,.t 66,.c (.bool false)],mP 60 (.t 67)] (.t 60) (Sq a224s17 .ret) a224s31
def a224s33:=Ts [] [] (.v 11) (Sq a224s13 .ret) a224s32
def a224s37:=Rg [] [oP 122 (.build [.int .u8 0,.int .i64 0,.str [],.list true [],.list true []] []) [],xP (.stLc 5 5) [.l 5,.ts 122] 5,vP 6 (.c (.bool false)),vP 7 (.c (.int .i64 8))]
def a224c:ACode :=
  (Sq a224s1 (Sq a224s3 (Sq (Bk 0 (Sq a224s11 a224s33)) (Sq a224s37 .ret))))
def a224:AFn:={ np:=3,nv:=12,results:=[.bx 5 true 5,.v 6,.v 7],code:=a224c }
def e3C:=Rg [] [vP 2 (.c (.bool false))]
def d4p:=Rg [] [nP 5 0,nP 6 1,oP 7 (.call 261) [.t 5,.t 6],bP 8 .geq (.t 7) (.c (.int .i64 0)),vP 2 (.t 8)]
def g3y:ACode :=
  (Sq e3C (Sq d4p .ret))
def g7f:AFn:={ np:=2,nv:=3,results:=[.v 2],code:=g3y }
def d6X:=Rg [2] [⟨.bx,.boxV,[.v 0],some 2,none⟩,vP 3 (.c (.bool false))]
def e8w:=Rg [] [fP 4 0 (.l 2),lP 5 2 false 1 (.t 4),oP 6 (.bin .eql) [.t 5,.c (.str [115,107,105,112])],mP 7 (.t 6),gP 8 (.ldSt false 1) [.v 1] 7 true,⟨.t 9,.ldLc 2 true 2,[.l 2],some 2,some (.t 7,true)⟩,gP 10 (.call 227) [.t 8,.t 9] 7 true,oP 11 .pick [.t 7,.t 10,.c (.bool false)],mP 12 (.t 11),gP 13 (.fad 0) [.l 2] 12 false,⟨.t 14,.ldLc 2 false 1,[.t 13],some 2,some (.t 12,false)⟩,gP 15 (.bin .eql) [.t 14,.c (.str [105,110,99,108,117,100,101])] 12 false,gP 16 .mv [.t 15] 12 false,gP 17 (.ldSt false 1) [.v 1] 16 true,⟨.t 18,.ldLc 2 true 2,[.l 2],some 2,some (.t 16,true)⟩,gP 19 (.call 227) [.t 17,.t 18] 16 true,gP 20 (.un .not) [.t 19] 16 true,gP 21 .pick [.t 16,.t 20,.c (.bool false)] 12 false,oP 22 .pick [.t 12,.c (.bool true),.t 21],vP 3 (.t 22)]
def g0W:ACode :=
  (Sq d6X (Sq e8w .ret))
def g7F:AFn:={ np:=2,nv:=4,results:=[.v 3],code:=g0W }
def e2f:=Rg [2] [⟨.bx,.boxV,[.v 1],some 2,none⟩,vP 3 (.c (.bool false))]
def e4B:=Rg [] [fP 8 1 (.l 2),⟨.v 6,.ldLc 2 false 1,[.t 8],some 2,none⟩,op (.v 7) .lenL [.v 6],vP 8 (.c (.int .i64 0))]
def f0S:=Ts [] [bP 12 .lss (.v 8) (.v 7)] (.t 12) .skip (.exit 0)
def d60:=Rg [4] [oP 13 (.iad 6) [.v 6,.v 8],oP 14 (.ldRo true 6) [.t 13],⟨.bx,.alloc [.str [],.int .u8 0,.int .i64 0,.str [],.list true [],.list true []],[],some 4,none⟩,xP (.stLc 4 6) [.l 4,.ts 14] 4]
def f1u:=Rg [5] [fP 15 1 (.l 4),lP 16 4 true 5 (.t 15),⟨.bx,.alloc [.int .u8 0,.int .i64 0,.str [],.list true [],.list true []],[],some 5,none⟩,xP (.stLc 5 5) [.l 5,.ts 16] 5]
def c31:=Rg [] [nP 21 0,oP 22 .nilchk [.t 21],fP 23 4 (.t 22),oP 24 (.ldSt true 5) [.t 23],fP 25 2 (.l 5),lP 26 5 false 1 (.t 25),oP 27 (.call 106) [.t 24,.t 26],mP 20 (.t 27),oP 28 (.ext 0) [.t 20],oP 29 (.ext 1) [.t 20],xP (.stLc 5 5) [.l 5,.ts 28] 5]
def c2i:=Ts [] [fP 17 0 (.l 5),lP 18 5 false 1 (.t 17),bP 19 .eql (.t 18) (.c (.int .u8 7))] (.t 19) c31 .skip
def c1e:=Rg [] [fP 33 0 (.l 5),lP 34 5 false 1 (.t 33),bP 35 .eql (.t 34) (.c (.int .u8 3)),mP 36 (.t 35),gP 37 (.fad 1) [.l 5] 36 true,⟨.t 38,.ldLc 5 false 1,[.t 37],some 5,some (.t 36,true)⟩,gP 39 (.bin .eql) [.t 38,.c (.int .i64 1)] 36 true,oP 40 .pick [.t 36,.t 39,.c (.bool false)],vP 3 (.t 40)]
def d0c:=Ts [] [fP 30 0 (.l 4),lP 31 4 false 1 (.t 30),oP 32 (.bin .eql) [.t 31,.c (.str [105,102])]] (.t 32) (Sq c1e .ret) .skip
def d2G:=Rg [] [bP 41 .add (.v 8) (.c (.int .i64 1)),vP 8 (.t 41)]
def c63:=Rg [] [vP 3 (.c (.bool false))]
def f9I:ACode :=
  (Sq e2f (Sq (Sq e4B (Bk 0 (Lp (Sq f0S (Sq (Bk 1 (Sq d60 (Sq f1u (Sq c2i d0c)))) d2G))))) (Sq c63 .ret)))
def g4j:AFn:={ np:=2,nv:=9,results:=[.v 3],code:=f9I }
def f3a:=Rg [] [vP 2 (.c (.int .i64 0))]
def e1F:=Rg [] [nP 6 0,op (.v 4) .lenL [.t 6],vP 5 (.c (.int .i64 0))]
def e4e:=Ts [] [bP 9 .lss (.v 5) (.v 4)] (.t 9) .skip (.exit 0)
def f0H:=Rg [] [nP 10 5,vP 3 (.t 10)]
def c8v:=Rg [] [nP 17 3,vP 2 (.t 17)]
def c7u:=Ts [] [nP 11 1,nP 12 0,nP 13 3,oP 14 (.iad 2) [.t 12,.t 13],oP 15 (.ldSt true 2) [.t 14],oP 16 .callV [.t 11,.t 15]] (.t 16) (Sq c8v .ret) .skip
def c9b:=Rg [] [bP 18 .add (.v 5) (.c (.int .i64 1)),vP 5 (.t 18)]
def c5N:=Rg [] [vP 2 (.c (.int .i64 (-1)))]
def f7Q:ACode :=
  (Sq f3a (Sq (Sq e1F (Bk 0 (Lp (Sq e4e (Sq (Bk 1 (Sq f0H c7u)) c9b))))) (Sq c5N .ret)))
def g5n:AFn:={ np:=2,nv:=6,results:=[.v 2],code:=f7Q }
def d6I:=Rg [2] [⟨.bx,.boxV,[.v 0],some 2,none⟩,vP 3 (.c (.bool false))]
def f1A:=Rg [] [fP 4 0 (.l 2),lP 5 2 false 1 (.t 4),oP 6 (.ldSt false 1) [.v 1],bP 7 .eql (.t 5) (.t 6),vP 3 (.t 7)]
def f8S:ACode :=
  (Sq d6I (Sq f1A .ret))
def g6Z:AFn:={ np:=2,nv:=4,results:=[.v 3],code:=f8S }
def e41:=Rg [] [op (.v 2) .mv [.c (.list true [])]]
def e3B:=Rg [3] [nP 11 0,nP 12 1,oP 13 (.call 30) [.t 11,.t 12],mP 10 (.t 13),oP 14 (.ext 0) [.t 10],oP 15 (.ext 1) [.t 10],⟨.bx,.alloc [.int .u8 0,.str [],.list true [],.list true []],[],some 3,none⟩,xP (.stLc 3 4) [.l 3,.ts 14] 3,vP 4 (.t 15)]
def e5L:=Rg [] [op (.v 2) .mv [.c (.list true [])]]
def c65:=Rg [] [nP 23 1,oP 24 (.bslice 1 [[.str []]] [0]) [.t 23],vP 2 (.ts 24)]
def d3q:=Rg [] [fP 29 3 (.l 3),lP 30 3 false 1 (.t 29),oP 31 (.call 262) [.t 30],vP 2 (.ts 31)]
def d1b:=Rg [] [op (.v 2) .mv [.c (.list true [])]]
def c51:=Ts [] [fP 33 0 (.l 3),lP 34 3 false 1 (.t 33),bP 35 .neq (.t 34) (.c (.int .u8 2)),mP 32 (.t 35)] (.t 32) (Sq d1b .ret) .skip
def c9o:=Ts [] [fP 26 0 (.l 3),lP 27 3 false 1 (.t 26),bP 28 .eql (.t 27) (.c (.int .u8 3)),mP 25 (.t 28)] (.t 25) (Sq d3q .ret) c51
def d2T:=Ts [] [fP 20 0 (.l 3),lP 21 3 false 1 (.t 20),bP 22 .eql (.t 21) (.c (.int .u8 1)),mP 19 (.t 22)] (.t 19) (Sq c65 .ret) c9o
def d2N:=Ts [] [nP 17 4,oP 18 (.un .not) [.t 17],mP 16 (.t 18)] (.t 16) (Sq e5L .ret) d2T
def c33:=Rg [] [op (.v 5) .mv [.c (.list true [])]]
def c4N:=Rg [] [nP 36 0,oP 37 .nilchk [.t 36],fP 38 0 (.t 37),op (.v 7) (.ldSt false 1) [.t 38],op (.v 8) .lenL [.v 7],vP 9 (.c (.int .i64 0))]
def c3M:=Ts [] [bP 42 .lss (.v 9) (.v 8)] (.t 42) .skip (.exit 1)
def d0e:=Rg [6] [oP 43 (.iad 4) [.v 7,.v 9],oP 44 (.ldRo true 4) [.t 43],⟨.bx,.alloc [.int .u8 0,.str [],.list true [],.list true []],[],some 6,none⟩,xP (.stLc 6 4) [.l 6,.ts 44] 6]
def d23:=Rg [] [mP 54 (.vs 5),fP 55 1 (.l 6),lP 56 6 false 1 (.t 55),oP 57 (.bslice 1 [[.str []]] [0]) [.t 56],oP 58 (.app 1 16) [.ts 54,.t 57],vP 5 (.ts 58)]
def d1n:=Ts [] [fP 45 0 (.l 6),lP 46 6 false 1 (.t 45),bP 47 .eql (.t 46) (.c (.int .u8 1)),mP 48 (.t 47),gP 49 (.fad 3) [.l 6] 48 true,⟨.t 50,.ldLc 6 false 1,[.t 49],some 6,some (.t 48,true)⟩,gP 51 .mv [.v 1] 48 true,gP 52 (.call 27) [.t 50,.t 51] 48 true,oP 53 .pick [.t 48,.t 52,.c (.bool false)]] (.t 53) d23 .skip
def c2y:=Rg [] [bP 59 .add (.v 9) (.c (.int .i64 1)),vP 9 (.t 59)]
def c6a:=Rg [] [nP 60 5,vP 2 (.ts 60)]
def f7K:ACode :=
  (Sq e41 (Sq e3B (Sq (Bk 0 d2N) (Sq c33 (Sq (Sq c4N (Bk 1 (Lp (Sq c3M (Sq (Bk 2 (Sq d0e d1n)) c2y))))) (Sq c6a .ret))))))
def g3J:AFn:={ np:=2,nv:=10,results:=[.v 2],code:=f7K }
def d6b:=Rg [2] [⟨.bx,.boxV,[.v 0],some 2,none⟩,vP 3 (.c (.bool false))]
def e81:=Rg [] [fP 4 0 (.l 2),lP 5 2 false 1 (.t 4),oP 6 (.ldSt false 1) [.v 1],bP 7 .eql (.t 5) (.t 6),vP 3 (.t 7)]
def f9K:ACode :=
  (Sq d6b (Sq e81 .ret))
def g49:AFn:={ np:=2,nv:=4,results:=[.v 3],code:=f9K }
def e2J:=Rg [] [vP 2 (.c (.int .i64 0)),vP 3 (.c (.bool false))]
def f2b:=Rg [] [nP 10 0,oP 11 .lenL [.t 10],vP 4 (.t 11)]
def d4m:=Rg [] [nP 12 4,vP 5 (.c (.int .i64 0)),vP 6 (.t 12)]
def d9X:=Ts [] [nP 13 5,nP 14 6,bP 15 .lss (.t 13) (.t 14)] (.t 15) .skip (.exit 0)
def e1g:=Rg [] [nP 16 5,nP 17 6,bP 18 .add (.t 16) (.t 17),oP 19 (.conv .u64) [.t 18],bP 20 .shr (.t 19) (.c (.int .u64 1)),oP 21 (.conv .i64) [.t 20],vP 7 (.t 21)]
def c49:=Rg [] [nP 28 7,bP 29 .add (.t 28) (.c (.int .i64 1)),vP 5 (.t 29)]
def c1b:=Rg [] [nP 30 7,vP 6 (.t 30)]
def d3Z:=Ts [] [nP 22 0,nP 23 7,oP 24 (.iad 1) [.t 22,.t 23],oP 25 (.ldAn false 1) [.t 24],nP 26 1,oP 27 (.call 263) [.t 25,.t 26]] (.t 27) c49 c1b
def c3y:=Rg [] [nP 31 5,nP 32 5,nP 33 4,bP 34 .lss (.t 32) (.t 33),mP 35 (.t 34),gP 36 .mv [.v 0] 35 true,gP 37 .mv [.v 5] 35 true,gP 38 (.iad 1) [.t 36,.t 37] 35 true,gP 39 (.ldAn false 1) [.t 38] 35 true,gP 40 .mv [.v 1] 35 true,gP 41 (.bin .eql) [.t 39,.t 40] 35 true,gP 42 .mv [.t 41] 35 true,gP 43 .mv [.v 0] 42 false,gP 44 .mv [.v 5] 42 false,gP 45 (.iad 1) [.t 43,.t 44] 42 false,gP 46 (.ldAn false 1) [.t 45] 42 false,gP 47 (.call 264) [.t 46] 42 false,gP 48 .mv [.t 47] 42 false,gP 49 .mv [.v 1] 48 true,gP 50 (.call 264) [.t 49] 48 true,gP 51 .pick [.t 48,.t 50,.c (.bool false)] 42 false,gP 52 .pick [.t 42,.c (.bool true),.t 51] 35 true,oP 53 .pick [.t 35,.t 52,.c (.bool false)],vP 2 (.t 31),vP 3 (.t 53)]
def f7b:ACode :=
  (Sq e2J (Sq f2b (Sq d4m (Sq (Bk 0 (Lp (Sq d9X (Bk 1 (Sq e1g d3Z))))) (Sq c3y .ret)))))
def a232:AFn:={ np:=2,nv:=8,results:=[.v 2,.v 3],code:=f7b }
def a233s1:=Rg [5,6,7,8] [⟨.bx,.boxV,[.v 1],some 5,none⟩,⟨.bx,.boxV,[.v 2],some 6,none⟩,⟨.bx,.boxV,[.v 3],some 7,none⟩,⟨.bx,.alloc [.int .u8 0,.int .i64 0,.str [],.list true [],.list true []],[],some 8,none⟩]
def a233s4:=Rg [] [lP 24 6 true 5 (.l 6),xP (.stLc 8 5) [.l 8,.ts 24] 8]
def a233s9:=Rg [] [nP 33 0,nP 34 4,oP 35 (.call 234) [.t 33,.t 34,.c (.int .i64 8)]]
def a233s11:=Rg [] [oP 36 (.build [.int .u8 0,.int .i64 0,.str [],.list true [],.list true []] []) [],xP (.stLc 8 5) [.l 8,.ts 36] 8]
def a233s14:=Ts [] [fP 30 0 (.l 6),lP 31 6 false 1 (.t 30),bP 32 .neq (.t 31) (.c (.int .u8 5))] (.t 32) (Sq a233s9 (Sq a233s11 .ret)) .skip
def a233s16:=Rg [9] [oP 37 (.build [.int .u8 0,.int .i64 0,.str [],.list true [],.list true []] [(0,1)]) [.c (.int .u8 5)],⟨.bx,.alloc [.int .u8 0,.int .i64 0,.str [],.list true [],.list true []],[],some 9,none⟩,xP (.stLc 9 5) [.l 9,.ts 37] 9]
def a233s18:=Rg [] [fP 38 4 (.l 6),⟨.v 17,.ldLc 6 false 1,[.t 38],some 6,none⟩,op (.v 18) .lenL [.v 17],vP 19 (.c (.int .i64 0))]
def a233s20:=Ts [] [bP 42 .lss (.v 19) (.v 18)] (.t 42) .skip (.exit 1)
def a233s22:=Rg [11] [nP 43 19,oP 44 (.iad 5) [.v 17,.v 19],oP 45 (.ldAn true 5) [.t 44],⟨.bx,.alloc [.int .u8 0,.int .i64 0,.str [],.list true [],.list true []],[],some 11,none⟩,vP 10 (.t 43),xP (.stLc 11 5) [.l 11,.ts 45] 11]
def a233s25:=Rg [] [oP 49 (.build [.int .u8 0,.int .i64 0,.str [],.list true [],.list true []] []) [],xP (.stLc 8 5) [.l 8,.ts 49] 8]
def a233s27:=Ts [] [nP 46 0,oP 47 (.call 265) [.t 46],oP 48 (.un .not) [.t 47]] (.t 48) (Sq a233s25 .ret) .skip
def a233s29:=Rg [12] [nP 51 0,fP 52 1 (.l 5),lP 53 5 false 1 (.t 52),oP 54 (.iad 3) [.t 53,.c (.int .i64 0)],oP 55 (.ldRo true 3) [.t 54],lP 56 11 true 5 (.l 11),lP 57 7 true 2 (.l 7),nP 58 4,oP 59 (.call 262) [.t 58],nP 60 10,oP 61 (.call 266) [.t 60],oP 62 (.bslice 1 [[.str []]] [0]) [.t 61],oP 63 (.app 1 16) [.ts 59,.t 62],oP 64 (.call 182) [.t 51,.t 55,.t 56,.t 57,.t 63],mP 50 (.t 64),oP 65 (.ext 0) [.t 50],oP 66 (.ext 1) [.t 50],⟨.bx,.alloc [.int .u8 0,.int .i64 0,.str [],.list true [],.list true []],[],some 12,none⟩,xP (.stLc 12 5) [.l 12,.ts 65] 12,vP 13 (.t 66)]
def a233s32:=Rg [] [oP 69 (.build [.int .u8 0,.int .i64 0,.str [],.list true [],.list true []] []) [],xP (.stLc 8 5) [.l 8,.ts 69] 8]
def a233s34:=Ts [] [nP 67 13,oP 68 (.un .not) [.t 67]] (.t 68) (Sq a233s32 .ret) .skip
def a233s36:=Rg [] [fP 70 4 (.l 9),⟨.t 71,.ldLcS 9,[.t 70],some 9,none⟩,lP 72 12 true 5 (.l 12),oP 73 (.bslice 5 [[.int .u8 0,.int .i64 0,.str [],.list true [],.list true []]] [0]) [.t 72],oP 74 (.app 5 80) [.ts 71,.t 73],fP 75 4 (.l 9),xP (.stLc 9 1) [.t 75,.ts 74] 9]
def a233s43:=Rg [] [bP 76 .add (.v 19) (.c (.int .i64 1)),vP 19 (.t 76)]
def a233s50:=Rg [] [lP 77 9 true 5 (.l 9),xP (.stLc 8 5) [.l 8,.ts 77] 8]
def a233s58:=Rg [] [nP 92 0,nP 93 4,oP 94 (.call 234) [.t 92,.t 93,.c (.int .i64 8)]]
def a233s60:=Rg [] [oP 95 (.build [.int .u8 0,.int .i64 0,.str [],.list true [],.list true []] []) [],xP (.stLc 8 5) [.l 8,.ts 95] 8]
def a233s63:=Ts [] [nP 86 0,fP 87 0 (.l 5),lP 88 5 false 1 (.t 87),lP 89 6 true 5 (.l 6),oP 90 (.call 267) [.t 86,.t 88,.t 89],oP 91 (.un .not) [.t 90]] (.t 91) (Sq a233s58 (Sq a233s60 .ret)) .skip
def a233s65:=Rg [] [lP 96 6 true 5 (.l 6),xP (.stLc 8 5) [.l 8,.ts 96] 8]
def a233s70:=Rg [] [nP 101 0,nP 102 4,oP 103 (.call 234) [.t 101,.t 102,.c (.int .i64 8)]]
def a233s72:=Rg [] [oP 104 (.build [.int .u8 0,.int .i64 0,.str [],.list true [],.list true []] []) [],xP (.stLc 8 5) [.l 8,.ts 104] 8]
def a233s75:=Ts [] [fP 98 0 (.l 6),lP 99 6 false 1 (.t 98),bP 100 .neq (.t 99) (.c (.int .u8 8)),mP 97 (.t 100)] (.t 97) (Sq a233s70 (Sq a233s72 .ret)) .skip
def a233s76:=Ts [] [nP 79 0,oP 80 .nilchk [.t 79],fP 81 0 (.t 80),oP 82 (.ldSt false 1) [.t 81],fP 83 0 (.l 5),lP 84 5 false 1 (.t 83),oP 85 (.call 159) [.t 82,.t 84],mP 78 (.t 85)] (.t 78) (Sq a233s63 (Sq a233s65 .ret)) a233s75
def a233s77:=Ts [] [fP 26 1 (.l 5),lP 27 5 false 1 (.t 26),oP 28 .lenL [.t 27],bP 29 .gtr (.t 28) (.c (.int .i64 0)),mP 25 (.t 29)] (.t 25) (Sq a233s14 (Sq a233s16 (Sq (Sq a233s18 (Bk 1 (Lp (Sq a233s20 (Sq (Bk 2 (Sq a233s22 (Sq a233s27 (Sq a233s29 (Sq a233s34 a233s36))))) a233s43))))) (Sq a233s50 .ret)))) a233s76
def a233s78:=Ts [] [fP 21 0 (.l 6),lP 22 6 false 1 (.t 21),bP 23 .eql (.t 22) (.c (.int .u8 0)),mP 20 (.t 23)] (.t 20) (Sq a233s4 .ret) a233s77
def a233s82:=Rg [] [nP 117 0,oP 118 .nilchk [.t 117],fP 119 12 (.t 118),op .none (.stSt 1) [.t 119,.c (.bool true)]]
def a233s83:=Ts [] [nP 105 0,oP 106 .nilchk [.t 105],fP 107 3 (.t 106),oP 108 (.ldSt true 3) [.t 107],nP 109 0,oP 110 .nilchk [.t 109],fP 111 0 (.t 110),oP 112 (.ldSt false 1) [.t 111],fP 113 0 (.l 5),lP 114 5 false 1 (.t 113),oP 115 (.call 268) [.t 108,.t 112,.t 114],oP 116 (.un .not) [.t 115]] (.t 116) a233s82 .skip
def a233s85:=Rg [14] [nP 121 0,oP 122 .nilchk [.t 121],fP 123 3 (.t 122),fP 124 0 (.t 123),oP 125 (.ldSt true 1) [.t 124],fP 126 2 (.l 6),lP 127 6 false 1 (.t 126),oP 128 (.call 177) [.t 125,.t 127],mP 120 (.t 128),oP 129 (.ext 0) [.t 120],oP 130 (.ext 1) [.t 120],⟨.bx,.alloc [.str [],.str [],.list true [],.list true []],[],some 14,none⟩,xP (.stLc 14 4) [.l 14,.ts 129] 14,vP 15 (.t 130)]
def a233s88:=Rg [] [oP 146 (.build [.int .u8 0,.int .i64 0,.str [],.list true [],.list true []] []) [],xP (.stLc 8 5) [.l 8,.ts 146] 8]
def a233s90:=Ts [] [nP 131 15,oP 132 (.un .not) [.t 131],mP 133 (.t 132),gP 134 .mv [.v 0] 133 false,gP 135 .nilchk [.t 134] 133 false,gP 136 (.fad 0) [.t 135] 133 false,gP 137 (.ldSt false 1) [.t 136] 133 false,gP 138 (.fad 0) [.l 5] 133 false,⟨.t 139,.ldLc 5 false 1,[.t 138],some 5,some (.t 133,false)⟩,gP 140 (.call 230) [.t 137,.t 139] 133 false,gP 141 (.fad 0) [.l 14] 133 false,⟨.t 142,.ldLc 14 false 1,[.t 141],some 14,some (.t 133,false)⟩,gP 143 (.call 27) [.t 140,.t 142] 133 false,gP 144 (.un .not) [.t 143] 133 false,oP 145 .pick [.t 133,.c (.bool true),.t 144]] (.t 145) (Sq a233s88 .ret) .skip
def a233s92:=Rg [16] [nP 148 0,fP 149 0 (.l 14),lP 150 14 false 1 (.t 149),lP 151 14 true 4 (.l 14),lP 152 7 true 2 (.l 7),oP 153 (.call 270) [.t 152],nP 154 4,oP 155 (.call 269) [.t 148,.t 150,.t 151,.t 153,.t 154],mP 147 (.t 155),oP 156 (.ext 0) [.t 147],oP 157 (.ext 1) [.t 147],⟨.bx,.alloc [.int .u8 0,.int .i64 0,.str [],.list true [],.list true []],[],some 16,none⟩,xP (.stLc 16 5) [.l 16,.ts 156] 16,mP 19 (.t 157)]
def a233s94:=Rg [] [lP 158 16 true 5 (.l 16),xP (.stLc 8 5) [.l 8,.ts 158] 8]
def a233c:ACode :=
  (Sq a233s1 (Sq (Bk 0 a233s78) (Sq a233s83 (Sq a233s85 (Sq a233s90 (Sq a233s92 (Sq a233s94 .ret)))))))
def a233:AFn:={ np:=5,nv:=20,results:=[.bx 8 true 5],code:=a233c }
def e9D:=Rg [] [nP 6 0,nP 7 0,oP 8 .nilchk [.t 7],fP 9 11 (.t 8),oP 10 (.ldStR false 1) [.t 9,.v 0],nP 11 1,oP 12 (.callA 262 1) [.t 11,.v 0],nP 13 2,oP 14 (.build [.list true [],.int .i64 0] [(0,1),(1,1)]) [.t 12,.t 13],oP 15 (.bsliceM 2 [[.list true [],.int .i64 0]] [0]) [.ts 14],oP 16 (.appM 2 32) [.ts 10,.t 15],oP 17 .nilchk [.t 6],fP 18 11 (.t 17),op .none (.stSt 1) [.t 18,.t 16]]
def f5q:ACode :=
  e9D
def g8U:AFn:={ np:=3,nv:=3,results:=[],code:=f5q }
def d8m:=Rg [] [op (.v 2) .mv [.c (.str [])],vP 3 (.c (.bool false))]
def e1V:=Rg [] [nP 10 0,vP 2 (.t 10),vP 3 (.c (.bool false))]
def e0Z:=Ts [] [nP 6 0,nP 7 1,oP 8 (.call 58) [.t 6,.t 7],oP 9 (.un .not) [.t 8]] (.t 9) (Sq e1V .ret) .skip
def d45:=Rg [] [nP 11 0,nP 12 1,oP 13 .lenS [.t 12],oP 14 (.slS true false) [.t 11,.t 13],vP 2 (.t 14),vP 3 (.c (.bool true))]
def f8w:ACode :=
  (Sq d8m (Sq e0Z (Sq d45 .ret)))
def g5e:AFn:={ np:=2,nv:=4,results:=[.v 2,.v 3],code:=f8w }
def f4C:=Rg [] [vP 2 (.c (.int .i64 0))]
def d9k:=Rg [] [nP 6 0,op (.v 4) .lenL [.t 6],vP 5 (.c (.int .i64 0))]
def f2A:=Ts [] [bP 9 .lss (.v 5) (.v 4)] (.t 9) .skip (.exit 0)
def d7V:=Rg [] [nP 10 5,vP 3 (.t 10)]
def c05:=Rg [] [nP 17 3,vP 2 (.t 17)]
def c6M:=Ts [] [nP 11 1,nP 12 0,nP 13 3,oP 14 (.iad 5) [.t 12,.t 13],oP 15 (.ldAn true 5) [.t 14],oP 16 .callV [.t 11,.t 15]] (.t 16) (Sq c05 .ret) .skip
def d1I:=Rg [] [bP 18 .add (.v 5) (.c (.int .i64 1)),vP 5 (.t 18)]
def c8L:=Rg [] [vP 2 (.c (.int .i64 (-1)))]
def f8K:ACode :=
  (Sq f4C (Sq (Sq d9k (Bk 0 (Lp (Sq f2A (Sq (Bk 1 (Sq d7V c6M)) d1I))))) (Sq c8L .ret)))
def g4Y:AFn:={ np:=2,nv:=6,results:=[.v 2],code:=f8K }
def d4J:=Rg [2] [⟨.bx,.boxV,[.v 0],some 2,none⟩,vP 3 (.c (.bool false))]
def e5N:=Rg [] [fP 4 2 (.l 2),fP 5 2 (.t 4),lP 6 2 false 1 (.t 5),mP 7 (.t 6),gP 8 (.fad 5) [.l 2] 7 true,⟨.t 9,.ldLc 2 false 1,[.t 8],some 2,some (.t 7,true)⟩,gP 10 (.un .not) [.t 9] 7 true,oP 11 .pick [.t 7,.t 10,.c (.bool false)],mP 12 (.t 11),gP 13 (.fad 3) [.v 1] 12 true,gP 14 (.ldSt false 1) [.t 13] 12 true,gP 15 (.fad 0) [.l 2] 12 true,⟨.t 16,.ldLc 2 false 1,[.t 15],some 2,some (.t 12,true)⟩,gP 17 (.call 27) [.t 14,.t 16] 12 true,gP 18 (.un .not) [.t 17] 12 true,oP 19 .pick [.t 12,.t 18,.c (.bool false)],vP 3 (.t 19)]
def g0n:ACode :=
  (Sq d4J (Sq e5N .ret))
def g4S:AFn:={ np:=2,nv:=4,results:=[.v 3],code:=g0n }
def d6E:=Rg [] [vP 3 (.c (.int .i64 0)),vP 4 (.c (.nili))]
def d87:=Rg [] [nP 10 0,nP 11 1,nP 12 2,oP 13 (.call 271) [.t 10,.t 11,.t 12],mP 9 (.t 13),oP 14 (.ext 0) [.t 9],oP 15 (.ext 1) [.t 9],vP 5 (.t 14),vP 4 (.t 15)]
def e7m:=Rg [] [nP 18 5,nP 19 0,nP 20 1,nP 21 2,nP 22 4,oP 23 (.call 272) [.c (.str [80,97,114,115,101,73,110,116]),.t 19,.t 20,.t 21,.t 22],vP 3 (.t 18),vP 4 (.t 23)]
def e4x:=Ts [] [nP 16 4,oP 17 (.binP .gtr) [.t 16,.c (.nili)]] (.t 17) (Sq e7m .ret) .skip
def c9t:=Rg [] [nP 24 5,vP 3 (.t 24),vP 4 (.c (.nili))]
def f8A:ACode :=
  (Sq d6E (Sq d87 (Sq e4x (Sq c9t .ret))))
def g79:AFn:={ np:=3,nv:=6,results:=[.v 3,.v 4],code:=f8A }
def d5e:=Rg [] [op (.v 4) .mv [.c (.list true [])]]
def d7T:=Rg [] [nP 11 0,nP 12 1,oP 13 (.call 152) [.t 11,.t 12]]
def f0U:=Rg [] [op (.v 5) .mv [.c (.list true [])]]
def d9j:=Rg [] [vP 6 (.c (.bool true))]
def f1h:=Ts [] [nP 14 6] (.t 14) .skip (.exit 0)
def c9y:=Rg [] [mP 19 (.vs 5),nP 20 3,oP 21 .callV [.t 20],oP 22 (.bslice 6 [[.str [],.int .u8 0,.int .i64 0,.str [],.list true [],.list true []]] [0]) [.t 21],oP 23 (.app 6 96) [.ts 19,.t 22],vP 5 (.ts 23)]
def c1l:=Rg [] [nP 15 0,nP 16 2,oP 17 (.call 87) [.t 15,.t 16],oP 18 (.un .not) [.t 17],vP 6 (.t 18)]
def c3Y:=Rg [] [nP 24 5,vP 4 (.ts 24)]
def g3A:ACode :=
  (Sq d5e (Sq d7T (Sq f0U (Sq (Sq d9j (Bk 0 (Lp (Sq f1h (Sq (Bk 1 c9y) c1l))))) (Sq c3Y .ret)))))
def g8v:AFn:={ np:=4,nv:=7,results:=[.v 4],code:=g3A }
def f3I:=Rg [1] [⟨.bx,.alloc [.str [],.int .u8 0,.int .i64 0,.str [],.list true [],.list true []],[],some 1,none⟩]
def e2K:=Rg [2] [oP 3 (.ldSt false 1) [.v 0],oP 4 (.call 151) [.t 3],oP 5 (.build [.str [],.int .u8 0,.int .i64 0,.str [],.list true [],.list true []] [(0,1)]) [.t 4],⟨.bx,.alloc [.str [],.int .u8 0,.int .i64 0,.str [],.list true [],.list true []],[],some 2,none⟩,xP (.stLc 2 6) [.l 2,.ts 5] 2]
def f2w:=Rg [] [oP 6 (.ldSt false 1) [.v 0],oP 7 (.call 152) [.t 6,.c (.str [58])]]
def d8n:=Rg [] [oP 8 (.ldSt false 1) [.v 0],oP 9 (.call 200) [.t 8,.c (.bool false)],fP 10 1 (.l 2),xP (.stLc 2 5) [.t 10,.ts 9] 2]
def e0R:=Rg [] [lP 11 2 true 6 (.l 2),xP (.stLc 1 6) [.l 1,.ts 11] 1]
def f9f:ACode :=
  (Sq f3I (Sq e2K (Sq f2w (Sq d8n (Sq e0R .ret)))))
def g6Q:AFn:={ np:=1,nv:=3,results:=[.bx 1 true 6],code:=f9f }
def e9r:=Rg [2] [⟨.bx,.boxV,[.v 0],some 2,none⟩,vP 3 (.c (.bool false))]
def e52:=Rg [] [fP 4 0 (.l 2),lP 5 2 false 1 (.t 4),fP 6 0 (.v 1),oP 7 (.ldSt false 1) [.t 6],bP 8 .eql (.t 5) (.t 7),vP 3 (.t 8)]
def f5d:ACode :=
  (Sq e9r (Sq e52 .ret))
def g45:AFn:={ np:=2,nv:=4,results:=[.v 3],code:=f5d }
def e2O:=Rg [] [op (.v 4) .boxO [.v 3]]
def e5v:=Rg [] [nP 18 0,nP 19 1,nP 20 2,fP 21 2 (.v 4),oP 22 (.ldAn false 1) [.t 21],oP 23 (.call 274) [.t 18,.t 19,.t 20,.t 22]]
def d53:=Ts [] [fP 15 0 (.v 4),oP 16 (.ldAn false 1) [.t 15],bP 17 .eql (.t 16) (.c (.int .u8 7))] (.t 17) e5v .skip
def d6h:=Rg [] [fP 24 4 (.v 4),op (.v 11) (.ldAn false 1) [.t 24],op (.v 12) .lenL [.v 11],vP 13 (.c (.int .i64 0))]
def e7p:=Ts [] [bP 28 .lss (.v 13) (.v 12)] (.t 28) .skip (.exit 0)
def c3i:=Rg [6] [nP 29 13,oP 30 (.iad 5) [.v 11,.v 13],oP 31 (.ldAn true 5) [.t 30],op (.v 5) (.allocO [.int .i64 0]) [],⟨.bx,.alloc [.int .u8 0,.int .i64 0,.str [],.list true [],.list true []],[],some 6,none⟩,op .none (.stSt 1) [.v 5,.t 29],xP (.stLc 6 5) [.l 6,.ts 31] 6]
def c5v:=Rg [] [vP 7 (.c (.nilp))]
def c8p:=Rg [] [vP 8 (.c (.bool false))]
def c7l:=Rg [] [nP 47 1,oP 48 .nilchk [.t 47],fP 49 1 (.t 48),oP 50 (.ldAn false 1) [.t 49],oP 51 (.iad 3) [.t 50,.c (.int .i64 0)],vP 7 (.t 51)]
def c3q:=Rg [9] [nP 65 0,oP 66 .nilchk [.t 65],fP 67 0 (.t 66),oP 68 (.ldAn false 1) [.t 67],oP 69 .nilchk [.t 68],fP 70 0 (.t 69),oP 71 (.ldAn false 1) [.t 70],nP 72 1,oP 73 .nilchk [.t 72],fP 74 0 (.t 73),oP 75 (.ldAn false 1) [.t 74],oP 76 (.call 30) [.t 71,.t 75],mP 64 (.t 76),oP 77 (.ext 0) [.t 64],oP 78 (.ext 1) [.t 64],⟨.bx,.alloc [.int .u8 0,.str [],.list true [],.list true []],[],some 9,none⟩,xP (.stLc 9 4) [.l 9,.ts 77] 9,mP 13 (.t 78)]
def d28:=Rg [] [fP 79 2 (.l 9),lP 80 9 false 1 (.t 79),oP 81 (.mkF 275 0) [.v 4,.v 5],oP 82 (.call 178) [.t 80,.t 81],vP 10 (.t 82)]
def d20:=Rg [] [fP 90 2 (.l 9),lP 91 9 false 1 (.t 90),nP 92 10,oP 93 (.iad 11) [.t 91,.t 92],fP 94 2 (.t 93),fP 95 2 (.l 9),lP 96 9 false 1 (.t 95),nP 97 10,oP 98 (.iad 11) [.t 96,.t 97],fP 99 5 (.t 98),oP 100 (.ldRo false 1) [.t 99],vP 7 (.t 94),vP 8 (.t 100)]
def c7w:=Ts [] [nP 83 10,bP 84 .geq (.t 83) (.c (.int .i64 0)),mP 85 (.t 84),gP 86 (.fad 0) [.l 9] 85 true,⟨.t 87,.ldLc 9 false 1,[.t 86],some 9,some (.t 85,true)⟩,gP 88 (.bin .eql) [.t 87,.c (.int .u8 5)] 85 true,oP 89 .pick [.t 85,.t 88,.c (.bool false)]] (.t 89) d20 .skip
def c8Q:=Ts [] [fP 53 0 (.v 4),oP 54 (.ldAn false 1) [.t 53],bP 55 .eql (.t 54) (.c (.int .u8 6)),mP 56 (.t 55),gP 57 .mv [.v 1] 56 true,gP 58 .nilchk [.t 57] 56 true,gP 59 (.fad 1) [.t 58] 56 true,gP 60 (.ldAn false 1) [.t 59] 56 true,gP 61 .lenL [.t 60] 56 true,gP 62 (.bin .eql) [.t 61,.c (.int .i64 0)] 56 true,oP 63 .pick [.t 56,.t 62,.c (.bool false)],mP 52 (.t 63)] (.t 52) (Sq c3q (Sq d28 c7w)) .skip
def c3B:=Ts [] [fP 36 0 (.v 4),oP 37 (.ldAn false 1) [.t 36],bP 38 .eql (.t 37) (.c (.int .u8 5)),mP 39 (.t 38),gP 40 .mv [.v 1] 39 true,gP 41 .nilchk [.t 40] 39 true,gP 42 (.fad 1) [.t 41] 39 true,gP 43 (.ldAn false 1) [.t 42] 39 true,gP 44 .lenL [.t 43] 39 true,gP 45 (.bin .gtr) [.t 44,.c (.int .i64 0)] 39 true,oP 46 .pick [.t 39,.t 45,.c (.bool false)],mP 35 (.t 46)] (.t 35) c7l c8Q
def c4E:=Ts [] [nP 33 1,oP 34 (.binP .eql) [.t 33,.c (.nilp)],mP 32 (.t 34)] (.t 32) .skip c3B
def d2r:=Rg [] [nP 101 0,nP 102 7,nP 103 8,lP 104 6 true 5 (.l 6),oP 105 (.call 246) [.t 101,.t 102,.t 103,.t 104]]
def d0y:=Rg [] [bP 106 .add (.v 13) (.c (.int .i64 1)),vP 13 (.t 106)]
def g06:ACode :=
  (Sq e2O (Sq d53 (Sq d6h (Bk 0 (Lp (Sq e7p (Sq (Bk 1 (Sq c3i (Sq c5v (Sq c8p (Sq (Bk 2 c4E) d2r))))) d0y)))))))
def g53:AFn:={ np:=4,nv:=14,results:=[],code:=g06 }
def f4g:=Rg [] [op (.v 2) .boxO [.v 1],vP 3 (.c (.bool false))]
def d9P:=Rg [] [nP 5 0,oP 6 .lenL [.t 5],oP 7 (.ldSt false 1) [.v 2],oP 8 .lenL [.t 7],bP 9 .eql (.t 6) (.t 8),mP 10 (.t 9),gP 11 .mv [.v 0] 10 true,gP 12 (.mkF 277 0) [.v 2] 10 true,gP 13 (.call 276) [.t 11,.t 12] 10 true,gP 14 (.un .not) [.t 13] 10 true,oP 15 .pick [.t 10,.t 14,.c (.bool false)],vP 3 (.t 15)]
def f5W:ACode :=
  (Sq f4g (Sq d9P .ret))
def g6d:AFn:={ np:=2,nv:=4,results:=[.v 3],code:=f5W }
def f12:=Rg [] [vP 3 (.c (.bool false))]
def f1L:=Rg [] [vP 3 (.c (.bool false))]
def d7Q:=Ts [] [nP 10 0,oP 11 .lenL [.t 10],nP 12 1,oP 13 .lenL [.t 12],bP 14 .neq (.t 11) (.t 13)] (.t 14) (Sq f1L .ret) .skip
def d6g:=Rg [] [vP 7 (.v 0),op (.v 8) .lenL [.v 7],vP 9 (.c (.int .i64 0))]
def c8G:=Ts [] [bP 18 .lss (.v 9) (.v 8)] (.t 18) .skip (.exit 0)
def d1g:=Rg [5] [nP 19 9,oP 20 (.iad 7) [.v 7,.v 9],oP 21 (.ldAn true 7) [.t 20],⟨.bx,.alloc [.int .u8 0,.str [],.str [],.str [],.list true [],.list true [],.list true []],[],some 5,none⟩,vP 4 (.t 19),xP (.stLc 5 7) [.l 5,.ts 21] 5]
def d1s:=Rg [6] [nP 22 1,nP 23 4,oP 24 (.iad 7) [.t 22,.t 23],oP 25 (.ldAn true 7) [.t 24],⟨.bx,.alloc [.int .u8 0,.str [],.str [],.str [],.list true [],.list true [],.list true []],[],some 6,none⟩,xP (.stLc 6 7) [.l 6,.ts 25] 6]
def d1P:=Rg [] [vP 3 (.c (.bool false))]
def c1K:=Ts [] [nP 26 2,lP 27 5 true 7 (.l 5),lP 28 6 true 7 (.l 6),oP 29 .callV [.t 26,.t 27,.t 28],oP 30 (.un .not) [.t 29]] (.t 30) (Sq d1P .ret) .skip
def c3N:=Rg [] [bP 31 .add (.v 9) (.c (.int .i64 1)),vP 9 (.t 31)]
def c4g:=Rg [] [vP 3 (.c (.bool true))]
def g2U:ACode :=
  (Sq f12 (Sq d7Q (Sq (Sq d6g (Bk 0 (Lp (Sq c8G (Sq (Bk 1 (Sq d1g (Sq d1s c1K))) c3N))))) (Sq c4g .ret))))
def g8S:AFn:={ np:=3,nv:=10,results:=[.v 3],code:=g2U }
def e6j:=Rg [2,3] [⟨.bx,.boxV,[.v 0],some 2,none⟩,⟨.bx,.boxV,[.v 1],some 3,none⟩,vP 4 (.c (.bool false))]
def f15:=Rg [] [fP 5 0 (.l 2),lP 6 2 false 1 (.t 5),fP 7 0 (.l 3),lP 8 3 false 1 (.t 7),bP 9 .eql (.t 6) (.t 8),mP 10 (.t 9),gP 11 (.fad 1) [.l 2] 10 true,⟨.t 12,.ldLc 2 false 1,[.t 11],some 2,some (.t 10,true)⟩,gP 13 (.fad 1) [.l 3] 10 true,⟨.t 14,.ldLc 3 false 1,[.t 13],some 3,some (.t 10,true)⟩,gP 15 (.bin .eql) [.t 12,.t 14] 10 true,oP 16 .pick [.t 10,.t 15,.c (.bool false)],mP 17 (.t 16),gP 18 (.fad 3) [.l 2] 17 true,⟨.t 19,.ldLc 2 false 1,[.t 18],some 2,some (.t 17,true)⟩,gP 20 (.fad 3) [.l 3] 17 true,⟨.t 21,.ldLc 3 false 1,[.t 20],some 3,some (.t 17,true)⟩,gP 22 (.bin .eql) [.t 19,.t 21] 17 true,oP 23 .pick [.t 17,.t 22,.c (.bool false)],mP 24 (.t 23),gP 25 (.fad 5) [.l 2] 24 true,⟨.t 26,.ldLc 2 false 1,[.t 25],some 2,some (.t 24,true)⟩,gP 27 (.fad 5) [.l 3] 24 true,⟨.t 28,.ldLc 3 false 1,[.t 27],some 3,some (.t 24,true)⟩,gP 29 (.call 280) [.t 26,.t 28,.c (.func 281 [] [])] 24 true,oP 30 .pick [.t 24,.t 29,.c (.bool false)],mP 31 (.t 30),⟨.t 32,.ldLc 2 true 7,[.l 2],some 2,some (.t 31,true)⟩,⟨.t 33,.ldLc 3 true 7,[.l 3],some 3,some (.t 31,true)⟩,gP 34 (.call 206) [.t 32,.t 33] 31 true,oP 35 .pick [.t 31,.t 34,.c (.bool false)],vP 4 (.t 35)]
def g3C:ACode :=
  (Sq e6j (Sq f15 .ret))
def g4Q:AFn:={ np:=2,nv:=5,results:=[.v 4],code:=g3C }
def e0x:=Rg [] [op (.v 2) .mv [.c (.list true [])]]
def e7I:=Rg [] [op (.v 3) .mv [.c (.list true [])]]
def f3z:=Rg [] [vP 5 (.v 0),op (.v 6) .lenL [.v 5],vP 7 (.c (.int .i64 0))]
def f4K:=Ts [] [bP 11 .lss (.v 7) (.v 6)] (.t 11) .skip (.exit 0)
def e9u:=Rg [4] [oP 12 (.iad 6) [.v 5,.v 7],oP 13 (.ldRo true 6) [.t 12],⟨.bx,.alloc [.str [],.int .u8 0,.int .i64 0,.str [],.list true [],.list true []],[],some 4,none⟩,xP (.stLc 4 6) [.l 4,.ts 13] 4]
def c9w:=Rg [] [mP 14 (.vs 3),nP 15 1,lP 16 4 true 6 (.l 4),oP 17 .callV [.t 15,.t 16],oP 18 (.bslice 1 [[.str []]] [0]) [.t 17],oP 19 (.app 1 16) [.ts 14,.t 18],vP 3 (.ts 19)]
def c59:=Rg [] [bP 20 .add (.v 7) (.c (.int .i64 1)),vP 7 (.t 20)]
def c75:=Rg [] [nP 21 3,vP 2 (.ts 21)]
def f7h:ACode :=
  (Sq e0x (Sq e7I (Sq (Sq f3z (Bk 0 (Lp (Sq f4K (Sq (Bk 1 (Sq e9u c9w)) c59))))) (Sq c75 .ret))))
def g7W:AFn:={ np:=2,nv:=8,results:=[.v 2],code:=f7h }
def e9M:=Rg [1] [⟨.bx,.boxV,[.v 0],some 1,none⟩,op (.v 2) .mv [.c (.str [])]]
def f4x:=Rg [] [fP 3 0 (.l 1),lP 4 1 false 1 (.t 3),vP 2 (.t 4)]
def f88:ACode :=
  (Sq e9M (Sq f4x .ret))
def g6p:AFn:={ np:=1,nv:=3,results:=[.v 2],code:=f88 }
def e1f:=Rg [2] [⟨.bx,.boxV,[.v 0],some 2,none⟩,vP 3 (.c (.bool false))]
def e0u:=Rg [] [fP 4 0 (.l 2),lP 5 2 false 1 (.t 4),fP 6 0 (.v 1),oP 7 (.ldSt false 1) [.t 6],bP 8 .eql (.t 5) (.t 7),vP 3 (.t 8)]
def f6G:ACode :=
  (Sq e1f (Sq e0u .ret))
def g6t:AFn:={ np:=2,nv:=4,results:=[.v 3],code:=f6G }
def f1a:=Rg [] [op (.v 3) .boxO [.v 0],op (.v 4) .boxO [.v 1],op (.v 5) .boxO [.v 2],vP 6 (.c (.bool false))]
def e19:=Rg [] [vP 6 (.c (.bool true))]
def e3y:=Rg [] [fP 26 4 (.v 5),oP 27 (.ldSt false 1) [.t 26],oP 28 (.mkF 282 0) [.v 3,.v 4],oP 29 (.call 186) [.t 27,.t 28],oP 30 (.un .not) [.t 29],vP 6 (.t 30)]
def c9a:=Rg [] [oP 41 (.ldSt false 1) [.v 3],fP 42 1 (.v 4),oP 43 (.ldSt false 1) [.t 42],oP 44 (.iad 3) [.t 43,.c (.int .i64 0)],oP 45 (.ldRo true 3) [.t 44],oP 46 (.ldSt true 5) [.v 5],oP 47 (.call 253) [.t 41,.t 45,.t 46],vP 6 (.t 47)]
def c44:=Rg [] [oP 62 (.ldSt false 1) [.v 3],oP 63 .nilchk [.t 62],fP 64 0 (.t 63),oP 65 (.ldSt false 1) [.t 64],oP 66 (.ldSt true 3) [.v 4],oP 67 (.ldSt true 5) [.v 5],oP 68 (.call 128) [.t 65,.t 66,.t 67],vP 6 (.t 68)]
def c9X:=Ts [] [fP 49 0 (.v 5),oP 50 (.ldSt false 1) [.t 49],bP 51 .neq (.t 50) (.c (.int .u8 6)),mP 52 (.t 51),gP 53 (.ldSt false 1) [.v 3] 52 false,gP 54 .nilchk [.t 53] 52 false,gP 55 (.fad 0) [.t 54] 52 false,gP 56 (.ldSt false 1) [.t 55] 52 false,gP 57 (.fad 0) [.v 4] 52 false,gP 58 (.ldSt false 1) [.t 57] 52 false,gP 59 (.call 127) [.t 56,.t 58] 52 false,gP 60 (.un .not) [.t 59] 52 false,oP 61 .pick [.t 52,.c (.bool true),.t 60],mP 48 (.t 61)] (.t 48) (Sq c44 .ret) .skip
def c1E:=Ts [] [fP 32 1 (.v 4),oP 33 (.ldSt false 1) [.t 32],oP 34 .lenL [.t 33],bP 35 .gtr (.t 34) (.c (.int .i64 0)),mP 36 (.t 35),gP 37 (.fad 0) [.v 5] 36 true,gP 38 (.ldSt false 1) [.t 37] 36 true,gP 39 (.bin .neq) [.t 38,.c (.int .u8 0)] 36 true,oP 40 .pick [.t 36,.t 39,.c (.bool false)],mP 31 (.t 40)] (.t 31) (Sq c9a .ret) c9X
def c73:=Ts [] [fP 17 0 (.v 5),oP 18 (.ldSt false 1) [.t 17],bP 19 .eql (.t 18) (.c (.int .u8 5)),mP 20 (.t 19),gP 21 (.fad 1) [.v 4] 20 true,gP 22 (.ldSt false 1) [.t 21] 20 true,gP 23 .lenL [.t 22] 20 true,gP 24 (.bin .gtr) [.t 23,.c (.int .i64 0)] 20 true,oP 25 .pick [.t 20,.t 24,.c (.bool false)],mP 16 (.t 25)] (.t 16) (Sq e3y .ret) c1E
def c2z:=Ts [] [fP 13 0 (.v 5),oP 14 (.ldSt false 1) [.t 13],bP 15 .eql (.t 14) (.c (.int .u8 7)),mP 12 (.t 15)] (.t 12) (Sq e19 .ret) c73
def d1X:=Rg [7] [oP 70 (.ldSt false 1) [.v 3],oP 71 .nilchk [.t 70],fP 72 0 (.t 71),oP 73 (.ldSt false 1) [.t 72],fP 74 0 (.v 4),oP 75 (.ldSt false 1) [.t 74],oP 76 (.call 30) [.t 73,.t 75],mP 69 (.t 76),oP 77 (.ext 0) [.t 69],oP 78 (.ext 1) [.t 69],⟨.bx,.alloc [.int .u8 0,.str [],.list true [],.list true []],[],some 7,none⟩,xP (.stLc 7 4) [.l 7,.ts 77] 7,mP 8 (.t 78)]
def d3g:=Rg [] [fP 79 3 (.v 5),op (.v 11) (.ldSt false 1) [.t 79],op (.v 12) .lenL [.v 11],vP 13 (.c (.int .i64 0))]
def c5J:=Ts [] [bP 83 .lss (.v 13) (.v 12)] (.t 83) .skip (.exit 1)
def d1x:=Rg [] [nP 84 13,oP 85 (.iad 1) [.v 11,.v 13],oP 86 (.ldAn false 1) [.t 85],op (.v 9) (.allocO [.str []]) [],vP 8 (.t 84),op .none (.stSt 1) [.v 9,.t 86]]
def d2q:=Rg [] [fP 87 2 (.l 7),lP 88 7 false 1 (.t 87),oP 89 (.mkF 283 0) [.v 9],oP 90 (.call 178) [.t 88,.t 89],vP 10 (.t 90)]
def c34:=Rg [] [vP 6 (.c (.bool false))]
def d0i:=Ts [] [nP 91 10,bP 92 .lss (.t 91) (.c (.int .i64 0)),mP 93 (.t 92),gP 94 (.fad 3) [.v 5] 93 false,gP 95 (.ldSt false 1) [.t 94] 93 false,gP 96 .mv [.v 8] 93 false,gP 97 (.slL 1 false true) [.t 95,.t 96] 93 false,gP 98 (.ldSt false 1) [.v 9] 93 false,gP 99 (.call 27) [.t 97,.t 98] 93 false,oP 100 .pick [.t 93,.c (.bool true),.t 99],mP 101 (.t 100),gP 102 (.ldSt false 1) [.v 3] 101 false,gP 103 (.fad 2) [.l 7] 101 false,⟨.t 104,.ldLc 7 false 1,[.t 103],some 7,some (.t 101,false)⟩,gP 105 .mv [.v 10] 101 false,gP 106 (.iad 11) [.t 104,.t 105] 101 false,gP 107 (.fad 2) [.t 106] 101 false,gP 108 (.ldRo true 3) [.t 107] 101 false,gP 109 (.fad 4) [.v 5] 101 false,gP 110 (.ldSt false 1) [.t 109] 101 false,gP 111 .mv [.v 8] 101 false,gP 112 (.iad 5) [.t 110,.t 111] 101 false,gP 113 (.ldAn true 5) [.t 112] 101 false,gP 114 (.call 253) [.t 102,.t 108,.t 113] 101 false,gP 115 (.un .not) [.t 114] 101 false,oP 116 .pick [.t 101,.c (.bool true),.t 115]] (.t 116) (Sq c34 .ret) .skip
def c8B:=Rg [] [bP 117 .add (.v 13) (.c (.int .i64 1)),vP 13 (.t 117)]
def c6b:=Rg [] [fP 118 2 (.l 7),lP 119 7 false 1 (.t 118),oP 120 (.mkF 284 0) [.v 5],oP 121 (.call 129) [.t 119,.t 120],oP 122 (.un .not) [.t 121],vP 6 (.t 122)]
def f8O:ACode :=
  (Sq f1a (Sq (Bk 0 c2z) (Sq d1X (Sq (Sq d3g (Bk 1 (Lp (Sq c5J (Sq (Bk 2 (Sq d1x (Sq d2q d0i))) c8B))))) (Sq c6b .ret)))))
def g4A:AFn:={ np:=3,nv:=14,results:=[.v 6],code:=f8O }
def d8x:=Rg [] [vP 2 (.c (.int .i64 0))]
def f3X:=Rg [] [nP 6 0,op (.v 4) .lenL [.t 6],vP 5 (.c (.int .i64 0))]
def f2G:=Ts [] [bP 9 .lss (.v 5) (.v 4)] (.t 9) .skip (.exit 0)
def e9b:=Rg [] [nP 10 5,vP 3 (.t 10)]
def c2U:=Rg [] [nP 17 3,vP 2 (.t 17)]
def c2J:=Ts [] [nP 11 1,nP 12 0,nP 13 3,oP 14 (.iad 1) [.t 12,.t 13],oP 15 (.ldAn false 1) [.t 14],oP 16 .callV [.t 11,.t 15]] (.t 16) (Sq c2U .ret) .skip
def c2k:=Rg [] [bP 18 .add (.v 5) (.c (.int .i64 1)),vP 5 (.t 18)]
def d3k:=Rg [] [vP 2 (.c (.int .i64 (-1)))]
def g1X:ACode :=
  (Sq d8x (Sq (Sq f3X (Bk 0 (Lp (Sq f2G (Sq (Bk 1 (Sq e9b c2J)) c2k))))) (Sq d3k .ret)))
def g35:AFn:={ np:=2,nv:=6,results:=[.v 2],code:=g1X }
def e8m:=Rg [] [nP 12 1,vP 5 (.t 12)]
def d66:=Rg [] [nP 13 5,bP 14 .mul (.c (.int .i64 2)) (.t 13),bP 15 .add (.t 14) (.c (.int .i64 1)),vP 6 (.t 15)]
def f1O:=Ts [] [nP 16 6,nP 17 2,bP 18 .geq (.t 16) (.t 17)] (.t 18) (.exit 0) .skip
def e68:=Rg [] [nP 41 6,bP 42 .add (.t 41) (.c (.int .i64 1)),vP 6 (.t 42)]
def e7B:=Ts [] [nP 19 6,bP 20 .add (.t 19) (.c (.int .i64 1)),nP 21 2,bP 22 .lss (.t 20) (.t 21),mP 23 (.t 22),gP 24 .mv [.v 4] 23 true,gP 25 .mv [.v 0] 23 true,gP 26 .mv [.v 3] 23 true,gP 27 .mv [.v 6] 23 true,gP 28 (.bin .add) [.t 26,.t 27] 23 true,gP 29 (.iad 2) [.t 25,.t 28] 23 true,gP 30 (.ldAn true 2) [.t 29] 23 true,gP 31 .mv [.v 0] 23 true,gP 32 .mv [.v 3] 23 true,gP 33 .mv [.v 6] 23 true,gP 34 (.bin .add) [.t 32,.t 33] 23 true,gP 35 (.bin .add) [.t 34,.c (.int .i64 1)] 23 true,gP 36 (.iad 2) [.t 31,.t 35] 23 true,gP 37 (.ldAn true 2) [.t 36] 23 true,gP 38 .callV [.t 24,.t 30,.t 37] 23 true,gP 39 (.bin .lss) [.t 38,.c (.int .i64 0)] 23 true,oP 40 .pick [.t 23,.t 39,.c (.bool false)]] (.t 40) e68 .skip
def d2L:=Ts [] [nP 43 4,nP 44 0,nP 45 3,nP 46 5,bP 47 .add (.t 45) (.t 46),oP 48 (.iad 2) [.t 44,.t 47],oP 49 (.ldAn true 2) [.t 48],nP 50 0,nP 51 3,nP 52 6,bP 53 .add (.t 51) (.t 52),oP 54 (.iad 2) [.t 50,.t 53],oP 55 (.ldAn true 2) [.t 54],oP 56 .callV [.t 43,.t 49,.t 55],bP 57 .lss (.t 56) (.c (.int .i64 0)),oP 58 (.un .not) [.t 57]] (.t 58) .ret .skip
def c9e:=Rg [] [nP 59 0,nP 60 3,nP 61 5,bP 62 .add (.t 60) (.t 61),nP 63 0,nP 64 3,nP 65 6,bP 66 .add (.t 64) (.t 65),nP 67 0,nP 68 3,nP 69 6,bP 70 .add (.t 68) (.t 69),oP 71 (.iad 2) [.t 67,.t 70],oP 72 (.ldAn true 2) [.t 71],nP 73 0,nP 74 3,nP 75 5,bP 76 .add (.t 74) (.t 75),oP 77 (.iad 2) [.t 73,.t 76],oP 78 (.ldAn true 2) [.t 77],oP 79 (.iad 2) [.t 59,.t 62],op .none (.stSt 2) [.t 79,.t 72],oP 80 (.iad 2) [.t 63,.t 66],op .none (.stSt 2) [.t 80,.t 78]]
def c55:=Rg [] [nP 81 6,vP 5 (.t 81)]
def g2k:ACode :=
  (Sq e8m (Bk 0 (Lp (Bk 1 (Sq d66 (Sq f1O (Sq e7B (Sq d2L (Sq c9e c55)))))))))
def g5a:AFn:={ np:=5,nv:=7,results:=[],code:=g2k }
def e79:=Rg [] [vP 1 (.c (.int .u64 0))]
def f05:=Rg [] [nP 3 0,oP 4 (.conv .u64) [.t 3],oP 5 (.call 166) [.t 4],bP 6 .shl (.c (.int .u64 1)) (.t 5),vP 1 (.t 6)]
def g1n:ACode :=
  (Sq e79 (Sq f05 .ret))
def g5S:AFn:={ np:=1,nv:=2,results:=[.v 1],code:=g1n }
def d5P:=Rg [] [vP 1 (.c (.int .u64 0))]
def d6f:=Rg [] [nP 3 0,oP 4 .nilchk [.t 3],oP 5 (.ldSt false 1) [.t 4],nP 6 0,oP 7 .nilchk [.t 6],oP 8 (.ldSt false 1) [.t 7],bP 9 .shl (.t 8) (.c (.int .u64 13)),bP 10 .xor (.t 5) (.t 9),oP 11 .nilchk [.t 3],op .none (.stSt 1) [.t 11,.t 10]]
def d7p:=Rg [] [nP 12 0,oP 13 .nilchk [.t 12],oP 14 (.ldSt false 1) [.t 13],nP 15 0,oP 16 .nilchk [.t 15],oP 17 (.ldSt false 1) [.t 16],bP 18 .shr (.t 17) (.c (.int .u64 7)),bP 19 .xor (.t 14) (.t 18),oP 20 .nilchk [.t 12],op .none (.stSt 1) [.t 20,.t 19]]
def e4q:=Rg [] [nP 21 0,oP 22 .nilchk [.t 21],oP 23 (.ldSt false 1) [.t 22],nP 24 0,oP 25 .nilchk [.t 24],oP 26 (.ldSt false 1) [.t 25],bP 27 .shl (.t 26) (.c (.int .u64 17)),bP 28 .xor (.t 23) (.t 27),oP 29 .nilchk [.t 21],op .none (.stSt 1) [.t 29,.t 28]]
def e6k:=Rg [] [nP 30 0,oP 31 .nilchk [.t 30],oP 32 (.ldSt false 1) [.t 31],vP 1 (.t 32)]
def f4Z:ACode :=
  (Sq d5P (Sq d6f (Sq d7p (Sq e4q (Sq e6k .ret)))))
def g8Y:AFn:={ np:=1,nv:=2,results:=[.v 1],code:=f4Z }
def e6I:=Rg [] [vP 4 (.c (.int .i64 0))]
def e6F:=Rg [] [nP 9 0,nP 10 1,bP 11 .sub (.t 10) (.c (.int .i64 1)),nP 12 1,nP 13 1,bP 14 .add (.t 13) (.c (.int .i64 1)),nP 15 2,nP 16 3,oP 17 (.call 259) [.t 9,.t 11,.t 12,.t 14,.t 15,.t 16],vP 4 (.t 17)]
def f66:ACode :=
  (Sq e6I (Sq e6F .ret))
def g4B:AFn:={ np:=4,nv:=5,results:=[.v 4],code:=f66 }
def e53:=Rg [] [vP 6 (.c (.int .i64 0))]
def e8N:=Rg [] [nP 14 0,nP 15 1,nP 16 2,nP 17 4,nP 18 5,oP 19 (.call 285) [.t 14,.t 15,.t 16,.t 17,.t 18],mP 13 (.t 19),oP 20 (.ext 0) [.t 13],oP 21 (.ext 1) [.t 13],vP 1 (.t 20),vP 2 (.t 21)]
def d93:=Rg [] [nP 23 0,nP 24 2,nP 25 3,nP 26 4,nP 27 5,oP 28 (.call 285) [.t 23,.t 24,.t 25,.t 26,.t 27],mP 22 (.t 28),oP 29 (.ext 0) [.t 22],oP 30 (.ext 1) [.t 22],vP 2 (.t 29),vP 3 (.t 30)]
def d8Z:=Rg [] [nP 32 0,nP 33 1,nP 34 2,nP 35 4,nP 36 5,oP 37 (.call 285) [.t 32,.t 33,.t 34,.t 35,.t 36],mP 31 (.t 37),oP 38 (.ext 0) [.t 31],oP 39 (.ext 1) [.t 31],vP 1 (.t 38),vP 2 (.t 39)]
def e2R:=Rg [] [nP 40 2,vP 6 (.t 40)]
def g1T:ACode :=
  (Sq e53 (Sq e8N (Sq d93 (Sq d8Z (Sq e2R .ret)))))
def g4R:AFn:={ np:=6,nv:=7,results:=[.v 6],code:=g1T }
def d7D:=Rg [] [op (.v 2) .mv [.c (.str [])]]
def f33:=Rg [] [nP 5 0,nP 6 1,oP 7 (.call 286) [.t 5,.t 6],vP 2 (.t 7)]
def f42:ACode :=
  (Sq d7D (Sq f33 .ret))
def g5B:AFn:={ np:=2,nv:=3,results:=[.v 2],code:=f42 }
def e9T:=Rg [] [vP 2 (.c (.int .i64 0))]
def e6y:=Rg [] [nP 6 0,op (.v 4) .lenL [.t 6],vP 5 (.c (.int .i64 0))]
def d9t:=Ts [] [bP 9 .lss (.v 5) (.v 4)] (.t 9) .skip (.exit 0)
def e5p:=Rg [] [nP 10 5,vP 3 (.t 10)]
def c60:=Rg [] [nP 17 3,vP 2 (.t 17)]
def c3u:=Ts [] [nP 11 1,nP 12 0,nP 13 3,oP 14 (.iad 2) [.t 12,.t 13],oP 15 (.ldRo true 2) [.t 14],oP 16 .callV [.t 11,.t 15]] (.t 16) (Sq c60 .ret) .skip
def d17:=Rg [] [bP 18 .add (.v 5) (.c (.int .i64 1)),vP 5 (.t 18)]
def c9p:=Rg [] [vP 2 (.c (.int .i64 (-1)))]
def f9H:ACode :=
  (Sq e9T (Sq (Sq e6y (Bk 0 (Lp (Sq d9t (Sq (Bk 1 (Sq e5p c3u)) d17))))) (Sq c9p .ret)))
def g37:AFn:={ np:=2,nv:=6,results:=[.v 2],code:=f9H }
def e8D:AFn:={ np:=1,nv:=0,results:=[],code:=.skip,ext:=some (Y2 1 16) }
def e73:=Rg [] [vP 2 (.c (.bool false))]
def e0X:=Rg [] [nP 5 0,oP 6 (.call 168) [.t 5],mP 7 (.t 6),gP 8 .mv [.v 1] 7 true,gP 9 (.call 168) [.t 8] 7 true,gP 10 (.un .not) [.t 9] 7 true,oP 11 .pick [.t 7,.t 10,.c (.bool false)],mP 12 (.t 11),gP 13 .mv [.v 0] 12 false,gP 14 .mv [.v 1] 12 false,gP 15 (.bin .lss) [.t 13,.t 14] 12 false,oP 16 .pick [.t 12,.c (.bool true),.t 15],vP 2 (.t 16)]
def g0Q:ACode :=
  (Sq e73 (Sq e0X .ret))
def g3L:AFn:={ np:=2,nv:=3,results:=[.v 2],code:=g0Q }
def e4D:=Rg [] [vP 1 (.c (.bool false))]
def e3P:=Rg [] [nP 3 0,nP 4 0,bP 5 .neq (.t 3) (.t 4),vP 1 (.t 5)]
def g0X:ACode :=
  (Sq e4D (Sq e3P .ret))
def g4I:AFn:={ np:=1,nv:=2,results:=[.v 1],code:=g0X }
def f4H:=Rg [] [vP 1 (.c (.bool false))]
def e1L:=Rg [] [nP 8 0,oP 9 .nilchk [.t 8],fP 10 13 (.t 9),oP 11 (.ldSt false 1) [.t 10],bP 12 .add (.t 11) (.c (.int .i64 1)),oP 13 .nilchk [.t 8],fP 14 13 (.t 13),op .none (.stSt 1) [.t 14,.t 12]]
def f0d:=Ts [] [nP 3 0,oP 4 .nilchk [.t 3],fP 5 13 (.t 4),oP 6 (.ldSt false 1) [.t 5],bP 7 .leq (.t 6) (.c (.int .i64 5000))] (.t 7) e1L .skip
def f1D:=Rg [] [nP 15 0,oP 16 .nilchk [.t 15],fP 17 13 (.t 16),oP 18 (.ldSt false 1) [.t 17],bP 19 .leq (.t 18) (.c (.int .i64 5000)),vP 1 (.t 19)]
def f6S:ACode :=
  (Sq f4H (Sq f0d (Sq f1D .ret)))
def g6A:AFn:={ np:=1,nv:=2,results:=[.v 1],code:=f6S }
def e0d:=Rg [] [op (.v 1) .mv [.c (.str [])]]
def f4B:=Rg [] [nP 3 0,oP 4 (.call 287) [.t 3],vP 1 (.t 4)]
def g0y:ACode :=
  (Sq e0d (Sq f4B .ret))
def g4v:AFn:={ np:=1,nv:=2,results:=[.v 1],code:=g0y }
def a267s1:=Rg [3] [⟨.bx,.boxV,[.v 2],some 3,none⟩,vP 4 (.c (.bool false))]
def a267s4:=Rg [] [fP 9 0 (.l 3),lP 10 3 false 1 (.t 9),bP 11 .eql (.t 10) (.c (.int .u8 2)),vP 4 (.t 11)]
def a267s6:=Ts [] [nP 7 1,oP 8 (.bin .eql) [.t 7,.c (.str [73,68])]] (.t 8) (Sq a267s4 .ret) .skip
def a267s8:=Rg [] [nP 12 0,oP 13 .nilchk [.t 12],fP 14 0 (.t 13),oP 15 (.ldSt false 1) [.t 14],nP 16 1,oP 17 (.build [.str [],.list true [],.bool false] [(0,1)]) [.t 16],lP 18 3 true 5 (.l 3),oP 19 (.call 128) [.t 15,.t 17,.t 18],vP 4 (.t 19)]
def a267c:ACode :=
  (Sq a267s1 (Sq a267s6 (Sq a267s8 .ret)))
def a267:AFn:={ np:=3,nv:=5,results:=[.v 4],code:=a267c }
def d7S:=Rg [] [op (.v 3) .boxO [.v 0],vP 4 (.c (.bool false))]
def d6o:=Rg [] [fP 7 1 (.v 3),oP 8 (.ldSt false 1) [.t 7],mP 9 (.t 8),gP 10 .mv [.v 1] 9 false,gP 11 .mv [.v 2] 9 false,gP 12 (.call 230) [.t 10,.t 11] 9 false,gP 13 (.mkF 288 0) [.v 3] 9 false,gP 14 (.call 211) [.t 12,.t 13] 9 false,gP 15 (.un .not) [.t 14] 9 false,oP 16 .pick [.t 9,.c (.bool true),.t 15],vP 4 (.t 16)]
def g1C:ACode :=
  (Sq d7S (Sq d6o .ret))
def g3F:AFn:={ np:=3,nv:=5,results:=[.v 4],code:=g1C }
def a269s1:=Rg [5,6] [⟨.bx,.boxV,[.v 2],some 5,none⟩,⟨.bx,.alloc [.int .u8 0,.int .i64 0,.str [],.list true [],.list true []],[],some 6,none⟩,vP 7 (.c (.bool false))]
def a269s3:=Rg [] [oP 20 (.build [.int .u8 0,.int .i64 0,.str [],.list true [],.list true []] [(0,1)]) [.c (.int .u8 6)],op (.v 8) (.allocO [.int .u8 0,.int .i64 0,.str [],.list true [],.list true []]) [],op .none (.stSt 5) [.v 8,.ts 20]]
def a269s5:=Rg [] [nP 21 0,oP 22 .nilchk [.t 21],fP 23 0 (.t 22),oP 24 (.ldSt false 1) [.t 23],nP 25 0,oP 26 .nilchk [.t 25],fP 27 1 (.t 26),oP 28 (.ldSt true 2) [.t 27],nP 29 1,nP 30 3,nP 31 0,oP 32 .nilchk [.t 31],fP 33 6 (.t 32),oP 34 (.ldSt true 5) [.t 33],op (.v 15) (.call 44) [.t 24,.t 28,.t 29,.t 30,.t 34],op (.v 16) .lenL [.v 15],vP 17 (.c (.int .i64 0))]
def a269s7:=Ts [] [bP 38 .lss (.v 17) (.v 16)] (.t 38) .skip (.exit 0)
def a269s9:=Rg [9] [oP 39 (.iad 2) [.v 15,.v 17],oP 40 (.ldSt true 2) [.t 39],⟨.bx,.alloc [.str [],.list true []],[],some 9,none⟩,xP (.stLc 9 2) [.l 9,.ts 40] 9]
def a269s11:=Rg [10] [nP 42 0,oP 43 .nilchk [.t 42],fP 44 0 (.t 43),oP 45 (.ldSt false 1) [.t 44],nP 46 1,fP 47 1 (.l 9),lP 48 9 false 1 (.t 47),oP 49 (.iad 7) [.t 48,.c (.int .i64 0)],fP 50 2 (.t 49),oP 51 (.ldAn false 1) [.t 50],oP 52 (.call 45) [.t 45,.t 46,.t 51],mP 41 (.t 52),oP 53 (.ext 0) [.t 41],oP 54 (.ext 1) [.t 41],⟨.bx,.alloc [.str [],.list true [],.str [],.list true [],.bool false,.bool false,.int .u8 0,.int .i64 0,.str [],.list true [],.list true []],[],some 10,none⟩,xP (.stLc 10 11) [.l 10,.ts 53] 10,vP 11 (.t 54)]
def a269s13:=Ts [] [nP 55 11,oP 56 (.un .not) [.t 55]] (.t 56) (.exit 1) .skip
def a269s16:=Rg [] [oP 60 (.build [.int .u8 0,.int .i64 0,.str [],.list true [],.list true []] []) [],xP (.stLc 6 5) [.l 6,.ts 60] 6,vP 7 (.c (.bool false))]
def a269s18:=Ts [] [nP 57 0,oP 58 (.call 265) [.t 57],oP 59 (.un .not) [.t 58]] (.t 59) (Sq a269s16 .ret) .skip
def a269s20:=Rg [] [nP 61 4,oP 62 (.call 262) [.t 61],fP 63 0 (.l 9),lP 64 9 false 1 (.t 63),oP 65 (.bslice 1 [[.str []]] [0]) [.t 64],oP 66 (.app 1 16) [.ts 62,.t 65],vP 12 (.ts 66)]
def a269s22:=Rg [13] [nP 68 0,nP 69 1,lP 70 5 true 4 (.l 5),lP 71 10 true 11 (.l 10),lP 72 9 true 2 (.l 9),nP 73 12,oP 74 (.call 289) [.t 68,.t 69,.t 70,.t 71,.t 72,.t 73],mP 67 (.t 74),oP 75 (.ext 0) [.t 67],oP 76 (.ext 1) [.t 67],⟨.bx,.alloc [.int .u8 0,.int .i64 0,.str [],.list true [],.list true []],[],some 13,none⟩,xP (.stLc 13 5) [.l 13,.ts 75] 13,vP 14 (.t 76)]
def a269s25:=Rg [] [oP 79 (.build [.int .u8 0,.int .i64 0,.str [],.list true [],.list true []] []) [],xP (.stLc 6 5) [.l 6,.ts 79] 6,vP 7 (.c (.bool false))]
def a269s27:=Ts [] [nP 77 14,oP 78 (.un .not) [.t 77]] (.t 78) (Sq a269s25 .ret) .skip
def a269s29:=Rg [] [fP 80 3 (.v 8),oP 81 (.ldStSR 3) [.t 80,.v 8],fP 82 0 (.l 9),lP 83 9 false 1 (.t 82),oP 84 (.bslice 1 [[.str []]] [0]) [.t 83],oP 85 (.app 1 16) [.ts 81,.t 84],fP 86 4 (.v 8),oP 87 (.ldStSR 4) [.t 86,.v 8],lP 88 13 true 5 (.l 13),oP 89 (.bslice 5 [[.int .u8 0,.int .i64 0,.str [],.list true [],.list true []]] [0]) [.t 88],oP 90 (.app 5 80) [.ts 87,.t 89],fP 91 3 (.v 8),op .none (.stSt 1) [.t 91,.ts 85],fP 92 4 (.v 8),op .none (.stSt 1) [.t 92,.ts 90]]
def a269s39:=Rg [] [bP 93 .add (.v 17) (.c (.int .i64 1)),vP 17 (.t 93)]
def a269s46:=Rg [] [oP 94 (.ldSt true 5) [.v 8],xP (.stLc 6 5) [.l 6,.ts 94] 6,vP 7 (.c (.bool true))]
def a269c:ACode :=
  (Sq a269s1 (Sq a269s3 (Sq (Sq a269s5 (Bk 0 (Lp (Sq a269s7 (Sq (Bk 1 (Sq a269s9 (Sq a269s11 (Sq a269s13 (Sq a269s18 (Sq a269s20 (Sq a269s22 (Sq a269s27 a269s29)))))))) a269s39))))) (Sq a269s46 .ret))))
def a269:AFn:={ np:=5,nv:=18,results:=[.bx 6 true 5,.v 7],code:=a269c }
def e3K:=Rg [1] [⟨.bx,.boxV,[.v 0],some 1,none⟩,op (.v 2) .mv [.c (.list true [])]]
def d6C:=Rg [] [op (.v 3) .mv [.c (.list true [])]]
def f17:=Rg [] [fP 6 1 (.l 1),⟨.v 5,.ldLc 1 false 1,[.t 6],some 1,none⟩,op (.v 6) .lenL [.v 5],vP 7 (.c (.int .i64 0))]
def d4c:=Ts [] [bP 10 .lss (.v 7) (.v 6)] (.t 10) .skip (.exit 0)
def f3O:=Rg [4] [oP 11 (.iad 7) [.v 5,.v 7],oP 12 (.ldAn true 7) [.t 11],⟨.bx,.alloc [.int .u8 0,.str [],.str [],.str [],.list true [],.list true [],.list true []],[],some 4,none⟩,xP (.stLc 4 7) [.l 4,.ts 12] 4]
def c4t:=Rg [] [mP 13 (.vs 3),fP 14 6 (.l 4),lP 15 4 false 1 (.t 14),oP 16 (.app 7 128) [.ts 13,.t 15],vP 3 (.ts 16)]
def c8l:=Rg [] [bP 17 .add (.v 7) (.c (.int .i64 1)),vP 7 (.t 17)]
def c1Y:=Rg [] [nP 18 3,vP 2 (.ts 18)]
def g1z:ACode :=
  (Sq e3K (Sq d6C (Sq (Sq f17 (Bk 0 (Lp (Sq d4c (Sq (Bk 1 (Sq f3O c4t)) c8l))))) (Sq c1Y .ret))))
def g4m:AFn:={ np:=1,nv:=8,results:=[.v 2],code:=g1z }
def e4k:=Rg [] [vP 3 (.c (.int .i64 0)),vP 4 (.c (.nili))]
def e8q:=Rg [] [oP 14 .stuck [],vP 3 (.c (.int .i64 0)),vP 4 (.t 14)]
def e7k:=Ts [] [nP 12 0,oP 13 (.bin .eql) [.t 12,.c (.str [])]] (.t 13) (Sq e8q .ret) .skip
def e5V:=Rg [] [vP 5 (.c (.bool false))]
def c6g:=Rg [] [nP 15 0,op (.v 9) .idxS [.t 15,.c (.int .i64 0)]]
def c4U:=Rg [] [nP 19 0,oP 20 (.slS true false) [.t 19,.c (.int .i64 1)],vP 0 (.t 20)]
def c2s:=Rg [] [nP 23 0,oP 24 (.slS true false) [.t 23,.c (.int .i64 1)],vP 0 (.t 24)]
def c7t:=Rg [] [vP 5 (.c (.bool true))]
def c4l:=Ts [] [bP 22 .eql (.v 9) (.c (.int .u8 45)),mP 21 (.t 22)] (.t 21) (Sq c2s c7t) .skip
def c5C:=Ts [] [bP 18 .eql (.v 9) (.c (.int .u8 43)),mP 17 (.t 18)] (.t 17) c4U c4l
def c3m:=Rg [] [vP 6 (.c (.int .u64 0))]
def c9I:=Rg [] [nP 26 0,nP 27 1,nP 28 2,oP 29 (.call 290) [.t 26,.t 27,.t 28],mP 25 (.t 29),oP 30 (.ext 0) [.t 25],oP 31 (.ext 1) [.t 25],vP 6 (.t 30),vP 4 (.t 31)]
def d2M:=Rg [] [nP 39 4,vP 3 (.c (.int .i64 0)),vP 4 (.t 39)]
def d1Y:=Ts [] [nP 32 4,oP 33 (.binP .gtr) [.t 32,.c (.nili)],mP 34 (.t 33),gP 35 .mv [.v 4] 34 true,gP 36 .stuck [] 34 true,gP 37 .stuck [] 34 true,oP 38 .pick [.t 34,.t 37,.c (.bool false)]] (.t 38) (Sq d2M .ret) .skip
def c5P:=Rg [] [vP 2 (.c (.int .i64 64))]
def d1S:=Ts [] [nP 40 2,bP 41 .eql (.t 40) (.c (.int .i64 0))] (.t 41) c5P .skip
def d21:=Rg [] [nP 42 2,bP 43 .sub (.t 42) (.c (.int .i64 1)),oP 44 (.conv .u64) [.t 43],bP 45 .shl (.c (.int .u64 1)) (.t 44),vP 7 (.t 45)]
def c1z:=Rg [] [nP 53 7,bP 54 .sub (.t 53) (.c (.int .u64 1)),oP 55 (.conv .i64) [.t 54],oP 56 .stuck [],vP 3 (.t 55),vP 4 (.t 56)]
def c9H:=Ts [] [nP 46 5,oP 47 (.un .not) [.t 46],mP 48 (.t 47),gP 49 .mv [.v 6] 48 true,gP 50 .mv [.v 7] 48 true,gP 51 (.bin .geq) [.t 49,.t 50] 48 true,oP 52 .pick [.t 48,.t 51,.c (.bool false)]] (.t 52) (Sq c1z .ret) .skip
def c46:=Rg [] [nP 63 7,oP 64 (.conv .i64) [.t 63],oP 65 (.un .neg) [.t 64],oP 66 .stuck [],vP 3 (.t 65),vP 4 (.t 66)]
def d0N:=Ts [] [nP 57 5,mP 58 (.t 57),gP 59 .mv [.v 6] 58 true,gP 60 .mv [.v 7] 58 true,gP 61 (.bin .gtr) [.t 59,.t 60] 58 true,oP 62 .pick [.t 58,.t 61,.c (.bool false)]] (.t 62) (Sq c46 .ret) .skip
def d3K:=Rg [] [nP 67 6,oP 68 (.conv .i64) [.t 67],vP 8 (.t 68)]
def d1Q:=Rg [] [nP 70 8,oP 71 (.un .neg) [.t 70],vP 8 (.t 71)]
def c8F:=Ts [] [nP 69 5] (.t 69) d1Q .skip
def c1p:=Rg [] [nP 72 8,vP 3 (.t 72),vP 4 (.c (.nili))]
def f7S:ACode :=
  (Sq e4k (Sq e7k (Sq e5V (Sq (Sq c6g (Bk 0 c5C)) (Sq c3m (Sq c9I (Sq d1Y (Sq d1S (Sq d21 (Sq c9H (Sq d0N (Sq d3K (Sq c8F (Sq c1p .ret))))))))))))))
def g5b:AFn:={ np:=3,nv:=10,results:=[.v 3,.v 4],code:=f7S }
def d61:=Rg [] [op (.v 4) .boxO [.v 3]]
def d9z:=Rg [] [nP 11 0,nP 12 0,oP 13 .nilchk [.t 12],fP 14 5 (.t 13),oP 15 .ldStS [.t 14],oP 16 (.ldAn false 1) [.v 4],oP 17 (.bslice 1 [[.str []]] [0]) [.t 16],oP 18 (.app 1 16) [.ts 15,.t 17],oP 19 .nilchk [.t 11],fP 20 5 (.t 19),op .none (.stSt 1) [.t 20,.ts 18]]
def e0w:=Rg [] [nP 21 0,oP 22 .nilchk [.t 21],fP 23 1 (.t 22),fP 24 2 (.t 23),oP 25 (.ldAn false 1) [.t 24],oP 26 (.mkF 297 0) [.v 4],oP 27 (.call 296) [.t 25,.t 26],vP 5 (.t 27)]
def e93:=Rg [] [nP 30 0,oP 31 .nilchk [.t 30],fP 32 0 (.t 31),oP 33 (.ldAn false 1) [.t 32],oP 34 (.ldAn false 1) [.v 4],oP 35 (.call 90) [.t 33,.c (.int .i64 16),.t 34]]
def c2g:=Ts [] [nP 28 5,bP 29 .lss (.t 28) (.c (.int .i64 0))] (.t 29) (Sq e93 .ret) .skip
def c7f:=Ts [] [nP 36 1,oP 37 (.binP .eql) [.t 36,.c (.nilp)]] (.t 37) .ret .skip
def c7U:=Rg [6] [nP 38 0,oP 39 .nilchk [.t 38],fP 40 1 (.t 39),fP 41 2 (.t 40),oP 42 (.ldAn false 1) [.t 41],nP 43 5,oP 44 (.iad 10) [.t 42,.t 43],oP 45 (.ldRo true 10) [.t 44],⟨.bx,.alloc [.str [],.str [],.list true [],.bool false,.bool false,.int .u8 0,.int .i64 0,.str [],.list true [],.list true []],[],some 6,none⟩,xP (.stLc 6 10) [.l 6,.ts 45] 6]
def c9s:=Rg [7] [nP 46 1,oP 47 .nilchk [.t 46],oP 48 (.ldAn true 3) [.t 47],⟨.bx,.alloc [.str [],.list true [],.bool false],[],some 7,none⟩,xP (.stLc 7 3) [.l 7,.ts 48] 7]
def d0F:=Rg [] [fP 70 2 (.l 7),xP (.stLc 7 1) [.t 70,.c (.bool false)] 7]
def c2d:=Ts [] [fP 49 2 (.l 7),lP 50 7 false 1 (.t 49),mP 51 (.t 50),gP 52 (.fad 1) [.l 6] 51 true,gP 53 (.fad 2) [.t 52] 51 true,⟨.t 54,.ldLc 6 false 1,[.t 53],some 6,some (.t 51,true)⟩,gP 55 (.un .not) [.t 54] 51 true,oP 56 .pick [.t 51,.t 55,.c (.bool false)],mP 57 (.t 56),gP 58 .mv [.v 2] 57 true,gP 59 .mv [.t 58] 57 true,gP 60 (.fad 4) [.l 6] 59 false,⟨.t 61,.ldLc 6 false 1,[.t 60],some 6,some (.t 59,false)⟩,gP 62 .mv [.t 61] 59 false,gP 63 (.fad 5) [.l 6] 62 true,gP 64 (.fad 0) [.t 63] 62 true,⟨.t 65,.ldLc 6 false 1,[.t 64],some 6,some (.t 62,true)⟩,gP 66 (.bin .neq) [.t 65,.c (.int .u8 0)] 62 true,gP 67 .pick [.t 62,.t 66,.c (.bool false)] 59 false,gP 68 .pick [.t 59,.c (.bool true),.t 67] 57 true,oP 69 .pick [.t 57,.t 68,.c (.bool false)]] (.t 69) d0F .skip
def c0W:=Rg [] [nP 76 0,oP 77 .nilchk [.t 76],fP 78 0 (.t 77),oP 79 (.ldAn false 1) [.t 78],oP 80 (.ldAn false 1) [.v 4],oP 81 (.call 90) [.t 79,.c (.int .i64 18),.t 80]]
def d0G:=Ts [] [fP 71 1 (.l 6),lP 72 6 true 3 (.t 71),lP 73 7 true 3 (.l 7),oP 74 (.call 298) [.t 72,.t 73],oP 75 (.un .not) [.t 74]] (.t 75) c0W .skip
def f8e:ACode :=
  (Sq d61 (Sq d9z (Sq e0w (Sq c2g (Sq c7f (Sq c7U (Sq c9s (Sq c2d d0G))))))))
def g8j:AFn:={ np:=4,nv:=8,results:=[],code:=f8e }
def d83:=Rg [3] [⟨.bx,.boxV,[.v 0],some 3,none⟩,vP 4 (.c (.bool false))]
def e9B:=Rg [] [fP 5 0 (.l 3),lP 6 3 false 1 (.t 5),fP 7 3 (.v 1),oP 8 (.ldSt false 1) [.t 7],oP 9 (.ldSt false 1) [.v 2],oP 10 (.iad 1) [.t 8,.t 9],oP 11 (.ldAn false 1) [.t 10],bP 12 .eql (.t 6) (.t 11),vP 4 (.t 12)]
def f8z:ACode :=
  (Sq d83 (Sq e9B .ret))
def g58:AFn:={ np:=3,nv:=5,results:=[.v 4],code:=f8z }
def e0a:=Rg [] [vP 2 (.c (.bool false))]
def e0B:=Rg [] [nP 5 0,nP 6 1,oP 7 (.call 299) [.t 5,.t 6],bP 8 .geq (.t 7) (.c (.int .i64 0)),vP 2 (.t 8)]
def f78:ACode :=
  (Sq e0a (Sq e0B .ret))
def g4u:AFn:={ np:=2,nv:=3,results:=[.v 2],code:=f78 }
def e4d:=Rg [] [op (.v 2) .boxO [.v 0],vP 3 (.c (.bool false))]
def e0s:=Rg [] [oP 4 (.ldSt false 1) [.v 1],oP 5 (.mkF 278 0) [.v 2],oP 6 (.call 276) [.t 4,.t 5],oP 7 (.un .not) [.t 6],vP 3 (.t 7)]
def g3v:ACode :=
  (Sq e4d (Sq e0s .ret))
def g4f:AFn:={ np:=2,nv:=4,results:=[.v 3],code:=g3v }
def e5K:=Rg [2] [⟨.bx,.boxV,[.v 0],some 2,none⟩,vP 3 (.c (.bool false))]
def e6L:=Rg [] [fP 4 0 (.v 1),oP 5 (.ldSt false 1) [.t 4],fP 6 0 (.l 2),lP 7 2 false 1 (.t 6),bP 8 .eql (.t 5) (.t 7),mP 9 (.t 8),gP 10 (.fad 1) [.v 1] 9 true,gP 11 (.ldSt true 5) [.t 10] 9 true,gP 12 (.fad 1) [.l 2] 9 true,⟨.t 13,.ldLc 2 true 5,[.t 12],some 2,some (.t 9,true)⟩,gP 14 (.call 279) [.t 11,.t 13] 9 true,oP 15 .pick [.t 9,.t 14,.c (.bool false)],vP 3 (.t 15)]
def g22:ACode :=
  (Sq e5K (Sq e6L .ret))
def g6x:AFn:={ np:=2,nv:=4,results:=[.v 3],code:=g22 }
def e2B:=Rg [2,3] [⟨.bx,.boxV,[.v 0],some 2,none⟩,⟨.bx,.boxV,[.v 1],some 3,none⟩,vP 4 (.c (.bool false))]
def d8i:=Rg [] [fP 5 0 (.l 2),lP 6 2 false 1 (.t 5),fP 7 0 (.l 3),lP 8 3 false 1 (.t 7),bP 9 .eql (.t 6) (.t 8),mP 10 (.t 9),gP 11 (.fad 1) [.l 2] 10 true,⟨.t 12,.ldLc 2 false 1,[.t 11],some 2,some (.t 10,true)⟩,gP 13 (.fad 1) [.l 3] 10 true,⟨.t 14,.ldLc 3 false 1,[.t 13],some 3,some (.t 10,true)⟩,gP 15 (.bin .eql) [.t 12,.t 14] 10 true,oP 16 .pick [.t 10,.t 15,.c (.bool false)],mP 17 (.t 16),gP 18 (.fad 2) [.l 2] 17 true,⟨.t 19,.ldLc 2 false 1,[.t 18],some 2,some (.t 17,true)⟩,gP 20 (.fad 2) [.l 3] 17 true,⟨.t 21,.ldLc 3 false 1,[.t 20],some 3,some (.t 17,true)⟩,gP 22 (.bin .eql) [.t 19,.t 21] 17 true,oP 23 .pick [.t 17,.t 22,.c (.bool false)],mP 24 (.t 23),gP 25 (.fad 3) [.l 2] 24 true,⟨.t 26,.ldLc 2 false 1,[.t 25],some 2,some (.t 24,true)⟩,gP 27 (.fad 3) [.l 3] 24 true,⟨.t 28,.ldLc 3 false 1,[.t 27],some 3,some (.t 24,true)⟩,gP 29 (.call 300) [.t 26,.t 28] 24 true,oP 30 .pick [.t 24,.t 29,.c (.bool false)],mP 31 (.t 30),gP 32 (.fad 4) [.l 2] 31 true,⟨.t 33,.ldLc 2 false 1,[.t 32],some 2,some (.t 31,true)⟩,gP 34 (.fad 4) [.l 3] 31 true,⟨.t 35,.ldLc 3 false 1,[.t 34],some 3,some (.t 31,true)⟩,gP 36 (.call 301) [.t 33,.t 35,.c (.func 279 [] [])] 31 true,oP 37 .pick [.t 31,.t 36,.c (.bool false)],vP 4 (.t 37)]
def f9e:ACode :=
  (Sq e2B (Sq d8i .ret))
def g70:AFn:={ np:=2,nv:=5,results:=[.v 4],code:=f9e }
def e3I:=Rg [] [vP 3 (.c (.bool false))]
def e3i:=Rg [] [vP 3 (.c (.bool false))]
def d6V:=Ts [] [nP 10 0,oP 11 .lenL [.t 10],nP 12 1,oP 13 .lenL [.t 12],bP 14 .neq (.t 11) (.t 13)] (.t 14) (Sq e3i .ret) .skip
def d4j:=Rg [] [vP 7 (.v 0),op (.v 8) .lenL [.v 7],vP 9 (.c (.int .i64 0))]
def c3e:=Ts [] [bP 18 .lss (.v 9) (.v 8)] (.t 18) .skip (.exit 0)
def d3u:=Rg [5] [nP 19 9,oP 20 (.iad 2) [.v 7,.v 9],oP 21 (.ldRo true 2) [.t 20],⟨.bx,.alloc [.str [],.list true []],[],some 5,none⟩,vP 4 (.t 19),xP (.stLc 5 2) [.l 5,.ts 21] 5]
def d1F:=Rg [6] [nP 22 1,nP 23 4,oP 24 (.iad 2) [.t 22,.t 23],oP 25 (.ldRo true 2) [.t 24],⟨.bx,.alloc [.str [],.list true []],[],some 6,none⟩,xP (.stLc 6 2) [.l 6,.ts 25] 6]
def c2Y:=Rg [] [vP 3 (.c (.bool false))]
def d3a:=Ts [] [nP 26 2,lP 27 5 true 2 (.l 5),lP 28 6 true 2 (.l 6),oP 29 .callV [.t 26,.t 27,.t 28],oP 30 (.un .not) [.t 29]] (.t 30) (Sq c2Y .ret) .skip
def d2Y:=Rg [] [bP 31 .add (.v 9) (.c (.int .i64 1)),vP 9 (.t 31)]
def c7S:=Rg [] [vP 3 (.c (.bool true))]
def f64:ACode :=
  (Sq e3I (Sq d6V (Sq (Sq d4j (Bk 0 (Lp (Sq c3e (Sq (Bk 1 (Sq d3u (Sq d1F d3a))) d2Y))))) (Sq c7S .ret))))
def g6G:AFn:={ np:=3,nv:=10,results:=[.v 3],code:=f64 }
def d5t:=Rg [2,3] [⟨.bx,.boxV,[.v 0],some 2,none⟩,⟨.bx,.boxV,[.v 1],some 3,none⟩,vP 4 (.c (.bool false))]
def f14:=Rg [] [fP 5 0 (.l 2),lP 6 2 false 1 (.t 5),fP 7 0 (.l 3),lP 8 3 false 1 (.t 7),bP 9 .eql (.t 6) (.t 8),mP 10 (.t 9),gP 11 (.fad 1) [.l 2] 10 true,⟨.t 12,.ldLc 2 false 1,[.t 11],some 2,some (.t 10,true)⟩,gP 13 (.fad 1) [.l 3] 10 true,⟨.t 14,.ldLc 3 false 1,[.t 13],some 3,some (.t 10,true)⟩,gP 15 (.call 247) [.t 12,.t 14] 10 true,oP 16 .pick [.t 10,.t 15,.c (.bool false)],vP 4 (.t 16)]
def g0N:ACode :=
  (Sq d5t (Sq f14 .ret))
def g78:AFn:={ np:=2,nv:=5,results:=[.v 4],code:=g0N }
def e6s:=Rg [3] [⟨.bx,.boxV,[.v 0],some 3,none⟩,vP 4 (.c (.bool false))]
def d5G:=Rg [] [oP 5 (.ldSt false 1) [.v 1],fP 6 1 (.v 2),oP 7 (.ldSt false 1) [.t 6],oP 8 (.iad 3) [.t 7,.c (.int .i64 0)],oP 9 (.ldRo true 3) [.t 8],lP 10 3 true 5 (.l 3),oP 11 (.call 253) [.t 5,.t 9,.t 10],oP 12 (.un .not) [.t 11],vP 4 (.t 12)]
def g2o:ACode :=
  (Sq e6s (Sq d5G .ret))
def g6r:AFn:={ np:=3,nv:=5,results:=[.v 4],code:=g2o }
def e58:=Rg [2] [⟨.bx,.boxV,[.v 0],some 2,none⟩,vP 3 (.c (.bool false))]
def e17:=Rg [] [fP 4 0 (.l 2),lP 5 2 false 1 (.t 4),oP 6 (.ldSt false 1) [.v 1],bP 7 .eql (.t 5) (.t 6),vP 3 (.t 7)]
def f7g:ACode :=
  (Sq e58 (Sq e17 .ret))
def g3P:AFn:={ np:=2,nv:=4,results:=[.v 3],code:=f7g }
def d9O:=Rg [2] [⟨.bx,.boxV,[.v 0],some 2,none⟩,vP 3 (.c (.bool false))]
def e6M:=Rg [] [fP 4 2 (.l 2),fP 5 2 (.t 4),lP 6 2 false 1 (.t 5),mP 7 (.t 6),gP 8 (.fad 5) [.l 2] 7 true,⟨.t 9,.ldLc 2 false 1,[.t 8],some 2,some (.t 7,true)⟩,gP 10 (.un .not) [.t 9] 7 true,oP 11 .pick [.t 7,.t 10,.c (.bool false)],mP 12 (.t 11),gP 13 (.fad 3) [.v 1] 12 true,gP 14 (.ldSt false 1) [.t 13] 12 true,gP 15 (.fad 0) [.l 2] 12 true,⟨.t 16,.ldLc 2 false 1,[.t 15],some 2,some (.t 12,true)⟩,gP 17 (.call 27) [.t 14,.t 16] 12 true,gP 18 (.un .not) [.t 17] 12 true,oP 19 .pick [.t 12,.t 18,.c (.bool false)],vP 3 (.t 19)]
def f5j:ACode :=
  (Sq d9O (Sq e6M .ret))
def g7a:AFn:={ np:=2,nv:=4,results:=[.v 3],code:=f5j }
def f09:=Rg [] [vP 5 (.c (.int .i64 0)),vP 6 (.c (.int .i64 0))]
def f0l:=Rg [] [nP 23 3,oP 24 .nilchk [.t 23],oP 25 (.ldSt false 1) [.t 24],bP 26 .add (.t 25) (.c (.int .i64 1)),oP 27 .nilchk [.t 23],op .none (.stSt 1) [.t 27,.t 26]]
def e7A:=Rg [] [nP 28 2,nP 29 1,vP 5 (.t 28),vP 6 (.t 29)]
def f3N:=Ts [] [nP 12 4,nP 13 0,nP 14 2,oP 15 (.iad 2) [.t 13,.t 14],oP 16 (.ldAn true 2) [.t 15],nP 17 0,nP 18 1,oP 19 (.iad 2) [.t 17,.t 18],oP 20 (.ldAn true 2) [.t 19],oP 21 .callV [.t 12,.t 16,.t 20],bP 22 .lss (.t 21) (.c (.int .i64 0))] (.t 22) (Sq f0l (Sq e7A .ret)) .skip
def c4f:=Rg [] [nP 30 1,nP 31 2,vP 5 (.t 30),vP 6 (.t 31)]
def f6y:ACode :=
  (Sq f09 (Sq f3N (Sq c4f .ret)))
def g5I:AFn:={ np:=5,nv:=7,results:=[.v 5,.v 6],code:=f6y }
def e9x:AFn:={ np:=2,nv:=0,results:=[],code:=.skip,ext:=some (a5S) }
def d80:=Rg [] [op (.v 1) .mv [.c (.str [])]]
def e7z:=Rg [] [nP 3 0,oP 4 (.call 286) [.t 3,.c (.int .i64 10)],vP 1 (.t 4)]
def f5A:ACode :=
  (Sq d80 (Sq e7z .ret))
def g8p:AFn:={ np:=1,nv:=2,results:=[.v 1],code:=f5A }
def e3E:=Rg [] [vP 2 (.c (.bool false))]
def e2L:=Rg [] [fP 4 2 (.v 1),oP 5 (.ldSt false 1) [.t 4],nP 6 0,oP 7 (.call 27) [.t 5,.t 6],oP 8 (.un .not) [.t 7],vP 2 (.t 8)]
def g24:ACode :=
  (Sq e3E (Sq e2L .ret))
def g3G:AFn:={ np:=2,nv:=3,results:=[.v 2],code:=g24 }
def a289s1:=Rg [6,7,8,9] [⟨.bx,.boxV,[.v 2],some 6,none⟩,⟨.bx,.boxV,[.v 3],some 7,none⟩,⟨.bx,.boxV,[.v 4],some 8,none⟩,⟨.bx,.alloc [.int .u8 0,.int .i64 0,.str [],.list true [],.list true []],[],some 9,none⟩,vP 10 (.c (.bool false))]
def a289s4:=Rg [] [nP 28 1,oP 29 (.build [.int .u8 0,.int .i64 0,.str [],.list true [],.list true []] [(0,1),(2,1)]) [.c (.int .u8 2),.t 28],xP (.stLc 9 5) [.l 9,.ts 29] 9,vP 10 (.c (.bool true))]
def a289s6:=Ts [] [fP 25 0 (.l 7),lP 26 7 false 1 (.t 25),oP 27 (.bin .eql) [.t 26,.c (.str [95,95,116,121,112,101,110,97,109,101])]] (.t 27) (Sq a289s4 .ret) .skip
def a289s9:=Rg [11] [fP 33 2 (.l 6),lP 34 6 false 1 (.t 33),fP 35 3 (.l 6),lP 36 6 false 1 (.t 35),oP 37 (.build [.int .u8 0,.int .i64 0,.str [],.list true [],.list true []] [(0,1),(3,1),(4,1)]) [.c (.int .u8 6),.t 34,.t 36],fP 38 0 (.l 7),lP 39 7 false 1 (.t 38),oP 40 (.call 106) [.t 37,.t 39],mP 32 (.t 40),oP 41 (.ext 0) [.t 32],oP 42 (.ext 1) [.t 32],⟨.bx,.alloc [.int .u8 0,.int .i64 0,.str [],.list true [],.list true []],[],some 11,none⟩,xP (.stLc 11 5) [.l 11,.ts 41] 11,mP 15 (.t 42)]
def a289s11:=Rg [] [nP 43 0,fP 44 2 (.l 7),lP 45 7 true 3 (.t 44),lP 46 11 true 5 (.l 11),lP 47 8 true 2 (.l 8),nP 48 5,oP 49 (.call 182) [.t 43,.t 45,.t 46,.t 47,.t 48],oP 50 (.ext 0) [.t 49],oP 51 (.ext 1) [.t 49],xP (.stLc 9 5) [.l 9,.ts 50] 9,vP 10 (.t 51)]
def a289s14:=Ts [] [nP 30 1,oP 31 (.bin .neq) [.t 30,.c (.str [81,117,101,114,121])]] (.t 31) (Sq a289s9 (Sq a289s11 .ret)) .skip
def a289s16:=Rg [] [fP 52 2 (.l 7),lP 53 7 true 3 (.t 52),oP 54 (.call 124) [.t 53],vP 12 (.t 54)]
def a289s19:=Rg [] [nP 66 0,oP 67 .nilchk [.t 66],fP 68 12 (.t 67),op .none (.stSt 1) [.t 68,.c (.bool true)]]
def a289s20:=Ts [] [nP 55 0,oP 56 .nilchk [.t 55],fP 57 3 (.t 56),oP 58 (.ldSt true 3) [.t 57],nP 59 0,oP 60 .nilchk [.t 59],fP 61 0 (.t 60),oP 62 (.ldSt false 1) [.t 61],nP 63 12,oP 64 (.call 268) [.t 58,.t 62,.t 63],oP 65 (.un .not) [.t 64]] (.t 65) a289s19 .skip
def a289s23:=Rg [13] [oP 73 (.build [.int .u8 0,.int .i64 0,.str [],.list true [],.list true []] [(0,1)]) [.c (.int .u8 5)],⟨.bx,.alloc [.int .u8 0,.int .i64 0,.str [],.list true [],.list true []],[],some 13,none⟩,xP (.stLc 13 5) [.l 13,.ts 73] 13]
def a289s25:=Rg [] [nP 74 0,oP 75 .nilchk [.t 74],fP 76 3 (.t 75),fP 77 0 (.t 76),fP 78 0 (.t 77),op (.v 18) (.ldSt false 1) [.t 78],op (.v 19) .lenL [.v 18],vP 20 (.c (.int .i64 0))]
def a289s27:=Ts [] [bP 82 .lss (.v 20) (.v 19)] (.t 82) .skip (.exit 0)
def a289s29:=Rg [14] [oP 83 (.iad 4) [.v 18,.v 20],oP 84 (.ldAn true 4) [.t 83],⟨.bx,.alloc [.str [],.str [],.list true [],.list true []],[],some 14,none⟩,xP (.stLc 14 4) [.l 14,.ts 84] 14]
def a289s32:=Rg [] [fP 94 4 (.l 13),⟨.t 95,.ldLcS 13,[.t 94],some 13,none⟩,fP 96 1 (.l 14),lP 97 14 false 1 (.t 96),oP 98 (.build [.int .u8 0,.int .i64 0,.str [],.list true [],.list true []] [(0,1),(2,1)]) [.c (.int .u8 8),.t 97],oP 99 (.bslice 5 [[.int .u8 0,.int .i64 0,.str [],.list true [],.list true []]] [0]) [.t 98],oP 100 (.app 5 80) [.ts 95,.t 99],fP 101 4 (.l 13),xP (.stLc 13 1) [.t 101,.ts 100] 13]
def a289s33:=Ts [] [nP 85 0,oP 86 .nilchk [.t 85],fP 87 0 (.t 86),oP 88 (.ldSt false 1) [.t 87],nP 89 12,oP 90 (.call 230) [.t 88,.t 89],fP 91 0 (.l 14),lP 92 14 false 1 (.t 91),oP 93 (.call 27) [.t 90,.t 92]] (.t 93) a289s32 .skip
def a289s37:=Rg [] [bP 102 .add (.v 20) (.c (.int .i64 1)),vP 20 (.t 102)]
def a289s44:=Rg [] [nP 103 0,fP 104 2 (.l 7),lP 105 7 true 3 (.t 104),lP 106 13 true 5 (.l 13),lP 107 8 true 2 (.l 8),nP 108 5,oP 109 (.call 182) [.t 103,.t 105,.t 106,.t 107,.t 108],oP 110 (.ext 0) [.t 109],oP 111 (.ext 1) [.t 109],xP (.stLc 9 5) [.l 9,.ts 110] 9,vP 10 (.t 111)]
def a289s48:=Ts [] [fP 69 1 (.l 7),lP 70 7 false 1 (.t 69),oP 71 .lenL [.t 70],bP 72 .eql (.t 71) (.c (.int .i64 0))] (.t 72) (Sq a289s23 (Sq (Sq a289s25 (Bk 0 (Lp (Sq a289s27 (Sq (Bk 1 (Sq a289s29 a289s33)) a289s37))))) (Sq a289s44 .ret))) .skip
def a289s50:=Rg [15] [nP 113 0,oP 114 .nilchk [.t 113],fP 115 0 (.t 114),oP 116 (.ldSt false 1) [.t 115],lP 117 7 true 11 (.l 7),fP 118 1 (.l 8),lP 119 8 false 1 (.t 118),oP 120 (.iad 7) [.t 119,.c (.int .i64 0)],fP 121 4 (.t 120),oP 122 (.ldAn false 1) [.t 121],nP 123 0,oP 124 .nilchk [.t 123],fP 125 6 (.t 124),oP 126 (.ldSt true 5) [.t 125],oP 127 (.call 112) [.t 116,.t 117,.t 122,.t 126],mP 112 (.t 127),oP 128 (.ext 0) [.t 112],oP 129 (.ext 1) [.t 112],oP 130 (.ext 2) [.t 112],⟨.bx,.alloc [.int .u8 0,.int .i64 0,.str [],.list true [],.list true []],[],some 15,none⟩,xP (.stLc 15 5) [.l 15,.ts 128] 15,mP 21 (.t 129),vP 16 (.t 130)]
def a289s53:=Rg [] [nP 133 0,nP 134 5,nP 135 16,oP 136 (.call 234) [.t 133,.t 134,.t 135]]
def a289s55:=Rg [] [oP 137 (.build [.int .u8 0,.int .i64 0,.str [],.list true [],.list true []] []) [],xP (.stLc 9 5) [.l 9,.ts 137] 9,vP 10 (.c (.bool true))]
def a289s58:=Ts [] [nP 131 16,bP 132 .neq (.t 131) (.c (.int .i64 0))] (.t 132) (Sq a289s53 (Sq a289s55 .ret)) .skip
def a289s60:=Rg [17] [lP 139 15 true 5 (.l 15),oP 140 (.call 106) [.t 139,.c (.str [105,100])],mP 138 (.t 140),oP 141 (.ext 0) [.t 138],oP 142 (.ext 1) [.t 138],⟨.bx,.alloc [.int .u8 0,.int .i64 0,.str [],.list true [],.list true []],[],some 17,none⟩,xP (.stLc 17 5) [.l 17,.ts 141] 17,mP 24 (.t 142)]
def a289s62:=Rg [] [nP 143 0,fP 144 2 (.l 7),lP 145 7 true 3 (.t 144),fP 146 2 (.l 17),lP 147 17 false 1 (.t 146),oP 148 (.build [.int .u8 0,.int .i64 0,.str [],.list true [],.list true []] [(0,1),(2,1)]) [.c (.int .u8 8),.t 147],lP 149 8 true 2 (.l 8),nP 150 5,oP 151 (.call 182) [.t 143,.t 145,.t 148,.t 149,.t 150],oP 152 (.ext 0) [.t 151],oP 153 (.ext 1) [.t 151],xP (.stLc 9 5) [.l 9,.ts 152] 9,vP 10 (.t 153)]
def a289c:ACode :=
  (Sq a289s1 (Sq a289s6 (Sq a289s14 (Sq a289s16 (Sq a289s20 (Sq a289s48 (Sq a289s50 (Sq a289s58 (Sq a289s60 (Sq a289s62 .ret))))))))))
def a289:AFn:={ np:=6,nv:=21,results:=[.bx 9 true 5,.v 10],code:=a289c }
def e3k:AFn:={ np:=3,nv:=0,results:=[],code:=.skip,ext:=some (a0r) }
def d6v:=Rg [] [vP 2 (.c (.int .i64 0))]
def e3A:=Rg [] [nP 6 0,op (.v 4) .lenL [.t 6],vP 5 (.c (.int .i64 0))]
def d7A:=Ts [] [bP 9 .lss (.v 5) (.v 4)] (.t 9) .skip (.exit 0)
def f4X:=Rg [] [nP 10 5,vP 3 (.t 10)]
def d2n:=Rg [] [nP 17 3,vP 2 (.t 17)]
def c1B:=Ts [] [nP 11 1,nP 12 0,nP 13 3,oP 14 (.iad 10) [.t 12,.t 13],oP 15 (.ldRo true 10) [.t 14],oP 16 .callV [.t 11,.t 15]] (.t 16) (Sq d2n .ret) .skip
def c61:=Rg [] [bP 18 .add (.v 5) (.c (.int .i64 1)),vP 5 (.t 18)]
def d3j:=Rg [] [vP 2 (.c (.int .i64 (-1)))]
def f7j:ACode :=
  (Sq d6v (Sq (Sq e3A (Bk 0 (Lp (Sq d7A (Sq (Bk 1 (Sq f4X c1B)) c61))))) (Sq d3j .ret)))
def g6M:AFn:={ np:=2,nv:=6,results:=[.v 2],code:=f7j }
def d7q:=Rg [2] [⟨.bx,.boxV,[.v 0],some 2,none⟩,vP 3 (.c (.bool false))]
def e8T:=Rg [] [fP 4 0 (.l 2),lP 5 2 false 1 (.t 4),oP 6 (.ldSt false 1) [.v 1],bP 7 .eql (.t 5) (.t 6),vP 3 (.t 7)]
def g1E:ACode :=
  (Sq d7q (Sq e8T .ret))
def g6y:AFn:={ np:=2,nv:=4,results:=[.v 3],code:=g1E }
def e8u:=Rg [2,3] [⟨.bx,.boxV,[.v 0],some 2,none⟩,⟨.bx,.boxV,[.v 1],some 3,none⟩,vP 4 (.c (.bool false))]
def d8l:=Rg [] [vP 4 (.c (.bool false))]
def d9n:=Ts [] [fP 5 2 (.l 3),lP 6 3 false 1 (.t 5),mP 7 (.t 6),gP 8 (.fad 2) [.l 2] 7 true,⟨.t 9,.ldLc 2 false 1,[.t 8],some 2,some (.t 7,true)⟩,gP 10 (.un .not) [.t 9] 7 true,oP 11 .pick [.t 7,.t 10,.c (.bool false)],mP 12 (.t 11),gP 13 (.fad 1) [.l 2] 12 false,⟨.t 14,.ldLc 2 false 1,[.t 13],some 2,some (.t 12,false)⟩,gP 15 .lenL [.t 14] 12 false,gP 16 (.fad 1) [.l 3] 12 false,⟨.t 17,.ldLc 3 false 1,[.t 16],some 3,some (.t 12,false)⟩,gP 18 .lenL [.t 17] 12 false,gP 19 (.bin .neq) [.t 15,.t 18] 12 false,oP 20 .pick [.t 12,.c (.bool true),.t 19]] (.t 20) (Sq d8l .ret) .skip
def e1I:=Rg [] [fP 25 1 (.l 2),lP 26 2 false 1 (.t 25),oP 27 (.iad 3) [.t 26,.c (.int .i64 0)],oP 28 (.ldRo true 3) [.t 27],fP 29 1 (.l 3),lP 30 3 false 1 (.t 29),oP 31 (.iad 3) [.t 30,.c (.int .i64 0)],oP 32 (.ldRo true 3) [.t 31],oP 33 (.call 298) [.t 28,.t 32],vP 4 (.t 33)]
def c1J:=Ts [] [fP 21 1 (.l 2),lP 22 2 false 1 (.t 21),oP 23 .lenL [.t 22],bP 24 .gtr (.t 23) (.c (.int .i64 0))] (.t 24) (Sq e1I .ret) .skip
def d2o:=Rg [] [fP 34 0 (.l 2),lP 35 2 false 1 (.t 34),fP 36 0 (.l 3),lP 37 3 false 1 (.t 36),bP 38 .eql (.t 35) (.t 37),vP 4 (.t 38)]
def g2L:ACode :=
  (Sq e8u (Sq d9n (Sq c1J (Sq d2o .ret))))
def g88:AFn:={ np:=2,nv:=5,results:=[.v 4],code:=g2L }
def e1h:=Rg [] [vP 2 (.c (.int .i64 0))]
def d7n:=Rg [] [nP 6 0,op (.v 4) .lenL [.t 6],vP 5 (.c (.int .i64 0))]
def f3K:=Ts [] [bP 9 .lss (.v 5) (.v 4)] (.t 9) .skip (.exit 0)
def d5k:=Rg [] [nP 10 5,vP 3 (.t 10)]
def c7I:=Rg [] [nP 17 3,vP 2 (.t 17)]
def c7e:=Ts [] [nP 11 1,nP 12 0,nP 13 3,oP 14 (.iad 6) [.t 12,.t 13],oP 15 (.ldRo true 6) [.t 14],oP 16 .callV [.t 11,.t 15]] (.t 16) (Sq c7I .ret) .skip
def d3R:=Rg [] [bP 18 .add (.v 5) (.c (.int .i64 1)),vP 5 (.t 18)]
def d0I:=Rg [] [vP 2 (.c (.int .i64 (-1)))]
def g0o:ACode :=
  (Sq e1h (Sq (Sq d7n (Bk 0 (Lp (Sq f3K (Sq (Bk 1 (Sq d5k c7e)) d3R))))) (Sq d0I .ret)))
def g7t:AFn:={ np:=2,nv:=6,results:=[.v 2],code:=g0o }
def e3b:=Rg [] [vP 2 (.c (.bool false))]
def f0F:=Rg [] [vP 2 (.c (.bool false))]
def f4b:=Ts [] [nP 6 0,oP 7 .lenL [.t 6],nP 8 1,oP 9 .lenL [.t 8],bP 10 .neq (.t 7) (.t 9)] (.t 10) (Sq f0F .ret) .skip
def e0o:=Rg [] [nP 11 0,op (.v 4) .lenL [.t 11],vP 5 (.c (.int .i64 0))]
def c8t:=Ts [] [bP 14 .lss (.v 5) (.v 4)] (.t 14) .skip (.exit 0)
def d0u:=Rg [] [nP 15 5,vP 3 (.t 15)]
def c3f:=Rg [] [vP 2 (.c (.bool false))]
def c6n:=Ts [] [nP 16 0,nP 17 3,oP 18 (.iad 1) [.t 16,.t 17],oP 19 (.ldAn false 1) [.t 18],nP 20 1,nP 21 3,oP 22 (.iad 1) [.t 20,.t 21],oP 23 (.ldAn false 1) [.t 22],bP 24 .neq (.t 19) (.t 23)] (.t 24) (Sq c3f .ret) .skip
def c7D:=Rg [] [bP 25 .add (.v 5) (.c (.int .i64 1)),vP 5 (.t 25)]
def c8a:=Rg [] [vP 2 (.c (.bool true))]
def g0l:ACode :=
  (Sq e3b (Sq f4b (Sq (Sq e0o (Bk 0 (Lp (Sq c8t (Sq (Bk 1 (Sq d0u c6n)) c7D))))) (Sq c8a .ret))))
def g5f:AFn:={ np:=2,nv:=6,results:=[.v 2],code:=g0l }
def d5Q:=Rg [] [vP 3 (.c (.bool false))]
def f3D:=Rg [] [vP 3 (.c (.bool false))]
def f3l:=Ts [] [nP 10 0,oP 11 .lenL [.t 10],nP 12 1,oP 13 .lenL [.t 12],bP 14 .neq (.t 11) (.t 13)] (.t 14) (Sq f3D .ret) .skip
def e5k:=Rg [] [vP 7 (.v 0),op (.v 8) .lenL [.v 7],vP 9 (.c (.int .i64 0))]
def c7j:=Ts [] [bP 18 .lss (.v 9) (.v 8)] (.t 18) .skip (.exit 0)
def c2R:=Rg [5] [nP 19 9,oP 20 (.iad 5) [.v 7,.v 9],oP 21 (.ldAn true 5) [.t 20],⟨.bx,.alloc [.int .u8 0,.int .i64 0,.str [],.list true [],.list true []],[],some 5,none⟩,vP 4 (.t 19),xP (.stLc 5 5) [.l 5,.ts 21] 5]
def c77:=Rg [6] [nP 22 1,nP 23 4,oP 24 (.iad 5) [.t 22,.t 23],oP 25 (.ldAn true 5) [.t 24],⟨.bx,.alloc [.int .u8 0,.int .i64 0,.str [],.list true [],.list true []],[],some 6,none⟩,xP (.stLc 6 5) [.l 6,.ts 25] 6]
def c5E:=Rg [] [vP 3 (.c (.bool false))]
def c9A:=Ts [] [nP 26 2,lP 27 5 true 5 (.l 5),lP 28 6 true 5 (.l 6),oP 29 .callV [.t 26,.t 27,.t 28],oP 30 (.un .not) [.t 29]] (.t 30) (Sq c5E .ret) .skip
def c8X:=Rg [] [bP 31 .add (.v 9) (.c (.int .i64 1)),vP 9 (.t 31)]
def c6F:=Rg [] [vP 3 (.c (.bool true))]
def g3o:ACode :=
  (Sq d5Q (Sq f3l (Sq (Sq e5k (Bk 0 (Lp (Sq c7j (Sq (Bk 1 (Sq c2R (Sq c77 c9A))) c8X))))) (Sq c6F .ret))))
def g62:AFn:={ np:=3,nv:=10,results:=[.v 3],code:=g3o }
def tblL:List (List (Option AFn)):=[
  [none,none,none,none,some a4,some a5,some a6,some a7,some a8,some a9],
  [some a10,some a11,some a12,some a13,some a14,some a15,some a16,some a17,some a18,some a19],
  [some a20,some a21,some a22,some a23,some a24,some a25,some a26,some a27,some a28,some a29],
  [some a30,some a31,some a32,some a33,some a34,some a35,some a36,some a37,some a38,some a39],
  [some a40,some a41,some a42,some a43,some a44,some a45,some a46,some a47,some a48,some a49],
  [some a50,some a51,some a52,some a53,some a54,some a55,some a56,some a57,some a58,some a59],
  [some a60,some a61,some a62,some a63,some a64,some a65,some a66,some a67,some a68,some a69],
  [some a70,some a71,some a72,some a73,some a74,some a75,some a76,some a77,some a78,none],
  [none,some a81,some a82,none,some a84,some a85,some a86,some a87,some a88,some a89],
  [some a90,some a91,some a92,some a93,some a94,some a95,some a96,some a97,some a98,some a99],
  [some g6S,some g7H,some g4N,some g5j,some g8a,some g3T,some g59,some a107,some g7i,some g7U],
  [some a110,some g4o,some g4K,some a113,some a114,some g5Z,some g6V,some g5w,some g4q,some g7A],
  [some g4D,some g52,some g8N,some g6I,some g6c,some g5F,some g65,some a127,some a128,some g7j],
  [some g7O,some g85,some g4r,some g76,some g8d,some g5K,some g5A,some g34,some g3V,none],
  [some g9v,some g9f,some g9k,some g5t,some g9m,some g4T,some g9o,some g8k,some g84,some g4C],
  [some g7T,some g51,some g6D,some g7r,some g5D,some g5v,some g5E,some g9d,some g5G,some g8F],
  [some g4s,some g7u,some g7N,some g8t,some a164,some g6q,some g4Z,some a167,some g8y,some a169],
  [some g7K,some a171,some g80,some a173,some g7h,some g6f,some g7S,some a177,some g3Y,some g8G],
  [some g5W,some g4e,some a182,some g3R,some e2P,some g8I,some g5R,some g6u,some g44,some g5x],
  [none,some e9a,some g6o,some g72,some g82,some g6E,some d49,some g9t,some g9g,some d7b],
  [some e9U,some g7V,some g9j,some g4c,some a204,some a205,some g6a,some g9i,some g56,some g4n],
  [some g3Z,some g6N,some a212,some a213,some g6w,some g32,some g6W,some g4t,some g5H,some g8m],
  [some g4g,some g7b,some g5i,some g8i,some a224,some g7f,some g7F,some g4j,some g5n,some g6Z],
  [some g3J,some g49,some a232,some a233,some g8U,some g5e,some g4Y,some g4S,none,some g79],
  [none,none,none,some g8v,some g6Q,some g45,some g53,some g6d,some g8S,some g4Q],
  [some g7W,some g6p,some g6t,some g4A,some g35,some g5a,some g5S,some g8Y,some g4B,some g4R],
  [some g5B,some g37,some e8D,some g3L,some g4I,some g6A,some g4v,some a267,some g3F,some a269],
  [some g4m,some g5b,none,none,some g8j,some g58,some g4u,some g4f,some g6x,some g70],
  [some g6G,some g78,some g6r,some g3P,some g7a,some g5I,some e9x,some g8p,some g3G,some a289],
  [some e3k,none,none,none,none,none,some g6M,some g6y,some g88,some g7t],
  [some g5f,some g62,none,none,none,none,none,none,none,none],
  [none,none,none,none,none,none,none,none,none,none],
  [none,none,none,none,none,none,none,none,none,none],
  [none,none,none,none,none,none,none,none,none,none],
  [none,none,none,none,none,none,none,none,none,none]]
def tbl:Nat→Option AFn:=g4d tblL
def gts:List (Nat×List AV):=[(0,[.str [66,111,111,108,101,97,110],.str [73,68],.str [73,110,116],.str [83,116,114,105,110,103]]),(5,Lib.pow10Tab.map (AV.int .u64))]
end Go.Cb.CodeA
