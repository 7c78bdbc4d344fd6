/- The functions of the seat, told as code of the abstract machine. No conditions. -/
import Derived.Test.YtdlgfdncpemcnaaGreatDoorCodeAp0
namespace Go.Cb.CodeA
open Go Go.Cb
open Go.Cb.ACode renaming seq→Sq,reg→Rg,test→Ts,blk→Bk,loop→Lp

def e3M:=Sq b7w .ret
def e7G:=Rg [] [fP 90 0 (.l 5),lP 91 5 false 1 (.t 90),bP 92 .eql (.t 91) (.c (.int .u8 2)),mP 93 (.t 92),gP 94 (.fad 0) [.l 5] 93 false,⟨.t 95,.ldLc 5 false 1,[.t 94],some 5,some (.t 93,false)⟩,gP 96 (.bin .eql) [.t 95,.c (.int .u8 1)] 93 false,oP 97 .pick [.t 93,.c (.bool true),.t 96],vP 6 (.t 97)]
def b8T:=Sq e7G .ret
def e1M:=Ts [] [oP 89 (.bin .eql) [.v 12,.c (.str [73,68])],mP 88 (.t 89)] (.t 88) b8T .skip
def f1Q:=Ts [] [oP 84 (.bin .eql) [.v 12,.c (.str [66,111,111,108,101,97,110])],mP 83 (.t 84)] (.t 83) e3M e1M
def d7J:=Ts [] [oP 79 (.bin .eql) [.v 12,.c (.str [83,116,114,105,110,103])],mP 78 (.t 79)] (.t 78) b6U f1Q
def c0T:=Ts [] [oP 64 (.bin .eql) [.v 12,.c (.str [73,110,116])],mP 63 (.t 64)] (.t 63) e7u d7J
def b7Z:=Bk 2 c0T
def e0Y:=Sq b89 b7Z
def e3r:=Rg [8] [nP 98 0,fP 99 0 (.l 4),lP 100 4 false 1 (.t 99),oP 101 (.call 36) [.t 98,.t 100],⟨.bx,.alloc [.int .u8 0,.str [],.list true [],.list true []],[],some 8,none⟩,xP (.stLc 8 4) [.l 8,.ts 101] 8]
def d17:=Rg [] [fP 105 0 (.l 5),lP 106 5 false 1 (.t 105),bP 107 .eql (.t 106) (.c (.int .u8 4)),mP 108 (.t 107),gP 109 (.fad 3) [.l 8] 108 true,⟨.t 110,.ldLc 8 false 1,[.t 109],some 8,some (.t 108,true)⟩,gP 111 (.fad 2) [.l 5] 108 true,⟨.t 112,.ldLc 5 false 1,[.t 111],some 5,some (.t 108,true)⟩,gP 113 (.call 33) [.t 110,.t 112] 108 true,oP 114 .pick [.t 108,.t 113,.c (.bool false)],vP 6 (.t 114)]
def e9X:=Sq d17 .ret
def b8S:=Ts [] [fP 102 0 (.l 8),lP 103 8 false 1 (.t 102),bP 104 .eql (.t 103) (.c (.int .u8 4))] (.t 104) e9X .skip
def c8d:=Rg [] [vP 6 (.c (.bool false))]
def d1X:=Sq c8d .ret
def e1N:=Ts [] [fP 115 0 (.l 8),lP 116 8 false 1 (.t 115),bP 117 .neq (.t 116) (.c (.int .u8 5)),mP 118 (.t 117),gP 119 (.fad 0) [.l 5] 118 false,⟨.t 120,.ldLc 5 false 1,[.t 119],some 5,some (.t 118,false)⟩,gP 121 (.bin .neq) [.t 120,.c (.int .u8 6)] 118 false,oP 122 .pick [.t 118,.c (.bool true),.t 121]] (.t 122) d1X .skip
def c8i:=Rg [] [vP 9 (.c (.int .i64 0))]
def e8B:=Ts [] [nP 123 9,fP 124 3 (.l 5),lP 125 5 false 1 (.t 124),oP 126 .lenL [.t 125],bP 127 .lss (.t 123) (.t 126)] (.t 127) .skip (.exit 3)
def d4X:=Rg [] [fP 130 2 (.l 8),lP 131 8 false 1 (.t 130),fP 132 3 (.l 5),lP 133 5 false 1 (.t 132),nP 134 9,oP 135 (.iad 1) [.t 133,.t 134],oP 136 (.ldAn false 1) [.t 135],oP 137 (.call 71) [.t 131,.t 136],vP 10 (.t 137)]
def f2i:=Rg [] [vP 6 (.c (.bool false))]
def c8y:=Sq f2i .ret
def b8D:=Ts [] [nP 138 10,bP 139 .lss (.t 138) (.c (.int .i64 0)),mP 140 (.t 139),gP 141 (.fad 3) [.l 5] 140 false,⟨.t 142,.ldLc 5 false 1,[.t 141],some 5,some (.t 140,false)⟩,gP 143 .mv [.v 9] 140 false,gP 144 (.slL 1 false true) [.t 142,.t 143] 140 false,gP 145 (.fad 3) [.l 5] 140 false,⟨.t 146,.ldLc 5 false 1,[.t 145],some 5,some (.t 140,false)⟩,gP 147 .mv [.v 9] 140 false,gP 148 (.iad 1) [.t 146,.t 147] 140 false,gP 149 (.ldAn false 1) [.t 148] 140 false,gP 150 (.call 33) [.t 144,.t 149] 140 false,oP 151 .pick [.t 140,.c (.bool true),.t 150],mP 152 (.t 151),gP 153 .mv [.v 0] 152 false,gP 154 (.fad 2) [.l 8] 152 false,⟨.t 155,.ldLc 8 false 1,[.t 154],some 8,some (.t 152,false)⟩,gP 156 .mv [.v 10] 152 false,gP 157 (.iad 11) [.t 155,.t 156] 152 false,gP 158 (.fad 2) [.t 157] 152 false,gP 159 (.ldRo true 3) [.t 158] 152 false,gP 160 (.fad 4) [.l 5] 152 false,⟨.t 161,.ldLc 5 false 1,[.t 160],some 5,some (.t 152,false)⟩,gP 162 .mv [.v 9] 152 false,gP 163 (.iad 5) [.t 161,.t 162] 152 false,gP 164 (.ldAn true 5) [.t 163] 152 false,gP 165 .mv [.v 3] 152 false,gP 166 (.call 136) [.t 153,.t 159,.t 164,.t 165] 152 false,gP 167 (.un .not) [.t 166] 152 false,oP 168 .pick [.t 152,.c (.bool true),.t 167]] (.t 168) c8y .skip
def c4C:=Sq d4X b8D
def f05:=Bk 4 c4C
def e1G:=Rg [] [nP 128 9,bP 129 .add (.t 128) (.c (.int .i64 1)),vP 9 (.t 129)]
def f1y:=Sq f05 e1G
def e8D:=Sq e8B f1y
def e1m:=Lp e8D
def c6h:=Bk 3 e1m
def c3l:=Sq c8i c6h
def c5D:=Rg [] [vP 11 (.c (.int .i64 0))]
def b3C:=Ts [] [nP 169 11,fP 170 2 (.l 8),lP 171 8 false 1 (.t 170),oP 172 .lenL [.t 171],bP 173 .lss (.t 169) (.t 172)] (.t 173) .skip (.exit 5)
def b2K:=Rg [] [vP 6 (.c (.bool false))]
def b2F:=Sq b2K .ret
def b3A:=Ts [] [fP 176 2 (.l 8),lP 177 8 false 1 (.t 176),nP 178 11,oP 179 (.iad 11) [.t 177,.t 178],fP 180 2 (.t 179),fP 181 2 (.t 180),oP 182 (.ldRo false 1) [.t 181],mP 183 (.t 182),gP 184 (.fad 2) [.l 8] 183 true,⟨.t 185,.ldLc 8 false 1,[.t 184],some 8,some (.t 183,true)⟩,gP 186 .mv [.v 11] 183 true,gP 187 (.iad 11) [.t 185,.t 186] 183 true,gP 188 (.fad 5) [.t 187] 183 true,gP 189 (.ldRo false 1) [.t 188] 183 true,gP 190 (.un .not) [.t 189] 183 true,oP 191 .pick [.t 183,.t 190,.c (.bool false)],mP 192 (.t 191),gP 193 (.fad 3) [.l 5] 192 true,⟨.t 194,.ldLc 5 false 1,[.t 193],some 5,some (.t 192,true)⟩,gP 195 (.fad 2) [.l 8] 192 true,⟨.t 196,.ldLc 8 false 1,[.t 195],some 8,some (.t 192,true)⟩,gP 197 .mv [.v 11] 192 true,gP 198 (.iad 11) [.t 196,.t 197] 192 true,gP 199 (.fad 0) [.t 198] 192 true,gP 200 (.ldRo false 1) [.t 199] 192 true,gP 201 (.call 33) [.t 194,.t 200] 192 true,gP 202 (.un .not) [.t 201] 192 true,oP 203 .pick [.t 192,.t 202,.c (.bool false)]] (.t 203) b2F .skip
def b24:=Bk 6 b3A
def b3J:=Rg [] [nP 174 11,bP 175 .add (.t 174) (.c (.int .i64 1)),vP 11 (.t 175)]
def b2Q:=Sq b24 b3J
def b3k:=Sq b3C b2Q
def b30:=Lp b3k
def b3p:=Bk 5 b30
def b3x:=Sq c5D b3p
def b3s:=Rg [] [vP 6 (.c (.bool true))]
def b32:=Sq b3s .ret
def b4w:=Sq b3x b32
def b3F:=Sq c3l b4w
def b4y:=Sq e1N b3F
def b4a:=Sq b8S b4y
def b2P:=Sq e3r b4a
def b2V:=Sq e0Y b2P
def b3r:=Sq d7R b2V
def b4N:=Sq e8O b3r
def b4R:=Sq i4q b4N
def b4L:=Sq g6T b4R
def j5Z:ACode :=
  b4L
def k2S:AFn:={ np:=4,nv:=13,results:=[.v 6],code:=j5Z }

def f25:=Rg [] [op (.v 1) .mv [.c (.str [])],op (.v 2) .mv [.c (.str [])]]
def g0e:=Rg [] [oP 6 (.bslice 1 [[.str []],[.str []],[.str []]] [0,1,2]) [.c (.str [99,114,101,97,116,101]),.c (.str [117,112,100,97,116,101]),.c (.str [100,101,108,101,116,101])],vP 3 (.ts 6)]
def i7C:=Rg [] [vP 4 (.c (.int .i64 0))]
def i50:=Ts [] [nP 7 4,bP 8 .lss (.t 7) (.c (.int .i64 3))] (.t 8) .skip (.exit 0)
def e1q:=Rg [] [nP 17 3,nP 18 4,oP 19 (.iad 1) [.t 17,.t 18],oP 20 (.ldAn false 1) [.t 19],nP 21 0,oP 22 (.slS true false) [.t 21,.c (.int .i64 6)],vP 1 (.t 20),vP 2 (.t 22)]
def c1N:=Sq e1q .ret
def e8t:=Ts [] [nP 11 0,nP 12 3,nP 13 4,oP 14 (.iad 1) [.t 12,.t 13],oP 15 (.ldAn false 1) [.t 14],oP 16 (.call 34) [.t 11,.t 15]] (.t 16) c1N .skip
def b8R:=Bk 1 e8t
def d7W:=Rg [] [nP 9 4,bP 10 .add (.t 9) (.c (.int .i64 1)),vP 4 (.t 10)]
def e30:=Sq b8R d7W
def d6s:=Sq i50 e30
def c8h:=Lp d6s
def c07:=Bk 0 c8h
def c00:=Sq i7C c07
def c4y:=Rg [] [op (.v 1) .mv [.c (.str [])],op (.v 2) .mv [.c (.str [])]]
def d9k:=Sq c4y .ret
def e6D:=Sq c00 d9k
def e29:=Sq g0e e6D
def e8Q:=Sq f25 e29
def j3B:ACode :=
  e8Q
def k2G:AFn:={ np:=1,nv:=5,results:=[.v 1,.v 2],code:=j3B }

def g4n:=Rg [3,4] [⟨.bx,.boxV,[.v 1],some 3,none⟩,⟨.bx,.boxV,[.v 2],some 4,none⟩,vP 5 (.c (.bool false))]
def h3R:=Rg [] [fP 17 1 (.l 3),lP 18 3 false 1 (.t 17),oP 19 .lenL [.t 18],bP 20 .gtr (.t 19) (.c (.int .i64 0)),mP 21 (.t 20),gP 22 (.fad 1) [.l 4] 21 true,⟨.t 23,.ldLc 4 false 1,[.t 22],some 4,some (.t 21,true)⟩,gP 24 .lenL [.t 23] 21 true,gP 25 (.bin .gtr) [.t 24,.c (.int .i64 0)] 21 true,oP 26 .pick [.t 21,.t 25,.c (.bool false)],mP 27 (.t 26),gP 28 .mv [.v 0] 27 true,gP 29 (.fad 1) [.l 3] 27 true,⟨.t 30,.ldLc 3 false 1,[.t 29],some 3,some (.t 27,true)⟩,gP 31 (.iad 3) [.t 30,.c (.int .i64 0)] 27 true,gP 32 (.ldRo true 3) [.t 31] 27 true,gP 33 (.fad 1) [.l 4] 27 true,⟨.t 34,.ldLc 4 false 1,[.t 33],some 4,some (.t 27,true)⟩,gP 35 (.iad 3) [.t 34,.c (.int .i64 0)] 27 true,gP 36 (.ldRo true 3) [.t 35] 27 true,gP 37 (.call 138) [.t 28,.t 32,.t 36] 27 true,oP 38 .pick [.t 27,.t 37,.c (.bool false)],vP 5 (.t 38)]
def h3Z:=Sq h3R .ret
def g4Y:=Ts [] [fP 7 1 (.l 3),lP 8 3 false 1 (.t 7),oP 9 .lenL [.t 8],bP 10 .gtr (.t 9) (.c (.int .i64 0)),mP 11 (.t 10),gP 12 (.fad 1) [.l 4] 11 false,⟨.t 13,.ldLc 4 false 1,[.t 12],some 4,some (.t 11,false)⟩,gP 14 .lenL [.t 13] 11 false,gP 15 (.bin .gtr) [.t 14,.c (.int .i64 0)] 11 false,oP 16 .pick [.t 11,.c (.bool true),.t 15]] (.t 16) h3Z .skip
def h2u:=Rg [] [fP 39 0 (.l 3),lP 40 3 false 1 (.t 39),fP 41 0 (.l 4),lP 42 4 false 1 (.t 41),bP 43 .eql (.t 40) (.t 42),mP 44 (.t 43),gP 45 (.fad 0) [.l 4] 44 false,⟨.t 46,.ldLc 4 false 1,[.t 45],some 4,some (.t 44,false)⟩,gP 47 (.bin .eql) [.t 46,.c (.str [73,68])] 44 false,gP 48 .mv [.t 47] 44 false,gP 49 .mv [.v 0] 48 true,gP 50 (.fad 0) [.l 3] 48 true,⟨.t 51,.ldLc 3 false 1,[.t 50],some 3,some (.t 48,true)⟩,gP 52 (.call 74) [.t 49,.t 51] 48 true,gP 53 .pick [.t 48,.t 52,.c (.bool false)] 44 false,oP 54 .pick [.t 44,.c (.bool true),.t 53],vP 5 (.t 54)]
def i1A:=Sq h2u .ret
def f2l:=Sq g4Y i1A
def b6O:=Sq g4n f2l
def j4M:ACode :=
  b6O
def j9L:AFn:={ np:=3,nv:=6,results:=[.v 5],code:=j4M }

def i5e:=Rg [] [vP 2 (.c (.int .i64 0))]
def h5k:=Rg [] [nP 6 0,op (.v 4) .lenS [.t 6],vP 5 (.c (.int .i64 0))]
def f6B:=Ts [] [bP 9 .lss (.v 5) (.v 4)] (.t 9) .skip (.exit 0)
def h2Z:=Rg [] [nP 10 5,vP 3 (.t 10)]
def c9i:=Rg [] [nP 17 3,vP 2 (.t 17)]
def d6h:=Sq c9i .ret
def d6q:=Ts [] [nP 11 1,nP 12 0,nP 13 3,oP 14 .idxS [.t 12,.t 13],oP 15 .callV [.t 11,.t 14],oP 16 (.un .not) [.t 15]] (.t 16) d6h .skip
def e6i:=Sq h2Z d6q
def c4q:=Bk 1 e6i
def c5j:=Rg [] [bP 18 .add (.v 5) (.c (.int .i64 1)),vP 5 (.t 18)]
def e0L:=Sq c4q c5j
def c0W:=Sq f6B e0L
def d4k:=Lp c0W
def c1L:=Bk 0 d4k
def e09:=Sq h5k c1L
def d2T:=Rg [] [nP 19 0,oP 20 .lenS [.t 19],vP 2 (.t 20)]
def e17:=Sq d2T .ret
def d1Z:=Sq e09 e17
def c9w:=Sq i5e d1Z
def j8j:ACode :=
  c9w
def j90:AFn:={ np:=2,nv:=6,results:=[.v 2],code:=j8j }

def f5N:=Rg [] [vP 1 (.c (.bool false))]
def g0O:=Rg [] [nP 3 0,oP 4 (.call 142) [.c (.str [32,9,13,10,44]),.t 3],bP 5 .geq (.t 4) (.c (.int .i64 0)),vP 1 (.t 5)]
def g2A:=Sq g0O .ret
def i8g:=Sq f5N g2A
def j3U:ACode :=
  i8g
def j9q:AFn:={ np:=1,nv:=2,results:=[.v 1],code:=j3U }

def f3H:=Rg [] [vP 2 (.c (.int .i64 0))]
def h41:=Rg [] [nP 5 0,nP 6 1,oP 7 (.call 191) [.t 5,.t 6],vP 2 (.t 7)]
def f7g:=Sq h41 .ret
def h6n:=Sq f3H f7g
def i8w:ACode :=
  h6n
def k2e:AFn:={ np:=2,nv:=3,results:=[.v 2],code:=i8w }

def h5Z:=Rg [] [vP 1 (.c (.bool false))]
def i2b:=Rg [] [nP 3 0,bP 4 .neq (.t 3) (.c (.int .u8 10)),vP 1 (.t 4)]
def f4G:=Sq i2b .ret
def h6v:=Sq h5Z f4G
def j86:ACode :=
  h6v
def k3f:AFn:={ np:=1,nv:=2,results:=[.v 1],code:=j86 }

def h4E:=Rg [1] [⟨.bx,.alloc [.int .u8 0,.str [],.int .i64 0,.int .i64 0],[],some 1,none⟩,vP 2 (.c (.int .i64 0)),vP 3 (.c (.int .i64 0)),vP 4 (.c (.int .i64 0))]
def h6O:=Rg [] [nP 8 0,oP 9 .idxS [.t 8,.c (.int .i64 0)],vP 5 (.t 9)]
def f3m:=Rg [] [nP 13 0,oP 14 (.call 140) [.t 13,.c (.func 193 [] [])],vP 6 (.t 14)]
def f5x:=Rg [] [oP 17 (.build [.int .u8 0,.str [],.int .i64 0,.int .i64 0] []) [],xP (.stLc 1 4) [.l 1,.t 17] 1,vP 2 (.c (.int .i64 0)),vP 3 (.c (.int .i64 0)),vP 4 (.c (.int .i64 2))]
def c4S:=Sq f5x .ret
def c2f:=Ts [] [nP 15 6,bP 16 .gtr (.t 15) (.c (.int .i64 32))] (.t 16) c4S .skip
def d5P:=Rg [] [nP 18 0,nP 19 6,oP 20 (.slS false true) [.t 18,.t 19],oP 21 (.build [.int .u8 0,.str [],.int .i64 0,.int .i64 0] [(0,1),(1,1)]) [.c (.int .u8 1),.t 20],nP 22 6,xP (.stLc 1 4) [.l 1,.t 21] 1,vP 2 (.t 22),vP 3 (.c (.int .i64 0)),vP 4 (.c (.int .i64 0))]
def e0z:=Sq d5P .ret
def d6g:=Sq c2f e0z
def e6u:=Sq f3m d6g
def b8h:=Rg [] [nP 26 5,oP 27 (.call 194) [.t 26],vP 7 (.t 27)]
def b7U:=Ts [] [nP 24 5,bP 25 .eql (.t 24) (.c (.int .u8 45)),vP 7 (.t 25)] (.v 7) .skip b8h
def d3p:=Rg [] [nP 28 0,oP 29 (.call 195) [.t 28],oP 30 (.ext 0) [.t 29],oP 31 (.ext 1) [.t 29],oP 32 (.ext 2) [.t 29],oP 33 (.ext 3) [.t 29],xP (.stLc 1 4) [.l 1,.t 30] 1,vP 2 (.t 31),vP 3 (.t 32),vP 4 (.t 33)]
def f0K:=Sq d3p .ret
def e62:=Rg [] [nP 37 0,oP 38 (.call 196) [.t 37],oP 39 (.ext 0) [.t 38],oP 40 (.ext 1) [.t 38],oP 41 (.ext 2) [.t 38],oP 42 (.ext 3) [.t 38],xP (.stLc 1 4) [.l 1,.t 39] 1,vP 2 (.t 40),vP 3 (.t 41),vP 4 (.t 42)]
def e5u:=Sq e62 .ret
def e9k:=Rg [] [oP 46 (.build [.int .u8 0,.str [],.int .i64 0,.int .i64 0] [(0,1),(1,1)]) [.c (.int .u8 4),.c (.str [46,46,46])],xP (.stLc 1 4) [.l 1,.t 46] 1,vP 2 (.c (.int .i64 3)),vP 3 (.c (.int .i64 0)),vP 4 (.c (.int .i64 0))]
def b6P:=Sq e9k .ret
def c0Z:=Rg [] [nP 51 0,oP 52 (.slS false true) [.t 51,.c (.int .i64 1)],oP 53 (.build [.int .u8 0,.str [],.int .i64 0,.int .i64 0] [(0,1),(1,1)]) [.c (.int .u8 4),.t 52],xP (.stLc 1 4) [.l 1,.t 53] 1,vP 2 (.c (.int .i64 1)),vP 3 (.c (.int .i64 0)),vP 4 (.c (.int .i64 0))]
def e1z:=Sq c0Z .ret
def e7K:=Ts [] [nP 48 5,oP 49 (.call 142) [.c (.str [33,36,40,41,58,61,64,91,93,123,124,125,38]),.t 48],bP 50 .geq (.t 49) (.c (.int .i64 0)),mP 47 (.t 50)] (.t 47) e1z .skip
def d2L:=Ts [] [nP 44 0,oP 45 (.call 28) [.t 44,.c (.str [46,46,46])],mP 43 (.t 45)] (.t 43) b6P e7K
def c1Z:=Ts [] [nP 35 5,bP 36 .eql (.t 35) (.c (.int .u8 34)),mP 34 (.t 36)] (.t 34) e5u d2L
def e78:=Ts [] [] (.v 7) f0K c1Z
def e3e:=Sq b7U e78
def c27:=Ts [] [nP 11 5,oP 12 (.call 192) [.t 11],mP 10 (.t 12)] (.t 10) e6u e3e
def c2y:=Bk 0 c27
def e1c:=Sq h6O c2y
def f1R:=Rg [] [oP 54 (.build [.int .u8 0,.str [],.int .i64 0,.int .i64 0] []) [],xP (.stLc 1 4) [.l 1,.t 54] 1,vP 2 (.c (.int .i64 0)),vP 3 (.c (.int .i64 0)),vP 4 (.c (.int .i64 4))]
def c0l:=Sq f1R .ret
def c5o:=Sq e1c c0l
def d5N:=Sq h4E c5o
def i81:ACode :=
  d5N
def h3b:AFn:={ np:=1,nv:=8,results:=[.bx 1 true 4,.v 2,.v 3,.v 4],code:=i81 }

def i4V:=Rg [] [nP 2 0,oP 3 .nilchk [.t 2],fP 4 2 (.t 3),oP 5 (.ldSt false 1) [.t 4],bP 6 .add (.t 5) (.c (.int .i64 1)),oP 7 .nilchk [.t 2],fP 8 2 (.t 7),op .none (.stSt 1) [.t 8,.t 6]]
def f98:=Rg [] [nP 14 0,oP 15 (.call 150) [.t 14,.c (.int .i64 5)]]
def f5Z:=Ts [] [nP 9 0,oP 10 .nilchk [.t 9],fP 11 2 (.t 10),oP 12 (.ldSt false 1) [.t 11],bP 13 .gtr (.t 12) (.c (.int .i64 24))] (.t 13) f98 .skip
def h1F:=Sq i4V f5Z
def j5L:ACode :=
  h1F
def j95:AFn:={ np:=1,nv:=1,results:=[],code:=j5L }

def h3j:=Rg [] [nP 2 0,oP 3 .nilchk [.t 2],fP 4 2 (.t 3),oP 5 (.ldSt false 1) [.t 4],bP 6 .sub (.t 5) (.c (.int .i64 1)),oP 7 .nilchk [.t 2],fP 8 2 (.t 7),op .none (.stSt 1) [.t 8,.t 6]]
def j4Y:ACode :=
  h3j
def k1V:AFn:={ np:=1,nv:=1,results:=[],code:=j4Y }

def g9S:=Rg [] [op (.v 4) .mv [.c (.list true [])]]
def f5e:=Rg [] [nP 11 0,nP 12 1,oP 13 (.call 152) [.t 11,.t 12]]
def i1T:=Rg [] [op (.v 5) .mv [.c (.list true [])]]
def h1P:=Rg [] [vP 6 (.c (.bool true))]
def h2M:=Ts [] [nP 14 6] (.t 14) .skip (.exit 0)
def c4J:=Rg [] [mP 19 (.vs 5),nP 20 3,oP 21 .callV [.t 20],oP 22 (.bslice 7 [[.int .u8 0,.str [],.str [],.str [],.list true [],.list true [],.list true []]] [0]) [.t 21],oP 23 (.app 7 128) [.ts 19,.t 22],vP 5 (.ts 23)]
def e7J:=Bk 1 c4J
def f2h:=Rg [] [nP 15 0,nP 16 2,oP 17 (.call 87) [.t 15,.t 16],oP 18 (.un .not) [.t 17],vP 6 (.t 18)]
def c6L:=Sq e7J f2h
def e40:=Sq h2M c6L
def c1B:=Lp e40
def e6A:=Bk 0 c1B
def f1K:=Sq h1P e6A
def f1p:=Rg [] [nP 24 5,vP 4 (.ts 24)]
def e2B:=Sq f1p .ret
def f1b:=Sq f1K e2B
def e3z:=Sq i1T f1b
def e44:=Sq f5e e3z
def e7r:=Sq g9S e44
def j8C:ACode :=
  e7r
def j9t:AFn:={ np:=4,nv:=7,results:=[.v 4],code:=j8C }

def g7q:=Rg [1] [⟨.bx,.alloc [.int .u8 0,.str [],.str [],.str [],.list true [],.list true [],.list true []],[],some 1,none⟩]
def f9I:=Rg [2] [oP 7 (.build [.int .u8 0,.str [],.str [],.str [],.list true [],.list true [],.list true []] [(0,1)]) [.c (.int .u8 3)],⟨.bx,.alloc [.int .u8 0,.str [],.str [],.str [],.list true [],.list true [],.list true []],[],some 2,none⟩,xP (.stLc 2 7) [.l 2,.ts 7] 2]
def f7B:=Rg [] [nP 10 0,oP 11 (.call 151) [.t 10],fP 12 3 (.l 2),xP (.stLc 2 1) [.t 12,.t 11] 2]
def d5U:=Rg [] [nP 15 0,oP 16 (.call 151) [.t 15],fP 17 0 (.l 2),xP (.stLc 2 1) [.t 17,.c (.int .u8 2)] 2,fP 18 2 (.l 2),xP (.stLc 2 1) [.t 18,.t 16] 2]
def c8P:=Ts [] [nP 13 0,oP 14 (.call 84) [.t 13,.c (.int .u8 1)]] (.t 14) d5U .skip
def e1w:=Ts [] [nP 8 0,oP 9 (.call 87) [.t 8,.c (.str [111,110])]] (.t 9) f7B c8P
def e3a:=Rg [] [nP 19 0,oP 20 (.call 197) [.t 19],fP 21 5 (.l 2),xP (.stLc 2 1) [.t 21,.ts 20] 2]
def d9C:=Rg [] [nP 25 0,oP 26 (.call 86) [.t 25],fP 27 6 (.l 2),xP (.stLc 2 1) [.t 27,.ts 26] 2]
def d4o:=Ts [] [fP 22 0 (.l 2),lP 23 2 false 1 (.t 22),bP 24 .eql (.t 23) (.c (.int .u8 3))] (.t 24) d9C .skip
def e28:=Rg [] [lP 28 2 true 7 (.l 2),xP (.stLc 1 7) [.l 1,.ts 28] 1]
def c1S:=Sq e28 .ret
def e5N:=Sq d4o c1S
def b9N:=Sq e3a e5N
def d2V:=Sq e1w b9N
def b6q:=Sq f9I d2V
def f0O:=Ts [] [nP 5 0,oP 6 (.call 87) [.t 5,.c (.str [46,46,46])]] (.t 6) b6q .skip
def d2l:=Rg [3] [nP 29 0,oP 30 (.call 151) [.t 29],oP 31 (.build [.int .u8 0,.str [],.str [],.str [],.list true [],.list true [],.list true []] [(0,1),(2,1)]) [.c (.int .u8 1),.t 30],⟨.bx,.alloc [.int .u8 0,.str [],.str [],.str [],.list true [],.list true [],.list true []],[],some 3,none⟩,xP (.stLc 3 7) [.l 3,.ts 31] 3]
def b9Z:=Rg [] [fP 34 2 (.l 3),lP 35 3 false 1 (.t 34),nP 36 0,oP 37 (.call 151) [.t 36],fP 38 1 (.l 3),xP (.stLc 3 1) [.t 38,.t 35] 3,fP 39 2 (.l 3),xP (.stLc 3 1) [.t 39,.t 37] 3]
def e5l:=Ts [] [nP 32 0,oP 33 (.call 87) [.t 32,.c (.str [58])]] (.t 33) b9Z .skip
def e9z:=Rg [] [nP 40 0,oP 41 (.call 198) [.t 40],fP 42 4 (.l 3),xP (.stLc 3 1) [.t 42,.ts 41] 3]
def d8H:=Rg [] [nP 43 0,oP 44 (.call 197) [.t 43],fP 45 5 (.l 3),xP (.stLc 3 1) [.t 45,.ts 44] 3]
def b82:=Rg [] [nP 48 0,oP 49 (.call 86) [.t 48],fP 50 6 (.l 3),xP (.stLc 3 1) [.t 50,.ts 49] 3]
def e2G:=Ts [] [nP 46 0,oP 47 (.call 85) [.t 46,.c (.str [123])]] (.t 47) b82 .skip
def d7D:=Rg [] [lP 51 3 true 7 (.l 3),xP (.stLc 1 7) [.l 1,.ts 51] 1]
def e6B:=Sq d7D .ret
def e6p:=Sq e2G e6B
def b7f:=Sq d8H e6p
def d20:=Sq e9z b7f
def d8m:=Sq e5l d20
def e3x:=Sq d2l d8m
def e8f:=Sq f0O e3x
def c8H:=Sq g7q e8f
def j0a:ACode :=
  c8H
def k0v:AFn:={ np:=1,nv:=4,results:=[.bx 1 true 7],code:=j0a }

def h5x:=Rg [] [vP 2 (.c (.bool false))]
def f6T:=Rg [] [nP 5 0,oP 6 .nilchk [.t 5],fP 7 0 (.t 6),oP 8 (.ldSt false 1) [.t 7],nP 9 0,oP 10 .nilchk [.t 9],fP 11 1 (.t 10),oP 12 (.ldSt false 1) [.t 11],oP 13 (.iad 4) [.t 8,.t 12],fP 14 0 (.t 13),oP 15 (.ldRo false 1) [.t 14],bP 16 .eql (.t 15) (.c (.int .u8 1)),mP 17 (.t 16),gP 18 .mv [.v 0] 17 true,gP 19 .nilchk [.t 18] 17 true,gP 20 (.fad 0) [.t 19] 17 true,gP 21 (.ldSt false 1) [.t 20] 17 true,gP 22 .mv [.v 0] 17 true,gP 23 .nilchk [.t 22] 17 true,gP 24 (.fad 1) [.t 23] 17 true,gP 25 (.ldSt false 1) [.t 24] 17 true,gP 26 (.iad 4) [.t 21,.t 25] 17 true,gP 27 (.fad 1) [.t 26] 17 true,gP 28 (.ldRo false 1) [.t 27] 17 true,gP 29 .mv [.v 1] 17 true,gP 30 (.bin .eql) [.t 28,.t 29] 17 true,oP 31 .pick [.t 17,.t 30,.c (.bool false)],vP 2 (.t 31)]
def g8H:=Sq f6T .ret
def h61:=Sq h5x g8H
def j76:ACode :=
  h61
def j9u:AFn:={ np:=2,nv:=3,results:=[.v 2],code:=j76 }

def h8D:=Rg [] [nP 4 1,oP 5 (.build [.int .i64 0] [(0,1)]) [.t 4],oP 6 .stuck [],op .none .stuck []]
def j64:ACode :=
  h8D
def k1S:AFn:={ np:=2,nv:=2,results:=[],code:=j64 }

def g8k:=Rg [] [op (.v 1) .mv [.c (.str [])]]
def i0A:=Rg [] [nP 6 0,oP 7 (.call 150) [.t 6,.c (.int .i64 4)]]
def i23:=Ts [] [nP 3 0,oP 4 (.call 84) [.t 3,.c (.int .u8 1)],oP 5 (.un .not) [.t 4]] (.t 5) i0A .skip
def i54:=Rg [] [nP 8 0,oP 9 .nilchk [.t 8],fP 10 1 (.t 9),oP 11 (.ldSt false 1) [.t 10],bP 12 .add (.t 11) (.c (.int .i64 1)),oP 13 .nilchk [.t 8],fP 14 1 (.t 13),op .none (.stSt 1) [.t 14,.t 12]]
def i0R:=Rg [] [nP 15 0,oP 16 .nilchk [.t 15],fP 17 0 (.t 16),oP 18 (.ldSt false 1) [.t 17],nP 19 0,oP 20 .nilchk [.t 19],fP 21 1 (.t 20),oP 22 (.ldSt false 1) [.t 21],bP 23 .sub (.t 22) (.c (.int .i64 1)),oP 24 (.iad 4) [.t 18,.t 23],fP 25 1 (.t 24),oP 26 (.ldRo false 1) [.t 25],vP 1 (.t 26)]
def d6k:=Sq i0R .ret
def e7H:=Sq i54 d6k
def c9t:=Sq i23 e7H
def b8j:=Sq g8k c9t
def j7j:ACode :=
  b8j
def j9O:AFn:={ np:=1,nv:=2,results:=[.v 1],code:=j7j }

def h9y:=Rg [] [nP 8 0,oP 9 (.call 150) [.t 8,.c (.int .i64 4)]]
def g84:=Ts [] [nP 4 0,nP 5 1,oP 6 (.call 87) [.t 4,.t 5],oP 7 (.un .not) [.t 6]] (.t 7) h9y .skip
def j6s:ACode :=
  g84
def k05:AFn:={ np:=2,nv:=2,results:=[],code:=j6s }

def g5M:=Rg [] [op (.v 4) .mv [.c (.list true [])]]
def i6i:=Rg [] [nP 11 0,nP 12 1,oP 13 (.call 152) [.t 11,.t 12]]
def i2e:=Rg [] [op (.v 5) .mv [.c (.list true [])]]
def f9P:=Rg [] [vP 6 (.c (.bool true))]
def g7I:=Ts [] [nP 14 6] (.t 14) .skip (.exit 0)
def e3o:=Rg [] [mP 19 (.vs 5),nP 20 3,oP 21 .callV [.t 20],oP 22 (.bslice 10 [[.str [],.str [],.list true [],.bool false,.bool false,.int .u8 0,.int .i64 0,.str [],.list true [],.list true []]] [0]) [.t 21],oP 23 (.app 10 152) [.ts 19,.t 22],vP 5 (.ts 23)]
def d3N:=Bk 1 e3o
def d4r:=Rg [] [nP 15 0,nP 16 2,oP 17 (.call 87) [.t 15,.t 16],oP 18 (.un .not) [.t 17],vP 6 (.t 18)]
def b6u:=Sq d3N d4r
def c9u:=Sq g7I b6u
def e4T:=Lp c9u
def c3Q:=Bk 0 e4T
def f0S:=Sq f9P c3Q
def e2h:=Rg [] [nP 24 5,vP 4 (.ts 24)]
def d7L:=Sq e2h .ret
def d04:=Sq f0S d7L
def d3C:=Sq i2e d04
def d1k:=Sq i6i d3C
def c0b:=Sq g5M d1k
def j6e:ACode :=
  c0b
def k0B:AFn:={ np:=4,nv:=7,results:=[.v 4],code:=j6e }

def h7g:=Rg [1] [⟨.bx,.alloc [.str [],.str [],.list true [],.bool false,.bool false,.int .u8 0,.int .i64 0,.str [],.list true [],.list true []],[],some 1,none⟩]
def f5l:=Rg [] [nP 4 0,oP 5 (.call 152) [.t 4,.c (.str [36])]]
def i1p:=Rg [2] [nP 6 0,oP 7 (.call 151) [.t 6],oP 8 (.build [.str [],.str [],.list true [],.bool false,.bool false,.int .u8 0,.int .i64 0,.str [],.list true [],.list true []] [(0,1)]) [.t 7],⟨.bx,.alloc [.str [],.str [],.list true [],.bool false,.bool false,.int .u8 0,.int .i64 0,.str [],.list true [],.list true []],[],some 2,none⟩,xP (.stLc 2 10) [.l 2,.ts 8] 2]
def i18:=Rg [] [nP 9 0,oP 10 (.call 152) [.t 9,.c (.str [58])]]
def h4S:=Rg [] [nP 11 0,oP 12 (.call 199) [.t 11],fP 13 1 (.l 2),xP (.stLc 2 3) [.t 13,.ts 12] 2]
def e4P:=Rg [] [nP 14 0,oP 15 (.call 87) [.t 14,.c (.str [61])],fP 16 4 (.l 2),xP (.stLc 2 1) [.t 16,.t 15] 2]
def e3D:=Rg [] [nP 19 0,oP 20 (.call 200) [.t 19,.c (.bool true)],fP 21 5 (.l 2),xP (.stLc 2 5) [.t 21,.ts 20] 2]
def c2q:=Ts [] [fP 17 4 (.l 2),lP 18 2 false 1 (.t 17)] (.t 18) e3D .skip
def d0Y:=Sq e4P c2q
def c7Y:=Rg [] [lP 22 2 true 10 (.l 2),xP (.stLc 1 10) [.l 1,.ts 22] 1]
def c6m:=Sq c7Y .ret
def d3H:=Sq d0Y c6m
def c4Y:=Sq h4S d3H
def c0Y:=Sq i18 c4Y
def c5I:=Sq i1p c0Y
def d2O:=Sq f5l c5I
def b6F:=Sq h7g d2O
def j3z:ACode :=
  b6F
def j94:AFn:={ np:=1,nv:=3,results:=[.bx 1 true 10],code:=j3z }

def h67:=Rg [2] [⟨.bx,.alloc [.str [],.str [],.list true []],[],some 2,none⟩,vP 3 (.c (.bool false))]
def f7G:=Rg [] [nP 8 0,oP 9 .nilchk [.t 8],fP 10 1 (.t 9),fP 11 1 (.t 10),op (.v 5) (.ldSt false 1) [.t 11],op (.v 6) .lenL [.v 5],vP 7 (.c (.int .i64 0))]
def f2P:=Ts [] [bP 15 .lss (.v 7) (.v 6)] (.t 15) .skip (.exit 0)
def f4p:=Rg [4] [oP 16 (.iad 3) [.v 5,.v 7],oP 17 (.ldAn true 3) [.t 16],⟨.bx,.alloc [.str [],.str [],.list true []],[],some 4,none⟩,xP (.stLc 4 3) [.l 4,.ts 17] 4]
def c4K:=Rg [] [lP 22 4 true 3 (.l 4),xP (.stLc 2 3) [.l 2,.ts 22] 2,vP 3 (.c (.bool true))]
def e2R:=Sq c4K .ret
def e7o:=Ts [] [fP 18 0 (.l 4),lP 19 4 false 1 (.t 18),nP 20 1,bP 21 .eql (.t 19) (.t 20)] (.t 21) e2R .skip
def b8H:=Sq f4p e7o
def b9v:=Bk 1 b8H
def e7e:=Rg [] [bP 23 .add (.v 7) (.c (.int .i64 1)),vP 7 (.t 23)]
def f0s:=Sq b9v e7e
def d9o:=Sq f2P f0s
def e9Z:=Lp d9o
def c1j:=Bk 0 e9Z
def c6p:=Sq f7G c1j
def d43:=Rg [] [oP 24 (.build [.str [],.str [],.list true []] []) [],xP (.stLc 2 3) [.l 2,.ts 24] 2,vP 3 (.c (.bool false))]
def b85:=Sq d43 .ret
def e5E:=Sq c6p b85
def d6E:=Sq h67 e5E
def j3E:ACode :=
  d6E
def k3T:AFn:={ np:=2,nv:=8,results:=[.bx 2 true 3,.v 3],code:=j3E }

def h1w:=Rg [1] [⟨.bx,.boxV,[.v 0],some 1,none⟩,op (.v 2) .mv [.c (.str [])]]
def h7D:=Rg [] [op (.v 2) .mv [.c (.str [77,117,116,97,116,105,111,110])]]
def g8m:=Sq h7D .ret
def g6N:=Ts [] [fP 3 0 (.l 1),lP 4 1 false 1 (.t 3)] (.t 4) g8m .skip
def h0Z:=Rg [] [op (.v 2) .mv [.c (.str [81,117,101,114,121])]]
def i1u:=Sq h0Z .ret
def e87:=Sq g6N i1u
def d7m:=Sq h1w e87
def j4L:ACode :=
  d7m
def k1t:AFn:={ np:=1,nv:=3,results:=[.v 2],code:=j4L }

def i68:=Rg [] [op (.v 2) .mv [.c (.list true [])]]
def h48:=Rg [] [op (.v 3) .mv [.c (.list true [])]]
def g8V:=Rg [] [vP 5 (.v 0),op (.v 6) .lenL [.v 5],vP 7 (.c (.int .i64 0))]
def f4g:=Ts [] [bP 11 .lss (.v 7) (.v 6)] (.t 11) .skip (.exit 0)
def h4A:=Rg [4] [oP 12 (.iad 10) [.v 5,.v 7],oP 13 (.ldRo true 10) [.t 12],⟨.bx,.alloc [.str [],.str [],.list true [],.bool false,.bool false,.int .u8 0,.int .i64 0,.str [],.list true [],.list true []],[],some 4,none⟩,xP (.stLc 4 10) [.l 4,.ts 13] 4]
def d6z:=Rg [] [mP 14 (.vs 3),nP 15 1,lP 16 4 true 10 (.l 4),oP 17 .callV [.t 15,.t 16],oP 18 (.bslice 1 [[.str []]] [0]) [.t 17],oP 19 (.app 1 16) [.ts 14,.t 18],vP 3 (.ts 19)]
def c6K:=Sq h4A d6z
def e07:=Bk 1 c6K
def e7w:=Rg [] [bP 20 .add (.v 7) (.c (.int .i64 1)),vP 7 (.t 20)]
def c5V:=Sq e07 e7w
def c91:=Sq f4g c5V
def f0m:=Lp c91
def d13:=Bk 0 f0m
def c8q:=Sq g8V d13
def e0S:=Rg [] [nP 21 3,vP 2 (.ts 21)]
def d6N:=Sq e0S .ret
def c1t:=Sq c8q d6N
def e2M:=Sq h48 c1t
def c6o:=Sq i68 e2M
def j1H:ACode :=
  c6o
def k2i:AFn:={ np:=2,nv:=8,results:=[.v 2],code:=j1H }

def i6y:=Rg [1] [⟨.bx,.boxV,[.v 0],some 1,none⟩,op (.v 2) .mv [.c (.str [])]]
def h2G:=Rg [] [fP 3 0 (.l 1),lP 4 1 false 1 (.t 3),vP 2 (.t 4)]
def h8W:=Sq h2G .ret
def g0u:=Sq i6y h8W
def j3f:ACode :=
  g0u
def k0z:AFn:={ np:=1,nv:=3,results:=[.v 2],code:=j3f }

def h0s:=Rg [] [vP 2 (.c (.bool false))]
def g2q:=Rg [] [nP 5 0,nP 6 1,oP 7 (.call 125) [.t 5,.t 6],mP 8 (.t 7),gP 9 .mv [.v 0] 8 false,gP 10 .mv [.v 1] 8 false,gP 11 (.call 126) [.t 9,.t 10] 8 false,oP 12 .pick [.t 8,.c (.bool true),.t 11],vP 2 (.t 12)]
def h7Z:=Sq g2q .ret
def g30:=Sq h0s h7Z
def j6l:ACode :=
  g30
def k0l:AFn:={ np:=2,nv:=3,results:=[.v 2],code:=j6l }

def g03:=Rg [] [vP 7 (.v 2),op (.v 8) .lenL [.v 7],vP 9 (.c (.int .i64 0))]
def i5q:=Ts [] [bP 16 .lss (.v 9) (.v 8)] (.t 16) .skip (.exit 0)
def g0E:=Rg [3] [oP 17 (.iad 7) [.v 7,.v 9],oP 18 (.ldAn true 7) [.t 17],⟨.bx,.alloc [.int .u8 0,.str [],.str [],.str [],.list true [],.list true [],.list true []],[],some 3,none⟩,xP (.stLc 3 7) [.l 3,.ts 18] 3]
def g4y:=Rg [] [fP 19 5 (.l 3),⟨.v 10,.ldLc 3 false 1,[.t 19],some 3,none⟩,op (.v 11) .lenL [.v 10],vP 12 (.c (.int .i64 0))]
def g6r:=Ts [] [bP 23 .lss (.v 12) (.v 11)] (.t 23) .skip (.exit 2)
def f1W:=Rg [4] [oP 24 (.iad 2) [.v 10,.v 12],oP 25 (.ldRo true 2) [.t 24],⟨.bx,.alloc [.str [],.list true []],[],some 4,none⟩,xP (.stLc 4 2) [.l 4,.ts 25] 4]
def c93:=Rg [] [nP 26 0,oP 27 .stuck [],fP 28 1 (.l 4),lP 29 4 false 1 (.t 28),oP 30 (.call 201) [.t 26,.t 27,.t 29]]
def b6W:=Sq f1W c93
def e3k:=Bk 3 b6W
def d0c:=Rg [] [bP 31 .add (.v 12) (.c (.int .i64 1)),vP 12 (.t 31)]
def c7q:=Sq e3k d0c
def c6d:=Sq g6r c7q
def e9V:=Lp c6d
def d7T:=Bk 2 e9V
def e99:=Sq g4y d7T
def e2b:=Rg [] [nP 32 1,vP 5 (.t 32)]
def c9P:=Rg [] [fP 41 3 (.l 3),lP 42 3 false 1 (.t 41),vP 5 (.t 42)]
def d4V:=Ts [] [fP 33 0 (.l 3),lP 34 3 false 1 (.t 33),bP 35 .eql (.t 34) (.c (.int .u8 3)),mP 36 (.t 35),gP 37 (.fad 3) [.l 3] 36 true,⟨.t 38,.ldLc 3 false 1,[.t 37],some 3,some (.t 36,true)⟩,gP 39 (.bin .neq) [.t 38,.c (.str [])] 36 true,oP 40 .pick [.t 36,.t 39,.c (.bool false)]] (.t 40) c9P .skip
def d65:=Rg [6] [nP 47 0,oP 48 .nilchk [.t 47],fP 49 0 (.t 48),oP 50 (.ldSt false 1) [.t 49],oP 51 .nilchk [.t 50],fP 52 0 (.t 51),oP 53 (.ldSt false 1) [.t 52],nP 54 1,fP 55 2 (.l 3),lP 56 3 false 1 (.t 55),oP 57 (.call 45) [.t 53,.t 54,.t 56],mP 46 (.t 57),oP 58 (.ext 0) [.t 46],oP 59 (.ext 1) [.t 46],⟨.bx,.alloc [.str [],.list true [],.str [],.list true [],.bool false,.bool false,.int .u8 0,.int .i64 0,.str [],.list true [],.list true []],[],some 6,none⟩,xP (.stLc 6 11) [.l 6,.ts 58] 6,mP 12 (.t 59)]
def e5e:=Rg [] [nP 60 0,fP 61 1 (.l 6),lP 62 6 false 1 (.t 61),fP 63 4 (.l 3),lP 64 3 false 1 (.t 63),oP 65 (.call 201) [.t 60,.t 62,.t 64]]
def c8r:=Rg [] [fP 66 2 (.l 6),lP 67 6 true 3 (.t 66),oP 68 (.call 124) [.t 67],vP 5 (.t 68)]
def c9C:=Sq e5e c8r
def c5A:=Sq d65 c9C
def d5Z:=Ts [] [fP 43 0 (.l 3),lP 44 3 false 1 (.t 43),bP 45 .eql (.t 44) (.c (.int .u8 1))] (.t 45) c5A .skip
def c0x:=Rg [] [nP 69 0,nP 70 5,fP 71 6 (.l 3),lP 72 3 false 1 (.t 71),oP 73 (.call 160) [.t 69,.t 70,.t 72]]
def e9B:=Sq d5Z c0x
def c6Y:=Sq d4V e9B
def b6J:=Sq e2b c6Y
def f1Z:=Sq e99 b6J
def e6S:=Sq g0E f1Z
def b8B:=Bk 1 e6S
def e0m:=Rg [] [bP 74 .add (.v 9) (.c (.int .i64 1)),vP 9 (.t 74)]
def e7S:=Sq b8B e0m
def c2F:=Sq i5q e7S
def e67:=Lp c2F
def d9Y:=Bk 0 e67
def e24:=Sq g03 d9Y
def j1w:ACode :=
  e24
def k3v:AFn:={ np:=3,nv:=13,results:=[],code:=j1w }

def f31:=Rg [] [op (.v 2) (.allocO [.list true []]) []]
def f6d:=Rg [] [nP 9 0,nP 10 1,oP 11 (.call 202) [.t 9,.t 10,.v 2],vP 3 (.ts 11)]
def h5h:=Rg [] [vP 7 (.v 3),op (.v 8) .lenL [.v 7],vP 9 (.c (.int .i64 0))]
def g3O:=Ts [] [bP 15 .lss (.v 9) (.v 8)] (.t 15) .skip (.exit 0)
def f7O:=Rg [] [nP 16 9,oP 17 (.iad 7) [.v 7,.v 9],oP 18 (.ldAn true 7) [.t 17],op (.v 5) (.allocO [.int .u8 0,.str [],.str [],.str [],.list true [],.list true [],.list true []]) [],vP 4 (.t 16),op .none (.stSt 7) [.v 5,.ts 18]]
def b7p:=Rg [] [nP 19 3,oP 20 (.mkF 204 0) [.v 5],oP 21 (.call 203) [.t 19,.t 20],vP 6 (.t 21)]
def e36:=Rg [] [nP 34 0,oP 35 (.ldSt true 7) [.v 5],oP 36 (.call 205) [.t 35],oP 37 (.call 90) [.t 34,.c (.int .i64 21),.t 36]]
def c82:=Ts [] [nP 22 6,nP 23 4,bP 24 .lss (.t 22) (.t 23),mP 25 (.t 24),gP 26 (.ldSt true 7) [.v 5] 25 true,gP 27 .mv [.v 3] 25 true,gP 28 .mv [.v 6] 25 true,gP 29 (.iad 7) [.t 27,.t 28] 25 true,gP 30 (.ldAn true 7) [.t 29] 25 true,gP 31 (.call 206) [.t 26,.t 30] 25 true,gP 32 (.un .not) [.t 31] 25 true,oP 33 .pick [.t 25,.t 32,.c (.bool false)]] (.t 33) e36 .skip
def b77:=Sq b7p c82
def d7n:=Sq f7O b77
def e5x:=Bk 1 d7n
def d0h:=Rg [] [bP 38 .add (.v 9) (.c (.int .i64 1)),vP 9 (.t 38)]
def e2Y:=Sq e5x d0h
def b8o:=Sq g3O e2Y
def d9A:=Lp b8o
def e56:=Bk 0 d9A
def c7g:=Sq h5h e56
def d4N:=Sq f6d c7g
def d3G:=Sq f31 d4N
def j0D:ACode :=
  d3G
def k11:AFn:={ np:=2,nv:=10,results:=[],code:=j0D }

def f9x:=Rg [] [nP 6 0,nP 7 1,oP 8 (.call 207) [.t 7,.c (.func 208 [] [])],oP 9 (.call 91) [.t 6,.c (.int .i64 19),.t 8]]
def h5c:=Rg [] [vP 3 (.v 1),op (.v 4) .lenL [.v 3],vP 5 (.c (.int .i64 0))]
def g6Q:=Ts [] [bP 13 .lss (.v 5) (.v 4)] (.t 13) .skip (.exit 0)
def i0O:=Rg [2] [oP 14 (.iad 2) [.v 3,.v 5],oP 15 (.ldRo true 2) [.t 14],⟨.bx,.alloc [.str [],.list true []],[],some 2,none⟩,xP (.stLc 2 2) [.l 2,.ts 15] 2]
def d5S:=Rg [] [nP 24 0,fP 25 0 (.l 2),lP 26 2 false 1 (.t 25),oP 27 (.call 90) [.t 24,.c (.int .i64 19),.t 26]]
def e96:=Sq d5S (.exit 1)
def d3j:=Ts [] [fP 16 0 (.l 2),lP 17 2 false 1 (.t 16),oP 18 (.bin .neq) [.t 17,.c (.str [115,107,105,112])],mP 19 (.t 18),gP 20 (.fad 0) [.l 2] 19 true,⟨.t 21,.ldLc 2 false 1,[.t 20],some 2,some (.t 19,true)⟩,gP 22 (.bin .neq) [.t 21,.c (.str [105,110,99,108,117,100,101])] 19 true,oP 23 .pick [.t 19,.t 22,.c (.bool false)]] (.t 23) e96 .skip
def b55:=Rg [] [nP 28 0,oP 29 .stuck [],fP 30 1 (.l 2),lP 31 2 false 1 (.t 30),oP 32 (.call 209) [.t 28,.t 29,.t 31]]
def d5O:=Sq d3j b55
def d24:=Sq i0O d5O
def e4I:=Bk 1 d24
def b6w:=Rg [] [bP 33 .add (.v 5) (.c (.int .i64 1)),vP 5 (.t 33)]
def d9R:=Sq e4I b6w
def e3F:=Sq g6Q d9R
def c6x:=Lp e3F
def d9v:=Bk 0 c6x
def e3X:=Sq h5c d9v
def d5h:=Sq f9x e3X
def j60:ACode :=
  d5h
def k0S:AFn:={ np:=2,nv:=6,results:=[],code:=j60 }

def i4X:=Rg [3] [⟨.bx,.boxV,[.v 2],some 3,none⟩]
def i6a:=Rg [4] [nP 10 0,oP 11 .nilchk [.t 10],fP 12 0 (.t 11),oP 13 (.ldSt false 1) [.t 12],nP 14 1,fP 15 2 (.l 3),lP 16 3 false 1 (.t 15),oP 17 (.call 45) [.t 13,.t 14,.t 16],mP 9 (.t 17),oP 18 (.ext 0) [.t 9],oP 19 (.ext 1) [.t 9],⟨.bx,.alloc [.str [],.list true [],.str [],.list true [],.bool false,.bool false,.int .u8 0,.int .i64 0,.str [],.list true [],.list true []],[],some 4,none⟩,xP (.stLc 4 11) [.l 4,.ts 18] 4,vP 5 (.t 19)]
def f8F:=Rg [] [nP 25 0,fP 26 2 (.l 3),lP 27 3 false 1 (.t 26),oP 28 (.call 90) [.t 25,.c (.int .i64 8),.t 27]]
def g1H:=Ts [] [nP 22 0,nP 23 1,oP 24 (.call 96) [.t 22,.t 23]] (.t 24) f8F .skip
def d8B:=Rg [] [nP 29 0,fP 30 6 (.l 3),lP 31 3 false 1 (.t 30),oP 32 (.call 97) [.t 29,.c (.str []),.t 31]]
def e4G:=Sq d8B .ret
def d5D:=Sq g1H e4G
def d8h:=Ts [] [nP 20 5,oP 21 (.un .not) [.t 20]] (.t 21) d5D .skip
def e8d:=Rg [] [fP 33 2 (.l 4),lP 34 4 true 3 (.t 33),oP 35 (.call 124) [.t 34],vP 6 (.t 35)]
def d5F:=Rg [] [nP 47 0,fP 48 2 (.l 3),lP 49 3 false 1 (.t 48),oP 50 (.call 90) [.t 47,.c (.int .i64 9),.t 49]]
def e6O:=Ts [] [nP 36 0,oP 37 .nilchk [.t 36],fP 38 0 (.t 37),oP 39 (.ldSt false 1) [.t 38],nP 40 6,oP 41 (.call 159) [.t 39,.t 40],fP 42 6 (.l 3),lP 43 3 false 1 (.t 42),oP 44 .lenL [.t 43],bP 45 .gtr (.t 44) (.c (.int .i64 0)),oP 46 (.binB .eql) [.t 41,.t 45]] (.t 46) d5F .skip
def e6Q:=Rg [] [nP 51 0,fP 52 1 (.l 4),lP 53 4 false 1 (.t 52),fP 54 4 (.l 3),lP 55 3 false 1 (.t 54),oP 56 (.call 209) [.t 51,.t 53,.t 55]]
def e8Y:=Rg [] [nP 57 0,nP 58 6,fP 59 6 (.l 3),lP 60 3 false 1 (.t 59),oP 61 (.call 97) [.t 57,.t 58,.t 60]]
def c6H:=Sq e6Q e8Y
def b75:=Sq e6O c6H
def d3Q:=Sq e8d b75
def e6j:=Sq d8h d3Q
def e1L:=Sq i6a e6j
def d4P:=Sq i4X e1L
def i96:ACode :=
  d4P
def k3Y:AFn:={ np:=3,nv:=7,results:=[],code:=i96 }

def h9K:=Rg [] [vP 3 (.c (.bool false))]
def h0T:=Rg [] [vP 3 (.c (.bool true))]
def f7s:=Sq h0T .ret
def h0F:=Ts [] [nP 8 0,nP 9 1,oP 10 (.call 96) [.t 8,.t 9],oP 11 (.un .not) [.t 10],mP 12 (.t 11),gP 13 .mv [.v 0] 12 false,gP 14 .mv [.v 2] 12 false,gP 15 (.call 96) [.t 13,.t 14] 12 false,gP 16 (.un .not) [.t 15] 12 false,oP 17 .pick [.t 12,.c (.bool true),.t 16]] (.t 17) f7s .skip
def f4B:=Rg [] [nP 18 0,nP 19 2,oP 20 (.call 210) [.t 18,.t 19],op (.v 4) (.allocO [.list true []]) [],op .none (.stSt 1) [.v 4,.ts 20]]
def b73:=Rg [] [nP 21 0,nP 22 1,oP 23 (.call 210) [.t 21,.t 22],oP 24 (.mkF 212 0) [.v 4],oP 25 (.call 211) [.t 23,.t 24],vP 3 (.t 25)]
def c0O:=Sq b73 .ret
def c85:=Sq f4B c0O
def c7O:=Sq h0F c85
def b7Q:=Sq h9K c7O
def j2v:ACode :=
  b7Q
def a164:AFn:={ np:=3,nv:=5,results:=[.v 3],code:=j2v }

def g1F:=Rg [] [vP 5 (.c (.bool true))]
def i2z:=Rg [] [vP 6 (.c (.bool true))]
def i25:=Rg [] [nP 21 2,nP 22 1,bP 23 .sub (.t 21) (.t 22),vP 7 (.t 23)]
def i1P:=Rg [] [nP 26 0,nP 27 1,nP 28 2,nP 29 4,oP 30 (.call 213) [.t 26,.t 27,.t 28,.t 29]]
def h03:=Sq i1P .ret
def b6b:=Ts [] [nP 24 7,bP 25 .leq (.t 24) (.c (.int .i64 12))] (.t 25) h03 .skip
def c04:=Rg [] [nP 33 0,nP 34 1,nP 35 2,nP 36 4,oP 37 (.call 214) [.t 33,.t 34,.t 35,.t 36]]
def d7K:=Sq c04 .ret
def e9J:=Ts [] [nP 31 3,bP 32 .eql (.t 31) (.c (.int .i64 0))] (.t 32) d7K .skip
def d4e:=Rg [] [nP 40 0,nP 41 1,nP 42 2,nP 43 4,oP 44 (.call 215) [.t 40,.t 41,.t 42,.t 43]]
def e8P:=Rg [] [nP 45 3,bP 46 .sub (.t 45) (.c (.int .i64 1)),vP 3 (.t 46)]
def d5W:=Sq d4e e8P
def c1g:=Ts [] [nP 38 5,oP 39 (.un .not) [.t 38]] (.t 39) d5W .skip
def e0t:=Rg [] [nP 48 0,nP 49 1,nP 50 2,nP 51 4,oP 52 (.call 216) [.t 48,.t 49,.t 50,.t 51],mP 47 (.t 52),oP 53 (.ext 0) [.t 47],oP 54 (.ext 1) [.t 47],vP 8 (.t 53),vP 9 (.t 54)]
def b8b:=Rg [] [nP 57 0,nP 58 1,nP 59 2,nP 60 4,oP 61 (.call 217) [.t 57,.t 58,.t 59,.t 60]]
def d5n:=Rg [] [nP 62 2,bP 63 .sub (.t 62) (.c (.int .i64 1)),nP 64 8,nP 65 1,bP 66 .sub (.t 64) (.t 65),bP 67 .sub (.t 63) (.t 66),vP 8 (.t 67)]
def e9S:=Rg [] [vP 9 (.c (.int .i64 1))]
def b8k:=Sq d5n e9S
def f0p:=Sq b8b b8k
def e6b:=Ts [] [nP 55 9,bP 56 .eql (.t 55) (.c (.int .i64 2))] (.t 56) f0p .skip
def c9b:=Ts [] [nP 76 0,nP 77 1,nP 78 2,nP 79 4,oP 80 (.call 218) [.t 76,.t 77,.t 78,.t 79]] (.t 80) .ret .skip
def e7t:=Ts [] [nP 68 5,mP 69 (.t 68),gP 70 .mv [.v 6] 69 true,oP 71 .pick [.t 69,.t 70,.c (.bool false)],mP 72 (.t 71),gP 73 .mv [.v 9] 72 true,gP 74 (.bin .eql) [.t 73,.c (.int .i64 1)] 72 true,oP 75 .pick [.t 72,.t 74,.c (.bool false)]] (.t 75) c9b .skip
def b91:=Rg [] [nP 98 0,nP 99 1,nP 100 2,nP 101 8,nP 102 4,oP 103 (.call 219) [.t 98,.t 99,.t 100,.t 101,.t 102],vP 10 (.t 103)]
def c6g:=Rg [] [nP 104 10,vP 1 (.t 104)]
def c8I:=Sq c6g (.exit 1)
def e9o:=Sq b91 c8I
def e2w:=Ts [] [nP 81 1,bP 82 .gtr (.t 81) (.c (.int .i64 0)),mP 83 (.t 82),gP 84 .mv [.v 4] 83 true,gP 85 .mv [.v 0] 83 true,gP 86 .mv [.v 1] 83 true,gP 87 (.bin .sub) [.t 86,.c (.int .i64 1)] 83 true,gP 88 (.iad 2) [.t 85,.t 87] 83 true,gP 89 (.ldAn true 2) [.t 88] 83 true,gP 90 .mv [.v 0] 83 true,gP 91 .mv [.v 8] 83 true,gP 92 (.iad 2) [.t 90,.t 91] 83 true,gP 93 (.ldAn true 2) [.t 92] 83 true,gP 94 .callV [.t 84,.t 89,.t 93] 83 true,gP 95 (.bin .lss) [.t 94,.c (.int .i64 0)] 83 true,gP 96 (.un .not) [.t 95] 83 true,oP 97 .pick [.t 83,.t 96,.c (.bool false)]] (.t 97) e9o .skip
def e8s:=Rg [] [nP 106 0,nP 107 1,nP 108 2,nP 109 8,nP 110 4,oP 111 (.call 220) [.t 106,.t 107,.t 108,.t 109,.t 110],mP 105 (.t 111),oP 112 (.ext 0) [.t 105],oP 113 (.ext 1) [.t 105],vP 11 (.t 112),vP 12 (.t 113)]
def d8S:=Rg [] [nP 114 12,vP 6 (.t 114)]
def d0k:=Rg [] [nP 115 11,nP 116 1,bP 117 .sub (.t 115) (.t 116),nP 118 2,nP 119 11,bP 120 .sub (.t 118) (.t 119),vP 13 (.t 117),vP 14 (.t 120)]
def d5B:=Rg [] [nP 121 7,bP 122 .quo (.t 121) (.c (.int .i64 8)),vP 15 (.t 122)]
def c4e:=Rg [] [nP 126 13,nP 127 15,bP 128 .geq (.t 126) (.t 127),vP 5 (.t 128)]
def d2g:=Rg [] [nP 129 0,nP 130 1,nP 131 11,nP 132 3,nP 133 4,oP 134 (.call 165) [.t 129,.t 130,.t 131,.t 132,.t 133]]
def b6X:=Rg [] [nP 135 11,bP 136 .add (.t 135) (.c (.int .i64 1)),vP 1 (.t 136)]
def e9u:=Sq d2g b6X
def e0A:=Sq c4e e9u
def e1K:=Rg [] [nP 137 14,nP 138 15,bP 139 .geq (.t 137) (.t 138),vP 5 (.t 139)]
def b9k:=Rg [] [nP 140 0,nP 141 11,bP 142 .add (.t 141) (.c (.int .i64 1)),nP 143 2,nP 144 3,nP 145 4,oP 146 (.call 165) [.t 140,.t 142,.t 143,.t 144,.t 145]]
def d1V:=Rg [] [nP 147 11,vP 2 (.t 147)]
def e2t:=Sq b9k d1V
def b7z:=Sq e1K e2t
def e2p:=Ts [] [nP 123 13,nP 124 14,bP 125 .lss (.t 123) (.t 124)] (.t 125) e0A b7z
def f1O:=Sq d5B e2p
def c0I:=Sq d0k f1O
def d3d:=Sq d8S c0I
def c75:=Sq e8s d3d
def e1J:=Sq e2w c75
def f1j:=Sq e7t e1J
def c0C:=Sq e6b f1j
def c7m:=Sq e0t c0C
def d86:=Sq c1g c7m
def d7U:=Sq e9J d86
def c8L:=Sq b6b d7U
def d6O:=Sq i25 c8L
def c5P:=Bk 1 d6O
def d4Z:=Lp c5P
def c7C:=Bk 0 d4Z
def d9P:=Sq i2z c7C
def e3h:=Sq g1F d9P
def j68:ACode :=
  e3h
def k0A:AFn:={ np:=5,nv:=16,results:=[],code:=j68 }

def i0G:=Rg [] [nP 3 0,oP 4 (.conv .u32) [.t 3],oP 5 (.call 221) [.t 4],vP 1 (.t 5)]
def g7y:=Sq i0G .ret
def h5f:=Ts [] [vP 1 (.c (.int .i64 0))] (.c (.bool false)) g7y .skip
def f9F:=Rg [] [nP 6 0,oP 7 (.call 222) [.t 6],vP 1 (.t 7)]
def f88:=Sq f9F .ret
def g3B:=Sq h5f f88
def j5O:ACode :=
  g3B
def k1C:AFn:={ np:=1,nv:=2,results:=[.v 1],code:=j5O }

def f3l:=Rg [] [vP 1 (.c (.bool false))]
def g9D:=Rg [] [nP 3 0,nP 4 0,bP 5 .neq (.t 3) (.t 4),vP 1 (.t 5)]
def g87:=Sq g9D .ret
def g0H:=Sq f3l g87
def j1k:ACode :=
  g0H
def a167:AFn:={ np:=1,nv:=2,results:=[.v 1],code:=j1k }

def h1l:=Rg [] [vP 1 (.c (.bool false))]
def i5b:=Rg [] [nP 3 0,nP 4 0,bP 5 .neq (.t 3) (.t 4),vP 1 (.t 5)]
def f7y:=Sq i5b .ret
def i6b:=Sq h1l f7y
def j4y:ACode :=
  i6b
def k13:AFn:={ np:=1,nv:=2,results:=[.v 1],code:=j4y }

def i7P:=Rg [3,4,5,6] [⟨.bx,.boxV,[.v 0],some 3,none⟩,⟨.bx,.boxV,[.v 1],some 4,none⟩,⟨.bx,.boxV,[.v 2],some 5,none⟩,⟨.bx,.alloc [.int .u8 0,.int .i64 0,.str [],.list true [],.list true []],[],some 6,none⟩,vP 7 (.c (.bool false)),vP 8 (.c (.int .i64 0))]
def g1y:=Rg [9] [fP 20 1 (.l 3),lP 21 3 true 5 (.t 20),fP 22 2 (.l 5),lP 23 5 false 1 (.t 22),oP 24 (.call 106) [.t 21,.t 23],mP 19 (.t 24),oP 25 (.ext 0) [.t 19],oP 26 (.ext 1) [.t 19],⟨.bx,.alloc [.int .u8 0,.int .i64 0,.str [],.list true [],.list true []],[],some 9,none⟩,xP (.stLc 9 5) [.l 9,.ts 25] 9,vP 10 (.t 26)]
def i1j:=Rg [] [oP 37 (.build [.int .u8 0,.int .i64 0,.str [],.list true [],.list true []] []) [],xP (.stLc 6 5) [.l 6,.ts 37] 6,vP 7 (.c (.bool false)),vP 8 (.c (.int .i64 9))]
def g0G:=Sq i1j .ret
def i2P:=Ts [] [nP 27 10,mP 28 (.t 27),gP 29 (.fad 0) [.l 9] 28 true,⟨.t 30,.ldLc 9 false 1,[.t 29],some 9,some (.t 28,true)⟩,gP 31 (.bin .eql) [.t 30,.c (.int .u8 0)] 28 true,oP 32 .pick [.t 28,.t 31,.c (.bool false)],mP 33 (.t 32),gP 34 (.fad 2) [.l 4] 33 true,⟨.t 35,.ldLc 4 false 1,[.t 34],some 4,some (.t 33,true)⟩,oP 36 .pick [.t 33,.t 35,.c (.bool false)]] (.t 36) g0G .skip
def d4M:=Rg [] [lP 38 9 true 5 (.l 9),nP 39 10,xP (.stLc 6 5) [.l 6,.ts 38] 6,vP 7 (.t 39),vP 8 (.c (.int .i64 0))]
def d2G:=Sq d4M .ret
def e3n:=Sq i2P d2G
def c7z:=Sq g1y e3n
def e9t:=Ts [] [fP 11 0 (.l 5),lP 12 5 false 1 (.t 11),bP 13 .eql (.t 12) (.c (.int .u8 7)),mP 14 (.t 13),gP 15 (.fad 6) [.l 3] 14 true,⟨.t 16,.ldLc 3 false 1,[.t 15],some 3,some (.t 14,true)⟩,gP 17 (.un .not) [.t 16] 14 true,oP 18 .pick [.t 14,.t 17,.c (.bool false)]] (.t 18) c7z .skip
def b52:=Rg [] [oP 45 (.build [.int .u8 0,.int .i64 0,.str [],.list true [],.list true []] []) [],xP (.stLc 6 5) [.l 6,.ts 45] 6,vP 7 (.c (.bool false)),vP 8 (.c (.int .i64 9))]
def b81:=Sq b52 .ret
def d1O:=Ts [] [fP 43 2 (.l 4),lP 44 4 false 1 (.t 43)] (.t 44) b81 .skip
def e70:=Rg [] [lP 46 5 true 5 (.l 5),xP (.stLc 6 5) [.l 6,.ts 46] 6,vP 7 (.c (.bool true)),vP 8 (.c (.int .i64 0))]
def c78:=Sq e70 .ret
def c9g:=Sq d1O c78
def d7P:=Ts [] [fP 40 0 (.l 5),lP 41 5 false 1 (.t 40),bP 42 .eql (.t 41) (.c (.int .u8 0))] (.t 42) c9g .skip
def c6r:=Rg [] [lP 51 3 true 7 (.l 3),fP 52 1 (.l 4),lP 53 4 false 1 (.t 52),oP 54 (.iad 3) [.t 53,.c (.int .i64 0)],oP 55 (.ldRo true 3) [.t 54],lP 56 5 true 5 (.l 5),oP 57 (.call 223) [.t 51,.t 55,.t 56],oP 58 (.ext 0) [.t 57],oP 59 (.ext 1) [.t 57],oP 60 (.ext 2) [.t 57],xP (.stLc 6 5) [.l 6,.ts 58] 6,vP 7 (.t 59),vP 8 (.t 60)]
def f0D:=Sq c6r .ret
def e7R:=Ts [] [fP 47 1 (.l 4),lP 48 4 false 1 (.t 47),oP 49 .lenL [.t 48],bP 50 .gtr (.t 49) (.c (.int .i64 0))] (.t 50) f0D .skip
def b9E:=Rg [] [lP 61 3 true 7 (.l 3),fP 62 0 (.l 4),lP 63 4 false 1 (.t 62),lP 64 5 true 5 (.l 5),oP 65 (.call 224) [.t 61,.t 63,.t 64],oP 66 (.ext 0) [.t 65],oP 67 (.ext 1) [.t 65],oP 68 (.ext 2) [.t 65],xP (.stLc 6 5) [.l 6,.ts 66] 6,vP 7 (.t 67),vP 8 (.t 68)]
def d2J:=Sq b9E .ret
def c3e:=Sq e7R d2J
def e8a:=Sq d7P c3e
def c0s:=Sq e9t e8a
def d2W:=Sq i7P c0s
def i9I:ACode :=
  d2W
def k3m:AFn:={ np:=3,nv:=11,results:=[.bx 6 true 5,.v 7,.v 8],code:=i9I }

def f6F:=Rg [3] [op (.v 2) .boxO [.v 0],⟨.bx,.boxV,[.v 1],some 3,none⟩,vP 4 (.c (.bool false))]
def f2Z:=Rg [] [fP 5 5 (.l 3),lP 6 3 false 1 (.t 5),oP 7 (.mkF 226 0) [.v 2],oP 8 (.call 225) [.t 6,.t 7],oP 9 (.un .not) [.t 8],vP 4 (.t 9)]
def h5J:=Sq f2Z .ret
def g1M:=Sq f6F h5J
def j2C:ACode :=
  g1M
def k0h:AFn:={ np:=2,nv:=5,results:=[.v 4],code:=j2C }

def f2O:=Rg [2] [⟨.bx,.boxV,[.v 1],some 2,none⟩]
def h9C:=Rg [] [fP 6 2 (.l 2),lP 7 2 false 1 (.t 6),op (.v 3) (.allocO [.str []]) [],op .none (.stSt 1) [.v 3,.t 7]]
def h8p:=Rg [] [fP 11 1 (.l 2),lP 12 2 false 1 (.t 11),op .none (.stSt 1) [.v 3,.t 12]]
def g1O:=Ts [] [fP 8 1 (.l 2),lP 9 2 false 1 (.t 8),oP 10 (.bin .neq) [.t 9,.c (.str [])]] (.t 10) h8p .skip
def f79:=Rg [] [nP 13 0,oP 14 .nilchk [.t 13],fP 15 10 (.t 14),oP 16 (.ldSt false 1) [.t 15],oP 17 (.mkF 229 0) [.v 3],oP 18 (.call 228) [.t 16,.t 17],vP 4 (.t 18)]
def d2z:=Rg [] [nP 21 0,nP 22 0,oP 23 .nilchk [.t 22],fP 24 10 (.t 23),oP 25 .ldStS [.t 24],oP 26 (.ldSt false 1) [.v 3],oP 27 (.build [.str [],.list true []] [(0,1),(1,1)]) [.t 26,.c (.list true [])],oP 28 (.bsliceM 2 [[.str [],.list true []]] [0]) [.ts 27],oP 29 (.appM 2 40) [.ts 25,.t 28],oP 30 .nilchk [.t 21],fP 31 10 (.t 30),op .none (.stSt 1) [.t 31,.t 29]]
def c4n:=Rg [] [nP 32 0,oP 33 .nilchk [.t 32],fP 34 10 (.t 33),oP 35 (.ldSt false 1) [.t 34],oP 36 .lenL [.t 35],bP 37 .sub (.t 36) (.c (.int .i64 1)),vP 4 (.t 37)]
def f1G:=Sq d2z c4n
def d9p:=Ts [] [nP 19 4,bP 20 .lss (.t 19) (.c (.int .i64 0))] (.t 20) f1G .skip
def d2Z:=Rg [] [nP 40 0,oP 41 .nilchk [.t 40],fP 42 10 (.t 41),oP 43 (.ldSt false 1) [.t 42],nP 44 4,oP 45 (.iad 2) [.t 43,.t 44],fP 46 1 (.t 45),oP 47 .ldStS [.t 46],⟨.v 5,.ldLc 2 true 7,[.l 2],some 2,none⟩,op (.v 6) .lenL [.t 47],oP 50 (.bsliceM 7 [[.int .u8 0,.str [],.str [],.str [],.list true [],.list true [],.list true []]] [0]) [.c (.agg [.int .u8 0,.str [],.str [],.str [],.list true [],.list true [],.list true []])],op (.v 7) (.appM 7 128) [.ts 47,.t 50],oP 52 (.iad 2) [.t 43,.t 44],fP 53 1 (.t 52),op .none (.stSt 1) [.t 53,.v 7]]
def e5y:=Rg [] [oP 54 (.iad 7) [.v 7,.v 6],op .none (.stSt 7) [.t 54,.v 5]]
def d0R:=Sq d2Z e5y
def c7p:=Rg [] [nP 55 0,oP 56 .nilchk [.t 55],fP 57 10 (.t 56),oP 58 (.ldStR false 1) [.t 57,.v 0],nP 59 4,nP 60 0,oP 61 .nilchk [.t 60],fP 62 10 (.t 61),oP 63 (.ldSt false 1) [.t 62],nP 64 4,oP 65 (.iad 2) [.t 63,.t 64],fP 66 1 (.t 65),oP 67 .ldStS [.t 66],lP 68 2 true 7 (.l 2),oP 69 (.bsliceM 7 [[.int .u8 0,.str [],.str [],.str [],.list true [],.list true [],.list true []]] [0]) [.ts 68],oP 70 (.appM 7 128) [.ts 67,.t 69,.v 0],oP 71 (.iad 2) [.t 58,.t 59],fP 72 1 (.t 71),op .none (.stSt 1) [.t 72,.t 70]]
def e1a:ACode:=.either [5,6,7] d0R c7p
def d5o:=Sq d9p e1a
def d3F:=Sq f79 d5o
def e3c:=Sq g1O d3F
def d6S:=Sq h9C e3c
def c9c:=Sq f2O d6S
def j2r:ACode :=
  c9c
def a171:AFn:={ np:=2,nv:=8,results:=[],code:=j2r }

def h6o:=Rg [] [vP 2 (.c (.int .i64 0))]
def i17:=Rg [] [nP 6 0,op (.v 4) .lenL [.t 6],vP 5 (.c (.int .i64 0))]
def g5E:=Ts [] [bP 9 .lss (.v 5) (.v 4)] (.t 9) .skip (.exit 0)
def g70:=Rg [] [nP 10 5,vP 3 (.t 10)]
def c6Z:=Rg [] [nP 17 3,vP 2 (.t 17)]
def e2I:=Sq c6Z .ret
def e0O:=Ts [] [nP 11 1,nP 12 0,nP 13 3,oP 14 (.iad 3) [.t 12,.t 13],oP 15 (.ldAn true 3) [.t 14],oP 16 .callV [.t 11,.t 15]] (.t 16) e2I .skip
def d02:=Sq g70 e0O
def e31:=Bk 1 d02
def e2K:=Rg [] [bP 18 .add (.v 5) (.c (.int .i64 1)),vP 5 (.t 18)]
def c6y:=Sq e31 e2K
def d1w:=Sq g5E c6y
def f1s:=Lp d1w
def d2I:=Bk 0 f1s
def e23:=Sq i17 d2I
def d7C:=Rg [] [vP 2 (.c (.int .i64 (-1)))]
def d0B:=Sq d7C .ret
def d2y:=Sq e23 d0B
def b57:=Sq h6o d2y
def j8N:ACode :=
  b57
def k3u:AFn:={ np:=2,nv:=6,results:=[.v 2],code:=j8N }

def h2q:=Rg [2] [⟨.bx,.boxV,[.v 0],some 2,none⟩,vP 3 (.c (.bool false))]
def h0b:=Rg [] [fP 4 0 (.l 2),lP 5 2 false 1 (.t 4),fP 6 2 (.v 1),oP 7 (.ldSt false 1) [.t 6],bP 8 .eql (.t 5) (.t 7),vP 3 (.t 8)]
def h2l:=Sq h0b .ret
def i7f:=Sq h2q h2l
def j7X:ACode :=
  i7f
def a173:AFn:={ np:=2,nv:=4,results:=[.v 3],code:=j7X }

def g2H:=Rg [] [vP 2 (.c (.bool false))]
def i7R:=Rg [1000000,1000001,1000002,1000003,1000004,1000005,1000006,1000007,1000008,1000009,1000010,1000011,1000013,1000014,1000015,1000016,1000012,1000017,1000018,1000019] [nP 5 1,nP 6 0,oP 7 .nilchk [.t 6],fP 8 3 (.t 7),oP 9 (.ldSt false 1) [.t 8],bP 10 .eql (.t 5) (.t 9),mP 11 (.t 10),gP 12 .mv [.v 0] 11 false,gP 13 .nilchk [.t 12] 11 false,gP 14 (.fad 0) [.t 13] 11 false,gP 15 (.ldSt false 1) [.t 14] 11 false,gP 16 .mv [.v 1] 11 false,gP 18 .mv [.v 0] 11 false,gP 19 .nilchk [.t 18] 11 false,gP 20 (.fad 3) [.t 19] 11 false,gP 21 (.ldStR false 1) [.t 20,.v 0] 11 false,gP 17 (.callA 230 2) [.t 15,.t 16,.v 0] 11 false,gP 22 (.call 27) [.t 17,.t 21] 11 false,oP 23 .pick [.t 11,.c (.bool true),.t 22],vP 2 (.t 23)]
def g9T:=Sq i7R .ret
def h33:=Sq g2H g9T
def j26:ACode :=
  h33
def k3X:AFn:={ np:=2,nv:=3,results:=[.v 2],code:=j26 }

def f2M:=Rg [] [vP 3 (.c (.bool false))]
def g0F:=Rg [4] [nP 10 0,nP 11 1,oP 12 (.call 30) [.t 10,.t 11],mP 9 (.t 12),oP 13 (.ext 0) [.t 9],oP 14 (.ext 1) [.t 9],⟨.bx,.alloc [.int .u8 0,.str [],.list true [],.list true []],[],some 4,none⟩,xP (.stLc 4 4) [.l 4,.ts 13] 4,vP 5 (.t 14)]
def g7i:=Rg [] [nP 15 5,mP 16 (.t 15),gP 17 (.fad 0) [.l 4] 16 true,⟨.t 18,.ldLc 4 false 1,[.t 17],some 4,some (.t 16,true)⟩,gP 19 .mv [.v 2] 16 true,gP 20 (.bin .eql) [.t 18,.t 19] 16 true,oP 21 .pick [.t 16,.t 20,.c (.bool false)],vP 3 (.t 21)]
def f6s:=Sq g7i .ret
def h21:=Sq g0F f6s
def h0k:=Sq f2M h21
def j1E:ACode :=
  h0k
def k2l:AFn:={ np:=3,nv:=6,results:=[.v 3],code:=j1E }

def f22:=Rg [3,4,5] [⟨.bx,.boxV,[.v 0],some 3,none⟩,⟨.bx,.boxV,[.v 2],some 4,none⟩,⟨.bx,.alloc [.int .u8 0,.int .i64 0,.str [],.list true [],.list true []],[],some 5,none⟩,op (.v 6) .mv [.c (.str [])],vP 7 (.c (.int .i64 0))]
def g5N:=Rg [] [fP 17 3 (.l 4),⟨.v 15,.ldLc 4 false 1,[.t 17],some 4,none⟩,op (.v 16) .lenL [.v 15],vP 17 (.c (.int .i64 0))]
def h8J:=Ts [] [bP 21 .lss (.v 17) (.v 16)] (.t 21) .skip (.exit 0)
def i5m:=Rg [] [nP 22 17,oP 23 (.iad 1) [.v 15,.v 17],oP 24 (.ldAn false 1) [.t 23],op (.v 9) (.allocO [.str []]) [],vP 8 (.t 22),op .none (.stSt 1) [.v 9,.t 24]]
def e1R:=Rg [] [oP 32 (.build [.int .u8 0,.int .i64 0,.str [],.list true [],.list true []] []) [],oP 33 (.ldSt false 1) [.v 9],xP (.stLc 5 5) [.l 5,.ts 32] 5,vP 6 (.t 33),vP 7 (.c (.int .i64 7))]
def c53:=Sq e1R .ret
def d6Y:=Rg [] [oP 39 (.build [.int .u8 0,.int .i64 0,.str [],.list true [],.list true []] []) [],oP 40 (.ldSt false 1) [.v 9],xP (.stLc 5 5) [.l 5,.ts 39] 5,vP 6 (.t 40),vP 7 (.c (.int .i64 6))]
def c0B:=Sq d6Y .ret
def c0S:=Ts [] [nP 35 1,oP 36 (.mkF 231 0) [.v 9],oP 37 (.call 129) [.t 35,.t 36],oP 38 (.un .not) [.t 37],mP 34 (.t 38)] (.t 34) c0B .skip
def b7u:=Ts [] [fP 26 3 (.l 4),lP 27 4 false 1 (.t 26),nP 28 8,oP 29 (.slL 1 false true) [.t 27,.t 28],oP 30 (.ldSt false 1) [.v 9],oP 31 (.call 27) [.t 29,.t 30],mP 25 (.t 31)] (.t 25) c53 c0S
def d3O:=Bk 2 b7u
def e9I:=Sq i5m d3O
def c0r:=Bk 1 e9I
def c1Q:=Rg [] [bP 41 .add (.v 17) (.c (.int .i64 1)),vP 17 (.t 41)]
def e1Q:=Sq c0r c1Q
def d2d:=Sq h8J e1Q
def b8J:=Lp d2d
def f1i:=Bk 0 b8J
def d7B:=Sq g5N f1i
def c5e:=Rg [] [oP 42 (.build [.int .u8 0,.int .i64 0,.str [],.list true [],.list true []] [(0,1)]) [.c (.int .u8 6)],op (.v 10) (.allocO [.int .u8 0,.int .i64 0,.str [],.list true [],.list true []]) [],op .none (.stSt 5) [.v 10,.ts 42]]
def d0b:=Rg [] [vP 18 (.v 1),op (.v 19) .lenL [.v 18],vP 20 (.c (.int .i64 0))]
def d4U:=Ts [] [bP 46 .lss (.v 20) (.v 19)] (.t 46) .skip (.exit 3)
def b7B:=Rg [11] [oP 47 (.iad 11) [.v 18,.v 20],oP 48 (.ldRo true 11) [.t 47],⟨.bx,.alloc [.str [],.list true [],.str [],.list true [],.bool false,.bool false,.int .u8 0,.int .i64 0,.str [],.list true [],.list true []],[],some 11,none⟩,xP (.stLc 11 11) [.l 11,.ts 48] 11]
def c5M:=Rg [12] [lP 50 4 true 5 (.l 4),fP 51 0 (.l 11),lP 52 11 false 1 (.t 51),oP 53 (.call 106) [.t 50,.t 52],mP 49 (.t 53),oP 54 (.ext 0) [.t 49],oP 55 (.ext 1) [.t 49],⟨.bx,.alloc [.int .u8 0,.int .i64 0,.str [],.list true [],.list true []],[],some 12,none⟩,xP (.stLc 12 5) [.l 12,.ts 54] 12,vP 13 (.t 55)]
def b8u:=Rg [] [vP 14 (.c (.int .i64 0))]
def d0G:=Rg [] [lP 58 3 true 7 (.l 3),fP 59 2 (.l 11),lP 60 11 true 3 (.t 59),lP 61 12 true 5 (.l 12),oP 62 (.call 169) [.t 58,.t 60,.t 61],mP 57 (.t 62),oP 63 (.ext 0) [.t 57],oP 64 (.ext 1) [.t 57],oP 65 (.ext 2) [.t 57],xP (.stLc 12 5) [.l 12,.ts 63] 12,vP 13 (.t 64),vP 14 (.t 65)]
def d1m:=Ts [] [nP 56 13] (.t 56) d0G .skip
def c9a:=Rg [] [fP 77 0 (.l 3),lP 78 3 false 1 (.t 77),oP 79 (.build [.nilp,.int .u8 0,.int .i64 0,.str [],.list true [],.list true [],.bool false] [(0,1)]) [.t 78],fP 80 2 (.l 11),lP 81 11 true 3 (.t 80),fP 82 6 (.l 11),lP 83 11 true 5 (.t 82),oP 84 (.call 169) [.t 79,.t 81,.t 83],mP 76 (.t 84),oP 85 (.ext 0) [.t 76],oP 86 (.ext 1) [.t 76],oP 87 (.ext 2) [.t 76],xP (.stLc 12 5) [.l 12,.ts 85] 12,vP 13 (.t 86),vP 14 (.t 87)]
def c62:=Ts [] [nP 66 14,bP 67 .eql (.t 66) (.c (.int .i64 0)),mP 68 (.t 67),gP 69 .mv [.v 13] 68 true,gP 70 (.un .not) [.t 69] 68 true,oP 71 .pick [.t 68,.t 70,.c (.bool false)],mP 72 (.t 71),gP 73 (.fad 5) [.l 11] 72 true,⟨.t 74,.ldLc 11 false 1,[.t 73],some 11,some (.t 72,true)⟩,oP 75 .pick [.t 72,.t 74,.c (.bool false)]] (.t 75) c9a .skip
def e2l:=Rg [] [oP 91 (.build [.int .u8 0,.int .i64 0,.str [],.list true [],.list true []] []) [],fP 92 0 (.l 11),lP 93 11 false 1 (.t 92),nP 94 14,xP (.stLc 5 5) [.l 5,.ts 91] 5,vP 6 (.t 93),vP 7 (.t 94)]
def d7A:=Sq e2l .ret
def c9S:=Rg [] [fP 97 0 (.l 11),lP 98 11 false 1 (.t 97),lP 99 12 true 5 (.l 12),oP 100 (.call 109) [.v 10,.t 98,.t 99]]
def f08:=Rg [] [oP 105 (.build [.int .u8 0,.int .i64 0,.str [],.list true [],.list true []] []) [],fP 106 0 (.l 11),lP 107 11 false 1 (.t 106),xP (.stLc 5 5) [.l 5,.ts 105] 5,vP 6 (.t 107),vP 7 (.c (.int .i64 9))]
def c4i:=Sq f08 .ret
def f01:=Ts [] [fP 102 2 (.l 11),fP 103 2 (.t 102),lP 104 11 false 1 (.t 103),mP 101 (.t 104)] (.t 101) c4i .skip
def e6g:=Ts [] [nP 96 13,mP 95 (.t 96)] (.t 95) c9S f01
def b9Y:=Ts [] [nP 89 14,bP 90 .neq (.t 89) (.c (.int .i64 0)),mP 88 (.t 90)] (.t 88) d7A e6g
def c8s:=Bk 5 b9Y
def e4i:=Sq c62 c8s
def d03:=Sq d1m e4i
def d9d:=Sq b8u d03
def c5N:=Sq c5M d9d
def e6X:=Sq b7B c5N
def d9W:=Bk 4 e6X
def c79:=Rg [] [bP 108 .add (.v 20) (.c (.int .i64 1)),vP 20 (.t 108)]
def e6y:=Sq d9W c79
def e3g:=Sq d4U e6y
def d7x:=Lp e3g
def d61:=Bk 3 d7x
def c3f:=Sq d0b d61
def c3w:=Rg [] [oP 109 (.ldSt true 5) [.v 10],xP (.stLc 5 5) [.l 5,.ts 109] 5,op (.v 6) .mv [.c (.str [])],vP 7 (.c (.int .i64 0))]
def c2b:=Sq c3w .ret
def c7d:=Sq c3f c2b
def b7e:=Sq c5e c7d
def b6a:=Sq d7B b7e
def e7n:=Sq f22 b6a
def j6f:ACode :=
  e7n
def j9V:AFn:={ np:=3,nv:=21,results:=[.bx 5 true 5,.v 6,.v 7],code:=j6f }

def f9h:=Rg [2,3] [⟨.bx,.boxV,[.v 0],some 2,none⟩,⟨.bx,.alloc [.str [],.str [],.list true [],.list true []],[],some 3,none⟩,vP 4 (.c (.bool false))]
def f3A:=Rg [] [lP 9 2 true 1 (.l 2),nP 10 1,oP 11 (.call 38) [.t 9,.t 10],mP 8 (.t 11),oP 12 (.ext 0) [.t 8],oP 13 (.ext 1) [.t 8],vP 5 (.t 12),vP 6 (.t 13)]
def h0d:=Rg [] [oP 16 (.build [.str [],.str [],.list true [],.list true []] []) [],xP (.stLc 3 4) [.l 3,.ts 16] 3,vP 4 (.c (.bool false))]
def i44:=Sq h0d .ret
def h5E:=Ts [] [nP 14 6,oP 15 (.un .not) [.t 14]] (.t 15) i44 .skip
def b7v:=Rg [] [fP 17 0 (.l 2),lP 18 2 false 1 (.t 17),nP 19 5,oP 20 (.iad 4) [.t 18,.t 19],oP 21 (.ldSt true 4) [.t 20],xP (.stLc 3 4) [.l 3,.ts 21] 3,vP 4 (.c (.bool true))]
def d3h:=Sq b7v .ret
def e52:=Sq h5E d3h
def d9f:=Sq f3A e52
def e5U:=Sq f9h d9f
def j6P:ACode :=
  e5U
def k0Z:AFn:={ np:=2,nv:=7,results:=[.bx 3 true 4,.v 4],code:=j6P }

def h2i:=Rg [] [vP 2 (.c (.int .i64 0))]
def h2d:=Rg [] [nP 6 0,op (.v 4) .lenL [.t 6],vP 5 (.c (.int .i64 0))]
def h72:=Ts [] [bP 9 .lss (.v 5) (.v 4)] (.t 9) .skip (.exit 0)
def f2o:=Rg [] [nP 10 5,vP 3 (.t 10)]
def c7Z:=Rg [] [nP 17 3,vP 2 (.t 17)]
def b7j:=Sq c7Z .ret
def d7d:=Ts [] [nP 11 1,nP 12 0,nP 13 3,oP 14 (.iad 11) [.t 12,.t 13],oP 15 (.ldRo true 11) [.t 14],oP 16 .callV [.t 11,.t 15]] (.t 16) b7j .skip
def c9k:=Sq f2o d7d
def c7W:=Bk 1 c9k
def e4Q:=Rg [] [bP 18 .add (.v 5) (.c (.int .i64 1)),vP 5 (.t 18)]
def c8e:=Sq c7W e4Q
def e8M:=Sq h72 c8e
def d3W:=Lp e8M
def e6J:=Bk 0 d3W
def c5G:=Sq h2d e6J
def b62:=Rg [] [vP 2 (.c (.int .i64 (-1)))]
def d6H:=Sq b62 .ret
def d33:=Sq c5G d6H
def c94:=Sq h2i d33
def j1T:ACode :=
  c94
def j9y:AFn:={ np:=2,nv:=6,results:=[.v 2],code:=j1T }

def g8i:=Rg [2] [⟨.bx,.boxV,[.v 0],some 2,none⟩,vP 3 (.c (.bool false))]
def g5m:=Rg [] [fP 4 0 (.l 2),lP 5 2 false 1 (.t 4),oP 6 (.ldSt false 1) [.v 1],bP 7 .eql (.t 5) (.t 6),vP 3 (.t 7)]
def g9J:=Sq g5m .ret
def i1C:=Sq g8i g9J
def j8r:ACode :=
  i1C
def k3a:AFn:={ np:=2,nv:=4,results:=[.v 3],code:=j8r }

def h4p:=Rg [3,4,5] [⟨.bx,.boxV,[.v 0],some 3,none⟩,⟨.bx,.boxV,[.v 2],some 4,none⟩,⟨.bx,.alloc [.str [],.str [],.list true [],.list true []],[],some 5,none⟩]
def h7l:=Rg [] [fP 10 0 (.l 3),lP 11 3 false 1 (.t 10),fP 12 1 (.l 3),lP 13 3 false 1 (.t 12),oP 14 (.build [.str [],.str [],.list true [],.list true []] [(0,1),(1,1)]) [.t 11,.t 13],op (.v 6) (.allocO [.str [],.str [],.list true [],.list true []]) [],op .none (.stSt 4) [.v 6,.ts 14]]
def g2V:=Rg [] [fP 16 2 (.l 3),lP 17 3 false 1 (.t 16),nP 18 1,oP 19 (.call 232) [.t 17,.t 18],mP 15 (.t 19),oP 20 (.ext 0) [.t 15],oP 21 (.ext 1) [.t 15],vP 7 (.t 20),vP 8 (.t 21)]
def f3a:=Rg [] [fP 22 2 (.v 6),oP 23 (.ldStSR 2) [.t 22,.v 6],fP 24 2 (.l 3),lP 25 3 false 1 (.t 24),nP 26 7,oP 27 (.slL 1 false true) [.t 25,.t 26],oP 28 (.app 1 16) [.ts 23,.t 27],fP 29 3 (.v 6),oP 30 (.ldStSR 3) [.t 29,.v 6],fP 31 3 (.l 3),lP 32 3 false 1 (.t 31),nP 33 7,oP 34 (.slL 5 false true) [.t 32,.t 33],oP 35 (.app 5 80) [.ts 30,.t 34],fP 36 2 (.v 6),op .none (.stSt 1) [.t 36,.ts 28],fP 37 3 (.v 6),op .none (.stSt 1) [.t 37,.ts 35]]
def e5O:=Rg [] [fP 41 2 (.v 6),oP 42 (.ldStSR 2) [.t 41,.v 6],nP 43 1,oP 44 (.bslice 1 [[.str []]] [0]) [.t 43],oP 45 (.app 1 16) [.ts 42,.t 44],fP 46 3 (.v 6),oP 47 (.ldStSR 3) [.t 46,.v 6],lP 48 4 true 5 (.l 4),oP 49 (.bslice 5 [[.int .u8 0,.int .i64 0,.str [],.list true [],.list true []]] [0]) [.t 48],oP 50 (.app 5 80) [.ts 47,.t 49],fP 51 2 (.v 6),op .none (.stSt 1) [.t 51,.ts 45],fP 52 3 (.v 6),op .none (.stSt 1) [.t 52,.ts 50]]
def c9r:=Ts [] [fP 38 0 (.l 4),lP 39 4 false 1 (.t 38),bP 40 .neq (.t 39) (.c (.int .u8 0))] (.t 40) e5O .skip
def d3n:=Rg [] [nP 54 7,bP 55 .add (.t 54) (.c (.int .i64 1)),vP 7 (.t 55)]
def d8f:=Ts [] [nP 53 8] (.t 53) d3n .skip
def c81:=Rg [] [fP 56 2 (.v 6),oP 57 (.ldStSR 2) [.t 56,.v 6],fP 58 2 (.l 3),lP 59 3 false 1 (.t 58),nP 60 7,oP 61 (.slL 1 true false) [.t 59,.t 60],oP 62 (.app 1 16) [.ts 57,.t 61],fP 63 3 (.v 6),oP 64 (.ldStSR 3) [.t 63,.v 6],fP 65 3 (.l 3),lP 66 3 false 1 (.t 65),nP 67 7,oP 68 (.slL 5 true false) [.t 66,.t 67],oP 69 (.app 5 80) [.ts 64,.t 68],fP 70 2 (.v 6),op .none (.stSt 1) [.t 70,.ts 62],fP 71 3 (.v 6),op .none (.stSt 1) [.t 71,.ts 69]]
def c7F:=Rg [] [oP 72 (.ldSt true 4) [.v 6],xP (.stLc 5 4) [.l 5,.ts 72] 5]
def d3M:=Sq c7F .ret
def f2g:=Sq c81 d3M
def c7x:=Sq d8f f2g
def c6t:=Sq c9r c7x
def e49:=Sq f3a c6t
def e7M:=Sq g2V e49
def f1M:=Sq h7l e7M
def d08:=Sq h4p f1M
def j3u:ACode :=
  d08
def k1r:AFn:={ np:=3,nv:=9,results:=[.bx 5 true 4],code:=j3u }

def g3Q:=Rg [3,4,5] [⟨.bx,.boxV,[.v 1],some 3,none⟩,⟨.bx,.boxV,[.v 2],some 4,none⟩,⟨.bx,.alloc [.int .u8 0,.int .i64 0,.str [],.list true [],.list true []],[],some 5,none⟩]
def g4h:=Rg [6] [oP 20 (.build [.int .u8 0,.int .i64 0,.str [],.list true [],.list true []] [(0,1)]) [.c (.int .u8 5)],⟨.bx,.alloc [.int .u8 0,.int .i64 0,.str [],.list true [],.list true []],[],some 6,none⟩,xP (.stLc 6 5) [.l 6,.ts 20] 6]
def g04:=Rg [] [fP 21 4 (.l 4),⟨.v 8,.ldLc 4 false 1,[.t 21],some 4,none⟩,op (.v 9) .lenL [.v 8],vP 10 (.c (.int .i64 0))]
def g2M:=Ts [] [bP 25 .lss (.v 10) (.v 9)] (.t 25) .skip (.exit 1)
def e0n:=Rg [7] [oP 26 (.iad 5) [.v 8,.v 10],oP 27 (.ldAn true 5) [.t 26],⟨.bx,.alloc [.int .u8 0,.int .i64 0,.str [],.list true [],.list true []],[],some 7,none⟩,xP (.stLc 7 5) [.l 7,.ts 27] 7]
def c0L:=Rg [] [fP 28 4 (.l 6),⟨.t 29,.ldLcS 6,[.t 28],some 6,none⟩,nP 30 0,fP 31 1 (.l 3),lP 32 3 false 1 (.t 31),oP 33 (.iad 3) [.t 32,.c (.int .i64 0)],oP 34 (.ldRo true 3) [.t 33],lP 35 7 true 5 (.l 7),oP 36 (.call 181) [.t 30,.t 34,.t 35],oP 37 (.bslice 5 [[.int .u8 0,.int .i64 0,.str [],.list true [],.list true []]] [0]) [.t 36],oP 38 (.app 5 80) [.ts 29,.t 37],fP 39 4 (.l 6),xP (.stLc 6 1) [.t 39,.ts 38] 6]
def b79:=Sq e0n c0L
def f0I:=Bk 2 b79
def e0j:=Rg [] [bP 40 .add (.v 10) (.c (.int .i64 1)),vP 10 (.t 40)]
def c0z:=Sq f0I e0j
def b7O:=Sq g2M c0z
def b9F:=Lp b7O
def e2a:=Bk 1 b9F
def e4o:=Sq g04 e2a
def e3S:=Rg [] [lP 41 6 true 5 (.l 6),xP (.stLc 5 5) [.l 5,.ts 41] 5]
def c77:=Sq e3S .ret
def d9m:=Sq e4o c77
def f19:=Sq g4h d9m
def e7k:=Rg [] [fP 52 2 (.l 4),lP 53 4 false 1 (.t 52),oP 54 (.build [.int .u8 0,.int .i64 0,.str [],.list true [],.list true []] [(0,1),(2,1)]) [.c (.int .u8 8),.t 53],xP (.stLc 5 5) [.l 5,.ts 54] 5]
def c2w:=Sq e7k .ret
def e8n:=Ts [] [fP 43 0 (.l 4),lP 44 4 false 1 (.t 43),bP 45 .eql (.t 44) (.c (.int .u8 2)),mP 46 (.t 45),gP 47 .mv [.v 0] 46 true,gP 48 (.fad 0) [.l 3] 46 true,⟨.t 49,.ldLc 3 false 1,[.t 48],some 3,some (.t 46,true)⟩,gP 50 (.call 111) [.t 47,.t 49] 46 true,oP 51 .pick [.t 46,.t 50,.c (.bool false)],mP 42 (.t 51)] (.t 42) c2w .skip
def d2c:=Ts [] [fP 11 0 (.l 4),lP 12 4 false 1 (.t 11),bP 13 .eql (.t 12) (.c (.int .u8 5)),mP 14 (.t 13),gP 15 (.fad 1) [.l 3] 14 true,⟨.t 16,.ldLc 3 false 1,[.t 15],some 3,some (.t 14,true)⟩,gP 17 .lenL [.t 16] 14 true,gP 18 (.bin .gtr) [.t 17,.c (.int .i64 0)] 14 true,oP 19 .pick [.t 14,.t 18,.c (.bool false)],mP 10 (.t 19)] (.t 10) f19 e8n
def c2m:=Bk 0 d2c
def d1z:=Rg [] [lP 55 4 true 5 (.l 4),xP (.stLc 5 5) [.l 5,.ts 55] 5]
def d0g:=Sq d1z .ret
def d3Z:=Sq c2m d0g
def e65:=Sq g3Q d3Z
def j7u:ACode :=
  e65
def k2E:AFn:={ np:=3,nv:=11,results:=[.bx 5 true 5],code:=j7u }

def g7j:=Rg [5,6,7,8] [⟨.bx,.boxV,[.v 1],some 5,none⟩,⟨.bx,.boxV,[.v 2],some 6,none⟩,⟨.bx,.boxV,[.v 3],some 7,none⟩,⟨.bx,.alloc [.int .u8 0,.int .i64 0,.str [],.list true [],.list true []],[],some 8,none⟩,vP 9 (.c (.bool false))]
def h7j:=Rg [] [nP 14 0,oP 15 .nilchk [.t 14],fP 16 11 (.t 15),oP 17 (.ldSt false 1) [.t 16],oP 18 .lenL [.t 17],vP 10 (.t 18)]
def f6G:=Rg [11] [nP 19 0,lP 20 5 true 3 (.l 5),lP 21 6 true 5 (.l 6),lP 22 7 true 2 (.l 7),nP 23 4,oP 24 (.call 233) [.t 19,.t 20,.t 21,.t 22,.t 23],⟨.bx,.alloc [.int .u8 0,.int .i64 0,.str [],.list true [],.list true []],[],some 11,none⟩,xP (.stLc 11 5) [.l 11,.ts 24] 11]
def f3z:=Rg [] [nP 39 0,nP 40 4,oP 41 (.call 234) [.t 39,.t 40,.c (.int .i64 9)]]
def d9B:=Ts [] [nP 32 0,oP 33 .nilchk [.t 32],fP 34 11 (.t 33),oP 35 (.ldSt false 1) [.t 34],oP 36 .lenL [.t 35],nP 37 10,bP 38 .eql (.t 36) (.t 37)] (.t 38) f3z .skip
def c8U:=Rg [] [oP 42 (.build [.int .u8 0,.int .i64 0,.str [],.list true [],.list true []] []) [],xP (.stLc 8 5) [.l 8,.ts 42] 8,vP 9 (.c (.bool false))]
def c8n:=Sq c8U .ret
def c5O:=Sq d9B c8n
def e9s:=Ts [] [fP 25 0 (.l 11),lP 26 11 false 1 (.t 25),bP 27 .eql (.t 26) (.c (.int .u8 0)),mP 28 (.t 27),gP 29 (.fad 2) [.l 5] 28 true,⟨.t 30,.ldLc 5 false 1,[.t 29],some 5,some (.t 28,true)⟩,oP 31 .pick [.t 28,.t 30,.c (.bool false)]] (.t 31) c5O .skip
def d8P:=Rg [] [lP 43 11 true 5 (.l 11),xP (.stLc 8 5) [.l 8,.ts 43] 8,vP 9 (.c (.bool true))]
def d9O:=Sq d8P .ret
def e3I:=Sq e9s d9O
def d82:=Sq f6G e3I
def e2r:=Sq h7j d82
def d78:=Sq g7j e2r
def j4d:ACode :=
  d78
def b4I:AFn:={ np:=5,nv:=12,results:=[.bx 8 true 5,.v 9],code:=j4d }

def i5z:=Rg [] [op (.v 2) .mv [.c (.str [])],vP 3 (.c (.bool false))]
def g8t:=Rg [] [nP 6 0,nP 7 1,oP 8 (.call 235) [.t 6,.t 7],oP 9 (.ext 0) [.t 8],oP 10 (.ext 1) [.t 8],vP 2 (.t 9),vP 3 (.t 10)]
def g1S:=Sq g8t .ret
def g4I:=Sq i5z g1S
def j1A:ACode :=
  g4I
def k0C:AFn:={ np:=2,nv:=4,results:=[.v 2,.v 3],code:=j1A }

def g0q:AFn:={ np:=3,nv:=0,results:=[],code:=.skip,ext:=some (Q8 4 80) }

def g9V:=Rg [2] [⟨.bx,.alloc [.int .u8 0,.int .i64 0,.str [],.list true [],.list true []],[],some 2,none⟩]
def h7k:=Rg [3] [nP 10 0,oP 11 .nilchk [.t 10],fP 12 0 (.t 11),oP 13 (.ldSt false 1) [.t 12],nP 14 0,oP 15 .nilchk [.t 14],fP 16 1 (.t 15),oP 17 (.ldSt false 1) [.t 16],oP 18 (.iad 4) [.t 13,.t 17],oP 19 (.ldRo true 4) [.t 18],⟨.bx,.alloc [.int .u8 0,.str [],.int .i64 0,.int .i64 0],[],some 3,none⟩,xP (.stLc 3 4) [.l 3,.t 19] 3]
def i0n:=Rg [] [nP 24 0,oP 25 .nilchk [.t 24],fP 26 1 (.t 25),oP 27 (.ldSt false 1) [.t 26],bP 28 .add (.t 27) (.c (.int .i64 1)),oP 29 .nilchk [.t 24],fP 30 1 (.t 29),op .none (.stSt 1) [.t 30,.t 28]]
def i5V:=Rg [] [fP 31 2 (.l 3),lP 32 3 false 1 (.t 31),oP 33 (.build [.int .u8 0,.int .i64 0,.str [],.list true [],.list true []] [(0,1),(1,1)]) [.c (.int .u8 1),.t 32],xP (.stLc 2 5) [.l 2,.ts 33] 2]
def g8j:=Sq i5V .ret
def d10:=Sq i0n g8j
def b6Z:=Rg [] [nP 38 0,oP 39 .nilchk [.t 38],fP 40 1 (.t 39),oP 41 (.ldSt false 1) [.t 40],bP 42 .add (.t 41) (.c (.int .i64 1)),oP 43 .nilchk [.t 38],fP 44 1 (.t 43),op .none (.stSt 1) [.t 44,.t 42]]
def e9U:=Rg [] [fP 45 1 (.l 3),lP 46 3 false 1 (.t 45),oP 47 (.build [.int .u8 0,.int .i64 0,.str [],.list true [],.list true []] [(0,1),(2,1)]) [.c (.int .u8 2),.t 46],xP (.stLc 2 5) [.l 2,.ts 47] 2]
def c1G:=Sq e9U .ret
def e0f:=Sq b6Z c1G
def d1C:=Rg [] [oP 51 (.build [.int .u8 0,.int .i64 0,.str [],.list true [],.list true []] [(0,1),(1,1)]) [.c (.int .u8 3),.c (.int .i64 1)],xP (.stLc 2 5) [.l 2,.ts 51] 2]
def d7s:=Sq d1C .ret
def c6s:=Rg [] [oP 55 (.build [.int .u8 0,.int .i64 0,.str [],.list true [],.list true []] [(0,1)]) [.c (.int .u8 3)],xP (.stLc 2 5) [.l 2,.ts 55] 2]
def d6J:=Sq c6s .ret
def c7r:=Rg [] [oP 59 (.build [.int .u8 0,.int .i64 0,.str [],.list true [],.list true []] []) [],xP (.stLc 2 5) [.l 2,.ts 59] 2]
def b9a:=Sq c7r .ret
def f1g:=Rg [] [nP 64 0,oP 65 .nilchk [.t 64],fP 66 1 (.t 65),oP 67 (.ldSt false 1) [.t 66],bP 68 .add (.t 67) (.c (.int .i64 1)),oP 69 .nilchk [.t 64],fP 70 1 (.t 69),op .none (.stSt 1) [.t 70,.t 68]]
def e6M:=Rg [] [fP 71 1 (.l 3),lP 72 3 false 1 (.t 71),oP 73 (.build [.int .u8 0,.int .i64 0,.str [],.list true [],.list true []] [(0,1),(2,1)]) [.c (.int .u8 4),.t 72],xP (.stLc 2 5) [.l 2,.ts 73] 2]
def c5i:=Sq e6M .ret
def c5d:=Sq f1g c5i
def d2C:=Rg [] [nP 81 0,oP 82 .nilchk [.t 81],fP 83 1 (.t 82),oP 84 (.ldSt false 1) [.t 83],bP 85 .add (.t 84) (.c (.int .i64 1)),oP 86 .nilchk [.t 81],fP 87 1 (.t 86),op .none (.stSt 1) [.t 87,.t 85]]
def d83:=Rg [] [nP 88 0,oP 89 (.call 51) [.t 88],oP 90 (.build [.int .u8 0,.int .i64 0,.str [],.list true [],.list true []] [(0,1),(2,1)]) [.c (.int .u8 7),.t 89],xP (.stLc 2 5) [.l 2,.ts 90] 2]
def e0p:=Sq d83 .ret
def c2M:=Sq d2C e0p
def c32:=Rg [4] [oP 94 (.build [.int .u8 0,.int .i64 0,.str [],.list true [],.list true []] [(0,1)]) [.c (.int .u8 5)],⟨.bx,.alloc [.int .u8 0,.int .i64 0,.str [],.list true [],.list true []],[],some 4,none⟩,xP (.stLc 4 5) [.l 4,.ts 94] 4]
def d1r:=Ts [] [nP 95 0,oP 96 .nilchk [.t 95],fP 97 4 (.t 96),oP 98 (.ldSt false 1) [.t 97],bP 99 .eql (.t 98) (.c (.int .i64 0)),mP 100 (.t 99),gP 101 .mv [.v 0] 100 true,gP 102 (.call 54) [.t 101,.c (.str [93])] 100 true,gP 103 (.un .not) [.t 102] 100 true,oP 104 .pick [.t 100,.t 103,.c (.bool false)]] (.t 104) .skip (.exit 1)
def e6d:=Rg [5] [nP 105 0,nP 106 1,oP 107 (.call 122) [.t 105,.t 106],⟨.bx,.alloc [.int .u8 0,.int .i64 0,.str [],.list true [],.list true []],[],some 5,none⟩,xP (.stLc 5 5) [.l 5,.ts 107] 5]
def d88:=Rg [] [fP 108 4 (.l 4),⟨.t 109,.ldLcS 4,[.t 108],some 4,none⟩,lP 110 5 true 5 (.l 5),oP 111 (.bslice 5 [[.int .u8 0,.int .i64 0,.str [],.list true [],.list true []]] [0]) [.t 110],oP 112 (.app 5 80) [.ts 109,.t 111],fP 113 4 (.l 4),xP (.stLc 4 1) [.t 113,.ts 112] 4]
def d53:=Sq e6d d88
def b86:=Bk 2 d53
def c2G:=Sq d1r b86
def d7u:=Lp c2G
def c7E:=Bk 1 d7u
def c7u:=Rg [] [lP 114 4 true 5 (.l 4),xP (.stLc 2 5) [.l 2,.ts 114] 2]
def d26:=Sq c7u .ret
def c2D:=Sq c7E d26
def d5J:=Sq c32 c2D
def e2S:=Rg [6] [oP 118 (.build [.int .u8 0,.int .i64 0,.str [],.list true [],.list true []] [(0,1)]) [.c (.int .u8 6)],⟨.bx,.alloc [.int .u8 0,.int .i64 0,.str [],.list true [],.list true []],[],some 6,none⟩,xP (.stLc 6 5) [.l 6,.ts 118] 6]
def d7q:=Ts [] [nP 119 0,oP 120 .nilchk [.t 119],fP 121 4 (.t 120),oP 122 (.ldSt false 1) [.t 121],bP 123 .eql (.t 122) (.c (.int .i64 0)),mP 124 (.t 123),gP 125 .mv [.v 0] 124 true,gP 126 (.call 54) [.t 125,.c (.str [125])] 124 true,gP 127 (.un .not) [.t 126] 124 true,oP 128 .pick [.t 124,.t 127,.c (.bool false)]] (.t 128) .skip (.exit 3)
def e4q:=Rg [] [fP 129 3 (.l 6),⟨.t 130,.ldLcS 6,[.t 129],some 6,none⟩,nP 131 0,oP 132 (.call 51) [.t 131],oP 133 (.bslice 1 [[.str []]] [0]) [.t 132],oP 134 (.app 1 16) [.ts 130,.t 133],fP 135 3 (.l 6),xP (.stLc 6 1) [.t 135,.ts 134] 6]
def b9o:=Rg [] [nP 136 0,oP 137 (.call 52) [.t 136,.c (.str [58])]]
def b9T:=Rg [7] [nP 138 0,nP 139 1,oP 140 (.call 122) [.t 138,.t 139],⟨.bx,.alloc [.int .u8 0,.int .i64 0,.str [],.list true [],.list true []],[],some 7,none⟩,xP (.stLc 7 5) [.l 7,.ts 140] 7]
def b9u:=Rg [] [fP 141 4 (.l 6),⟨.t 142,.ldLcS 6,[.t 141],some 6,none⟩,lP 143 7 true 5 (.l 7),oP 144 (.bslice 5 [[.int .u8 0,.int .i64 0,.str [],.list true [],.list true []]] [0]) [.t 143],oP 145 (.app 5 80) [.ts 142,.t 144],fP 146 4 (.l 6),xP (.stLc 6 1) [.t 146,.ts 145] 6]
def e6f:=Sq b9T b9u
def e1i:=Sq b9o e6f
def c6N:=Sq e4q e1i
def b9O:=Bk 4 c6N
def d6M:=Sq d7q b9O
def e7N:=Lp d6M
def d4J:=Bk 3 e7N
def d4f:=Rg [] [lP 147 6 true 5 (.l 6),xP (.stLc 2 5) [.l 2,.ts 147] 2]
def d77:=Sq d4f .ret
def b9R:=Sq d4J d77
def c1k:=Sq e2S b9R
def d80:=Ts [] [nP 116 0,oP 117 (.call 54) [.t 116,.c (.str [123])],mP 115 (.t 117)] (.t 115) c1k .skip
def c36:=Ts [] [nP 92 0,oP 93 (.call 54) [.t 92,.c (.str [91])],mP 91 (.t 93)] (.t 91) d5J d80
def b6A:=Ts [] [nP 75 0,oP 76 (.call 121) [.t 75,.c (.str [36])],mP 77 (.t 76),gP 78 .mv [.v 1] 77 true,gP 79 (.un .not) [.t 78] 77 true,oP 80 .pick [.t 77,.t 79,.c (.bool false)],mP 74 (.t 80)] (.t 74) c2M c36
def c9v:=Ts [] [fP 61 0 (.l 3),lP 62 3 false 1 (.t 61),bP 63 .eql (.t 62) (.c (.int .u8 1)),mP 60 (.t 63)] (.t 60) c5d b6A
def d8n:=Ts [] [nP 57 0,oP 58 (.call 54) [.t 57,.c (.str [110,117,108,108])],mP 56 (.t 58)] (.t 56) b9a c9v
def e9j:=Ts [] [nP 53 0,oP 54 (.call 54) [.t 53,.c (.str [102,97,108,115,101])],mP 52 (.t 54)] (.t 52) d6J d8n
def d0F:=Ts [] [nP 49 0,oP 50 (.call 54) [.t 49,.c (.str [116,114,117,101])],mP 48 (.t 50)] (.t 48) d7s e9j
def e98:=Ts [] [fP 35 0 (.l 3),lP 36 3 false 1 (.t 35),bP 37 .eql (.t 36) (.c (.int .u8 3)),mP 34 (.t 37)] (.t 34) e0f d0F
def c1F:=Ts [] [fP 21 0 (.l 3),lP 22 3 false 1 (.t 21),bP 23 .eql (.t 22) (.c (.int .u8 2)),mP 20 (.t 23)] (.t 20) d10 e98
def b6C:=Bk 0 c1F
def e4m:=Rg [] [nP 148 0,oP 149 (.call 50) [.t 148,.c (.int .i64 4)]]
def b4Q:=Rg [] [oP 150 (.build [.int .u8 0,.int .i64 0,.str [],.list true [],.list true []] []) [],xP (.stLc 2 5) [.l 2,.ts 150] 2]
def b3j:=Sq b4Q .ret
def b2U:=Sq e4m b3j
def b2B:=Sq b6C b2U
def b3D:=Sq h7k b2B
def b2A:=Sq g9V b3D
def i9L:ACode :=
  b2A
def k06:AFn:={ np:=2,nv:=8,results:=[.bx 2 true 5],code:=i9L }

def f8O:=Rg [] [vP 2 (.c (.bool false))]
def h1a:=Rg [] [nP 5 0,nP 6 1,oP 7 (.call 236) [.t 5,.t 6],bP 8 .geq (.t 7) (.c (.int .i64 0)),vP 2 (.t 8)]
def i5U:=Sq h1a .ret
def h1j:=Sq f8O i5U
def j3j:ACode :=
  h1j
def k1X:AFn:={ np:=2,nv:=3,results:=[.v 2],code:=j3j }

def f8t:=Rg [3] [⟨.bx,.boxV,[.v 0],some 3,none⟩,vP 4 (.c (.bool false))]
def g9w:=Rg [] [oP 5 (.ldSt false 1) [.v 1],fP 6 1 (.v 2),oP 7 (.ldSt false 1) [.t 6],oP 8 (.iad 3) [.t 7,.c (.int .i64 0)],oP 9 (.ldRo true 3) [.t 8],lP 10 3 true 5 (.l 3),oP 11 (.call 128) [.t 5,.t 9,.t 10],oP 12 (.un .not) [.t 11],vP 4 (.t 12)]
def f4c:=Sq g9w .ret
def i4l:=Sq f8t f4c
def j2B:ACode :=
  i4l
def k2V:AFn:={ np:=3,nv:=5,results:=[.v 4],code:=j2B }

def i4r:=Rg [3] [⟨.bx,.boxV,[.v 1],some 3,none⟩,op (.v 4) .boxO [.v 2],vP 5 (.c (.bool false))]
def i6d:=Rg [] [fP 10 3 (.v 4),op (.v 9) (.ldSt false 1) [.t 10],op (.v 10) .lenL [.v 9],vP 11 (.c (.int .i64 0))]
def g7z:=Ts [] [bP 14 .lss (.v 11) (.v 10)] (.t 14) .skip (.exit 0)
def h6R:=Rg [] [nP 15 11,oP 16 (.iad 1) [.v 9,.v 11],oP 17 (.ldAn false 1) [.t 16],vP 6 (.t 15),vP 7 (.t 17)]
def i7t:=Rg [] [fP 18 2 (.l 3),lP 19 3 false 1 (.t 18),oP 20 (.call 60) [.t 19],nP 21 7,oP 22 (.call 57) [.t 20,.t 21],vP 8 (.t 22)]
def c7R:=Rg [] [vP 5 (.c (.bool false))]
def d58:=Sq c7R .ret
def d0L:=Ts [] [nP 23 8,bP 24 .lss (.t 23) (.c (.int .i64 0)),mP 25 (.t 24),gP 26 (.fad 3) [.v 4] 25 false,gP 27 (.ldSt false 1) [.t 26] 25 false,gP 28 .mv [.v 6] 25 false,gP 29 (.slL 1 false true) [.t 27,.t 28] 25 false,gP 30 .mv [.v 7] 25 false,gP 31 (.call 27) [.t 29,.t 30] 25 false,oP 32 .pick [.t 25,.c (.bool true),.t 31],mP 33 (.t 32),gP 34 .mv [.v 0] 33 false,gP 35 (.fad 2) [.l 3] 33 false,⟨.t 36,.ldLc 3 false 1,[.t 35],some 3,some (.t 33,false)⟩,gP 37 .mv [.v 8] 33 false,gP 38 (.iad 11) [.t 36,.t 37] 33 false,gP 39 (.fad 2) [.t 38] 33 false,gP 40 (.ldRo true 3) [.t 39] 33 false,gP 41 (.fad 4) [.v 4] 33 false,gP 42 (.ldSt false 1) [.t 41] 33 false,gP 43 .mv [.v 6] 33 false,gP 44 (.iad 5) [.t 42,.t 43] 33 false,gP 45 (.ldAn true 5) [.t 44] 33 false,gP 46 (.call 128) [.t 34,.t 40,.t 45] 33 false,gP 47 (.un .not) [.t 46] 33 false,oP 48 .pick [.t 33,.c (.bool true),.t 47]] (.t 48) d58 .skip
def e3l:=Sq i7t d0L
def d8W:=Sq h6R e3l
def e2f:=Bk 1 d8W
def f0c:=Rg [] [bP 49 .add (.v 11) (.c (.int .i64 1)),vP 11 (.t 49)]
def e6I:=Sq e2f f0c
def d63:=Sq g7z e6I
def d6L:=Lp d63
def e4B:=Bk 0 d6L
def e8T:=Sq i6d e4B
def c0M:=Rg [] [fP 50 2 (.l 3),lP 51 3 false 1 (.t 50),oP 52 (.mkF 237 0) [.v 4],oP 53 (.call 129) [.t 51,.t 52],oP 54 (.un .not) [.t 53],vP 5 (.t 54)]
def e3W:=Sq c0M .ret
def e3i:=Sq e8T e3W
def d1d:=Sq i4r e3i
def j7Q:ACode :=
  d1d
def k0F:AFn:={ np:=3,nv:=12,results:=[.v 5],code:=j7Q }

def f99:=Rg [] [vP 3 (.c (.bool false))]
def g2J:=Rg [] [vP 3 (.c (.bool false))]
def h5Y:=Sq g2J .ret
def h6Q:=Ts [] [nP 10 0,oP 11 .lenL [.t 10],nP 12 1,oP 13 .lenL [.t 12],bP 14 .neq (.t 11) (.t 13)] (.t 14) h5Y .skip
def f8Q:=Rg [] [vP 7 (.v 0),op (.v 8) .lenL [.v 7],vP 9 (.c (.int .i64 0))]
def e5S:=Ts [] [bP 18 .lss (.v 9) (.v 8)] (.t 18) .skip (.exit 0)
def e6e:=Rg [5] [nP 19 9,oP 20 (.iad 3) [.v 7,.v 9],oP 21 (.ldRo true 3) [.t 20],⟨.bx,.alloc [.str [],.list true [],.bool false],[],some 5,none⟩,vP 4 (.t 19),xP (.stLc 5 3) [.l 5,.ts 21] 5]
def e1C:=Rg [6] [nP 22 1,nP 23 4,oP 24 (.iad 3) [.t 22,.t 23],oP 25 (.ldRo true 3) [.t 24],⟨.bx,.alloc [.str [],.list true [],.bool false],[],some 6,none⟩,xP (.stLc 6 3) [.l 6,.ts 25] 6]
def c2S:=Rg [] [vP 3 (.c (.bool false))]
def c0q:=Sq c2S .ret
def c3p:=Ts [] [nP 26 2,lP 27 5 true 3 (.l 5),lP 28 6 true 3 (.l 6),oP 29 .callV [.t 26,.t 27,.t 28],oP 30 (.un .not) [.t 29]] (.t 30) c0q .skip
def c3d:=Sq e1C c3p
def e15:=Sq e6e c3d
def c0y:=Bk 1 e15
def c6f:=Rg [] [bP 31 .add (.v 9) (.c (.int .i64 1)),vP 9 (.t 31)]
def d4E:=Sq c0y c6f
def d2t:=Sq e5S d4E
def c7w:=Lp d2t
def f0l:=Bk 0 c7w
def d7O:=Sq f8Q f0l
def c8O:=Rg [] [vP 3 (.c (.bool true))]
def f2d:=Sq c8O .ret
def e8F:=Sq d7O f2d
def c52:=Sq h6Q e8F
def d7a:=Sq f99 c52
def j6E:ACode :=
  d7a
def k02:AFn:={ np:=3,nv:=10,results:=[.v 3],code:=j6E }

def g8v:AFn:={ np:=2,nv:=0,results:=[],code:=.skip,ext:=some (a1e) }

def f9f:=Rg [] [vP 1 (.c (.bool false))]
def h9o:=Rg [] [nP 3 0,bP 4 .eql (.t 3) (.c (.int .u8 95)),mP 5 (.t 4),gP 6 .mv [.v 0] 5 false,gP 7 (.bin .or) [.t 6,.c (.int .u8 32)] 5 false,gP 8 (.bin .geq) [.t 7,.c (.int .u8 97)] 5 false,gP 9 .mv [.t 8] 5 false,gP 10 .mv [.v 0] 9 true,gP 11 (.bin .or) [.t 10,.c (.int .u8 32)] 9 true,gP 12 (.bin .leq) [.t 11,.c (.int .u8 122)] 9 true,gP 13 .pick [.t 9,.t 12,.c (.bool false)] 5 false,oP 14 .pick [.t 5,.c (.bool true),.t 13],vP 1 (.t 14)]
def i2Z:=Sq h9o .ret
def f5X:=Sq f9f i2Z
def j4T:ACode :=
  f5X
def k0e:AFn:={ np:=1,nv:=2,results:=[.v 1],code:=j4T }

def i3J:=Rg [] [vP 1 (.c (.bool false))]
def h56:=Rg [] [nP 3 0,oP 4 (.call 192) [.t 3],mP 5 (.t 4),gP 6 .mv [.v 0] 5 false,gP 7 (.call 194) [.t 6] 5 false,oP 8 .pick [.t 5,.c (.bool true),.t 7],vP 1 (.t 8)]
def i27:=Sq h56 .ret
def f6Q:=Sq i3J i27
def j3q:ACode :=
  f6Q
def k2c:AFn:={ np:=1,nv:=2,results:=[.v 1],code:=j3q }

def h6V:=Rg [] [vP 1 (.c (.bool false))]
def f3B:=Rg [] [nP 3 0,bP 4 .geq (.t 3) (.c (.int .u8 48)),mP 5 (.t 4),gP 6 .mv [.v 0] 5 true,gP 7 (.bin .leq) [.t 6,.c (.int .u8 57)] 5 true,oP 8 .pick [.t 5,.t 7,.c (.bool false)],vP 1 (.t 8)]
def g7N:=Sq f3B .ret
def f7l:=Sq h6V g7N
def j0p:ACode :=
  f7l
def k22:AFn:={ np:=1,nv:=2,results:=[.v 1],code:=j0p }

def i60:=Rg [1] [⟨.bx,.alloc [.int .u8 0,.str [],.int .i64 0,.int .i64 0],[],some 1,none⟩,vP 2 (.c (.int .i64 0)),vP 3 (.c (.int .i64 0)),vP 4 (.c (.int .i64 0))]
def f5W:=Rg [] [vP 5 (.c (.int .i64 0))]
def g3b:=Rg [] [vP 5 (.c (.int .i64 1))]
def f3y:=Ts [] [nP 10 0,oP 11 .idxS [.t 10,.c (.int .i64 0)],bP 12 .eql (.t 11) (.c (.int .u8 45))] (.t 12) g3b .skip
def i61:=Rg [] [nP 13 5,nP 14 0,nP 15 5,oP 16 (.slS true false) [.t 14,.t 15],oP 17 (.call 140) [.t 16,.c (.func 194 [] [])],bP 18 .add (.t 13) (.t 17),vP 6 (.t 18)]
def e8u:=Rg [] [oP 23 (.build [.int .u8 0,.str [],.int .i64 0,.int .i64 0] []) [],nP 24 6,xP (.stLc 1 4) [.l 1,.t 23] 1,vP 2 (.c (.int .i64 0)),vP 3 (.t 24),vP 4 (.c (.int .i64 4))]
def d72:=Sq e8u .ret
def e4s:=Rg [] [oP 36 (.build [.int .u8 0,.str [],.int .i64 0,.int .i64 0] []) [],nP 37 5,bP 38 .add (.t 37) (.c (.int .i64 1)),xP (.stLc 1 4) [.l 1,.t 36] 1,vP 2 (.c (.int .i64 0)),vP 3 (.t 38),vP 4 (.c (.int .i64 4))]
def b7r:=Sq e4s .ret
def c0g:=Rg [] [oP 56 (.build [.int .u8 0,.str [],.int .i64 0,.int .i64 0] []) [],nP 57 6,xP (.stLc 1 4) [.l 1,.t 56] 1,vP 2 (.c (.int .i64 0)),vP 3 (.t 57),vP 4 (.c (.int .i64 4))]
def d5c:=Sq c0g .ret
def c7I:=Rg [] [oP 63 (.build [.int .u8 0,.str [],.int .i64 0,.int .i64 0] []) [],xP (.stLc 1 4) [.l 1,.t 63] 1,vP 2 (.c (.int .i64 0)),vP 3 (.c (.int .i64 0)),vP 4 (.c (.int .i64 1))]
def c3q:=Sq c7I .ret
def b6g:=Ts [] [nP 59 6,nP 60 5,bP 61 .sub (.t 59) (.t 60),bP 62 .gtr (.t 61) (.c (.int .i64 18)),mP 58 (.t 62)] (.t 58) c3q .skip
def b7F:=Ts [] [nP 40 6,nP 41 0,oP 42 .lenS [.t 41],bP 43 .lss (.t 40) (.t 42),mP 44 (.t 43),gP 45 .mv [.v 0] 44 true,gP 46 .mv [.v 6] 44 true,gP 47 .idxS [.t 45,.t 46] 44 true,gP 48 (.call 192) [.t 47] 44 true,gP 49 .mv [.t 48] 44 true,gP 50 .mv [.v 0] 49 false,gP 51 .mv [.v 6] 49 false,gP 52 .idxS [.t 50,.t 51] 49 false,gP 53 (.bin .eql) [.t 52,.c (.int .u8 46)] 49 false,gP 54 .pick [.t 49,.c (.bool true),.t 53] 44 true,oP 55 .pick [.t 44,.t 54,.c (.bool false)],mP 39 (.t 55)] (.t 39) d5c b6g
def c66:=Ts [] [nP 26 0,nP 27 5,oP 28 .idxS [.t 26,.t 27],bP 29 .eql (.t 28) (.c (.int .u8 48)),mP 30 (.t 29),gP 31 .mv [.v 6] 30 true,gP 32 .mv [.v 5] 30 true,gP 33 (.bin .add) [.t 32,.c (.int .i64 1)] 30 true,gP 34 (.bin .gtr) [.t 31,.t 33] 30 true,oP 35 .pick [.t 30,.t 34,.c (.bool false)],mP 25 (.t 35)] (.t 25) b7r b7F
def d39:=Ts [] [nP 20 6,nP 21 5,bP 22 .eql (.t 20) (.t 21),mP 19 (.t 22)] (.t 19) d72 c66
def d2x:=Bk 0 d39
def f0C:=Rg [] [nP 65 0,nP 66 6,oP 67 (.slS false true) [.t 65,.t 66],oP 68 (.call 239) [.t 67,.c (.int .i64 10),.c (.int .i64 64)],mP 64 (.t 68),oP 69 (.ext 0) [.t 64],oP 70 (.ext 1) [.t 64],vP 7 (.t 69),mP 9 (.t 70)]
def e7B:=Rg [] [nP 71 0,nP 72 6,oP 73 (.slS false true) [.t 71,.t 72],nP 74 7,oP 75 (.build [.int .u8 0,.str [],.int .i64 0,.int .i64 0] [(0,1),(1,1),(2,1)]) [.c (.int .u8 2),.t 73,.t 74],nP 76 6,xP (.stLc 1 4) [.l 1,.t 75] 1,vP 2 (.t 76),vP 3 (.c (.int .i64 0)),vP 4 (.c (.int .i64 0))]
def d3g:=Sq e7B .ret
def d21:=Sq f0C d3g
def e0c:=Sq d2x d21
def d9l:=Sq i61 e0c
def d2f:=Sq f3y d9l
def b6E:=Sq f5W d2f
def e7a:=Sq i60 b6E
def i8y:ACode :=
  e7a
def k0N:AFn:={ np:=1,nv:=8,results:=[.bx 1 true 4,.v 2,.v 3,.v 4],code:=i8y }

def b4v:AFn:={ np:=1,nv:=0,results:=[],code:=.skip,ext:=some (a0o) }

def h75:=Rg [] [op (.v 1) .mv [.c (.list true [])]]
def f8R:=Rg [] [op (.v 2) .mv [.c (.list true [])]]
def h53:=Ts [] [nP 4 0,oP 5 (.call 87) [.t 4,.c (.str [64])]] (.t 5) .skip (.exit 0)
def g12:=Rg [] [mP 6 (.vs 2),nP 7 0,oP 8 (.call 151) [.t 7],nP 9 0,oP 10 (.call 198) [.t 9],oP 11 (.build [.str [],.list true []] [(0,1),(1,1)]) [.t 8,.t 10],oP 12 (.bslice 2 [[.str [],.list true []]] [0]) [.t 11],oP 13 (.app 2 40) [.ts 6,.t 12],vP 2 (.ts 13)]
def h5r:=Bk 1 g12
def g0X:=Sq h53 h5r
def d4t:=Lp g0X
def d1A:=Bk 0 d4t
def d4w:=Rg [] [nP 14 2,vP 1 (.ts 14)]
def d9Q:=Sq d4w .ret
def e1e:=Sq d1A d9Q
def d1s:=Sq f8R e1e
def c9L:=Sq h75 d1s
def j5H:ACode :=
  c9L
def j9I:AFn:={ np:=1,nv:=3,results:=[.v 1],code:=j5H }

def i3d:=Rg [] [op (.v 1) .boxO [.v 0],op (.v 2) .mv [.c (.list true [])]]
def i6Q:=Rg [] [op (.v 2) .mv [.c (.list true [])]]
def i3K:=Sq i6Q .ret
def g0g:=Ts [] [oP 3 (.ldSt false 1) [.v 1],oP 4 (.call 85) [.t 3,.c (.str [40])],oP 5 (.un .not) [.t 4]] (.t 5) i3K .skip
def i26:=Rg [] [oP 6 (.ldSt false 1) [.v 1],oP 7 (.mkF 244 0) [.v 1],oP 8 (.call 243) [.t 6,.c (.str [40]),.c (.str [41]),.t 7],vP 2 (.ts 8)]
def i2N:=Sq i26 .ret
def e1s:=Sq g0g i2N
def e1b:=Sq i3d e1s
def j1B:ACode :=
  e1b
def k24:AFn:={ np:=1,nv:=3,results:=[.v 2],code:=j1B }

def g6n:=Rg [1] [⟨.bx,.alloc [.str [],.list true [],.bool false],[],some 1,none⟩]
def h7R:=Rg [] [nP 4 0,oP 5 (.call 145) [.t 4]]
def g22:=Rg [] [op .none (.call 146) [.v 3]]
def h1g:=Rg [] [vP 3 (.v 0)]
def f9l:=Rg [2] [⟨.bx,.alloc [.str [],.list true [],.bool false],[],some 2,none⟩]
def f1q:=Rg [] [nP 9 0,oP 10 (.call 199) [.t 9],oP 11 (.bslice 3 [[.str [],.list true [],.bool false]] [0]) [.t 10],fP 12 1 (.l 2),xP (.stLc 2 1) [.t 12,.ts 11] 2]
def d3o:=Rg [] [nP 13 0,oP 14 (.call 152) [.t 13,.c (.str [93])]]
def d8c:=Sq f1q d3o
def d3D:=Rg [] [nP 15 0,oP 16 (.call 151) [.t 15],fP 17 0 (.l 2),xP (.stLc 2 1) [.t 17,.t 16] 2]
def d7G:=Ts [] [nP 7 0,oP 8 (.call 87) [.t 7,.c (.str [91])]] (.t 8) d8c d3D
def d6d:=Rg [] [nP 18 0,oP 19 (.call 87) [.t 18,.c (.str [33])],fP 20 2 (.l 2),xP (.stLc 2 1) [.t 20,.t 19] 2]
def b7S:=Rg [] [lP 21 2 true 3 (.l 2),xP (.stLc 1 3) [.l 1,.ts 21] 1]
def b7s:=Sq b7S (.exit 900000)
def c9O:=Sq d6d b7s
def e1H:=Sq d7G c9O
def d60:=Sq f9l e1H
def d6l:=Bk 900000 d60
def d1i:=Sq d6l g22
def d5z:=Sq h1g d1i
def d4i:=Sq h7R d5z
def e4z:=Sq g6n d4i
def i8R:ACode :=
  e4z
def g6t:AFn:={ np:=1,nv:=4,results:=[.bx 1 true 3],code:=i8R }

def g1U:=Rg [2] [⟨.bx,.alloc [.int .u8 0,.int .i64 0,.str [],.list true [],.list true []],[],some 2,none⟩]
def f5M:=Rg [] [nP 8 0,oP 9 (.call 145) [.t 8]]
def f7u:=Rg [] [op .none (.call 146) [.v 6]]
def g9l:=Rg [] [vP 6 (.v 0)]
def h5d:=Rg [3] [nP 11 0,oP 12 .nilchk [.t 11],fP 13 0 (.t 12),oP 14 (.ldSt false 1) [.t 13],nP 15 0,oP 16 .nilchk [.t 15],fP 17 1 (.t 16),oP 18 (.ldSt false 1) [.t 17],oP 19 (.iad 4) [.t 14,.t 18],oP 20 (.ldRo true 4) [.t 19],⟨.bx,.alloc [.int .u8 0,.str [],.int .i64 0,.int .i64 0],[],some 3,none⟩,xP (.stLc 3 4) [.l 3,.t 20] 3]
def f0T:=Rg [] [nP 25 0,oP 26 .nilchk [.t 25],fP 27 1 (.t 26),oP 28 (.ldSt false 1) [.t 27],bP 29 .add (.t 28) (.c (.int .i64 1)),oP 30 .nilchk [.t 25],fP 31 1 (.t 30),op .none (.stSt 1) [.t 31,.t 29]]
def c1u:=Rg [] [fP 32 2 (.l 3),lP 33 3 false 1 (.t 32),oP 34 (.build [.int .u8 0,.int .i64 0,.str [],.list true [],.list true []] [(0,1),(1,1)]) [.c (.int .u8 1),.t 33],xP (.stLc 2 5) [.l 2,.ts 34] 2]
def c74:=Sq c1u (.exit 900000)
def c6A:=Sq f0T c74
def d6u:=Rg [] [nP 39 0,oP 40 .nilchk [.t 39],fP 41 1 (.t 40),oP 42 (.ldSt false 1) [.t 41],bP 43 .add (.t 42) (.c (.int .i64 1)),oP 44 .nilchk [.t 39],fP 45 1 (.t 44),op .none (.stSt 1) [.t 45,.t 43]]
def e5A:=Rg [] [fP 46 1 (.l 3),lP 47 3 false 1 (.t 46),oP 48 (.build [.int .u8 0,.int .i64 0,.str [],.list true [],.list true []] [(0,1),(2,1)]) [.c (.int .u8 2),.t 47],xP (.stLc 2 5) [.l 2,.ts 48] 2]
def e8J:=Sq e5A (.exit 900000)
def c7P:=Sq d6u e8J
def c9D:=Rg [] [oP 52 (.build [.int .u8 0,.int .i64 0,.str [],.list true [],.list true []] [(0,1),(1,1)]) [.c (.int .u8 3),.c (.int .i64 1)],xP (.stLc 2 5) [.l 2,.ts 52] 2]
def e7x:=Sq c9D (.exit 900000)
def b9D:=Rg [] [oP 56 (.build [.int .u8 0,.int .i64 0,.str [],.list true [],.list true []] [(0,1)]) [.c (.int .u8 3)],xP (.stLc 2 5) [.l 2,.ts 56] 2]
def d8G:=Sq b9D (.exit 900000)
def c2p:=Rg [] [oP 60 (.build [.int .u8 0,.int .i64 0,.str [],.list true [],.list true []] []) [],xP (.stLc 2 5) [.l 2,.ts 60] 2]
def d5x:=Sq c2p (.exit 900000)
def d5f:=Rg [] [nP 65 0,oP 66 .nilchk [.t 65],fP 67 1 (.t 66),oP 68 (.ldSt false 1) [.t 67],bP 69 .add (.t 68) (.c (.int .i64 1)),oP 70 .nilchk [.t 65],fP 71 1 (.t 70),op .none (.stSt 1) [.t 71,.t 69]]
def d3E:=Rg [] [fP 72 1 (.l 3),lP 73 3 false 1 (.t 72),oP 74 (.build [.int .u8 0,.int .i64 0,.str [],.list true [],.list true []] [(0,1),(2,1)]) [.c (.int .u8 4),.t 73],xP (.stLc 2 5) [.l 2,.ts 74] 2]
def e1v:=Sq d3E (.exit 900000)
def b6K:=Sq d5f e1v
def c6i:=Rg [] [nP 82 0,oP 83 (.call 151) [.t 82],oP 84 (.build [.int .u8 0,.int .i64 0,.str [],.list true [],.list true []] [(0,1),(2,1)]) [.c (.int .u8 7),.t 83],xP (.stLc 2 5) [.l 2,.ts 84] 2]
def c1q:=Sq c6i (.exit 900000)
def b7P:=Rg [4] [oP 88 (.build [.int .u8 0,.int .i64 0,.str [],.list true [],.list true []] [(0,1)]) [.c (.int .u8 5)],⟨.bx,.alloc [.int .u8 0,.int .i64 0,.str [],.list true [],.list true []],[],some 4,none⟩,xP (.stLc 4 5) [.l 4,.ts 88] 4]
def d7y:=Ts [] [nP 89 0,oP 90 (.call 87) [.t 89,.c (.str [93])],oP 91 (.un .not) [.t 90]] (.t 91) .skip (.exit 1)
def c5K:=Rg [] [fP 92 4 (.l 4),⟨.t 93,.ldLcS 4,[.t 92],some 4,none⟩,nP 94 0,nP 95 1,oP 96 (.call 200) [.t 94,.t 95],oP 97 (.bslice 5 [[.int .u8 0,.int .i64 0,.str [],.list true [],.list true []]] [0]) [.t 96],oP 98 (.app 5 80) [.ts 93,.t 97],fP 99 4 (.l 4),xP (.stLc 4 1) [.t 99,.ts 98] 4]
def f1B:=Bk 2 c5K
def b7n:=Sq d7y f1B
def d6T:=Lp b7n
def b8z:=Bk 1 d6T
def e80:=Rg [] [lP 100 4 true 5 (.l 4),xP (.stLc 2 5) [.l 2,.ts 100] 2]
def d0n:=Sq e80 (.exit 900000)
def e2s:=Sq b8z d0n
def f1c:=Sq b7P e2s
def c0c:=Rg [5] [oP 104 (.build [.int .u8 0,.int .i64 0,.str [],.list true [],.list true []] [(0,1)]) [.c (.int .u8 6)],⟨.bx,.alloc [.int .u8 0,.int .i64 0,.str [],.list true [],.list true []],[],some 5,none⟩,xP (.stLc 5 5) [.l 5,.ts 104] 5]
def e26:=Ts [] [nP 105 0,oP 106 (.call 87) [.t 105,.c (.str [125])],oP 107 (.un .not) [.t 106]] (.t 107) .skip (.exit 3)
def c58:=Rg [] [fP 108 3 (.l 5),⟨.t 109,.ldLcS 5,[.t 108],some 5,none⟩,nP 110 0,oP 111 (.call 151) [.t 110],oP 112 (.bslice 1 [[.str []]] [0]) [.t 111],oP 113 (.app 1 16) [.ts 109,.t 112],fP 114 3 (.l 5),xP (.stLc 5 1) [.t 114,.ts 113] 5]
def b9q:=Rg [] [nP 115 0,oP 116 (.call 152) [.t 115,.c (.str [58])]]
def e6q:=Rg [] [fP 117 4 (.l 5),⟨.t 118,.ldLcS 5,[.t 117],some 5,none⟩,nP 119 0,nP 120 1,oP 121 (.call 200) [.t 119,.t 120],oP 122 (.bslice 5 [[.int .u8 0,.int .i64 0,.str [],.list true [],.list true []]] [0]) [.t 121],oP 123 (.app 5 80) [.ts 118,.t 122],fP 124 4 (.l 5),xP (.stLc 5 1) [.t 124,.ts 123] 5]
def d4s:=Sq b9q e6q
def c3m:=Sq c58 d4s
def c2T:=Bk 4 c3m
def d45:=Sq e26 c2T
def e8S:=Lp d45
def d3I:=Bk 3 e8S
def c0h:=Rg [] [lP 125 5 true 5 (.l 5),xP (.stLc 2 5) [.l 2,.ts 125] 2]
def c7a:=Sq c0h (.exit 900000)
def d0M:=Sq d3I c7a
def c4m:=Sq c0c d0M
def f13:=Ts [] [nP 102 0,oP 103 (.call 87) [.t 102,.c (.str [123])],mP 101 (.t 103)] (.t 101) c4m .skip
def c5B:=Ts [] [nP 86 0,oP 87 (.call 87) [.t 86,.c (.str [91])],mP 85 (.t 87)] (.t 85) f1c f13
def d5V:=Ts [] [nP 76 1,oP 77 (.un .not) [.t 76],mP 78 (.t 77),gP 79 .mv [.v 0] 78 true,gP 80 (.call 87) [.t 79,.c (.str [36])] 78 true,oP 81 .pick [.t 78,.t 80,.c (.bool false)],mP 75 (.t 81)] (.t 75) c1q c5B
def f1C:=Ts [] [fP 62 0 (.l 3),lP 63 3 false 1 (.t 62),bP 64 .eql (.t 63) (.c (.int .u8 1)),mP 61 (.t 64)] (.t 61) b6K d5V
def c7c:=Ts [] [nP 58 0,oP 59 (.call 87) [.t 58,.c (.str [110,117,108,108])],mP 57 (.t 59)] (.t 57) d5x f1C
def f1f:=Ts [] [nP 54 0,oP 55 (.call 87) [.t 54,.c (.str [102,97,108,115,101])],mP 53 (.t 55)] (.t 53) d8G c7c
def c4H:=Ts [] [nP 50 0,oP 51 (.call 87) [.t 50,.c (.str [116,114,117,101])],mP 49 (.t 51)] (.t 49) e7x f1f
def b9H:=Ts [] [fP 36 0 (.l 3),lP 37 3 false 1 (.t 36),bP 38 .eql (.t 37) (.c (.int .u8 3)),mP 35 (.t 38)] (.t 35) c7P c4H
def e4X:=Ts [] [fP 22 0 (.l 3),lP 23 3 false 1 (.t 22),bP 24 .eql (.t 23) (.c (.int .u8 2)),mP 21 (.t 24)] (.t 21) c6A b9H
def d3a:=Bk 0 e4X
def c01:=Rg [] [nP 126 0,oP 127 (.call 150) [.t 126,.c (.int .i64 4)]]
def e8I:=Rg [] [oP 128 (.build [.int .u8 0,.int .i64 0,.str [],.list true [],.list true []] []) [],xP (.stLc 2 5) [.l 2,.ts 128] 2]
def d5e:=Sq e8I (.exit 900000)
def b3V:=Sq c01 d5e
def b3o:=Sq d3a b3V
def b3P:=Sq h5d b3o
def b27:=Bk 900000 b3P
def b4B:=Sq b27 f7u
def b2S:=Sq g9l b4B
def b3h:=Sq f5M b2S
def b4Y:=Sq g1U b3h
def j20:ACode :=
  b4Y
def f9C:AFn:={ np:=2,nv:=7,results:=[.bx 2 true 5],code:=j20 }

def g63:=Rg [] [vP 5 (.v 2),op (.v 6) .lenL [.v 5],vP 7 (.c (.int .i64 0))]
def i29:=Ts [] [bP 12 .lss (.v 7) (.v 6)] (.t 12) .skip (.exit 0)
def i0H:=Rg [] [oP 13 (.iad 6) [.v 5,.v 7],oP 14 (.ldRo true 6) [.t 13],op (.v 3) (.allocO [.str [],.int .u8 0,.int .i64 0,.str [],.list true [],.list true []]) [],op .none (.stSt 6) [.v 3,.ts 14]]
def f72:=Rg [] [nP 15 1,oP 16 (.mkF 245 0) [.v 3],oP 17 (.call 178) [.t 15,.t 16],vP 4 (.t 17)]
def d9F:=Rg [] [nP 20 0,fP 21 1 (.v 3),oP 22 (.ldSt true 5) [.t 21],oP 23 (.call 246) [.t 20,.c (.nilp),.c (.bool false),.t 22]]
def d8v:=Rg [] [nP 24 0,nP 25 1,nP 26 4,oP 27 (.iad 11) [.t 25,.t 26],fP 28 2 (.t 27),nP 29 1,nP 30 4,oP 31 (.iad 11) [.t 29,.t 30],fP 32 5 (.t 31),oP 33 (.ldRo false 1) [.t 32],fP 34 1 (.v 3),oP 35 (.ldSt true 5) [.t 34],oP 36 (.call 246) [.t 24,.t 28,.t 33,.t 35]]
def c5a:=Ts [] [nP 18 4,bP 19 .lss (.t 18) (.c (.int .i64 0))] (.t 19) d9F d8v
def f1l:=Sq f72 c5a
def f14:=Sq i0H f1l
def e2z:=Bk 1 f14
def c0V:=Rg [] [bP 37 .add (.v 7) (.c (.int .i64 1)),vP 7 (.t 37)]
def d1x:=Sq e2z c0V
def e6z:=Sq i29 d1x
def c6S:=Lp e6z
def c0R:=Bk 0 c6S
def d8E:=Sq g63 c0R
def j5k:ACode :=
  d8E
def k2a:AFn:={ np:=3,nv:=8,results:=[],code:=j5k }

def f2y:=Rg [] [op (.v 3) .mv [.c (.list true [])]]
def f4I:=Rg [] [op (.v 4) .mv [.c (.list true [])]]
def h0n:=Rg [] [vP 8 (.v 1),op (.v 9) .lenL [.v 8],vP 10 (.c (.int .i64 0))]
def f3j:=Ts [] [bP 15 .lss (.v 10) (.v 9)] (.t 15) .skip (.exit 0)
def h1U:=Rg [5] [oP 16 (.iad 7) [.v 8,.v 10],oP 17 (.ldAn true 7) [.t 16],⟨.bx,.alloc [.int .u8 0,.str [],.str [],.str [],.list true [],.list true [],.list true []],[],some 5,none⟩,xP (.stLc 5 7) [.l 5,.ts 17] 5]
def d1P:=Rg [] [fP 18 0 (.l 5),⟨.v 11,.ldLc 5 false 1,[.t 18],some 5,none⟩]
def c56:=Rg [] [mP 29 (.vs 4),lP 30 5 true 7 (.l 5),oP 31 (.bslice 7 [[.int .u8 0,.str [],.str [],.str [],.list true [],.list true [],.list true []]] [0]) [.t 30],oP 32 (.app 7 128) [.ts 29,.t 31],vP 4 (.ts 32)]
def d5H:=Rg [6] [nP 36 0,fP 37 2 (.l 5),lP 38 5 false 1 (.t 37),oP 39 (.call 155) [.t 36,.t 38],mP 35 (.t 39),oP 40 (.ext 0) [.t 35],oP 41 (.ext 1) [.t 35],⟨.bx,.alloc [.str [],.str [],.list true []],[],some 6,none⟩,xP (.stLc 6 3) [.l 6,.ts 40] 6,vP 7 (.t 41)]
def d66:=Rg [] [nP 52 2,nP 53 2,oP 54 .nilchk [.t 53],oP 55 .ldStS [.t 54],fP 56 2 (.l 5),lP 57 5 false 1 (.t 56),oP 58 (.bslice 1 [[.str []]] [0]) [.t 57],oP 59 (.app 1 16) [.ts 55,.t 58],oP 60 .nilchk [.t 52],op .none (.stSt 1) [.t 60,.ts 59]]
def e90:=Rg [] [mP 61 (.vs 4),nP 62 0,fP 63 2 (.l 6),lP 64 6 false 1 (.t 63),nP 65 2,oP 66 (.call 202) [.t 62,.t 64,.t 65],oP 67 (.app 7 128) [.ts 61,.t 66],vP 4 (.ts 67)]
def d5T:=Sq d66 e90
def e6v:=Ts [] [nP 42 7,mP 43 (.t 42),gP 44 .mv [.v 2] 43 true,gP 45 .nilchk [.t 44] 43 true,gP 46 (.ldSt false 1) [.t 45] 43 true,gP 47 (.fad 2) [.l 5] 43 true,⟨.t 48,.ldLc 5 false 1,[.t 47],some 5,some (.t 43,true)⟩,gP 49 (.call 27) [.t 46,.t 48] 43 true,gP 50 (.un .not) [.t 49] 43 true,oP 51 .pick [.t 43,.t 50,.c (.bool false)]] (.t 51) d5T .skip
def c5W:=Sq d5H e6v
def d9n:=Rg [] [mP 20 (.vs 4),nP 21 0,fP 22 6 (.l 5),lP 23 5 false 1 (.t 22),nP 24 2,oP 25 (.call 202) [.t 21,.t 23,.t 24],oP 26 (.app 7 128) [.ts 20,.t 25],vP 4 (.ts 26)]
def e8C:=Ts [] [bP 34 .eql (.v 11) (.c (.int .u8 2)),mP 33 (.t 34)] (.t 33) c5W d9n
def d4m:=Ts [] [bP 28 .eql (.v 11) (.c (.int .u8 1)),mP 27 (.t 28)] (.t 27) c56 e8C
def e3Q:=Bk 2 d4m
def b7h:=Sq d1P e3Q
def b50:=Sq h1U b7h
def d6b:=Bk 1 b50
def c3N:=Rg [] [bP 68 .add (.v 10) (.c (.int .i64 1)),vP 10 (.t 68)]
def d14:=Sq d6b c3N
def b7I:=Sq f3j d14
def e5B:=Lp b7I
def c6W:=Bk 0 e5B
def d6V:=Sq h0n c6W
def d0v:=Rg [] [nP 69 4,vP 3 (.ts 69)]
def b78:=Sq d0v .ret
def c98:=Sq d6V b78
def f1F:=Sq f4I c98
def e54:=Sq f2y f1F
def i8F:ACode :=
  e54
def k1v:AFn:={ np:=3,nv:=12,results:=[.v 3],code:=i8F }

def h4m:=Rg [] [vP 2 (.c (.int .i64 0))]
def g33:=Rg [] [nP 6 0,op (.v 4) .lenL [.t 6],vP 5 (.c (.int .i64 0))]
def h7A:=Ts [] [bP 9 .lss (.v 5) (.v 4)] (.t 9) .skip (.exit 0)
def f51:=Rg [] [nP 10 5,vP 3 (.t 10)]
def e0g:=Rg [] [nP 17 3,vP 2 (.t 17)]
def c3r:=Sq e0g .ret
def e2n:=Ts [] [nP 11 1,nP 12 0,nP 13 3,oP 14 (.iad 7) [.t 12,.t 13],oP 15 (.ldAn true 7) [.t 14],oP 16 .callV [.t 11,.t 15]] (.t 16) c3r .skip
def c8G:=Sq f51 e2n
def c3R:=Bk 1 c8G
def b94:=Rg [] [bP 18 .add (.v 5) (.c (.int .i64 1)),vP 5 (.t 18)]
def e71:=Sq c3R b94
def e01:=Sq h7A e71
def e4b:=Lp e01
def c8c:=Bk 0 e4b
def d1J:=Sq g33 c8c
def c9l:=Rg [] [vP 2 (.c (.int .i64 (-1)))]
def e59:=Sq c9l .ret
def d0l:=Sq d1J e59
def c4a:=Sq h4m d0l
def i9T:ACode :=
  c4a
def k3H:AFn:={ np:=2,nv:=6,results:=[.v 2],code:=i9T }

def a1T:=Rg [2] [⟨.bx,.boxV,[.v 0],some 2,none⟩,vP 3 (.c (.bool false))]
def a204r2:List AOper:=[
 lP 4 2 true 7 (.l 2),
 oP 6 (.ldStR true 7) [.v 1,.v 1],
 oP 5 (.callA 205 1) [.t 4,.v 1],
 oP 7 (.call 205) [.t 6],
 bP 8 .eql (.t 5) (.t 7),
 vP 3 (.t 8)]
def h0I:=Rg [1000000,1000002,1000001,1000003,1000004,1000005] a204r2
def g7r:=Sq h0I .ret
def g1z:=Sq a1T g7r
def i9W:ACode :=
  g1z
def a204:AFn:={ np:=2,nv:=4,results:=[.v 3],code:=i9W }

def g0f:=Rg [1] [⟨.bx,.boxV,[.v 0],some 1,none⟩,op (.v 2) .mv [.c (.str [])]]
def g5D:=Rg [] [fP 6 1 (.l 1),lP 7 1 false 1 (.t 6),vP 2 (.t 7)]
def i0F:=Sq g5D .ret
def h7c:=Ts [] [fP 3 1 (.l 1),lP 4 1 false 1 (.t 3),oP 5 (.bin .neq) [.t 4,.c (.str [])]] (.t 5) i0F .skip
def h38:=Rg [] [fP 8 2 (.l 1),lP 9 1 false 1 (.t 8),vP 2 (.t 9)]
def g6D:=Sq h38 .ret
def e2Z:=Sq h7c g6D
def c2g:=Sq g0f e2Z
def j6Z:ACode :=
  c2g
def a205:AFn:={ np:=1,nv:=3,results:=[.v 2],code:=j6Z }

def i3z:=Rg [2,3] [⟨.bx,.boxV,[.v 0],some 2,none⟩,⟨.bx,.boxV,[.v 1],some 3,none⟩,vP 4 (.c (.bool false))]
def g82:=Rg [] [fP 5 2 (.l 2),lP 6 2 false 1 (.t 5),fP 7 2 (.l 3),lP 8 3 false 1 (.t 7),bP 9 .eql (.t 6) (.t 8),mP 10 (.t 9),gP 11 (.fad 4) [.l 2] 10 true,⟨.t 12,.ldLc 2 false 1,[.t 11],some 2,some (.t 10,true)⟩,gP 13 (.fad 4) [.l 3] 10 true,⟨.t 14,.ldLc 3 false 1,[.t 13],some 3,some (.t 10,true)⟩,gP 15 (.call 247) [.t 12,.t 14] 10 true,oP 16 .pick [.t 10,.t 15,.c (.bool false)],mP 17 (.t 16),gP 18 (.fad 6) [.l 2] 17 true,⟨.t 19,.ldLc 2 false 1,[.t 18],some 2,some (.t 17,true)⟩,gP 20 (.fad 6) [.l 3] 17 true,⟨.t 21,.ldLc 3 false 1,[.t 20],some 3,some (.t 17,true)⟩,gP 22 (.call 248) [.t 19,.t 21,.c (.func 249 [] [])] 17 true,oP 23 .pick [.t 17,.t 22,.c (.bool false)],vP 4 (.t 23)]
def g4P:=Sq g82 .ret
def i1z:=Sq i3z g4P
def j0S:ACode :=
  i1z
def k2h:AFn:={ np:=2,nv:=5,results:=[.v 4],code:=j0S }

def i7s:=Rg [] [op (.v 2) .mv [.c (.list true [])]]
def g7T:=Rg [] [op (.v 3) .mv [.c (.list true [])]]
def f5S:=Rg [] [vP 5 (.v 0),op (.v 6) .lenL [.v 5],vP 7 (.c (.int .i64 0))]
def f47:=Ts [] [bP 11 .lss (.v 7) (.v 6)] (.t 11) .skip (.exit 0)
def g9k:=Rg [4] [oP 12 (.iad 2) [.v 5,.v 7],oP 13 (.ldRo true 2) [.t 12],⟨.bx,.alloc [.str [],.list true []],[],some 4,none⟩,xP (.stLc 4 2) [.l 4,.ts 13] 4]
def e0I:=Rg [] [mP 14 (.vs 3),nP 15 1,lP 16 4 true 2 (.l 4),oP 17 .callV [.t 15,.t 16],oP 18 (.bslice 1 [[.str []]] [0]) [.t 17],oP 19 (.app 1 16) [.ts 14,.t 18],vP 3 (.ts 19)]
def d8p:=Sq g9k e0I
def e8e:=Bk 1 d8p
def c3b:=Rg [] [bP 20 .add (.v 7) (.c (.int .i64 1)),vP 7 (.t 20)]
def c2n:=Sq e8e c3b
def d6m:=Sq f47 c2n
def d1D:=Lp d6m
def b8M:=Bk 0 d1D
def d2P:=Sq f5S b8M
def b6c:=Rg [] [nP 21 3,vP 2 (.ts 21)]
def c0f:=Sq b6c .ret
def d3w:=Sq d2P c0f
def d5M:=Sq g7T d3w
def e9y:=Sq i7s d5M
def j4C:ACode :=
  e9y
def k2K:AFn:={ np:=2,nv:=8,results:=[.v 2],code:=j4C }

def h6z:=Rg [1] [⟨.bx,.boxV,[.v 0],some 1,none⟩,op (.v 2) .mv [.c (.str [])]]
def g1e:=Rg [] [fP 3 0 (.l 1),lP 4 1 false 1 (.t 3),vP 2 (.t 4)]
def h2L:=Sq g1e .ret
def i4U:=Sq h6z h2L
def i9p:ACode :=
  i4U
def j98:AFn:={ np:=1,nv:=3,results:=[.v 2],code:=i9p }

def g92:=Rg [] [nP 12 2,oP 13 (.call 250) [.t 12,.c (.func 251 [] [])],vP 3 (.ts 13)]
def g21:=Rg [] [nP 14 0,nP 15 3,oP 16 (.call 91) [.t 14,.c (.int .i64 11),.t 15]]
def i7K:=Rg [] [vP 7 (.v 2),op (.v 8) .lenL [.v 7],vP 9 (.c (.int .i64 0))]
def f7h:=Ts [] [bP 20 .lss (.v 9) (.v 8)] (.t 20) .skip (.exit 0)
def h1f:=Rg [] [oP 21 (.iad 6) [.v 7,.v 9],oP 22 (.ldRo true 6) [.t 21],op (.v 4) (.allocO [.str [],.int .u8 0,.int .i64 0,.str [],.list true [],.list true []]) [],op .none (.stSt 6) [.v 4,.ts 22]]
def d73:=Rg [] [nP 23 1,oP 24 (.mkF 252 0) [.v 4],oP 25 (.call 178) [.t 23,.t 24],vP 5 (.t 25)]
def c3B:=Rg [] [nP 28 0,fP 29 0 (.v 4),oP 30 (.ldSt false 1) [.t 29],oP 31 (.call 90) [.t 28,.c (.int .i64 10),.t 30]]
def c1H:=Rg [] [nP 42 0,fP 43 0 (.v 4),oP 44 (.ldSt false 1) [.t 43],oP 45 (.call 90) [.t 42,.c (.int .i64 13),.t 44]]
def e4R:=Ts [] [nP 32 0,nP 33 1,nP 34 5,oP 35 (.iad 11) [.t 33,.t 34],fP 36 2 (.t 35),oP 37 (.ldRo true 3) [.t 36],fP 38 1 (.v 4),oP 39 (.ldSt true 5) [.t 38],oP 40 (.call 253) [.t 32,.t 37,.t 39],oP 41 (.un .not) [.t 40]] (.t 41) c1H .skip
def c5h:=Ts [] [nP 26 5,bP 27 .lss (.t 26) (.c (.int .i64 0))] (.t 27) c3B e4R
def d1S:=Sq d73 c5h
def d6x:=Sq h1f d1S
def e9w:=Bk 1 d6x
def f1k:=Rg [] [bP 46 .add (.v 9) (.c (.int .i64 1)),vP 9 (.t 46)]
def c8o:=Sq e9w f1k
def d6t:=Sq f7h c8o
def e2J:=Lp d6t
def d6r:=Bk 0 e2J
def e9Y:=Sq i7K d6r
def f0n:=Rg [] [vP 10 (.v 1),op (.v 11) .lenL [.v 10],vP 12 (.c (.int .i64 0))]
def e83:=Ts [] [bP 50 .lss (.v 12) (.v 11)] (.t 50) .skip (.exit 2)
def c4h:=Rg [6] [oP 51 (.iad 11) [.v 10,.v 12],oP 52 (.ldRo true 11) [.t 51],⟨.bx,.alloc [.str [],.list true [],.str [],.list true [],.bool false,.bool false,.int .u8 0,.int .i64 0,.str [],.list true [],.list true []],[],some 6,none⟩,xP (.stLc 6 11) [.l 6,.ts 52] 6]
def e3d:=Rg [] [nP 68 0,fP 69 0 (.l 6),lP 70 6 false 1 (.t 69),oP 71 (.call 90) [.t 68,.c (.int .i64 12),.t 70]]
def c2X:=Ts [] [fP 53 2 (.l 6),fP 54 2 (.t 53),lP 55 6 false 1 (.t 54),mP 56 (.t 55),gP 57 (.fad 5) [.l 6] 56 true,⟨.t 58,.ldLc 6 false 1,[.t 57],some 6,some (.t 56,true)⟩,gP 59 (.un .not) [.t 58] 56 true,oP 60 .pick [.t 56,.t 59,.c (.bool false)],mP 61 (.t 60),gP 62 .mv [.v 3] 61 true,gP 63 (.fad 0) [.l 6] 61 true,⟨.t 64,.ldLc 6 false 1,[.t 63],some 6,some (.t 61,true)⟩,gP 65 (.call 27) [.t 62,.t 64] 61 true,gP 66 (.un .not) [.t 65] 61 true,oP 67 .pick [.t 61,.t 66,.c (.bool false)]] (.t 67) e3d .skip
def d0D:=Sq c4h c2X
def e0d:=Bk 3 d0D
def c5L:=Rg [] [bP 72 .add (.v 12) (.c (.int .i64 1)),vP 12 (.t 72)]
def f0i:=Sq e0d c5L
def d6I:=Sq e83 f0i
def e13:=Lp d6I
def b7b:=Bk 2 e13
def e0Z:=Sq f0n b7b
def c9x:=Sq e9Y e0Z
def d4c:=Sq g21 c9x
def f1J:=Sq g92 d4c
def j6Y:ACode :=
  f1J
def j9G:AFn:={ np:=3,nv:=13,results:=[],code:=j6Y }

def f8V:=Rg [] [op (.v 2) .mv [.c (.list true [])]]
def f4s:=Rg [3] [nP 8 0,oP 9 .nilchk [.t 8],fP 10 0 (.t 9),oP 11 (.ldSt false 1) [.t 10],nP 12 1,oP 13 (.call 30) [.t 11,.t 12],mP 7 (.t 13),oP 14 (.ext 0) [.t 7],oP 15 (.ext 1) [.t 7],⟨.bx,.alloc [.int .u8 0,.str [],.list true [],.list true []],[],some 3,none⟩,xP (.stLc 3 4) [.l 3,.ts 14] 3,vP 4 (.t 15)]
def h2V:=Rg [] [nP 22 1,oP 23 (.bslice 1 [[.str []]] [0]) [.t 22],vP 2 (.ts 23)]
def g41:=Sq h2V .ret
def h0l:=Ts [] [nP 16 4,mP 17 (.t 16),gP 18 (.fad 0) [.l 3] 17 true,⟨.t 19,.ldLc 3 false 1,[.t 18],some 3,some (.t 17,true)⟩,gP 20 (.bin .eql) [.t 19,.c (.int .u8 1)] 17 true,oP 21 .pick [.t 17,.t 20,.c (.bool false)]] (.t 21) g41 .skip
def h4t:=Sq f4s h0l
def c37:=Rg [] [nP 24 0,oP 25 .nilchk [.t 24],fP 26 0 (.t 25),oP 27 (.ldSt false 1) [.t 26],nP 28 1,oP 29 (.call 230) [.t 27,.t 28],vP 2 (.ts 29)]
def d7F:=Sq c37 .ret
def c7K:=Sq h4t d7F
def c61:=Sq f8V c7K
def j8m:ACode :=
  c61
def k31:AFn:={ np:=2,nv:=5,results:=[.v 2],code:=j8m }

def h0Y:=Rg [] [vP 2 (.c (.bool false))]
def f5L:=Rg [] [nP 5 0,nP 6 1,oP 7 (.call 254) [.t 5,.t 6],bP 8 .geq (.t 7) (.c (.int .i64 0)),vP 2 (.t 8)]
def g4t:=Sq f5L .ret
def h7V:=Sq h0Y g4t
def j2V:ACode :=
  h7V
def k2f:AFn:={ np:=2,nv:=3,results:=[.v 2],code:=j2V }

def h5N:=Rg [] [vP 2 (.c (.bool false))]
def h3q:=Rg [] [oP 4 (.ldSt false 1) [.v 1],nP 5 0,oP 6 (.call 27) [.t 4,.t 5],vP 2 (.t 6)]
def g8q:=Sq h3q .ret
def g6h:=Sq h5N g8q
def j6x:ACode :=
  g6h
def a212:AFn:={ np:=2,nv:=3,results:=[.v 2],code:=j6x }

def h3U:=Rg [] [nP 10 1,bP 11 .add (.t 10) (.c (.int .i64 1)),vP 4 (.t 11)]
def h73:=Ts [] [nP 12 4,nP 13 2,bP 14 .lss (.t 12) (.t 13)] (.t 14) .skip (.exit 0)
def i6w:=Rg [] [nP 17 4,vP 5 (.t 17)]
def f5y:=Ts [] [nP 18 5,nP 19 1,bP 20 .gtr (.t 18) (.t 19),mP 21 (.t 20),gP 22 .mv [.v 3] 21 true,gP 23 .mv [.v 0] 21 true,gP 24 .mv [.v 5] 21 true,gP 25 (.iad 2) [.t 23,.t 24] 21 true,gP 26 (.ldAn true 2) [.t 25] 21 true,gP 27 .mv [.v 0] 21 true,gP 28 .mv [.v 5] 21 true,gP 29 (.bin .sub) [.t 28,.c (.int .i64 1)] 21 true,gP 30 (.iad 2) [.t 27,.t 29] 21 true,gP 31 (.ldAn true 2) [.t 30] 21 true,gP 32 .callV [.t 22,.t 26,.t 31] 21 true,gP 33 (.bin .lss) [.t 32,.c (.int .i64 0)] 21 true,oP 34 .pick [.t 21,.t 33,.c (.bool false)]] (.t 34) .skip (.exit 2)
def g78:=Rg [] [nP 37 0,nP 38 5,nP 39 0,nP 40 5,bP 41 .sub (.t 40) (.c (.int .i64 1)),nP 42 0,nP 43 5,bP 44 .sub (.t 43) (.c (.int .i64 1)),oP 45 (.iad 2) [.t 42,.t 44],oP 46 (.ldAn true 2) [.t 45],nP 47 0,nP 48 5,oP 49 (.iad 2) [.t 47,.t 48],oP 50 (.ldAn true 2) [.t 49],oP 51 (.iad 2) [.t 37,.t 38],op .none (.stSt 2) [.t 51,.t 46],oP 52 (.iad 2) [.t 39,.t 41],op .none (.stSt 2) [.t 52,.t 50]]
def c8T:=Bk 3 g78
def c4U:=Rg [] [nP 35 5,bP 36 .sub (.t 35) (.c (.int .i64 1)),vP 5 (.t 36)]
def e7b:=Sq c8T c4U
def e63:=Sq f5y e7b
def e7z:=Lp e63
def e1t:=Bk 2 e7z
def e8q:=Sq i6w e1t
def d4D:=Bk 1 e8q
def d0T:=Rg [] [nP 15 4,bP 16 .add (.t 15) (.c (.int .i64 1)),vP 4 (.t 16)]
def d0Z:=Sq d4D d0T
def c6R:=Sq h73 d0Z
def f18:=Lp c6R
def d7e:=Bk 0 f18
def f1t:=Sq h3U d7e
def j8a:ACode :=
  f1t
def a213:AFn:={ np:=4,nv:=6,results:=[],code:=j8a }

def f8G:=Rg [] [nP 13 1,vP 4 (.t 13)]
def f8a:=Rg [] [vP 5 (.c (.int .i64 0))]
def h3n:=Rg [] [nP 14 2,nP 15 1,bP 16 .sub (.t 14) (.t 15),vP 6 (.t 16)]
def i3S:=Rg [] [nP 17 6,bP 18 .sub (.t 17) (.c (.int .i64 1)),bP 19 .quo (.t 18) (.c (.int .i64 2)),vP 7 (.t 19)]
def i7Y:=Ts [] [nP 20 7,bP 21 .geq (.t 20) (.c (.int .i64 0))] (.t 21) .skip (.exit 0)
def b8m:=Rg [] [nP 24 0,nP 25 7,nP 26 6,nP 27 4,nP 28 3,oP 29 (.call 255) [.t 24,.t 25,.t 26,.t 27,.t 28]]
def c1s:=Bk 1 b8m
def d8L:=Rg [] [nP 22 7,bP 23 .sub (.t 22) (.c (.int .i64 1)),vP 7 (.t 23)]
def e0F:=Sq c1s d8L
def b8I:=Sq i7Y e0F
def c7v:=Lp b8I
def e8w:=Bk 0 c7v
def e46:=Sq i3S e8w
def b6l:=Rg [] [nP 30 6,bP 31 .sub (.t 30) (.c (.int .i64 1)),vP 8 (.t 31)]
def b8t:=Ts [] [nP 32 8,bP 33 .geq (.t 32) (.c (.int .i64 0))] (.t 33) .skip (.exit 2)
def d5a:=Rg [] [nP 36 0,nP 37 4,nP 38 0,nP 39 4,nP 40 8,bP 41 .add (.t 39) (.t 40),nP 42 0,nP 43 4,nP 44 8,bP 45 .add (.t 43) (.t 44),oP 46 (.iad 2) [.t 42,.t 45],oP 47 (.ldAn true 2) [.t 46],nP 48 0,nP 49 4,oP 50 (.iad 2) [.t 48,.t 49],oP 51 (.ldAn true 2) [.t 50],oP 52 (.iad 2) [.t 36,.t 37],op .none (.stSt 2) [.t 52,.t 47],oP 53 (.iad 2) [.t 38,.t 41],op .none (.stSt 2) [.t 53,.t 51]]
def c6E:=Rg [] [nP 54 0,nP 55 5,nP 56 8,nP 57 4,nP 58 3,oP 59 (.call 255) [.t 54,.t 55,.t 56,.t 57,.t 58]]
def b9V:=Sq d5a c6E
def c95:=Bk 3 b9V
def e3f:=Rg [] [nP 34 8,bP 35 .sub (.t 34) (.c (.int .i64 1)),vP 8 (.t 35)]
def c5s:=Sq c95 e3f
def e0l:=Sq b8t c5s
def d28:=Lp e0l
def c6B:=Bk 2 d28
def c8E:=Sq b6l c6B
def b6R:=Sq e46 c8E
def c3A:=Sq h3n b6R
def c43:=Sq f8a c3A
def e3C:=Sq f8G c43
def j43:ACode :=
  e3C
def k2J:AFn:={ np:=4,nv:=9,results:=[],code:=j43 }

def h1s:=Rg [] [nP 13 2,nP 14 1,bP 15 .sub (.t 13) (.t 14),vP 4 (.t 15)]
def g0A:=Rg [] [nP 18 4,oP 19 (.conv .u64) [.t 18],op (.v 5) (.allocO [.int .u64 0]) [],op .none (.stSt 1) [.v 5,.t 19]]
def h6e:=Rg [] [nP 20 4,oP 21 (.call 256) [.t 20],vP 6 (.t 21)]
def g3y:=Rg [] [nP 22 1,nP 23 4,bP 24 .quo (.t 23) (.c (.int .i64 4)),bP 25 .mul (.t 24) (.c (.int .i64 2)),bP 26 .add (.t 22) (.t 25),bP 27 .sub (.t 26) (.c (.int .i64 1)),vP 7 (.t 27)]
def d0z:=Ts [] [nP 28 7,nP 29 1,nP 30 4,bP 31 .quo (.t 30) (.c (.int .i64 4)),bP 32 .mul (.t 31) (.c (.int .i64 2)),bP 33 .add (.t 29) (.t 32),bP 34 .add (.t 33) (.c (.int .i64 1)),bP 35 .leq (.t 28) (.t 34)] (.t 35) .skip (.exit 0)
def c2u:=Rg [] [oP 38 (.call 257) [.v 5],nP 39 6,bP 40 .sub (.t 39) (.c (.int .u64 1)),bP 41 .and (.t 38) (.t 40),oP 42 (.conv .i64) [.t 41],vP 8 (.t 42)]
def f12:=Rg [] [nP 46 8,nP 47 4,bP 48 .sub (.t 46) (.t 47),vP 8 (.t 48)]
def c6D:=Ts [] [nP 43 8,nP 44 4,bP 45 .geq (.t 43) (.t 44)] (.t 45) f12 .skip
def d5y:=Rg [] [nP 49 0,nP 50 7,nP 51 0,nP 52 1,nP 53 8,bP 54 .add (.t 52) (.t 53),nP 55 0,nP 56 1,nP 57 8,bP 58 .add (.t 56) (.t 57),oP 59 (.iad 2) [.t 55,.t 58],oP 60 (.ldAn true 2) [.t 59],nP 61 0,nP 62 7,oP 63 (.iad 2) [.t 61,.t 62],oP 64 (.ldAn true 2) [.t 63],oP 65 (.iad 2) [.t 49,.t 50],op .none (.stSt 2) [.t 65,.t 60],oP 66 (.iad 2) [.t 51,.t 54],op .none (.stSt 2) [.t 66,.t 64]]
def f0W:=Sq c6D d5y
def f0Z:=Sq c2u f0W
def c8b:=Bk 1 f0Z
def b66:=Rg [] [nP 36 7,bP 37 .add (.t 36) (.c (.int .i64 1)),vP 7 (.t 37)]
def e8L:=Sq c8b b66
def e6F:=Sq d0z e8L
def d7t:=Lp e6F
def c9s:=Bk 0 d7t
def d22:=Sq g3y c9s
def b9j:=Sq h6e d22
def c9V:=Sq g0A b9j
def e8R:=Ts [] [nP 16 4,bP 17 .geq (.t 16) (.c (.int .i64 8))] (.t 17) c9V .skip
def d8e:=Sq h1s e8R
def j9e:ACode :=
  d8e
def k1d:AFn:={ np:=4,nv:=9,results:=[],code:=j9e }

def f5B:=Rg [] [vP 4 (.c (.int .i64 0)),vP 5 (.c (.int .i64 0))]
def i5t:=Rg [] [nP 15 2,nP 16 1,bP 17 .sub (.t 15) (.t 16),vP 6 (.t 17)]
def g7Z:=Rg [] [op (.v 7) (.allocO [.int .i64 0]) []]
def f8s:=Rg [] [nP 18 1,nP 19 6,bP 20 .quo (.t 19) (.c (.int .i64 4)),bP 21 .mul (.t 20) (.c (.int .i64 1)),bP 22 .add (.t 18) (.t 21),vP 8 (.t 22)]
def f7H:=Rg [] [nP 23 1,nP 24 6,bP 25 .quo (.t 24) (.c (.int .i64 4)),bP 26 .mul (.t 25) (.c (.int .i64 2)),bP 27 .add (.t 23) (.t 26),vP 9 (.t 27)]
def e8m:=Rg [] [nP 28 1,nP 29 6,bP 30 .quo (.t 29) (.c (.int .i64 4)),bP 31 .mul (.t 30) (.c (.int .i64 3)),bP 32 .add (.t 28) (.t 31),vP 10 (.t 32)]
def e3u:=Rg [] [nP 37 0,nP 38 8,nP 39 3,oP 40 (.call 258) [.t 37,.t 38,.v 7,.t 39],vP 8 (.t 40)]
def e9D:=Rg [] [nP 41 0,nP 42 9,nP 43 3,oP 44 (.call 258) [.t 41,.t 42,.v 7,.t 43],vP 9 (.t 44)]
def e9p:=Rg [] [nP 45 0,nP 46 10,nP 47 3,oP 48 (.call 258) [.t 45,.t 46,.v 7,.t 47],vP 10 (.t 48)]
def c1M:=Sq e9D e9p
def b8r:=Sq e3u c1M
def e6s:=Ts [] [nP 35 6,bP 36 .geq (.t 35) (.c (.int .i64 50))] (.t 36) b8r .skip
def d9N:=Rg [] [nP 49 0,nP 50 8,nP 51 9,nP 52 10,nP 53 3,oP 54 (.call 259) [.t 49,.t 50,.t 51,.t 52,.v 7,.t 53],vP 9 (.t 54)]
def c2E:=Sq e6s d9N
def c90:=Ts [] [nP 33 6,bP 34 .geq (.t 33) (.c (.int .i64 8))] (.t 34) c2E .skip
def c5g:=Rg [] [op (.v 11) (.ldSt false 1) [.v 7]]
def b6y:=Rg [] [nP 59 9,vP 4 (.t 59),vP 5 (.c (.int .i64 1))]
def b7g:=Sq b6y .ret
def d70:=Rg [] [nP 62 9,vP 4 (.t 62),vP 5 (.c (.int .i64 2))]
def d7V:=Sq d70 .ret
def b8C:=Rg [] [nP 56 9,vP 4 (.t 56),vP 5 (.c (.int .i64 0))]
def c5C:=Sq b8C .ret
def c9G:=Ts [] [bP 61 .eql (.v 11) (.c (.int .i64 12)),mP 60 (.t 61)] (.t 60) d7V c5C
def d3s:=Ts [] [bP 58 .eql (.v 11) (.c (.int .i64 0)),mP 57 (.t 58)] (.t 57) b7g c9G
def d3q:=Bk 0 d3s
def e8G:=Sq c5g d3q
def b6d:=Sq c90 e8G
def e3J:=Sq e8m b6d
def d30:=Sq f7H e3J
def d1E:=Sq f8s d30
def e0J:=Sq g7Z d1E
def d6G:=Sq i5t e0J
def c3Y:=Sq f5B d6G
def j7E:ACode :=
  c3Y
def j97:AFn:={ np:=4,nv:=12,results:=[.v 4,.v 5],code:=j7E }

def h9t:=Rg [] [nP 10 1,vP 4 (.t 10)]
def f34:=Rg [] [nP 11 2,bP 12 .sub (.t 11) (.c (.int .i64 1)),vP 5 (.t 12)]
def g0N:=Ts [] [nP 13 4,nP 14 5,bP 15 .lss (.t 13) (.t 14)] (.t 15) .skip (.exit 0)
def g2I:=Rg [] [nP 16 0,nP 17 4,nP 18 0,nP 19 5,nP 20 0,nP 21 5,oP 22 (.iad 2) [.t 20,.t 21],oP 23 (.ldAn true 2) [.t 22],nP 24 0,nP 25 4,oP 26 (.iad 2) [.t 24,.t 25],oP 27 (.ldAn true 2) [.t 26],oP 28 (.iad 2) [.t 16,.t 17],op .none (.stSt 2) [.t 28,.t 23],oP 29 (.iad 2) [.t 18,.t 19],op .none (.stSt 2) [.t 29,.t 27]]
def i2x:=Rg [] [nP 30 4,bP 31 .add (.t 30) (.c (.int .i64 1)),vP 4 (.t 31)]
def e47:=Rg [] [nP 32 5,bP 33 .sub (.t 32) (.c (.int .i64 1)),vP 5 (.t 33)]
def e77:=Sq i2x e47
def f0d:=Sq g2I e77
def b74:=Bk 1 f0d
def e51:=Sq g0N b74
def c6u:=Lp e51
def e11:=Bk 0 c6u
def b93:=Sq f34 e11
def e19:=Sq h9t b93
def j4P:ACode :=
  e19
def k2z:AFn:={ np:=4,nv:=6,results:=[],code:=j4P }

def i7J:=Rg [] [vP 4 (.c (.bool false))]
def h7J:=Rg [] [nP 13 1,bP 14 .add (.t 13) (.c (.int .i64 1)),vP 5 (.t 14)]
def h0c:=Rg [] [vP 6 (.c (.int .i64 0))]
def f54:=Ts [] [nP 15 6,bP 16 .lss (.t 15) (.c (.int .i64 5))] (.t 16) .skip (.exit 0)
def i2M:=Ts [] [nP 19 5,nP 20 2,bP 21 .lss (.t 19) (.t 20),mP 22 (.t 21),gP 23 .mv [.v 3] 22 true,gP 24 .mv [.v 0] 22 true,gP 25 .mv [.v 5] 22 true,gP 26 (.iad 2) [.t 24,.t 25] 22 true,gP 27 (.ldAn true 2) [.t 26] 22 true,gP 28 .mv [.v 0] 22 true,gP 29 .mv [.v 5] 22 true,gP 30 (.bin .sub) [.t 29,.c (.int .i64 1)] 22 true,gP 31 (.iad 2) [.t 28,.t 30] 22 true,gP 32 (.ldAn true 2) [.t 31] 22 true,gP 33 .callV [.t 23,.t 27,.t 32] 22 true,gP 34 (.bin .lss) [.t 33,.c (.int .i64 0)] 22 true,gP 35 (.un .not) [.t 34] 22 true,oP 36 .pick [.t 22,.t 35,.c (.bool false)]] (.t 36) .skip (.exit 2)
def c3g:=Rg [] [nP 37 5,bP 38 .add (.t 37) (.c (.int .i64 1)),vP 5 (.t 38)]
def e7l:=Bk 3 c3g
def c4E:=Sq i2M e7l
def d2o:=Lp c4E
def c0k:=Bk 2 d2o
def e9m:=Rg [] [vP 4 (.c (.bool true))]
def e69:=Sq e9m .ret
def c7N:=Ts [] [nP 39 5,nP 40 2,bP 41 .eql (.t 39) (.t 40)] (.t 41) e69 .skip
def e4e:=Rg [] [vP 4 (.c (.bool false))]
def c4d:=Sq e4e .ret
def b8d:=Ts [] [nP 42 2,nP 43 1,bP 44 .sub (.t 42) (.t 43),bP 45 .lss (.t 44) (.c (.int .i64 50))] (.t 45) c4d .skip
def b8f:=Rg [] [nP 46 0,nP 47 5,nP 48 0,nP 49 5,bP 50 .sub (.t 49) (.c (.int .i64 1)),nP 51 0,nP 52 5,bP 53 .sub (.t 52) (.c (.int .i64 1)),oP 54 (.iad 2) [.t 51,.t 53],oP 55 (.ldAn true 2) [.t 54],nP 56 0,nP 57 5,oP 58 (.iad 2) [.t 56,.t 57],oP 59 (.ldAn true 2) [.t 58],oP 60 (.iad 2) [.t 46,.t 47],op .none (.stSt 2) [.t 60,.t 55],oP 61 (.iad 2) [.t 48,.t 50],op .none (.stSt 2) [.t 61,.t 59]]
def e5P:=Rg [] [nP 66 5,bP 67 .sub (.t 66) (.c (.int .i64 1)),vP 7 (.t 67)]
def c2o:=Ts [] [nP 68 7,bP 69 .geq (.t 68) (.c (.int .i64 1))] (.t 69) .skip (.exit 4)
def d2m:=Ts [] [nP 72 3,nP 73 0,nP 74 7,oP 75 (.iad 2) [.t 73,.t 74],oP 76 (.ldAn true 2) [.t 75],nP 77 0,nP 78 7,bP 79 .sub (.t 78) (.c (.int .i64 1)),oP 80 (.iad 2) [.t 77,.t 79],oP 81 (.ldAn true 2) [.t 80],oP 82 .callV [.t 72,.t 76,.t 81],bP 83 .lss (.t 82) (.c (.int .i64 0)),oP 84 (.un .not) [.t 83]] (.t 84) (.exit 4) .skip
def d1R:=Rg [] [nP 85 0,nP 86 7,nP 87 0,nP 88 7,bP 89 .sub (.t 88) (.c (.int .i64 1)),nP 90 0,nP 91 7,bP 92 .sub (.t 91) (.c (.int .i64 1)),oP 93 (.iad 2) [.t 90,.t 92],oP 94 (.ldAn true 2) [.t 93],nP 95 0,nP 96 7,oP 97 (.iad 2) [.t 95,.t 96],oP 98 (.ldAn true 2) [.t 97],oP 99 (.iad 2) [.t 85,.t 86],op .none (.stSt 2) [.t 99,.t 94],oP 100 (.iad 2) [.t 87,.t 89],op .none (.stSt 2) [.t 100,.t 98]]
def e34:=Sq d2m d1R
def b99:=Bk 5 e34
def b6j:=Rg [] [nP 70 7,bP 71 .sub (.t 70) (.c (.int .i64 1)),vP 7 (.t 71)]
def d2r:=Sq b99 b6j
def d8Z:=Sq c2o d2r
def d2q:=Lp d8Z
def e0G:=Bk 4 d2q
def f1V:=Sq e5P e0G
def d74:=Ts [] [nP 62 5,nP 63 1,bP 64 .sub (.t 62) (.t 63),bP 65 .geq (.t 64) (.c (.int .i64 2))] (.t 65) f1V .skip
def d6X:=Rg [] [nP 105 5,bP 106 .add (.t 105) (.c (.int .i64 1)),vP 8 (.t 106)]
def e5w:=Ts [] [nP 107 8,nP 108 2,bP 109 .lss (.t 107) (.t 108)] (.t 109) .skip (.exit 6)
def f0y:=Ts [] [nP 112 3,nP 113 0,nP 114 8,oP 115 (.iad 2) [.t 113,.t 114],oP 116 (.ldAn true 2) [.t 115],nP 117 0,nP 118 8,bP 119 .sub (.t 118) (.c (.int .i64 1)),oP 120 (.iad 2) [.t 117,.t 119],oP 121 (.ldAn true 2) [.t 120],oP 122 .callV [.t 112,.t 116,.t 121],bP 123 .lss (.t 122) (.c (.int .i64 0)),oP 124 (.un .not) [.t 123]] (.t 124) (.exit 6) .skip
def e9c:=Rg [] [nP 125 0,nP 126 8,nP 127 0,nP 128 8,bP 129 .sub (.t 128) (.c (.int .i64 1)),nP 130 0,nP 131 8,bP 132 .sub (.t 131) (.c (.int .i64 1)),oP 133 (.iad 2) [.t 130,.t 132],oP 134 (.ldAn true 2) [.t 133],nP 135 0,nP 136 8,oP 137 (.iad 2) [.t 135,.t 136],oP 138 (.ldAn true 2) [.t 137],oP 139 (.iad 2) [.t 125,.t 126],op .none (.stSt 2) [.t 139,.t 134],oP 140 (.iad 2) [.t 127,.t 129],op .none (.stSt 2) [.t 140,.t 138]]
def e1U:=Sq f0y e9c
def e97:=Bk 7 e1U
def d0d:=Rg [] [nP 110 8,bP 111 .add (.t 110) (.c (.int .i64 1)),vP 8 (.t 111)]
def b7q:=Sq e97 d0d
def d1j:=Sq e5w b7q
def d41:=Lp d1j
def c34:=Bk 6 d41
def c6c:=Sq d6X c34
def c99:=Ts [] [nP 101 2,nP 102 5,bP 103 .sub (.t 101) (.t 102),bP 104 .geq (.t 103) (.c (.int .i64 2))] (.t 104) c6c .skip
def d27:=Sq d74 c99
def e1y:=Sq b8f d27
def e84:=Sq b8d e1y
def c1Y:=Sq c7N e84
def d4u:=Sq c0k c1Y
def c41:=Bk 1 d4u
def d7f:=Rg [] [nP 17 6,bP 18 .add (.t 17) (.c (.int .i64 1)),vP 6 (.t 18)]
def c0G:=Sq c41 d7f
def c8g:=Sq f54 c0G
def b90:=Lp c8g
def b6n:=Bk 0 b90
def e0b:=Sq h0c b6n
def f0u:=Rg [] [vP 4 (.c (.bool false))]
def e1h:=Sq f0u .ret
def b61:=Sq e0b e1h
def d52:=Sq h7J b61
def d7b:=Sq i7J d52
def j4l:ACode :=
  d7b
def k3w:AFn:={ np:=4,nv:=9,results:=[.v 4],code:=j4l }

def f3E:=Rg [] [vP 5 (.c (.int .i64 0))]
def i3V:=Rg [] [nP 13 0,nP 14 1,nP 15 0,nP 16 3,nP 17 0,nP 18 3,oP 19 (.iad 2) [.t 17,.t 18],oP 20 (.ldAn true 2) [.t 19],nP 21 0,nP 22 1,oP 23 (.iad 2) [.t 21,.t 22],oP 24 (.ldAn true 2) [.t 23],oP 25 (.iad 2) [.t 13,.t 14],op .none (.stSt 2) [.t 25,.t 20],oP 26 (.iad 2) [.t 15,.t 16],op .none (.stSt 2) [.t 26,.t 24]]
def h6W:=Rg [] [nP 27 1,bP 28 .add (.t 27) (.c (.int .i64 1)),nP 29 2,bP 30 .sub (.t 29) (.c (.int .i64 1)),vP 6 (.t 28),vP 7 (.t 30)]
def f4Z:=Ts [] [nP 31 6,nP 32 7,bP 33 .leq (.t 31) (.t 32),mP 34 (.t 33),gP 35 .mv [.v 4] 34 true,gP 36 .mv [.v 0] 34 true,gP 37 .mv [.v 1] 34 true,gP 38 (.iad 2) [.t 36,.t 37] 34 true,gP 39 (.ldAn true 2) [.t 38] 34 true,gP 40 .mv [.v 0] 34 true,gP 41 .mv [.v 6] 34 true,gP 42 (.iad 2) [.t 40,.t 41] 34 true,gP 43 (.ldAn true 2) [.t 42] 34 true,gP 44 .callV [.t 35,.t 39,.t 43] 34 true,gP 45 (.bin .lss) [.t 44,.c (.int .i64 0)] 34 true,gP 46 (.un .not) [.t 45] 34 true,oP 47 .pick [.t 34,.t 46,.c (.bool false)]] (.t 47) .skip (.exit 2)
def i7z:=Rg [] [nP 48 6,bP 49 .add (.t 48) (.c (.int .i64 1)),vP 6 (.t 49)]
def e64:=Bk 3 i7z
def d6n:=Sq f4Z e64
def c69:=Lp d6n
def c7J:=Bk 2 c69
def b8s:=Ts [] [nP 50 6,nP 51 7,bP 52 .leq (.t 50) (.t 51),mP 53 (.t 52),gP 54 .mv [.v 4] 53 true,gP 55 .mv [.v 0] 53 true,gP 56 .mv [.v 1] 53 true,gP 57 (.iad 2) [.t 55,.t 56] 53 true,gP 58 (.ldAn true 2) [.t 57] 53 true,gP 59 .mv [.v 0] 53 true,gP 60 .mv [.v 7] 53 true,gP 61 (.iad 2) [.t 59,.t 60] 53 true,gP 62 (.ldAn true 2) [.t 61] 53 true,gP 63 .callV [.t 54,.t 58,.t 62] 53 true,gP 64 (.bin .lss) [.t 63,.c (.int .i64 0)] 53 true,oP 65 .pick [.t 53,.t 64,.c (.bool false)]] (.t 65) .skip (.exit 4)
def b9G:=Rg [] [nP 66 7,bP 67 .sub (.t 66) (.c (.int .i64 1)),vP 7 (.t 67)]
def c1V:=Bk 5 b9G
def d0S:=Sq b8s c1V
def c88:=Lp d0S
def d9E:=Bk 4 c88
def c6U:=Ts [] [nP 68 6,nP 69 7,bP 70 .gtr (.t 68) (.t 69)] (.t 70) (.exit 0) .skip
def e1I:=Rg [] [nP 71 0,nP 72 6,nP 73 0,nP 74 7,nP 75 0,nP 76 7,oP 77 (.iad 2) [.t 75,.t 76],oP 78 (.ldAn true 2) [.t 77],nP 79 0,nP 80 6,oP 81 (.iad 2) [.t 79,.t 80],oP 82 (.ldAn true 2) [.t 81],oP 83 (.iad 2) [.t 71,.t 72],op .none (.stSt 2) [.t 83,.t 78],oP 84 (.iad 2) [.t 73,.t 74],op .none (.stSt 2) [.t 84,.t 82]]
def e3p:=Rg [] [nP 85 6,bP 86 .add (.t 85) (.c (.int .i64 1)),vP 6 (.t 86)]
def b7H:=Rg [] [nP 87 7,bP 88 .sub (.t 87) (.c (.int .i64 1)),vP 7 (.t 88)]
def c1e:=Sq e3p b7H
def f0r:=Sq e1I c1e
def c8N:=Sq c6U f0r
def f1H:=Sq d9E c8N
def b7A:=Sq c7J f1H
def e10:=Bk 1 b7A
def e5L:=Lp e10
def b6e:=Bk 0 e5L
def c42:=Rg [] [nP 89 6,vP 5 (.t 89)]
def c7l:=Sq c42 .ret
def c1p:=Sq b6e c7l
def c5k:=Sq h6W c1p
def c1y:=Sq i3V c5k
def b9g:=Sq f3E c1y
def j73:ACode :=
  b9g
def k26:AFn:={ np:=5,nv:=8,results:=[.v 5],code:=j73 }

def i6n:=Rg [] [vP 5 (.c (.int .i64 0)),vP 6 (.c (.bool false))]
def h3S:=Rg [] [nP 14 0,nP 15 1,nP 16 0,nP 17 3,nP 18 0,nP 19 3,oP 20 (.iad 2) [.t 18,.t 19],oP 21 (.ldAn true 2) [.t 20],nP 22 0,nP 23 1,oP 24 (.iad 2) [.t 22,.t 23],oP 25 (.ldAn true 2) [.t 24],oP 26 (.iad 2) [.t 14,.t 15],op .none (.stSt 2) [.t 26,.t 21],oP 27 (.iad 2) [.t 16,.t 17],op .none (.stSt 2) [.t 27,.t 25]]
def f85:=Rg [] [nP 28 1,bP 29 .add (.t 28) (.c (.int .i64 1)),nP 30 2,bP 31 .sub (.t 30) (.c (.int .i64 1)),vP 7 (.t 29),vP 8 (.t 31)]
def h8L:=Ts [] [nP 32 7,nP 33 8,bP 34 .leq (.t 32) (.t 33),mP 35 (.t 34),gP 36 .mv [.v 4] 35 true,gP 37 .mv [.v 0] 35 true,gP 38 .mv [.v 7] 35 true,gP 39 (.iad 2) [.t 37,.t 38] 35 true,gP 40 (.ldAn true 2) [.t 39] 35 true,gP 41 .mv [.v 0] 35 true,gP 42 .mv [.v 1] 35 true,gP 43 (.iad 2) [.t 41,.t 42] 35 true,gP 44 (.ldAn true 2) [.t 43] 35 true,gP 45 .callV [.t 36,.t 40,.t 44] 35 true,gP 46 (.bin .lss) [.t 45,.c (.int .i64 0)] 35 true,oP 47 .pick [.t 35,.t 46,.c (.bool false)]] (.t 47) .skip (.exit 0)
def h8S:=Rg [] [nP 48 7,bP 49 .add (.t 48) (.c (.int .i64 1)),vP 7 (.t 49)]
def c3k:=Bk 1 h8S
def c2v:=Sq h8L c3k
def e32:=Lp c2v
def d32:=Bk 0 e32
def b9n:=Ts [] [nP 50 7,nP 51 8,bP 52 .leq (.t 50) (.t 51),mP 53 (.t 52),gP 54 .mv [.v 4] 53 true,gP 55 .mv [.v 0] 53 true,gP 56 .mv [.v 8] 53 true,gP 57 (.iad 2) [.t 55,.t 56] 53 true,gP 58 (.ldAn true 2) [.t 57] 53 true,gP 59 .mv [.v 0] 53 true,gP 60 .mv [.v 1] 53 true,gP 61 (.iad 2) [.t 59,.t 60] 53 true,gP 62 (.ldAn true 2) [.t 61] 53 true,gP 63 .callV [.t 54,.t 58,.t 62] 53 true,gP 64 (.bin .lss) [.t 63,.c (.int .i64 0)] 53 true,gP 65 (.un .not) [.t 64] 53 true,oP 66 .pick [.t 53,.t 65,.c (.bool false)]] (.t 66) .skip (.exit 2)
def e0K:=Rg [] [nP 67 8,bP 68 .sub (.t 67) (.c (.int .i64 1)),vP 8 (.t 68)]
def d4H:=Bk 3 e0K
def e4p:=Sq b9n d4H
def b7a:=Lp e4p
def c8M:=Bk 2 b7a
def e1F:=Rg [] [nP 72 0,nP 73 8,nP 74 0,nP 75 1,nP 76 0,nP 77 1,oP 78 (.iad 2) [.t 76,.t 77],oP 79 (.ldAn true 2) [.t 78],nP 80 0,nP 81 8,oP 82 (.iad 2) [.t 80,.t 81],oP 83 (.ldAn true 2) [.t 82],oP 84 (.iad 2) [.t 72,.t 73],op .none (.stSt 2) [.t 84,.t 79],oP 85 (.iad 2) [.t 74,.t 75],op .none (.stSt 2) [.t 85,.t 83]]
def d5b:=Rg [] [nP 86 8,vP 5 (.t 86),vP 6 (.c (.bool true))]
def e6K:=Sq d5b .ret
def b63:=Sq e1F e6K
def f0t:=Ts [] [nP 69 7,nP 70 8,bP 71 .gtr (.t 69) (.t 70)] (.t 71) b63 .skip
def e5d:=Rg [] [nP 87 0,nP 88 7,nP 89 0,nP 90 8,nP 91 0,nP 92 8,oP 93 (.iad 2) [.t 91,.t 92],oP 94 (.ldAn true 2) [.t 93],nP 95 0,nP 96 7,oP 97 (.iad 2) [.t 95,.t 96],oP 98 (.ldAn true 2) [.t 97],oP 99 (.iad 2) [.t 87,.t 88],op .none (.stSt 2) [.t 99,.t 94],oP 100 (.iad 2) [.t 89,.t 90],op .none (.stSt 2) [.t 100,.t 98]]
def b8A:=Rg [] [nP 101 7,bP 102 .add (.t 101) (.c (.int .i64 1)),vP 7 (.t 102)]
def d94:=Rg [] [nP 103 8,bP 104 .sub (.t 103) (.c (.int .i64 1)),vP 8 (.t 104)]
def e3H:=Ts [] [nP 105 7,nP 106 8,bP 107 .leq (.t 105) (.t 106),mP 108 (.t 107),gP 109 .mv [.v 4] 108 true,gP 110 .mv [.v 0] 108 true,gP 111 .mv [.v 7] 108 true,gP 112 (.iad 2) [.t 110,.t 111] 108 true,gP 113 (.ldAn true 2) [.t 112] 108 true,gP 114 .mv [.v 0] 108 true,gP 115 .mv [.v 1] 108 true,gP 116 (.iad 2) [.t 114,.t 115] 108 true,gP 117 (.ldAn true 2) [.t 116] 108 true,gP 118 .callV [.t 109,.t 113,.t 117] 108 true,gP 119 (.bin .lss) [.t 118,.c (.int .i64 0)] 108 true,oP 120 .pick [.t 108,.t 119,.c (.bool false)]] (.t 120) .skip (.exit 6)
def d57:=Rg [] [nP 121 7,bP 122 .add (.t 121) (.c (.int .i64 1)),vP 7 (.t 122)]
def e4J:=Bk 7 d57
def e5R:=Sq e3H e4J
def e8c:=Lp e5R
def c5l:=Bk 6 e8c
def e5T:=Ts [] [nP 123 7,nP 124 8,bP 125 .leq (.t 123) (.t 124),mP 126 (.t 125),gP 127 .mv [.v 4] 126 true,gP 128 .mv [.v 0] 126 true,gP 129 .mv [.v 8] 126 true,gP 130 (.iad 2) [.t 128,.t 129] 126 true,gP 131 (.ldAn true 2) [.t 130] 126 true,gP 132 .mv [.v 0] 126 true,gP 133 .mv [.v 1] 126 true,gP 134 (.iad 2) [.t 132,.t 133] 126 true,gP 135 (.ldAn true 2) [.t 134] 126 true,gP 136 .callV [.t 127,.t 131,.t 135] 126 true,gP 137 (.bin .lss) [.t 136,.c (.int .i64 0)] 126 true,gP 138 (.un .not) [.t 137] 126 true,oP 139 .pick [.t 126,.t 138,.c (.bool false)]] (.t 139) .skip (.exit 8)
def d1K:=Rg [] [nP 140 8,bP 141 .sub (.t 140) (.c (.int .i64 1)),vP 8 (.t 141)]
def c44:=Bk 9 d1K
def d2s:=Sq e5T c44
def e5o:=Lp d2s
def c9W:=Bk 8 e5o
def d2F:=Ts [] [nP 142 7,nP 143 8,bP 144 .gtr (.t 142) (.t 143)] (.t 144) (.exit 4) .skip
def c8Y:=Rg [] [nP 145 0,nP 146 7,nP 147 0,nP 148 8,nP 149 0,nP 150 8,oP 151 (.iad 2) [.t 149,.t 150],oP 152 (.ldAn true 2) [.t 151],nP 153 0,nP 154 7,oP 155 (.iad 2) [.t 153,.t 154],oP 156 (.ldAn true 2) [.t 155],oP 157 (.iad 2) [.t 145,.t 146],op .none (.stSt 2) [.t 157,.t 152],oP 158 (.iad 2) [.t 147,.t 148],op .none (.stSt 2) [.t 158,.t 156]]
def e61:=Rg [] [nP 159 7,bP 160 .add (.t 159) (.c (.int .i64 1)),vP 7 (.t 160)]
def e60:=Rg [] [nP 161 8,bP 162 .sub (.t 161) (.c (.int .i64 1)),vP 8 (.t 162)]
def d31:=Sq e61 e60
def b8L:=Sq c8Y d31
def b95:=Sq d2F b8L
def c3O:=Sq c9W b95
def d4B:=Sq c5l c3O
def e6C:=Bk 5 d4B
def c2Y:=Lp e6C
def c3j:=Bk 4 c2Y
def d8a:=Rg [] [nP 163 0,nP 164 8,nP 165 0,nP 166 1,nP 167 0,nP 168 1,oP 169 (.iad 2) [.t 167,.t 168],oP 170 (.ldAn true 2) [.t 169],nP 171 0,nP 172 8,oP 173 (.iad 2) [.t 171,.t 172],oP 174 (.ldAn true 2) [.t 173],oP 175 (.iad 2) [.t 163,.t 164],op .none (.stSt 2) [.t 175,.t 170],oP 176 (.iad 2) [.t 165,.t 166],op .none (.stSt 2) [.t 176,.t 174]]
def d97:=Rg [] [nP 177 8,vP 5 (.t 177),vP 6 (.c (.bool false))]
def d91:=Sq d97 .ret
def b9Q:=Sq d8a d91
def d1u:=Sq c3j b9Q
def e7F:=Sq d94 d1u
def c1l:=Sq b8A e7F
def c8C:=Sq e5d c1l
def e2v:=Sq f0t c8C
def e04:=Sq c8M e2v
def c4x:=Sq d32 e04
def e7E:=Sq f85 c4x
def e8z:=Sq h3S e7E
def c4u:=Sq i6n e8z
def j4n:ACode :=
  c4u
def k2Z:AFn:={ np:=5,nv:=9,results:=[.v 5,.v 6],code:=j4n }

def g6H:=Rg [] [vP 1 (.c (.int .i64 0))]
def i49:=Rg [] [nP 5 0,bP 6 .shr (.t 5) (.c (.int .u64 16)),vP 0 (.t 6)]
def h04:=Rg [] [vP 1 (.c (.int .i64 16))]
def f4E:=Sq i49 h04
def i0u:=Ts [] [nP 3 0,bP 4 .geq (.t 3) (.c (.int .u32 65536))] (.t 4) f4E .skip
def c8Z:=Rg [] [nP 9 0,bP 10 .shr (.t 9) (.c (.int .u64 8)),vP 0 (.t 10)]
def d8J:=Rg [] [nP 11 1,bP 12 .add (.t 11) (.c (.int .i64 8)),vP 1 (.t 12)]
def c5c:=Sq c8Z d8J
def f04:=Ts [] [nP 7 0,bP 8 .geq (.t 7) (.c (.int .u32 256))] (.t 8) c5c .skip
def b9c:=Rg [] [nP 13 1,nP 14 0,oP 15 (.conv .u8) [.t 14],oP 16 .idxS [.c (.str [0,1,2,2,3,3,3,3,4,4,4,4,4,4,4,4,5,5,5,5,5,5,5,5,5,5,5,5,5,5,5,5,6,6,6,6,6,6,6,6,6,6,6,6,6,6,6,6,6,6,6,6,6,6,6,6,6,6,6,6,6,6,6,6,7,7,7,7,7,7,7,7,7,7,7,7,7,7,7,7,7,7,7,7,7,7,7,7,7,7,7,7,7,7,7,7,7,7,7,7,7,7,7,7,7,7,7,7,7,7,7,7,7,7,7,7,7,7,7,7,7,7,7,7,7,7,7,7,8,8,8,8,8,8,8,8,8,8,8,8,8,8,8,8,8,8,8,8,8,8,8,8,8,8,8,8,8,8,8,8,8,8,8,8,8,8,8,8,8,8,8,8,8,8,8,8,8,8,8,8,8,8,8,8,8,8,8,8,8,8,8,8,8,8,8,8,8,8,8,8,8,8,8,8,8,8,8,8,8,8,8,8,8,8,8,8,8,8,8,8,8,8,8,8,8,8,8,8,8,8,8,8,8,8,8,8,8,8,8,8,8,8,8,8,8,8,8,8,8,8,8,8,8,8,8,8]),.t 15],oP 17 (.conv .i64) [.t 16],bP 18 .add (.t 13) (.t 17),vP 1 (.t 18)]
def c89:=Sq b9c .ret
def e5W:=Sq f04 c89
def f0e:=Sq i0u e5W
def e6H:=Sq g6H f0e
def j9g:ACode :=
  e6H
def k1F:AFn:={ np:=1,nv:=2,results:=[.v 1],code:=j9g }

def g01:=Rg [] [vP 1 (.c (.int .i64 0))]
def i7G:=Rg [] [nP 5 0,bP 6 .shr (.t 5) (.c (.int .u64 32)),vP 0 (.t 6)]
def i4a:=Rg [] [vP 1 (.c (.int .i64 32))]
def h1Z:=Sq i7G i4a
def h8s:=Ts [] [nP 3 0,bP 4 .geq (.t 3) (.c (.int .u64 4294967296))] (.t 4) h1Z .skip
def d8C:=Rg [] [nP 9 0,bP 10 .shr (.t 9) (.c (.int .u64 16)),vP 0 (.t 10)]
def e0a:=Rg [] [nP 11 1,bP 12 .add (.t 11) (.c (.int .i64 16)),vP 1 (.t 12)]
def c4t:=Sq d8C e0a
def d6o:=Ts [] [nP 7 0,bP 8 .geq (.t 7) (.c (.int .u64 65536))] (.t 8) c4t .skip
def c9f:=Rg [] [nP 15 0,bP 16 .shr (.t 15) (.c (.int .u64 8)),vP 0 (.t 16)]
def f1S:=Rg [] [nP 17 1,bP 18 .add (.t 17) (.c (.int .i64 8)),vP 1 (.t 18)]
def f0f:=Sq c9f f1S
def e5q:=Ts [] [nP 13 0,bP 14 .geq (.t 13) (.c (.int .u64 256))] (.t 14) f0f .skip
def e6m:=Rg [] [nP 19 1,nP 20 0,oP 21 (.conv .u8) [.t 20],oP 22 .idxS [.c (.str [0,1,2,2,3,3,3,3,4,4,4,4,4,4,4,4,5,5,5,5,5,5,5,5,5,5,5,5,5,5,5,5,6,6,6,6,6,6,6,6,6,6,6,6,6,6,6,6,6,6,6,6,6,6,6,6,6,6,6,6,6,6,6,6,7,7,7,7,7,7,7,7,7,7,7,7,7,7,7,7,7,7,7,7,7,7,7,7,7,7,7,7,7,7,7,7,7,7,7,7,7,7,7,7,7,7,7,7,7,7,7,7,7,7,7,7,7,7,7,7,7,7,7,7,7,7,7,7,8,8,8,8,8,8,8,8,8,8,8,8,8,8,8,8,8,8,8,8,8,8,8,8,8,8,8,8,8,8,8,8,8,8,8,8,8,8,8,8,8,8,8,8,8,8,8,8,8,8,8,8,8,8,8,8,8,8,8,8,8,8,8,8,8,8,8,8,8,8,8,8,8,8,8,8,8,8,8,8,8,8,8,8,8,8,8,8,8,8,8,8,8,8,8,8,8,8,8,8,8,8,8,8,8,8,8,8,8,8,8,8,8,8,8,8,8,8,8,8,8,8,8,8,8,8,8,8]),.t 21],oP 23 (.conv .i64) [.t 22],bP 24 .add (.t 19) (.t 23),vP 1 (.t 24)]
def d4R:=Sq e6m .ret
def c28:=Sq e5q d4R
def d4W:=Sq d6o c28
def c54:=Sq h8s d4W
def e0q:=Sq g01 c54
def j2t:ACode :=
  e0q
def k1P:AFn:={ np:=1,nv:=2,results:=[.v 1],code:=j2t }

def g4F:=Rg [3,4,5,6] [⟨.bx,.boxV,[.v 0],some 3,none⟩,⟨.bx,.boxV,[.v 1],some 4,none⟩,⟨.bx,.boxV,[.v 2],some 5,none⟩,⟨.bx,.alloc [.int .u8 0,.int .i64 0,.str [],.list true [],.list true []],[],some 6,none⟩,vP 7 (.c (.bool false)),vP 8 (.c (.int .i64 0))]
def h6c:=Rg [] [lP 16 5 true 5 (.l 5),oP 17 (.bslice 5 [[.int .u8 0,.int .i64 0,.str [],.list true [],.list true []]] [0]) [.t 16],vP 9 (.ts 17)]
def g36:=Rg [] [fP 21 4 (.l 5),lP 22 5 false 1 (.t 21),vP 9 (.ts 22)]
def i0P:=Ts [] [fP 18 0 (.l 5),lP 19 5 false 1 (.t 18),bP 20 .eql (.t 19) (.c (.int .u8 5))] (.t 20) g36 .skip
def h3W:=Rg [10] [oP 23 (.build [.int .u8 0,.int .i64 0,.str [],.list true [],.list true []] [(0,1)]) [.c (.int .u8 5)],⟨.bx,.alloc [.int .u8 0,.int .i64 0,.str [],.list true [],.list true []],[],some 10,none⟩,xP (.stLc 10 5) [.l 10,.ts 23] 10]
def d4T:=Rg [] [vP 15 (.v 9),op (.v 16) .lenL [.v 15],vP 17 (.c (.int .i64 0))]
def e8x:=Ts [] [bP 27 .lss (.v 17) (.v 16)] (.t 27) .skip (.exit 0)
def f0k:=Rg [11] [oP 28 (.iad 5) [.v 15,.v 17],oP 29 (.ldAn true 5) [.t 28],⟨.bx,.alloc [.int .u8 0,.int .i64 0,.str [],.list true [],.list true []],[],some 11,none⟩,xP (.stLc 11 5) [.l 11,.ts 29] 11]
def c3I:=Rg [12] [lP 31 3 true 7 (.l 3),lP 32 4 true 3 (.l 4),lP 33 11 true 5 (.l 11),oP 34 (.call 169) [.t 31,.t 32,.t 33],mP 30 (.t 34),oP 35 (.ext 0) [.t 30],oP 36 (.ext 1) [.t 30],oP 37 (.ext 2) [.t 30],⟨.bx,.alloc [.int .u8 0,.int .i64 0,.str [],.list true [],.list true []],[],some 12,none⟩,xP (.stLc 12 5) [.l 12,.ts 35] 12,vP 13 (.t 36),vP 14 (.t 37)]
def b9e:=Rg [] [oP 41 (.build [.int .u8 0,.int .i64 0,.str [],.list true [],.list true []] []) [],nP 42 14,xP (.stLc 6 5) [.l 6,.ts 41] 6,vP 7 (.c (.bool false)),vP 8 (.t 42)]
def c5t:=Sq b9e .ret
def e2V:=Rg [] [oP 50 (.build [.int .u8 0,.int .i64 0,.str [],.list true [],.list true []] []) [],xP (.stLc 6 5) [.l 6,.ts 50] 6,vP 7 (.c (.bool false)),vP 8 (.c (.int .i64 9))]
def d9i:=Sq e2V .ret
def b7c:=Rg [] [oP 54 (.build [.int .u8 0,.int .i64 0,.str [],.list true [],.list true []] []) [],xP (.stLc 12 5) [.l 12,.ts 54] 12]
def e7g:=Ts [] [nP 52 13,oP 53 (.un .not) [.t 52],mP 51 (.t 53)] (.t 51) b7c .skip
def b8E:=Ts [] [nP 44 13,oP 45 (.un .not) [.t 44],mP 46 (.t 45),gP 47 (.fad 2) [.l 4] 46 true,⟨.t 48,.ldLc 4 false 1,[.t 47],some 4,some (.t 46,true)⟩,oP 49 .pick [.t 46,.t 48,.c (.bool false)],mP 43 (.t 49)] (.t 43) d9i e7g
def b7L:=Ts [] [nP 39 14,bP 40 .neq (.t 39) (.c (.int .i64 0)),mP 38 (.t 40)] (.t 38) c5t b8E
def d6K:=Bk 2 b7L
def d7p:=Rg [] [fP 55 4 (.l 10),⟨.t 56,.ldLcS 10,[.t 55],some 10,none⟩,lP 57 12 true 5 (.l 12),oP 58 (.bslice 5 [[.int .u8 0,.int .i64 0,.str [],.list true [],.list true []]] [0]) [.t 57],oP 59 (.app 5 80) [.ts 56,.t 58],fP 60 4 (.l 10),xP (.stLc 10 1) [.t 60,.ts 59] 10]
def b8p:=Sq d6K d7p
def d6Z:=Sq c3I b8p
def c6l:=Sq f0k d6Z
def d8l:=Bk 1 c6l
def c2k:=Rg [] [bP 61 .add (.v 17) (.c (.int .i64 1)),vP 17 (.t 61)]
def f0g:=Sq d8l c2k
def b7X:=Sq e8x f0g
def c6I:=Lp b7X
def d2u:=Bk 0 c6I
def d42:=Sq d4T d2u
def e5Z:=Rg [] [lP 62 10 true 5 (.l 10),xP (.stLc 6 5) [.l 6,.ts 62] 6,vP 7 (.c (.bool true)),vP 8 (.c (.int .i64 0))]
def d8u:=Sq e5Z .ret
def b9K:=Sq d42 d8u
def c0d:=Sq h3W b9K
def d1F:=Sq i0P c0d
def e2H:=Sq h6c d1F
def e9T:=Sq g4F e2H
def j0H:ACode :=
  e9T
def k1M:AFn:={ np:=3,nv:=18,results:=[.bx 6 true 5,.v 7,.v 8],code:=j0H }

def h1O:=Rg [3,4,5] [⟨.bx,.boxV,[.v 0],some 3,none⟩,⟨.bx,.boxV,[.v 2],some 4,none⟩,⟨.bx,.alloc [.int .u8 0,.int .i64 0,.str [],.list true [],.list true []],[],some 5,none⟩,vP 6 (.c (.bool false)),vP 7 (.c (.int .i64 0))]
def i8h:=Rg [8] [fP 15 0 (.l 3),lP 16 3 false 1 (.t 15),nP 17 1,oP 18 (.call 30) [.t 16,.t 17],mP 14 (.t 18),oP 19 (.ext 0) [.t 14],oP 20 (.ext 1) [.t 14],⟨.bx,.alloc [.int .u8 0,.str [],.list true [],.list true []],[],some 8,none⟩,xP (.stLc 8 4) [.l 8,.ts 19] 8,mP 10 (.t 20)]
def f7a:=Rg [] [nP 52 1,oP 53 (.bin .eql) [.t 52,.c (.str [73,68])],mP 54 (.t 53),gP 55 (.fad 0) [.l 4] 54 true,⟨.t 56,.ldLc 4 false 1,[.t 55],some 4,some (.t 54,true)⟩,gP 57 (.bin .eql) [.t 56,.c (.int .u8 2)] 54 true,oP 58 .pick [.t 54,.t 57,.c (.bool false)],vP 11 (.t 58)]
def i2f:=Ts [] [nP 45 1,oP 46 (.bin .eql) [.t 45,.c (.str [66,111,111,108,101,97,110])],mP 47 (.t 46),gP 48 (.fad 0) [.l 4] 47 true,⟨.t 49,.ldLc 4 false 1,[.t 48],some 4,some (.t 47,true)⟩,gP 50 (.bin .eql) [.t 49,.c (.int .u8 3)] 47 true,oP 51 .pick [.t 47,.t 50,.c (.bool false)],vP 11 (.t 51)] (.v 11) .skip f7a
def c4V:=Ts [] [nP 38 1,oP 39 (.bin .eql) [.t 38,.c (.str [83,116,114,105,110,103])],mP 40 (.t 39),gP 41 (.fad 0) [.l 4] 40 true,⟨.t 42,.ldLc 4 false 1,[.t 41],some 4,some (.t 40,true)⟩,gP 43 (.bin .eql) [.t 42,.c (.int .u8 2)] 40 true,oP 44 .pick [.t 40,.t 43,.c (.bool false)],vP 11 (.t 44)] (.v 11) .skip i2f
def e4D:=Ts [] [nP 22 1,oP 23 (.bin .eql) [.t 22,.c (.str [73,110,116])],mP 24 (.t 23),gP 25 (.fad 0) [.l 4] 24 true,⟨.t 26,.ldLc 4 false 1,[.t 25],some 4,some (.t 24,true)⟩,gP 27 (.bin .eql) [.t 26,.c (.int .u8 1)] 24 true,oP 28 .pick [.t 24,.t 27,.c (.bool false)],mP 29 (.t 28),gP 30 (.fad 1) [.l 4] 29 true,⟨.t 31,.ldLc 4 false 1,[.t 30],some 4,some (.t 29,true)⟩,gP 32 (.fad 1) [.l 4] 29 true,⟨.t 33,.ldLc 4 false 1,[.t 32],some 4,some (.t 29,true)⟩,gP 34 (.conv .i32) [.t 33] 29 true,gP 35 (.conv .i64) [.t 34] 29 true,gP 36 (.bin .eql) [.t 31,.t 35] 29 true,oP 37 .pick [.t 29,.t 36,.c (.bool false)],vP 11 (.t 37)] (.v 11) .skip c4V
def c80:=Rg [] [lP 59 4 true 5 (.l 4),xP (.stLc 5 5) [.l 5,.ts 59] 5,vP 6 (.c (.bool true)),vP 7 (.c (.int .i64 0))]
def c05:=Sq c80 .ret
def d95:=Rg [] [fP 68 1 (.l 4),lP 69 4 false 1 (.t 68),oP 70 (.call 260) [.t 69,.c (.int .i64 10)],oP 71 (.build [.int .u8 0,.int .i64 0,.str [],.list true [],.list true []] [(0,1),(2,1)]) [.c (.int .u8 2),.t 70],xP (.stLc 5 5) [.l 5,.ts 71] 5,vP 6 (.c (.bool true)),vP 7 (.c (.int .i64 0))]
def d5t:=Sq d95 .ret
def c7D:=Rg [] [fP 97 2 (.l 4),lP 98 4 false 1 (.t 97),oP 99 (.build [.int .u8 0,.int .i64 0,.str [],.list true [],.list true []] [(0,1),(2,1)]) [.c (.int .u8 4),.t 98],xP (.stLc 5 5) [.l 5,.ts 99] 5,vP 6 (.c (.bool true)),vP 7 (.c (.int .i64 0))]
def d9a:=Sq c7D .ret
def c9U:=Rg [9] [lP 110 3 true 7 (.l 3),fP 111 2 (.l 8),lP 112 8 false 1 (.t 111),lP 113 4 true 5 (.l 4),oP 114 (.call 176) [.t 110,.t 112,.t 113],mP 109 (.t 114),oP 115 (.ext 0) [.t 109],oP 116 (.ext 1) [.t 109],oP 117 (.ext 2) [.t 109],⟨.bx,.alloc [.int .u8 0,.int .i64 0,.str [],.list true [],.list true []],[],some 9,none⟩,xP (.stLc 9 5) [.l 9,.ts 115] 9,mP 12 (.t 116),vP 10 (.t 117)]
def b9I:=Rg [] [lP 118 9 true 5 (.l 9),nP 119 10,bP 120 .eql (.t 119) (.c (.int .i64 0)),nP 121 10,xP (.stLc 5 5) [.l 5,.ts 118] 5,vP 6 (.t 120),vP 7 (.t 121)]
def c5Q:=Sq b9I .ret
def c2r:=Sq c9U c5Q
def d4g:=Ts [] [fP 101 0 (.l 8),lP 102 8 false 1 (.t 101),bP 103 .eql (.t 102) (.c (.int .u8 5)),mP 104 (.t 103),gP 105 (.fad 0) [.l 4] 104 true,⟨.t 106,.ldLc 4 false 1,[.t 105],some 4,some (.t 104,true)⟩,gP 107 (.bin .eql) [.t 106,.c (.int .u8 6)] 104 true,oP 108 .pick [.t 104,.t 107,.c (.bool false)],mP 100 (.t 108)] (.t 100) c2r .skip
def d3y:=Ts [] [fP 73 0 (.l 8),lP 74 8 false 1 (.t 73),bP 75 .eql (.t 74) (.c (.int .u8 4)),mP 76 (.t 75),gP 77 (.fad 0) [.l 4] 76 true,⟨.t 78,.ldLc 4 false 1,[.t 77],some 4,some (.t 76,true)⟩,gP 79 (.bin .eql) [.t 78,.c (.int .u8 4)] 76 true,gP 80 .mv [.t 79] 76 true,gP 81 (.fad 0) [.l 4] 80 false,⟨.t 82,.ldLc 4 false 1,[.t 81],some 4,some (.t 80,false)⟩,gP 83 (.bin .eql) [.t 82,.c (.int .u8 2)] 80 false,gP 84 .mv [.t 83] 80 false,gP 85 (.fad 6) [.l 3] 84 true,⟨.t 86,.ldLc 3 false 1,[.t 85],some 3,some (.t 84,true)⟩,gP 87 .pick [.t 84,.t 86,.c (.bool false)] 80 false,gP 88 .pick [.t 80,.c (.bool true),.t 87] 76 true,oP 89 .pick [.t 76,.t 88,.c (.bool false)],mP 90 (.t 89),gP 91 (.fad 3) [.l 8] 90 true,⟨.t 92,.ldLc 8 false 1,[.t 91],some 8,some (.t 90,true)⟩,gP 93 (.fad 2) [.l 4] 90 true,⟨.t 94,.ldLc 4 false 1,[.t 93],some 4,some (.t 90,true)⟩,gP 95 (.call 27) [.t 92,.t 94] 90 true,oP 96 .pick [.t 90,.t 95,.c (.bool false)],mP 72 (.t 96)] (.t 72) d9a d4g
def c7s:=Ts [] [nP 61 1,oP 62 (.bin .eql) [.t 61,.c (.str [73,68])],mP 63 (.t 62),gP 64 (.fad 0) [.l 4] 63 true,⟨.t 65,.ldLc 4 false 1,[.t 64],some 4,some (.t 63,true)⟩,gP 66 (.bin .eql) [.t 65,.c (.int .u8 1)] 63 true,oP 67 .pick [.t 63,.t 66,.c (.bool false)],mP 60 (.t 67)] (.t 60) d5t d3y
def d87:=Ts [] [] (.v 11) c05 c7s
def c5U:=Sq e4D d87
def d8T:=Bk 0 c5U
def e94:=Rg [] [oP 122 (.build [.int .u8 0,.int .i64 0,.str [],.list true [],.list true []] []) [],xP (.stLc 5 5) [.l 5,.ts 122] 5,vP 6 (.c (.bool false)),vP 7 (.c (.int .i64 8))]
def e4H:=Sq e94 .ret
def e4A:=Sq d8T e4H
def f07:=Sq i8h e4A
def c4g:=Sq h1O f07
def j0M:ACode :=
  c4g
def k3g:AFn:={ np:=3,nv:=12,results:=[.bx 5 true 5,.v 6,.v 7],code:=j0M }

def h9s:=Rg [] [vP 2 (.c (.bool false))]
def f4l:=Rg [] [nP 5 0,nP 6 1,oP 7 (.call 261) [.t 5,.t 6],bP 8 .geq (.t 7) (.c (.int .i64 0)),vP 2 (.t 8)]
def h5K:=Sq f4l .ret
def i0K:=Sq h9s h5K
def j2L:ACode :=
  i0K
def k3U:AFn:={ np:=2,nv:=3,results:=[.v 2],code:=j2L }

def g5a:=Rg [2] [⟨.bx,.boxV,[.v 0],some 2,none⟩,vP 3 (.c (.bool false))]
def f8Z:=Rg [] [fP 4 0 (.l 2),lP 5 2 false 1 (.t 4),oP 6 (.bin .eql) [.t 5,.c (.str [115,107,105,112])],mP 7 (.t 6),gP 8 (.ldSt false 1) [.v 1] 7 true,⟨.t 9,.ldLc 2 true 2,[.l 2],some 2,some (.t 7,true)⟩,gP 10 (.call 227) [.t 8,.t 9] 7 true,oP 11 .pick [.t 7,.t 10,.c (.bool false)],mP 12 (.t 11),gP 13 (.fad 0) [.l 2] 12 false,⟨.t 14,.ldLc 2 false 1,[.t 13],some 2,some (.t 12,false)⟩,gP 15 (.bin .eql) [.t 14,.c (.str [105,110,99,108,117,100,101])] 12 false,gP 16 .mv [.t 15] 12 false,gP 17 (.ldSt false 1) [.v 1] 16 true,⟨.t 18,.ldLc 2 true 2,[.l 2],some 2,some (.t 16,true)⟩,gP 19 (.call 227) [.t 17,.t 18] 16 true,gP 20 (.un .not) [.t 19] 16 true,gP 21 .pick [.t 16,.t 20,.c (.bool false)] 12 false,oP 22 .pick [.t 12,.c (.bool true),.t 21],vP 3 (.t 22)]
def i5j:=Sq f8Z .ret
def i2X:=Sq g5a i5j
def i9f:ACode :=
  i2X
def k0g:AFn:={ np:=2,nv:=4,results:=[.v 3],code:=i9f }

def h4y:=Rg [2] [⟨.bx,.boxV,[.v 1],some 2,none⟩,vP 3 (.c (.bool false))]
def h4L:=Rg [] [fP 8 1 (.l 2),⟨.v 6,.ldLc 2 false 1,[.t 8],some 2,none⟩,op (.v 7) .lenL [.v 6],vP 8 (.c (.int .i64 0))]
def f45:=Ts [] [bP 12 .lss (.v 8) (.v 7)] (.t 12) .skip (.exit 0)
def h9I:=Rg [4] [oP 13 (.iad 6) [.v 6,.v 8],oP 14 (.ldRo true 6) [.t 13],⟨.bx,.alloc [.str [],.int .u8 0,.int .i64 0,.str [],.list true [],.list true []],[],some 4,none⟩,xP (.stLc 4 6) [.l 4,.ts 14] 4]
def g0l:=Rg [5] [fP 15 1 (.l 4),lP 16 4 true 5 (.t 15),⟨.bx,.alloc [.int .u8 0,.int .i64 0,.str [],.list true [],.list true []],[],some 5,none⟩,xP (.stLc 5 5) [.l 5,.ts 16] 5]
def e2T:=Rg [] [nP 21 0,oP 22 .nilchk [.t 21],fP 23 4 (.t 22),oP 24 (.ldSt true 5) [.t 23],fP 25 2 (.l 5),lP 26 5 false 1 (.t 25),oP 27 (.call 106) [.t 24,.t 26],mP 20 (.t 27),oP 28 (.ext 0) [.t 20],oP 29 (.ext 1) [.t 20],xP (.stLc 5 5) [.l 5,.ts 28] 5]
def d1q:=Ts [] [fP 17 0 (.l 5),lP 18 5 false 1 (.t 17),bP 19 .eql (.t 18) (.c (.int .u8 7))] (.t 19) e2T .skip
def d9w:=Rg [] [fP 33 0 (.l 5),lP 34 5 false 1 (.t 33),bP 35 .eql (.t 34) (.c (.int .u8 3)),mP 36 (.t 35),gP 37 (.fad 1) [.l 5] 36 true,⟨.t 38,.ldLc 5 false 1,[.t 37],some 5,some (.t 36,true)⟩,gP 39 (.bin .eql) [.t 38,.c (.int .i64 1)] 36 true,oP 40 .pick [.t 36,.t 39,.c (.bool false)],vP 3 (.t 40)]
def d4I:=Sq d9w .ret
def d8w:=Ts [] [fP 30 0 (.l 4),lP 31 4 false 1 (.t 30),oP 32 (.bin .eql) [.t 31,.c (.str [105,102])]] (.t 32) d4I .skip
def e43:=Sq d1q d8w
def e06:=Sq g0l e43
def d8N:=Sq h9I e06
def f2k:=Bk 1 d8N
def d81:=Rg [] [bP 41 .add (.v 8) (.c (.int .i64 1)),vP 8 (.t 41)]
def c1d:=Sq f2k d81
def f1Y:=Sq f45 c1d
def c5p:=Lp f1Y
def d6p:=Bk 0 c5p
def c3h:=Sq h4L d6p
def c2i:=Rg [] [vP 3 (.c (.bool false))]
def d3u:=Sq c2i .ret
def e3v:=Sq c3h d3u
def e6h:=Sq h4y e3v
def j5b:ACode :=
  e6h
def k2H:AFn:={ np:=2,nv:=9,results:=[.v 3],code:=j5b }

def h5C:=Rg [] [vP 2 (.c (.int .i64 0))]
def h26:=Rg [] [nP 6 0,op (.v 4) .lenL [.t 6],vP 5 (.c (.int .i64 0))]
def f9Q:=Ts [] [bP 9 .lss (.v 5) (.v 4)] (.t 9) .skip (.exit 0)
def g6Z:=Rg [] [nP 10 5,vP 3 (.t 10)]
def e9R:=Rg [] [nP 17 3,vP 2 (.t 17)]
def f1z:=Sq e9R .ret
def c4X:=Ts [] [nP 11 1,nP 12 0,nP 13 3,oP 14 (.iad 2) [.t 12,.t 13],oP 15 (.ldSt true 2) [.t 14],oP 16 .callV [.t 11,.t 15]] (.t 16) f1z .skip
def c31:=Sq g6Z c4X
def c0U:=Bk 1 c31
def e25:=Rg [] [bP 18 .add (.v 5) (.c (.int .i64 1)),vP 5 (.t 18)]
def c9o:=Sq c0U e25
def e2y:=Sq f9Q c9o
def d5L:=Lp e2y
def c9Q:=Bk 0 d5L
def e2C:=Sq h26 c9Q
def e9F:=Rg [] [vP 2 (.c (.int .i64 (-1)))]
def d2R:=Sq e9F .ret
def d9b:=Sq e2C d2R
def c8k:=Sq h5C d9b
def j4e:ACode :=
  c8k
def k2d:AFn:={ np:=2,nv:=6,results:=[.v 2],code:=j4e }

def f2s:=Rg [2] [⟨.bx,.boxV,[.v 0],some 2,none⟩,vP 3 (.c (.bool false))]
def i2H:=Rg [] [fP 4 0 (.l 2),lP 5 2 false 1 (.t 4),oP 6 (.ldSt false 1) [.v 1],bP 7 .eql (.t 5) (.t 6),vP 3 (.t 7)]
def g4w:=Sq i2H .ret
def i5S:=Sq f2s g4w
def i9q:ACode :=
  i5S
def k3h:AFn:={ np:=2,nv:=4,results:=[.v 3],code:=i9q }

def h23:=Rg [] [op (.v 2) .mv [.c (.list true [])]]
def h0B:=Rg [3] [nP 11 0,nP 12 1,oP 13 (.call 30) [.t 11,.t 12],mP 10 (.t 13),oP 14 (.ext 0) [.t 10],oP 15 (.ext 1) [.t 10],⟨.bx,.alloc [.int .u8 0,.str [],.list true [],.list true []],[],some 3,none⟩,xP (.stLc 3 4) [.l 3,.ts 14] 3,vP 4 (.t 15)]
def i2F:=Rg [] [op (.v 2) .mv [.c (.list true [])]]
def i74:=Sq i2F .ret
def c9X:=Rg [] [nP 23 1,oP 24 (.bslice 1 [[.str []]] [0]) [.t 23],vP 2 (.ts 24)]
def d1a:=Sq c9X .ret
def c2W:=Rg [] [fP 29 3 (.l 3),lP 30 3 false 1 (.t 29),oP 31 (.call 262) [.t 30],vP 2 (.ts 31)]
def c8Q:=Sq c2W .ret
def d68:=Rg [] [op (.v 2) .mv [.c (.list true [])]]
def c3H:=Sq d68 .ret
def e42:=Ts [] [fP 33 0 (.l 3),lP 34 3 false 1 (.t 33),bP 35 .neq (.t 34) (.c (.int .u8 2)),mP 32 (.t 35)] (.t 32) c3H .skip
def c51:=Ts [] [fP 26 0 (.l 3),lP 27 3 false 1 (.t 26),bP 28 .eql (.t 27) (.c (.int .u8 3)),mP 25 (.t 28)] (.t 25) c8Q e42
def c5F:=Ts [] [fP 20 0 (.l 3),lP 21 3 false 1 (.t 20),bP 22 .eql (.t 21) (.c (.int .u8 1)),mP 19 (.t 22)] (.t 19) d1a c51
def d1g:=Ts [] [nP 17 4,oP 18 (.un .not) [.t 17],mP 16 (.t 18)] (.t 16) i74 c5F
def e4F:=Bk 0 d1g
def e6V:=Rg [] [op (.v 5) .mv [.c (.list true [])]]
def e7O:=Rg [] [nP 36 0,oP 37 .nilchk [.t 36],fP 38 0 (.t 37),op (.v 7) (.ldSt false 1) [.t 38],op (.v 8) .lenL [.v 7],vP 9 (.c (.int .i64 0))]
def e72:=Ts [] [bP 42 .lss (.v 9) (.v 8)] (.t 42) .skip (.exit 1)
def b6H:=Rg [6] [oP 43 (.iad 4) [.v 7,.v 9],oP 44 (.ldRo true 4) [.t 43],⟨.bx,.alloc [.int .u8 0,.str [],.list true [],.list true []],[],some 6,none⟩,xP (.stLc 6 4) [.l 6,.ts 44] 6]
def c29:=Rg [] [mP 54 (.vs 5),fP 55 1 (.l 6),lP 56 6 false 1 (.t 55),oP 57 (.bslice 1 [[.str []]] [0]) [.t 56],oP 58 (.app 1 16) [.ts 54,.t 57],vP 5 (.ts 58)]
def e5t:=Ts [] [fP 45 0 (.l 6),lP 46 6 false 1 (.t 45),bP 47 .eql (.t 46) (.c (.int .u8 1)),mP 48 (.t 47),gP 49 (.fad 3) [.l 6] 48 true,⟨.t 50,.ldLc 6 false 1,[.t 49],some 6,some (.t 48,true)⟩,gP 51 .mv [.v 1] 48 true,gP 52 (.call 27) [.t 50,.t 51] 48 true,oP 53 .pick [.t 48,.t 52,.c (.bool false)]] (.t 53) c29 .skip
def b96:=Sq b6H e5t
def c9E:=Bk 2 b96
def d4b:=Rg [] [bP 59 .add (.v 9) (.c (.int .i64 1)),vP 9 (.t 59)]
def e6w:=Sq c9E d4b
def c8w:=Sq e72 e6w
def e4L:=Lp c8w
def e9x:=Bk 1 e4L
def c4L:=Sq e7O e9x
def d8A:=Rg [] [nP 60 5,vP 2 (.ts 60)]
def d01:=Sq d8A .ret
def e3m:=Sq c4L d01
def c4k:=Sq e6V e3m
def c8p:=Sq e4F c4k
def d1T:=Sq h0B c8p
def c6G:=Sq h23 d1T
def j4z:ACode :=
  c6G
def k0Y:AFn:={ np:=2,nv:=10,results:=[.v 2],code:=j4z }

def g1B:=Rg [2] [⟨.bx,.boxV,[.v 0],some 2,none⟩,vP 3 (.c (.bool false))]
def h9T:=Rg [] [fP 4 0 (.l 2),lP 5 2 false 1 (.t 4),oP 6 (.ldSt false 1) [.v 1],bP 7 .eql (.t 5) (.t 6),vP 3 (.t 7)]
def f8S:=Sq h9T .ret
def i2O:=Sq g1B f8S
def j8l:ACode :=
  i2O
def k2B:AFn:={ np:=2,nv:=4,results:=[.v 3],code:=j8l }

def i4j:=Rg [] [vP 2 (.c (.int .i64 0)),vP 3 (.c (.bool false))]
def h4G:=Rg [] [nP 10 0,oP 11 .lenL [.t 10],vP 4 (.t 11)]
def i5y:=Rg [] [nP 12 4,vP 5 (.c (.int .i64 0)),vP 6 (.t 12)]
def g2v:=Ts [] [nP 13 5,nP 14 6,bP 15 .lss (.t 13) (.t 14)] (.t 15) .skip (.exit 0)
def i42:=Rg [] [nP 16 5,nP 17 6,bP 18 .add (.t 16) (.t 17),oP 19 (.conv .u64) [.t 18],bP 20 .shr (.t 19) (.c (.int .u64 1)),oP 21 (.conv .i64) [.t 20],vP 7 (.t 21)]
def c9m:=Rg [] [nP 28 7,bP 29 .add (.t 28) (.c (.int .i64 1)),vP 5 (.t 29)]
def b6s:=Rg [] [nP 30 7,vP 6 (.t 30)]
def e5r:=Ts [] [nP 22 0,nP 23 7,oP 24 (.iad 1) [.t 22,.t 23],oP 25 (.ldAn false 1) [.t 24],nP 26 1,oP 27 (.call 263) [.t 25,.t 26]] (.t 27) c9m b6s
def c7k:=Sq i42 e5r
def e7c:=Bk 1 c7k
def e9h:=Sq g2v e7c
def e48:=Lp e9h
def f1r:=Bk 0 e48
def c1O:=Rg [] [nP 31 5,nP 32 5,nP 33 4,bP 34 .lss (.t 32) (.t 33),mP 35 (.t 34),gP 36 .mv [.v 0] 35 true,gP 37 .mv [.v 5] 35 true,gP 38 (.iad 1) [.t 36,.t 37] 35 true,gP 39 (.ldAn false 1) [.t 38] 35 true,gP 40 .mv [.v 1] 35 true,gP 41 (.bin .eql) [.t 39,.t 40] 35 true,gP 42 .mv [.t 41] 35 true,gP 43 .mv [.v 0] 42 false,gP 44 .mv [.v 5] 42 false,gP 45 (.iad 1) [.t 43,.t 44] 42 false,gP 46 (.ldAn false 1) [.t 45] 42 false,gP 47 (.call 264) [.t 46] 42 false,gP 48 .mv [.t 47] 42 false,gP 49 .mv [.v 1] 48 true,gP 50 (.call 264) [.t 49] 48 true,gP 51 .pick [.t 48,.t 50,.c (.bool false)] 42 false,gP 52 .pick [.t 42,.c (.bool true),.t 51] 35 true,oP 53 .pick [.t 35,.t 52,.c (.bool false)],vP 2 (.t 31),vP 3 (.t 53)]
def c3i:=Sq c1O .ret
def c9e:=Sq f1r c3i
def e1S:=Sq i5y c9e
def d23:=Sq h4G e1S
def b8l:=Sq i4j d23
def j7a:ACode :=
  b8l
def a232:AFn:={ np:=2,nv:=8,results:=[.v 2,.v 3],code:=j7a }

def f97:=Rg [5,6,7,8] [⟨.bx,.boxV,[.v 1],some 5,none⟩,⟨.bx,.boxV,[.v 2],some 6,none⟩,⟨.bx,.boxV,[.v 3],some 7,none⟩,⟨.bx,.alloc [.int .u8 0,.int .i64 0,.str [],.list true [],.list true []],[],some 8,none⟩]
def g7e:=Rg [] [lP 24 6 true 5 (.l 6),xP (.stLc 8 5) [.l 8,.ts 24] 8]
def i3u:=Sq g7e .ret
def i55:=Rg [] [nP 33 0,nP 34 4,oP 35 (.call 234) [.t 33,.t 34,.c (.int .i64 8)]]
def e6E:=Rg [] [oP 36 (.build [.int .u8 0,.int .i64 0,.str [],.list true [],.list true []] []) [],xP (.stLc 8 5) [.l 8,.ts 36] 8]
def b6i:=Sq e6E .ret
def e9f:=Sq i55 b6i
def d5Q:=Ts [] [fP 30 0 (.l 6),lP 31 6 false 1 (.t 30),bP 32 .neq (.t 31) (.c (.int .u8 5))] (.t 32) e9f .skip
def e1x:=Rg [9] [oP 37 (.build [.int .u8 0,.int .i64 0,.str [],.list true [],.list true []] [(0,1)]) [.c (.int .u8 5)],⟨.bx,.alloc [.int .u8 0,.int .i64 0,.str [],.list true [],.list true []],[],some 9,none⟩,xP (.stLc 9 5) [.l 9,.ts 37] 9]
def e8X:=Rg [] [fP 38 4 (.l 6),⟨.v 17,.ldLc 6 false 1,[.t 38],some 6,none⟩,op (.v 18) .lenL [.v 17],vP 19 (.c (.int .i64 0))]
def c02:=Ts [] [bP 42 .lss (.v 19) (.v 18)] (.t 42) .skip (.exit 1)
def c3t:=Rg [11] [nP 43 19,oP 44 (.iad 5) [.v 17,.v 19],oP 45 (.ldAn true 5) [.t 44],⟨.bx,.alloc [.int .u8 0,.int .i64 0,.str [],.list true [],.list true []],[],some 11,none⟩,vP 10 (.t 43),xP (.stLc 11 5) [.l 11,.ts 45] 11]
def d34:=Rg [] [oP 49 (.build [.int .u8 0,.int .i64 0,.str [],.list true [],.list true []] []) [],xP (.stLc 8 5) [.l 8,.ts 49] 8]
def e03:=Sq d34 .ret
def b9i:=Ts [] [nP 46 0,oP 47 (.call 265) [.t 46],oP 48 (.un .not) [.t 47]] (.t 48) e03 .skip
def e5D:=Rg [12] [nP 51 0,fP 52 1 (.l 5),lP 53 5 false 1 (.t 52),oP 54 (.iad 3) [.t 53,.c (.int .i64 0)],oP 55 (.ldRo true 3) [.t 54],lP 56 11 true 5 (.l 11),lP 57 7 true 2 (.l 7),nP 58 4,oP 59 (.call 262) [.t 58],nP 60 10,oP 61 (.call 266) [.t 60],oP 62 (.bslice 1 [[.str []]] [0]) [.t 61],oP 63 (.app 1 16) [.ts 59,.t 62],oP 64 (.call 182) [.t 51,.t 55,.t 56,.t 57,.t 63],mP 50 (.t 64),oP 65 (.ext 0) [.t 50],oP 66 (.ext 1) [.t 50],⟨.bx,.alloc [.int .u8 0,.int .i64 0,.str [],.list true [],.list true []],[],some 12,none⟩,xP (.stLc 12 5) [.l 12,.ts 65] 12,vP 13 (.t 66)]
def d2Q:=Rg [] [oP 69 (.build [.int .u8 0,.int .i64 0,.str [],.list true [],.list true []] []) [],xP (.stLc 8 5) [.l 8,.ts 69] 8]
def e2N:=Sq d2Q .ret
def c4p:=Ts [] [nP 67 13,oP 68 (.un .not) [.t 67]] (.t 68) e2N .skip
def e4a:=Rg [] [fP 70 4 (.l 9),⟨.t 71,.ldLcS 9,[.t 70],some 9,none⟩,lP 72 12 true 5 (.l 12),oP 73 (.bslice 5 [[.int .u8 0,.int .i64 0,.str [],.list true [],.list true []]] [0]) [.t 72],oP 74 (.app 5 80) [.ts 71,.t 73],fP 75 4 (.l 9),xP (.stLc 9 1) [.t 75,.ts 74] 9]
def d7w:=Sq c4p e4a
def e0P:=Sq e5D d7w
def e1o:=Sq b9i e0P
def d0H:=Sq c3t e1o
def c48:=Bk 2 d0H
def e1Y:=Rg [] [bP 76 .add (.v 19) (.c (.int .i64 1)),vP 19 (.t 76)]
def b56:=Sq c48 e1Y
def d8U:=Sq c02 b56
def d8Q:=Lp d8U
def c47:=Bk 1 d8Q
def c8f:=Sq e8X c47
def d0u:=Rg [] [lP 77 9 true 5 (.l 9),xP (.stLc 8 5) [.l 8,.ts 77] 8]
def e5b:=Sq d0u .ret
def c3G:=Sq c8f e5b
def e6n:=Sq e1x c3G
def e5J:=Sq d5Q e6n
def d0X:=Rg [] [nP 92 0,nP 93 4,oP 94 (.call 234) [.t 92,.t 93,.c (.int .i64 8)]]
def d38:=Rg [] [oP 95 (.build [.int .u8 0,.int .i64 0,.str [],.list true [],.list true []] []) [],xP (.stLc 8 5) [.l 8,.ts 95] 8]
def d1v:=Sq d38 .ret
def c2h:=Sq d0X d1v
def c30:=Ts [] [nP 86 0,fP 87 0 (.l 5),lP 88 5 false 1 (.t 87),lP 89 6 true 5 (.l 6),oP 90 (.call 267) [.t 86,.t 88,.t 89],oP 91 (.un .not) [.t 90]] (.t 91) c2h .skip
def e9P:=Rg [] [lP 96 6 true 5 (.l 6),xP (.stLc 8 5) [.l 8,.ts 96] 8]
def b8y:=Sq e9P .ret
def f0j:=Sq c30 b8y
def e6c:=Rg [] [nP 101 0,nP 102 4,oP 103 (.call 234) [.t 101,.t 102,.c (.int .i64 8)]]
def d2a:=Rg [] [oP 104 (.build [.int .u8 0,.int .i64 0,.str [],.list true [],.list true []] []) [],xP (.stLc 8 5) [.l 8,.ts 104] 8]
def d8z:=Sq d2a .ret
def d2B:=Sq e6c d8z
def c3u:=Ts [] [fP 98 0 (.l 6),lP 99 6 false 1 (.t 98),bP 100 .neq (.t 99) (.c (.int .u8 8)),mP 97 (.t 100)] (.t 97) d2B .skip
def d2S:=Ts [] [nP 79 0,oP 80 .nilchk [.t 79],fP 81 0 (.t 80),oP 82 (.ldSt false 1) [.t 81],fP 83 0 (.l 5),lP 84 5 false 1 (.t 83),oP 85 (.call 159) [.t 82,.t 84],mP 78 (.t 85)] (.t 78) f0j c3u
def e7U:=Ts [] [fP 26 1 (.l 5),lP 27 5 false 1 (.t 26),oP 28 .lenL [.t 27],bP 29 .gtr (.t 28) (.c (.int .i64 0)),mP 25 (.t 29)] (.t 25) e5J d2S
def b9U:=Ts [] [fP 21 0 (.l 6),lP 22 6 false 1 (.t 21),bP 23 .eql (.t 22) (.c (.int .u8 0)),mP 20 (.t 23)] (.t 20) i3u e7U
def c68:=Bk 0 b9U
def c1X:=Rg [] [nP 117 0,oP 118 .nilchk [.t 117],fP 119 12 (.t 118),op .none (.stSt 1) [.t 119,.c (.bool true)]]
def d3A:=Ts [] [nP 105 0,oP 106 .nilchk [.t 105],fP 107 3 (.t 106),oP 108 (.ldSt true 3) [.t 107],nP 109 0,oP 110 .nilchk [.t 109],fP 111 0 (.t 110),oP 112 (.ldSt false 1) [.t 111],fP 113 0 (.l 5),lP 114 5 false 1 (.t 113),oP 115 (.call 268) [.t 108,.t 112,.t 114],oP 116 (.un .not) [.t 115]] (.t 116) c1X .skip
def c3V:=Rg [14] [nP 121 0,oP 122 .nilchk [.t 121],fP 123 3 (.t 122),fP 124 0 (.t 123),oP 125 (.ldSt true 1) [.t 124],fP 126 2 (.l 6),lP 127 6 false 1 (.t 126),oP 128 (.call 177) [.t 125,.t 127],mP 120 (.t 128),oP 129 (.ext 0) [.t 120],oP 130 (.ext 1) [.t 120],⟨.bx,.alloc [.str [],.str [],.list true [],.list true []],[],some 14,none⟩,xP (.stLc 14 4) [.l 14,.ts 129] 14,vP 15 (.t 130)]
def c9p:=Rg [] [oP 146 (.build [.int .u8 0,.int .i64 0,.str [],.list true [],.list true []] []) [],xP (.stLc 8 5) [.l 8,.ts 146] 8]
def d7z:=Sq c9p .ret
def c7X:=Ts [] [nP 131 15,oP 132 (.un .not) [.t 131],mP 133 (.t 132),gP 134 .mv [.v 0] 133 false,gP 135 .nilchk [.t 134] 133 false,gP 136 (.fad 0) [.t 135] 133 false,gP 137 (.ldSt false 1) [.t 136] 133 false,gP 138 (.fad 0) [.l 5] 133 false,⟨.t 139,.ldLc 5 false 1,[.t 138],some 5,some (.t 133,false)⟩,gP 140 (.call 230) [.t 137,.t 139] 133 false,gP 141 (.fad 0) [.l 14] 133 false,⟨.t 142,.ldLc 14 false 1,[.t 141],some 14,some (.t 133,false)⟩,gP 143 (.call 27) [.t 140,.t 142] 133 false,gP 144 (.un .not) [.t 143] 133 false,oP 145 .pick [.t 133,.c (.bool true),.t 144]] (.t 145) d7z .skip
def e95:=Rg [16] [nP 148 0,fP 149 0 (.l 14),lP 150 14 false 1 (.t 149),lP 151 14 true 4 (.l 14),lP 152 7 true 2 (.l 7),oP 153 (.call 270) [.t 152],nP 154 4,oP 155 (.call 269) [.t 148,.t 150,.t 151,.t 153,.t 154],mP 147 (.t 155),oP 156 (.ext 0) [.t 147],oP 157 (.ext 1) [.t 147],⟨.bx,.alloc [.int .u8 0,.int .i64 0,.str [],.list true [],.list true []],[],some 16,none⟩,xP (.stLc 16 5) [.l 16,.ts 156] 16,mP 19 (.t 157)]
def e0v:=Rg [] [lP 158 16 true 5 (.l 16),xP (.stLc 8 5) [.l 8,.ts 158] 8]
def b83:=Sq e0v .ret
def d9s:=Sq e95 b83
def b7M:=Sq c7X d9s
def e4Y:=Sq c3V b7M
def d7M:=Sq d3A e4Y
def b3T:=Sq c68 d7M
def b4G:=Sq f97 b3T
def i9c:ACode :=
  b4G
def a233:AFn:={ np:=5,nv:=20,results:=[.bx 8 true 5],code:=i9c }

def h4w:=Rg [] [nP 6 0,nP 7 0,oP 8 .nilchk [.t 7],fP 9 11 (.t 8),oP 10 (.ldStR false 1) [.t 9,.v 0],nP 11 1,oP 12 (.callA 262 1) [.t 11,.v 0],nP 13 2,oP 14 (.build [.list true [],.int .i64 0] [(0,1),(1,1)]) [.t 12,.t 13],oP 15 (.bsliceM 2 [[.list true [],.int .i64 0]] [0]) [.ts 14],oP 16 (.appM 2 32) [.ts 10,.t 15],oP 17 .nilchk [.t 6],fP 18 11 (.t 17),op .none (.stSt 1) [.t 18,.t 16]]
def j3X:ACode :=
  h4w
def k3p:AFn:={ np:=3,nv:=3,results:=[],code:=j3X }

def g5L:=Rg [] [op (.v 2) .mv [.c (.str [])],vP 3 (.c (.bool false))]
def f6J:=Rg [] [nP 10 0,vP 2 (.t 10),vP 3 (.c (.bool false))]
def g9y:=Sq f6J .ret
def h6k:=Ts [] [nP 6 0,nP 7 1,oP 8 (.call 58) [.t 6,.t 7],oP 9 (.un .not) [.t 8]] (.t 9) g9y .skip
def h6A:=Rg [] [nP 11 0,nP 12 1,oP 13 .lenS [.t 12],oP 14 (.slS true false) [.t 11,.t 13],vP 2 (.t 14),vP 3 (.c (.bool true))]
def f9T:=Sq h6A .ret
def b8U:=Sq h6k f9T
def d4d:=Sq g5L b8U
def j4H:ACode :=
  d4d
def j9x:AFn:={ np:=2,nv:=4,results:=[.v 2,.v 3],code:=j4H }

def i3a:=Rg [] [vP 2 (.c (.int .i64 0))]
def i1d:=Rg [] [nP 6 0,op (.v 4) .lenL [.t 6],vP 5 (.c (.int .i64 0))]
def f9o:=Ts [] [bP 9 .lss (.v 5) (.v 4)] (.t 9) .skip (.exit 0)
def f6N:=Rg [] [nP 10 5,vP 3 (.t 10)]
def b7W:=Rg [] [nP 17 3,vP 2 (.t 17)]
def e5j:=Sq b7W .ret
def e3E:=Ts [] [nP 11 1,nP 12 0,nP 13 3,oP 14 (.iad 5) [.t 12,.t 13],oP 15 (.ldAn true 5) [.t 14],oP 16 .callV [.t 11,.t 15]] (.t 16) e5j .skip
def e9K:=Sq f6N e3E
def f0w:=Bk 1 e9K
def d40:=Rg [] [bP 18 .add (.v 5) (.c (.int .i64 1)),vP 5 (.t 18)]
def e7L:=Sq f0w d40
def c3Z:=Sq f9o e7L
def e6Z:=Lp c3Z
def c8j:=Bk 0 e6Z
def b6Q:=Sq i1d c8j
def c0u:=Rg [] [vP 2 (.c (.int .i64 (-1)))]
def e5i:=Sq c0u .ret
def e9E:=Sq b6Q e5i
def d0Q:=Sq i3a e9E
def j0E:ACode :=
  d0Q
def k0V:AFn:={ np:=2,nv:=6,results:=[.v 2],code:=j0E }

def h0D:=Rg [2] [⟨.bx,.boxV,[.v 0],some 2,none⟩,vP 3 (.c (.bool false))]
def f9J:=Rg [] [fP 4 2 (.l 2),fP 5 2 (.t 4),lP 6 2 false 1 (.t 5),mP 7 (.t 6),gP 8 (.fad 5) [.l 2] 7 true,⟨.t 9,.ldLc 2 false 1,[.t 8],some 2,some (.t 7,true)⟩,gP 10 (.un .not) [.t 9] 7 true,oP 11 .pick [.t 7,.t 10,.c (.bool false)],mP 12 (.t 11),gP 13 (.fad 3) [.v 1] 12 true,gP 14 (.ldSt false 1) [.t 13] 12 true,gP 15 (.fad 0) [.l 2] 12 true,⟨.t 16,.ldLc 2 false 1,[.t 15],some 2,some (.t 12,true)⟩,gP 17 (.call 27) [.t 14,.t 16] 12 true,gP 18 (.un .not) [.t 17] 12 true,oP 19 .pick [.t 12,.t 18,.c (.bool false)],vP 3 (.t 19)]
def f6z:=Sq f9J .ret
def h1A:=Sq h0D f6z
def j6p:ACode :=
  h1A
def k2q:AFn:={ np:=2,nv:=4,results:=[.v 3],code:=j6p }

def g0I:=Rg [] [vP 3 (.c (.int .i64 0)),vP 4 (.c (.nili))]
def f3n:=Rg [] [nP 10 0,nP 11 1,nP 12 2,oP 13 (.call 271) [.t 10,.t 11,.t 12],mP 9 (.t 13),oP 14 (.ext 0) [.t 9],oP 15 (.ext 1) [.t 9],vP 5 (.t 14),vP 4 (.t 15)]
def g9P:=Rg [] [nP 18 5,nP 19 0,nP 20 1,nP 21 2,nP 22 4,oP 23 (.call 272) [.c (.str [80,97,114,115,101,73,110,116]),.t 19,.t 20,.t 21,.t 22],vP 3 (.t 18),vP 4 (.t 23)]
def g4i:=Sq g9P .ret
def f9G:=Ts [] [nP 16 4,oP 17 (.binP .gtr) [.t 16,.c (.nili)]] (.t 17) g4i .skip
def d9r:=Rg [] [nP 24 5,vP 3 (.t 24),vP 4 (.c (.nili))]
def e6r:=Sq d9r .ret
def c03:=Sq f9G e6r
def e7V:=Sq f3n c03
def e45:=Sq g0I e7V
def j10:ACode :=
  e45
def k0t:AFn:={ np:=3,nv:=6,results:=[.v 3,.v 4],code:=j10 }

def i0s:=Rg [] [op (.v 4) .mv [.c (.list true [])]]
def h7i:=Rg [] [nP 11 0,nP 12 1,oP 13 (.call 152) [.t 11,.t 12]]
def g0s:=Rg [] [op (.v 5) .mv [.c (.list true [])]]
def i4Y:=Rg [] [vP 6 (.c (.bool true))]
def h0O:=Ts [] [nP 14 6] (.t 14) .skip (.exit 0)
def c0E:=Rg [] [mP 19 (.vs 5),nP 20 3,oP 21 .callV [.t 20],oP 22 (.bslice 6 [[.str [],.int .u8 0,.int .i64 0,.str [],.list true [],.list true []]] [0]) [.t 21],oP 23 (.app 6 96) [.ts 19,.t 22],vP 5 (.ts 23)]
def e0i:=Bk 1 c0E
def b6z:=Rg [] [nP 15 0,nP 16 2,oP 17 (.call 87) [.t 15,.t 16],oP 18 (.un .not) [.t 17],vP 6 (.t 18)]
def c9I:=Sq e0i b6z
def b9J:=Sq h0O c9I
def c9q:=Lp b9J
def c1W:=Bk 0 c9q
def b8w:=Sq i4Y c1W
def e9a:=Rg [] [nP 24 5,vP 4 (.ts 24)]
def d9h:=Sq e9a .ret
def d7j:=Sq b8w d9h
def d8V:=Sq g0s d7j
def d50:=Sq h7i d8V
def c2t:=Sq i0s d50
def i91:ACode :=
  c2t
def k20:AFn:={ np:=4,nv:=7,results:=[.v 4],code:=i91 }

def f8i:=Rg [1] [⟨.bx,.alloc [.str [],.int .u8 0,.int .i64 0,.str [],.list true [],.list true []],[],some 1,none⟩]
def i1l:=Rg [2] [oP 3 (.ldSt false 1) [.v 0],oP 4 (.call 151) [.t 3],oP 5 (.build [.str [],.int .u8 0,.int .i64 0,.str [],.list true [],.list true []] [(0,1)]) [.t 4],⟨.bx,.alloc [.str [],.int .u8 0,.int .i64 0,.str [],.list true [],.list true []],[],some 2,none⟩,xP (.stLc 2 6) [.l 2,.ts 5] 2]
def f2I:=Rg [] [oP 6 (.ldSt false 1) [.v 0],oP 7 (.call 152) [.t 6,.c (.str [58])]]
def f77:=Rg [] [oP 8 (.ldSt false 1) [.v 0],oP 9 (.call 200) [.t 8,.c (.bool false)],fP 10 1 (.l 2),xP (.stLc 2 5) [.t 10,.ts 9] 2]
def i0g:=Rg [] [lP 11 2 true 6 (.l 2),xP (.stLc 1 6) [.l 1,.ts 11] 1]
def c9B:=Sq i0g .ret
def c4F:=Sq f77 c9B
def c6J:=Sq f2I c4F
def e14:=Sq i1l c6J
def e2e:=Sq f8i e14
def j7T:ACode :=
  e2e
def j9K:AFn:={ np:=1,nv:=3,results:=[.bx 1 true 6],code:=j7T }

def i5d:=Rg [2] [⟨.bx,.boxV,[.v 0],some 2,none⟩,vP 3 (.c (.bool false))]
def i1J:=Rg [] [fP 4 0 (.l 2),lP 5 2 false 1 (.t 4),fP 6 0 (.v 1),oP 7 (.ldSt false 1) [.t 6],bP 8 .eql (.t 5) (.t 7),vP 3 (.t 8)]
def g8P:=Sq i1J .ret
def h83:=Sq i5d g8P
def j5o:ACode :=
  h83
def k0j:AFn:={ np:=2,nv:=4,results:=[.v 3],code:=j5o }

def h0R:=Rg [] [op (.v 4) .boxO [.v 3]]
def g8L:=Rg [] [nP 18 0,nP 19 1,nP 20 2,fP 21 2 (.v 4),oP 22 (.ldSt false 1) [.t 21],oP 23 (.call 274) [.t 18,.t 19,.t 20,.t 22]]
def h0K:=Ts [] [fP 15 0 (.v 4),oP 16 (.ldSt false 1) [.t 15],bP 17 .eql (.t 16) (.c (.int .u8 7))] (.t 17) g8L .skip
def f28:=Rg [] [fP 24 4 (.v 4),op (.v 11) (.ldSt false 1) [.t 24],op (.v 12) .lenL [.v 11],vP 13 (.c (.int .i64 0))]
def g0Q:=Ts [] [bP 28 .lss (.v 13) (.v 12)] (.t 28) .skip (.exit 0)
def d0a:=Rg [6] [nP 29 13,oP 30 (.iad 5) [.v 11,.v 13],oP 31 (.ldAn true 5) [.t 30],op (.v 5) (.allocO [.int .i64 0]) [],⟨.bx,.alloc [.int .u8 0,.int .i64 0,.str [],.list true [],.list true []],[],some 6,none⟩,op .none (.stSt 1) [.v 5,.t 29],xP (.stLc 6 5) [.l 6,.ts 31] 6]
def d1l:=Rg [] [vP 7 (.c (.nilp))]
def c2R:=Rg [] [vP 8 (.c (.bool false))]
def c0N:=Rg [] [nP 47 1,oP 48 .nilchk [.t 47],fP 49 1 (.t 48),oP 50 (.ldSt false 1) [.t 49],oP 51 (.iad 3) [.t 50,.c (.int .i64 0)],vP 7 (.t 51)]
def d67:=Rg [9] [nP 65 0,oP 66 .nilchk [.t 65],fP 67 0 (.t 66),oP 68 (.ldSt false 1) [.t 67],oP 69 .nilchk [.t 68],fP 70 0 (.t 69),oP 71 (.ldSt false 1) [.t 70],nP 72 1,oP 73 .nilchk [.t 72],fP 74 0 (.t 73),oP 75 (.ldSt false 1) [.t 74],oP 76 (.call 30) [.t 71,.t 75],mP 64 (.t 76),oP 77 (.ext 0) [.t 64],oP 78 (.ext 1) [.t 64],⟨.bx,.alloc [.int .u8 0,.str [],.list true [],.list true []],[],some 9,none⟩,xP (.stLc 9 4) [.l 9,.ts 77] 9,mP 13 (.t 78)]
def d1n:=Rg [] [fP 79 2 (.l 9),lP 80 9 false 1 (.t 79),oP 81 (.mkF 275 0) [.v 4,.v 5],oP 82 (.call 178) [.t 80,.t 81],vP 10 (.t 82)]
def d7X:=Rg [] [fP 90 2 (.l 9),lP 91 9 false 1 (.t 90),nP 92 10,oP 93 (.iad 11) [.t 91,.t 92],fP 94 2 (.t 93),fP 95 2 (.l 9),lP 96 9 false 1 (.t 95),nP 97 10,oP 98 (.iad 11) [.t 96,.t 97],fP 99 5 (.t 98),oP 100 (.ldRo false 1) [.t 99],vP 7 (.t 94),vP 8 (.t 100)]
def d9V:=Ts [] [nP 83 10,bP 84 .geq (.t 83) (.c (.int .i64 0)),mP 85 (.t 84),gP 86 (.fad 0) [.l 9] 85 true,⟨.t 87,.ldLc 9 false 1,[.t 86],some 9,some (.t 85,true)⟩,gP 88 (.bin .eql) [.t 87,.c (.int .u8 5)] 85 true,oP 89 .pick [.t 85,.t 88,.c (.bool false)]] (.t 89) d7X .skip
def b9d:=Sq d1n d9V
def e8i:=Sq d67 b9d
def c0p:=Ts [] [fP 53 0 (.v 4),oP 54 (.ldSt false 1) [.t 53],bP 55 .eql (.t 54) (.c (.int .u8 6)),mP 56 (.t 55),gP 57 .mv [.v 1] 56 true,gP 58 .nilchk [.t 57] 56 true,gP 59 (.fad 1) [.t 58] 56 true,gP 60 (.ldSt false 1) [.t 59] 56 true,gP 61 .lenL [.t 60] 56 true,gP 62 (.bin .eql) [.t 61,.c (.int .i64 0)] 56 true,oP 63 .pick [.t 56,.t 62,.c (.bool false)],mP 52 (.t 63)] (.t 52) e8i .skip
def b8X:=Ts [] [fP 36 0 (.v 4),oP 37 (.ldSt false 1) [.t 36],bP 38 .eql (.t 37) (.c (.int .u8 5)),mP 39 (.t 38),gP 40 .mv [.v 1] 39 true,gP 41 .nilchk [.t 40] 39 true,gP 42 (.fad 1) [.t 41] 39 true,gP 43 (.ldSt false 1) [.t 42] 39 true,gP 44 .lenL [.t 43] 39 true,gP 45 (.bin .gtr) [.t 44,.c (.int .i64 0)] 39 true,oP 46 .pick [.t 39,.t 45,.c (.bool false)],mP 35 (.t 46)] (.t 35) c0N c0p
def e3b:=Ts [] [nP 33 1,oP 34 (.binP .eql) [.t 33,.c (.nilp)],mP 32 (.t 34)] (.t 32) .skip b8X
def d9t:=Bk 2 e3b
def c7t:=Rg [] [nP 101 0,nP 102 7,nP 103 8,lP 104 6 true 5 (.l 6),oP 105 (.call 246) [.t 101,.t 102,.t 103,.t 104]]
def c1I:=Sq d9t c7t
def c1K:=Sq c2R c1I
def b9t:=Sq d1l c1K
def c55:=Sq d0a b9t
def d00:=Bk 1 c55
def b60:=Rg [] [bP 106 .add (.v 13) (.c (.int .i64 1)),vP 13 (.t 106)]
def c0D:=Sq d00 b60
def b9S:=Sq g0Q c0D
def d9Z:=Lp b9S
def d4Q:=Bk 0 d9Z
def e4u:=Sq f28 d4Q
def e1E:=Sq h0K e4u
def c2J:=Sq h0R e1E
def j3R:ACode :=
  c2J
def k3s:AFn:={ np:=4,nv:=14,results:=[],code:=j3R }

def g6U:=Rg [] [op (.v 2) .boxO [.v 1],vP 3 (.c (.bool false))]
def h5V:=Rg [] [nP 5 0,oP 6 .lenL [.t 5],oP 7 (.ldSt false 1) [.v 2],oP 8 .lenL [.t 7],bP 9 .eql (.t 6) (.t 8),mP 10 (.t 9),gP 11 .mv [.v 0] 10 true,gP 12 (.mkF 277 0) [.v 2] 10 true,gP 13 (.call 276) [.t 11,.t 12] 10 true,gP 14 (.un .not) [.t 13] 10 true,oP 15 .pick [.t 10,.t 14,.c (.bool false)],vP 3 (.t 15)]
def g2z:=Sq h5V .ret
def h8T:=Sq g6U g2z
def j5x:ACode :=
  h8T
def j9n:AFn:={ np:=2,nv:=4,results:=[.v 3],code:=j5x }

def h01:=Rg [] [vP 3 (.c (.bool false))]
def f89:=Rg [] [vP 3 (.c (.bool false))]
def f2q:=Sq f89 .ret
def f6f:=Ts [] [nP 10 0,oP 11 .lenL [.t 10],nP 12 1,oP 13 .lenL [.t 12],bP 14 .neq (.t 11) (.t 13)] (.t 14) f2q .skip
def f8r:=Rg [] [vP 7 (.v 0),op (.v 8) .lenL [.v 7],vP 9 (.c (.int .i64 0))]
def c3L:=Ts [] [bP 18 .lss (.v 9) (.v 8)] (.t 18) .skip (.exit 0)
def d8F:=Rg [5] [nP 19 9,oP 20 (.iad 7) [.v 7,.v 9],oP 21 (.ldAn true 7) [.t 20],⟨.bx,.alloc [.int .u8 0,.str [],.str [],.str [],.list true [],.list true [],.list true []],[],some 5,none⟩,vP 4 (.t 19),xP (.stLc 5 7) [.l 5,.ts 21] 5]
def e5M:=Rg [6] [nP 22 1,nP 23 4,oP 24 (.iad 7) [.t 22,.t 23],oP 25 (.ldAn true 7) [.t 24],⟨.bx,.alloc [.int .u8 0,.str [],.str [],.str [],.list true [],.list true [],.list true []],[],some 6,none⟩,xP (.stLc 6 7) [.l 6,.ts 25] 6]
def d8o:=Rg [] [vP 3 (.c (.bool false))]
def d5C:=Sq d8o .ret
def c4B:=Ts [] [nP 26 2,lP 27 5 true 7 (.l 5),lP 28 6 true 7 (.l 6),oP 29 .callV [.t 26,.t 27,.t 28],oP 30 (.un .not) [.t 29]] (.t 30) d5C .skip
def c7h:=Sq e5M c4B
def b8V:=Sq d8F c7h
def d36:=Bk 1 b8V
def d3i:=Rg [] [bP 31 .add (.v 9) (.c (.int .i64 1)),vP 9 (.t 31)]
def e8g:=Sq d36 d3i
def d1b:=Sq c3L e8g
def b7G:=Lp d1b
def c6V:=Bk 0 b7G
def d0V:=Sq f8r c6V
def d9I:=Rg [] [vP 3 (.c (.bool true))]
def f0L:=Sq d9I .ret
def c0K:=Sq d0V f0L
def c7B:=Sq f6f c0K
def c3U:=Sq h01 c7B
def j9i:ACode :=
  c3U
def k3E:AFn:={ np:=3,nv:=10,results:=[.v 3],code:=j9i }

def g3l:=Rg [2,3] [⟨.bx,.boxV,[.v 0],some 2,none⟩,⟨.bx,.boxV,[.v 1],some 3,none⟩,vP 4 (.c (.bool false))]
def f39:=Rg [] [fP 5 0 (.l 2),lP 6 2 false 1 (.t 5),fP 7 0 (.l 3),lP 8 3 false 1 (.t 7),bP 9 .eql (.t 6) (.t 8),mP 10 (.t 9),gP 11 (.fad 1) [.l 2] 10 true,⟨.t 12,.ldLc 2 false 1,[.t 11],some 2,some (.t 10,true)⟩,gP 13 (.fad 1) [.l 3] 10 true,⟨.t 14,.ldLc 3 false 1,[.t 13],some 3,some (.t 10,true)⟩,gP 15 (.bin .eql) [.t 12,.t 14] 10 true,oP 16 .pick [.t 10,.t 15,.c (.bool false)],mP 17 (.t 16),gP 18 (.fad 3) [.l 2] 17 true,⟨.t 19,.ldLc 2 false 1,[.t 18],some 2,some (.t 17,true)⟩,gP 20 (.fad 3) [.l 3] 17 true,⟨.t 21,.ldLc 3 false 1,[.t 20],some 3,some (.t 17,true)⟩,gP 22 (.bin .eql) [.t 19,.t 21] 17 true,oP 23 .pick [.t 17,.t 22,.c (.bool false)],mP 24 (.t 23),gP 25 (.fad 5) [.l 2] 24 true,⟨.t 26,.ldLc 2 false 1,[.t 25],some 2,some (.t 24,true)⟩,gP 27 (.fad 5) [.l 3] 24 true,⟨.t 28,.ldLc 3 false 1,[.t 27],some 3,some (.t 24,true)⟩,gP 29 (.call 280) [.t 26,.t 28,.c (.func 281 [] [])] 24 true,oP 30 .pick [.t 24,.t 29,.c (.bool false)],mP 31 (.t 30),⟨.t 32,.ldLc 2 true 7,[.l 2],some 2,some (.t 31,true)⟩,⟨.t 33,.ldLc 3 true 7,[.l 3],some 3,some (.t 31,true)⟩,gP 34 (.call 206) [.t 32,.t 33] 31 true,oP 35 .pick [.t 31,.t 34,.c (.bool false)],vP 4 (.t 35)]
def i7W:=Sq f39 .ret
def h7M:=Sq g3l i7W
def j5D:ACode :=
  h7M
def k3i:AFn:={ np:=2,nv:=5,results:=[.v 4],code:=j5D }

def i0N:=Rg [] [op (.v 2) .mv [.c (.list true [])]]
def g1K:=Rg [] [op (.v 3) .mv [.c (.list true [])]]
def h0X:=Rg [] [vP 5 (.v 0),op (.v 6) .lenL [.v 5],vP 7 (.c (.int .i64 0))]
def f36:=Ts [] [bP 11 .lss (.v 7) (.v 6)] (.t 11) .skip (.exit 0)
def i3k:=Rg [4] [oP 12 (.iad 6) [.v 5,.v 7],oP 13 (.ldRo true 6) [.t 12],⟨.bx,.alloc [.str [],.int .u8 0,.int .i64 0,.str [],.list true [],.list true []],[],some 4,none⟩,xP (.stLc 4 6) [.l 4,.ts 13] 4]
def d2n:=Rg [] [mP 14 (.vs 3),nP 15 1,lP 16 4 true 6 (.l 4),oP 17 .callV [.t 15,.t 16],oP 18 (.bslice 1 [[.str []]] [0]) [.t 17],oP 19 (.app 1 16) [.ts 14,.t 18],vP 3 (.ts 19)]
def d7H:=Sq i3k d2n
def c6C:=Bk 1 d7H
def e5H:=Rg [] [bP 20 .add (.v 7) (.c (.int .i64 1)),vP 7 (.t 20)]
def d2A:=Sq c6C e5H
def e7W:=Sq f36 d2A
def c7j:=Lp e7W
def c1m:=Bk 0 c7j
def f17:=Sq h0X c1m
def d2b:=Rg [] [nP 21 3,vP 2 (.ts 21)]
def c0j:=Sq d2b .ret
def c2x:=Sq f17 c0j
def c1A:=Sq g1K c2x
def c8W:=Sq i0N c1A
def j6R:ACode :=
  c8W
def k0x:AFn:={ np:=2,nv:=8,results:=[.v 2],code:=j6R }

def f55:=Rg [1] [⟨.bx,.boxV,[.v 0],some 1,none⟩,op (.v 2) .mv [.c (.str [])]]
def g52:=Rg [] [fP 3 0 (.l 1),lP 4 1 false 1 (.t 3),vP 2 (.t 4)]
def g66:=Sq g52 .ret
def f7E:=Sq f55 g66
def j33:ACode :=
  f7E
def k1i:AFn:={ np:=1,nv:=3,results:=[.v 2],code:=j33 }

def f2W:=Rg [2] [⟨.bx,.boxV,[.v 0],some 2,none⟩,vP 3 (.c (.bool false))]
def i1t:=Rg [] [fP 4 0 (.l 2),lP 5 2 false 1 (.t 4),fP 6 0 (.v 1),oP 7 (.ldSt false 1) [.t 6],bP 8 .eql (.t 5) (.t 7),vP 3 (.t 8)]
def h5S:=Sq i1t .ret
def f52:=Sq f2W h5S
def j0U:ACode :=
  f52
def j9D:AFn:={ np:=2,nv:=4,results:=[.v 3],code:=j0U }

def g00:=Rg [] [op (.v 3) .boxO [.v 0],op (.v 4) .boxO [.v 1],op (.v 5) .boxO [.v 2],vP 6 (.c (.bool false))]
def i5o:=Rg [] [vP 6 (.c (.bool true))]
def i1X:=Sq i5o .ret
def h9O:=Rg [] [fP 26 4 (.v 5),oP 27 (.ldSt false 1) [.t 26],oP 28 (.mkF 282 0) [.v 3,.v 4],oP 29 (.call 186) [.t 27,.t 28],oP 30 (.un .not) [.t 29],vP 6 (.t 30)]
def h0S:=Sq h9O .ret
def b9y:=Rg [] [oP 41 (.ldSt false 1) [.v 3],fP 42 1 (.v 4),oP 43 (.ldSt false 1) [.t 42],oP 44 (.iad 3) [.t 43,.c (.int .i64 0)],oP 45 (.ldRo true 3) [.t 44],oP 46 (.ldSt true 5) [.v 5],oP 47 (.call 253) [.t 41,.t 45,.t 46],vP 6 (.t 47)]
def e9r:=Sq b9y .ret
def d0W:=Rg [] [oP 62 (.ldSt false 1) [.v 3],oP 63 .nilchk [.t 62],fP 64 0 (.t 63),oP 65 (.ldSt false 1) [.t 64],oP 66 (.ldSt true 3) [.v 4],oP 67 (.ldSt true 5) [.v 5],oP 68 (.call 128) [.t 65,.t 66,.t 67],vP 6 (.t 68)]
def e3B:=Sq d0W .ret
def d3T:=Ts [] [fP 49 0 (.v 5),oP 50 (.ldSt false 1) [.t 49],bP 51 .neq (.t 50) (.c (.int .u8 6)),mP 52 (.t 51),gP 53 (.ldSt false 1) [.v 3] 52 false,gP 54 .nilchk [.t 53] 52 false,gP 55 (.fad 0) [.t 54] 52 false,gP 56 (.ldSt false 1) [.t 55] 52 false,gP 57 (.fad 0) [.v 4] 52 false,gP 58 (.ldSt false 1) [.t 57] 52 false,gP 59 (.call 127) [.t 56,.t 58] 52 false,gP 60 (.un .not) [.t 59] 52 false,oP 61 .pick [.t 52,.c (.bool true),.t 60],mP 48 (.t 61)] (.t 48) e3B .skip
def c6q:=Ts [] [fP 32 1 (.v 4),oP 33 (.ldSt false 1) [.t 32],oP 34 .lenL [.t 33],bP 35 .gtr (.t 34) (.c (.int .i64 0)),mP 36 (.t 35),gP 37 (.fad 0) [.v 5] 36 true,gP 38 (.ldSt false 1) [.t 37] 36 true,gP 39 (.bin .neq) [.t 38,.c (.int .u8 0)] 36 true,oP 40 .pick [.t 36,.t 39,.c (.bool false)],mP 31 (.t 40)] (.t 31) e9r d3T
def d1H:=Ts [] [fP 17 0 (.v 5),oP 18 (.ldSt false 1) [.t 17],bP 19 .eql (.t 18) (.c (.int .u8 5)),mP 20 (.t 19),gP 21 (.fad 1) [.v 4] 20 true,gP 22 (.ldSt false 1) [.t 21] 20 true,gP 23 .lenL [.t 22] 20 true,gP 24 (.bin .gtr) [.t 23,.c (.int .i64 0)] 20 true,oP 25 .pick [.t 20,.t 24,.c (.bool false)],mP 16 (.t 25)] (.t 16) h0S c6q
def e89:=Ts [] [fP 13 0 (.v 5),oP 14 (.ldSt false 1) [.t 13],bP 15 .eql (.t 14) (.c (.int .u8 7)),mP 12 (.t 15)] (.t 12) i1X d1H
def f0B:=Bk 0 e89
def c8z:=Rg [7] [oP 70 (.ldSt false 1) [.v 3],oP 71 .nilchk [.t 70],fP 72 0 (.t 71),oP 73 (.ldSt false 1) [.t 72],fP 74 0 (.v 4),oP 75 (.ldSt false 1) [.t 74],oP 76 (.call 30) [.t 73,.t 75],mP 69 (.t 76),oP 77 (.ext 0) [.t 69],oP 78 (.ext 1) [.t 69],⟨.bx,.alloc [.int .u8 0,.str [],.list true [],.list true []],[],some 7,none⟩,xP (.stLc 7 4) [.l 7,.ts 77] 7,mP 8 (.t 78)]
def f1I:=Rg [] [fP 79 3 (.v 5),op (.v 11) (.ldSt false 1) [.t 79],op (.v 12) .lenL [.v 11],vP 13 (.c (.int .i64 0))]
def d0P:=Ts [] [bP 83 .lss (.v 13) (.v 12)] (.t 83) .skip (.exit 1)
def c1E:=Rg [] [nP 84 13,oP 85 (.iad 1) [.v 11,.v 13],oP 86 (.ldAn false 1) [.t 85],op (.v 9) (.allocO [.str []]) [],vP 8 (.t 84),op .none (.stSt 1) [.v 9,.t 86]]
def b7x:=Rg [] [fP 87 2 (.l 7),lP 88 7 false 1 (.t 87),oP 89 (.mkF 283 0) [.v 9],oP 90 (.call 178) [.t 88,.t 89],vP 10 (.t 90)]
def d90:=Rg [] [vP 6 (.c (.bool false))]
def c1P:=Sq d90 .ret
def c0n:=Ts [] [nP 91 10,bP 92 .lss (.t 91) (.c (.int .i64 0)),mP 93 (.t 92),gP 94 (.fad 3) [.v 5] 93 false,gP 95 (.ldSt false 1) [.t 94] 93 false,gP 96 .mv [.v 8] 93 false,gP 97 (.slL 1 false true) [.t 95,.t 96] 93 false,gP 98 (.ldSt false 1) [.v 9] 93 false,gP 99 (.call 27) [.t 97,.t 98] 93 false,oP 100 .pick [.t 93,.c (.bool true),.t 99],mP 101 (.t 100),gP 102 (.ldSt false 1) [.v 3] 101 false,gP 103 (.fad 2) [.l 7] 101 false,⟨.t 104,.ldLc 7 false 1,[.t 103],some 7,some (.t 101,false)⟩,gP 105 .mv [.v 10] 101 false,gP 106 (.iad 11) [.t 104,.t 105] 101 false,gP 107 (.fad 2) [.t 106] 101 false,gP 108 (.ldRo true 3) [.t 107] 101 false,gP 109 (.fad 4) [.v 5] 101 false,gP 110 (.ldSt false 1) [.t 109] 101 false,gP 111 .mv [.v 8] 101 false,gP 112 (.iad 5) [.t 110,.t 111] 101 false,gP 113 (.ldAn true 5) [.t 112] 101 false,gP 114 (.call 253) [.t 102,.t 108,.t 113] 101 false,gP 115 (.un .not) [.t 114] 101 false,oP 116 .pick [.t 101,.c (.bool true),.t 115]] (.t 116) c1P .skip
def d1N:=Sq b7x c0n
def c3T:=Sq c1E d1N
def c4c:=Bk 2 c3T
def e3P:=Rg [] [bP 117 .add (.v 13) (.c (.int .i64 1)),vP 13 (.t 117)]
def d2v:=Sq c4c e3P
def e0y:=Sq d0P d2v
def c5n:=Lp e0y
def b8c:=Bk 1 c5n
def d0N:=Sq f1I b8c
def d0E:=Rg [] [fP 118 2 (.l 7),lP 119 7 false 1 (.t 118),oP 120 (.mkF 284 0) [.v 5],oP 121 (.call 129) [.t 119,.t 120],oP 122 (.un .not) [.t 121],vP 6 (.t 122)]
def c4I:=Sq d0E .ret
def b58:=Sq d0N c4I
def d8k:=Sq c8z b58
def e5k:=Sq f0B d8k
def d4p:=Sq g00 e5k
def j05:ACode :=
  d4p
def k2y:AFn:={ np:=3,nv:=14,results:=[.v 6],code:=j05 }

def f9D:=Rg [] [vP 2 (.c (.int .i64 0))]
def g3S:=Rg [] [nP 6 0,op (.v 4) .lenL [.t 6],vP 5 (.c (.int .i64 0))]
def g5S:=Ts [] [bP 9 .lss (.v 5) (.v 4)] (.t 9) .skip (.exit 0)
def f6t:=Rg [] [nP 10 5,vP 3 (.t 10)]
def e7C:=Rg [] [nP 17 3,vP 2 (.t 17)]
def e8A:=Sq e7C .ret
def b9L:=Ts [] [nP 11 1,nP 12 0,nP 13 3,oP 14 (.iad 1) [.t 12,.t 13],oP 15 (.ldAn false 1) [.t 14],oP 16 .callV [.t 11,.t 15]] (.t 16) e8A .skip
def e5V:=Sq f6t b9L
def d7S:=Bk 1 e5V
def f02:=Rg [] [bP 18 .add (.v 5) (.c (.int .i64 1)),vP 5 (.t 18)]
def f1L:=Sq d7S f02
def d6U:=Sq g5S f1L
def d3L:=Lp d6U
def d3b:=Bk 0 d3L
def d6W:=Sq g3S d3b
def d7k:=Rg [] [vP 2 (.c (.int .i64 (-1)))]
def d2j:=Sq d7k .ret
def c4P:=Sq d6W d2j
def c3F:=Sq f9D c4P
def j3d:ACode :=
  c3F
def k0u:AFn:={ np:=2,nv:=6,results:=[.v 2],code:=j3d }

def h3X:=Rg [] [nP 12 1,vP 5 (.t 12)]
def g3K:=Rg [] [nP 13 5,bP 14 .mul (.c (.int .i64 2)) (.t 13),bP 15 .add (.t 14) (.c (.int .i64 1)),vP 6 (.t 15)]
def h8U:=Ts [] [nP 16 6,nP 17 2,bP 18 .geq (.t 16) (.t 17)] (.t 18) (.exit 0) .skip
def g6c:=Rg [] [nP 41 6,bP 42 .add (.t 41) (.c (.int .i64 1)),vP 6 (.t 42)]
def i58:=Ts [] [nP 19 6,bP 20 .add (.t 19) (.c (.int .i64 1)),nP 21 2,bP 22 .lss (.t 20) (.t 21),mP 23 (.t 22),gP 24 .mv [.v 4] 23 true,gP 25 .mv [.v 0] 23 true,gP 26 .mv [.v 3] 23 true,gP 27 .mv [.v 6] 23 true,gP 28 (.bin .add) [.t 26,.t 27] 23 true,gP 29 (.iad 2) [.t 25,.t 28] 23 true,gP 30 (.ldAn true 2) [.t 29] 23 true,gP 31 .mv [.v 0] 23 true,gP 32 .mv [.v 3] 23 true,gP 33 .mv [.v 6] 23 true,gP 34 (.bin .add) [.t 32,.t 33] 23 true,gP 35 (.bin .add) [.t 34,.c (.int .i64 1)] 23 true,gP 36 (.iad 2) [.t 31,.t 35] 23 true,gP 37 (.ldAn true 2) [.t 36] 23 true,gP 38 .callV [.t 24,.t 30,.t 37] 23 true,gP 39 (.bin .lss) [.t 38,.c (.int .i64 0)] 23 true,oP 40 .pick [.t 23,.t 39,.c (.bool false)]] (.t 40) g6c .skip
def e9H:=Ts [] [nP 43 4,nP 44 0,nP 45 3,nP 46 5,bP 47 .add (.t 45) (.t 46),oP 48 (.iad 2) [.t 44,.t 47],oP 49 (.ldAn true 2) [.t 48],nP 50 0,nP 51 3,nP 52 6,bP 53 .add (.t 51) (.t 52),oP 54 (.iad 2) [.t 50,.t 53],oP 55 (.ldAn true 2) [.t 54],oP 56 .callV [.t 43,.t 49,.t 55],bP 57 .lss (.t 56) (.c (.int .i64 0)),oP 58 (.un .not) [.t 57]] (.t 58) .ret .skip
def c8v:=Rg [] [nP 59 0,nP 60 3,nP 61 5,bP 62 .add (.t 60) (.t 61),nP 63 0,nP 64 3,nP 65 6,bP 66 .add (.t 64) (.t 65),nP 67 0,nP 68 3,nP 69 6,bP 70 .add (.t 68) (.t 69),oP 71 (.iad 2) [.t 67,.t 70],oP 72 (.ldAn true 2) [.t 71],nP 73 0,nP 74 3,nP 75 5,bP 76 .add (.t 74) (.t 75),oP 77 (.iad 2) [.t 73,.t 76],oP 78 (.ldAn true 2) [.t 77],oP 79 (.iad 2) [.t 59,.t 62],op .none (.stSt 2) [.t 79,.t 72],oP 80 (.iad 2) [.t 63,.t 66],op .none (.stSt 2) [.t 80,.t 78]]
def e5h:=Rg [] [nP 81 6,vP 5 (.t 81)]
def e41:=Sq c8v e5h
def d9S:=Sq e9H e41
def c3c:=Sq i58 d9S
def d2H:=Sq h8U c3c
def c6n:=Sq g3K d2H
def e7P:=Bk 1 c6n
def d3V:=Lp e7P
def d98:=Bk 0 d3V
def c9h:=Sq h3X d98
def j3F:ACode :=
  c9h
def k2U:AFn:={ np:=5,nv:=7,results:=[],code:=j3F }

def g4V:=Rg [] [vP 1 (.c (.int .u64 0))]
def g8I:=Rg [] [nP 3 0,oP 4 (.conv .u64) [.t 3],oP 5 (.call 166) [.t 4],bP 6 .shl (.c (.int .u64 1)) (.t 5),vP 1 (.t 6)]
def i3q:=Sq g8I .ret
def h5Q:=Sq g4V i3q
def j3J:ACode :=
  h5Q
def k0i:AFn:={ np:=1,nv:=2,results:=[.v 1],code:=j3J }

def g96:=Rg [] [vP 1 (.c (.int .u64 0))]
def f41:=Rg [] [nP 3 0,oP 4 .nilchk [.t 3],oP 5 (.ldSt false 1) [.t 4],nP 6 0,oP 7 .nilchk [.t 6],oP 8 (.ldSt false 1) [.t 7],bP 9 .shl (.t 8) (.c (.int .u64 13)),bP 10 .xor (.t 5) (.t 9),oP 11 .nilchk [.t 3],op .none (.stSt 1) [.t 11,.t 10]]
def h2K:=Rg [] [nP 12 0,oP 13 .nilchk [.t 12],oP 14 (.ldSt false 1) [.t 13],nP 15 0,oP 16 .nilchk [.t 15],oP 17 (.ldSt false 1) [.t 16],bP 18 .shr (.t 17) (.c (.int .u64 7)),bP 19 .xor (.t 14) (.t 18),oP 20 .nilchk [.t 12],op .none (.stSt 1) [.t 20,.t 19]]
def h5U:=Rg [] [nP 21 0,oP 22 .nilchk [.t 21],oP 23 (.ldSt false 1) [.t 22],nP 24 0,oP 25 .nilchk [.t 24],oP 26 (.ldSt false 1) [.t 25],bP 27 .shl (.t 26) (.c (.int .u64 17)),bP 28 .xor (.t 23) (.t 27),oP 29 .nilchk [.t 21],op .none (.stSt 1) [.t 29,.t 28]]
def f4f:=Rg [] [nP 30 0,oP 31 .nilchk [.t 30],oP 32 (.ldSt false 1) [.t 31],vP 1 (.t 32)]
def c2Q:=Sq f4f .ret
def e6a:=Sq h5U c2Q
def c5T:=Sq h2K e6a
def d7l:=Sq f41 c5T
def f1n:=Sq g96 d7l
def j0v:ACode :=
  f1n
def k2o:AFn:={ np:=1,nv:=2,results:=[.v 1],code:=j0v }

def h1e:=Rg [] [vP 4 (.c (.int .i64 0))]
def h6N:=Rg [] [nP 9 0,nP 10 1,bP 11 .sub (.t 10) (.c (.int .i64 1)),nP 12 1,nP 13 1,bP 14 .add (.t 13) (.c (.int .i64 1)),nP 15 2,nP 16 3,oP 17 (.call 259) [.t 9,.t 11,.t 12,.t 14,.t 15,.t 16],vP 4 (.t 17)]
def g40:=Sq h6N .ret
def f8P:=Sq h1e g40
def i90:ACode :=
  f8P
def j9W:AFn:={ np:=4,nv:=5,results:=[.v 4],code:=i90 }

def i4C:=Rg [] [vP 6 (.c (.int .i64 0))]
def h8l:=Rg [] [nP 14 0,nP 15 1,nP 16 2,nP 17 4,nP 18 5,oP 19 (.call 285) [.t 14,.t 15,.t 16,.t 17,.t 18],mP 13 (.t 19),oP 20 (.ext 0) [.t 13],oP 21 (.ext 1) [.t 13],vP 1 (.t 20),vP 2 (.t 21)]
def i28:=Rg [] [nP 23 0,nP 24 2,nP 25 3,nP 26 4,nP 27 5,oP 28 (.call 285) [.t 23,.t 24,.t 25,.t 26,.t 27],mP 22 (.t 28),oP 29 (.ext 0) [.t 22],oP 30 (.ext 1) [.t 22],vP 2 (.t 29),vP 3 (.t 30)]
def f61:=Rg [] [nP 32 0,nP 33 1,nP 34 2,nP 35 4,nP 36 5,oP 37 (.call 285) [.t 32,.t 33,.t 34,.t 35,.t 36],mP 31 (.t 37),oP 38 (.ext 0) [.t 31],oP 39 (.ext 1) [.t 31],vP 1 (.t 38),vP 2 (.t 39)]
def h27:=Rg [] [nP 40 2,vP 6 (.t 40)]
def d7r:=Sq h27 .ret
def e7f:=Sq f61 d7r
def e5K:=Sq i28 e7f
def c0H:=Sq h8l e5K
def d4n:=Sq i4C c0H
def j7A:ACode :=
  d4n
def k3D:AFn:={ np:=6,nv:=7,results:=[.v 6],code:=j7A }

def h4o:=Rg [] [op (.v 2) .mv [.c (.str [])]]
def h92:=Rg [] [nP 5 0,nP 6 1,oP 7 (.call 286) [.t 5,.t 6],vP 2 (.t 7)]
def h8f:=Sq h92 .ret
def g3u:=Sq h4o h8f
def i9M:ACode :=
  g3u
def k1Z:AFn:={ np:=2,nv:=3,results:=[.v 2],code:=i9M }

def i0m:=Rg [] [vP 2 (.c (.int .i64 0))]
def h2W:=Rg [] [nP 6 0,op (.v 4) .lenL [.t 6],vP 5 (.c (.int .i64 0))]
def i5T:=Ts [] [bP 9 .lss (.v 5) (.v 4)] (.t 9) .skip (.exit 0)
def h2y:=Rg [] [nP 10 5,vP 3 (.t 10)]
def e2c:=Rg [] [nP 17 3,vP 2 (.t 17)]
def c7f:=Sq e2c .ret
def e8h:=Ts [] [nP 11 1,nP 12 0,nP 13 3,oP 14 (.iad 2) [.t 12,.t 13],oP 15 (.ldRo true 2) [.t 14],oP 16 .callV [.t 11,.t 15]] (.t 16) c7f .skip
def c8B:=Sq h2y e8h
def b6V:=Bk 1 c8B
def f1N:=Rg [] [bP 18 .add (.v 5) (.c (.int .i64 1)),vP 5 (.t 18)]
def d46:=Sq b6V f1N
def d3U:=Sq i5T d46
def f0q:=Lp d3U
def c2A:=Bk 0 f0q
def b51:=Sq h2W c2A
def c6M:=Rg [] [vP 2 (.c (.int .i64 (-1)))]
def e9W:=Sq c6M .ret
def e2d:=Sq b51 e9W
def e5n:=Sq i0m e2d
def j5I:ACode :=
  e5n
def j9r:AFn:={ np:=2,nv:=6,results:=[.v 2],code:=j5I }

def h8t:AFn:={ np:=1,nv:=0,results:=[],code:=.skip,ext:=some (O8 1 16) }
def g2G:=Rg [] [vP 2 (.c (.bool false))]
def h6g:=Rg [] [nP 5 0,oP 6 (.call 168) [.t 5],mP 7 (.t 6),gP 8 .mv [.v 1] 7 true,gP 9 (.call 168) [.t 8] 7 true,gP 10 (.un .not) [.t 9] 7 true,oP 11 .pick [.t 7,.t 10,.c (.bool false)],mP 12 (.t 11),gP 13 .mv [.v 0] 12 false,gP 14 .mv [.v 1] 12 false,gP 15 (.bin .lss) [.t 13,.t 14] 12 false,oP 16 .pick [.t 12,.c (.bool true),.t 15],vP 2 (.t 16)]
def i5K:=Sq h6g .ret
def h1K:=Sq g2G i5K
def j14:ACode :=
  h1K
def j9E:AFn:={ np:=2,nv:=3,results:=[.v 2],code:=j14 }

def g55:=Rg [] [vP 1 (.c (.bool false))]
def h2x:=Rg [] [nP 3 0,nP 4 0,bP 5 .neq (.t 3) (.t 4),vP 1 (.t 5)]
def h8A:=Sq h2x .ret
def i65:=Sq g55 h8A
def j3o:ACode :=
  i65
def k1k:AFn:={ np:=1,nv:=2,results:=[.v 1],code:=j3o }

def h7z:=Rg [] [vP 1 (.c (.bool false))]
def g5b:=Rg [] [nP 8 0,oP 9 .nilchk [.t 8],fP 10 13 (.t 9),oP 11 (.ldSt false 1) [.t 10],bP 12 .add (.t 11) (.c (.int .i64 1)),oP 13 .nilchk [.t 8],fP 14 13 (.t 13),op .none (.stSt 1) [.t 14,.t 12]]
def h9N:=Ts [] [nP 3 0,oP 4 .nilchk [.t 3],fP 5 13 (.t 4),oP 6 (.ldSt false 1) [.t 5],bP 7 .leq (.t 6) (.c (.int .i64 5000))] (.t 7) g5b .skip
def g7c:=Rg [] [nP 15 0,oP 16 .nilchk [.t 15],fP 17 13 (.t 16),oP 18 (.ldSt false 1) [.t 17],bP 19 .leq (.t 18) (.c (.int .i64 5000)),vP 1 (.t 19)]
def f4n:=Sq g7c .ret
def i6E:=Sq h9N f4n
def e4W:=Sq h7z i6E
def j8Q:ACode :=
  e4W
def k0T:AFn:={ np:=1,nv:=2,results:=[.v 1],code:=j8Q }

def g7E:=Rg [] [op (.v 1) .mv [.c (.str [])]]
def f9e:=Rg [] [nP 3 0,oP 4 (.call 287) [.t 3],vP 1 (.t 4)]
def g8R:=Sq f9e .ret
def h0r:=Sq g7E g8R
def j3P:ACode :=
  h0r
def k3P:AFn:={ np:=1,nv:=2,results:=[.v 1],code:=j3P }

def g83:=Rg [3] [⟨.bx,.boxV,[.v 2],some 3,none⟩,vP 4 (.c (.bool false))]
def i7v:=Rg [] [fP 9 0 (.l 3),lP 10 3 false 1 (.t 9),bP 11 .eql (.t 10) (.c (.int .u8 2)),vP 4 (.t 11)]
def g2e:=Sq i7v .ret
def i6J:=Ts [] [nP 7 1,oP 8 (.bin .eql) [.t 7,.c (.str [73,68])]] (.t 8) g2e .skip
def f8K:=Rg [] [nP 12 0,oP 13 .nilchk [.t 12],fP 14 0 (.t 13),oP 15 (.ldSt false 1) [.t 14],nP 16 1,oP 17 (.build [.str [],.list true [],.bool false] [(0,1)]) [.t 16],lP 18 3 true 5 (.l 3),oP 19 (.call 128) [.t 15,.t 17,.t 18],vP 4 (.t 19)]
def f5T:=Sq f8K .ret
def b8N:=Sq i6J f5T
def c2d:=Sq g83 b8N
def j4j:ACode :=
  c2d
def k1B:AFn:={ np:=3,nv:=5,results:=[.v 4],code:=j4j }

def i8m:=Rg [] [op (.v 3) .boxO [.v 0],vP 4 (.c (.bool false))]
def h1L:=Rg [] [fP 7 1 (.v 3),oP 8 (.ldSt false 1) [.t 7],mP 9 (.t 8),gP 10 .mv [.v 1] 9 false,gP 11 .mv [.v 2] 9 false,gP 12 (.call 230) [.t 10,.t 11] 9 false,gP 13 (.mkF 288 0) [.v 3] 9 false,gP 14 (.call 211) [.t 12,.t 13] 9 false,gP 15 (.un .not) [.t 14] 9 false,oP 16 .pick [.t 9,.c (.bool true),.t 15],vP 4 (.t 16)]
def g9b:=Sq h1L .ret
def g3G:=Sq i8m g9b
def j1C:ACode :=
  g3G
def k2A:AFn:={ np:=3,nv:=5,results:=[.v 4],code:=j1C }

def g1L:=Rg [5,6] [⟨.bx,.boxV,[.v 2],some 5,none⟩,⟨.bx,.alloc [.int .u8 0,.int .i64 0,.str [],.list true [],.list true []],[],some 6,none⟩,vP 7 (.c (.bool false))]
def i36:=Rg [] [oP 20 (.build [.int .u8 0,.int .i64 0,.str [],.list true [],.list true []] [(0,1)]) [.c (.int .u8 6)],op (.v 8) (.allocO [.int .u8 0,.int .i64 0,.str [],.list true [],.list true []]) [],op .none (.stSt 5) [.v 8,.ts 20]]
def i1S:=Rg [] [nP 21 0,oP 22 .nilchk [.t 21],fP 23 0 (.t 22),oP 24 (.ldSt false 1) [.t 23],nP 25 0,oP 26 .nilchk [.t 25],fP 27 1 (.t 26),oP 28 (.ldSt true 2) [.t 27],nP 29 1,nP 30 3,nP 31 0,oP 32 .nilchk [.t 31],fP 33 6 (.t 32),oP 34 (.ldSt true 5) [.t 33],op (.v 15) (.call 44) [.t 24,.t 28,.t 29,.t 30,.t 34],op (.v 16) .lenL [.v 15],vP 17 (.c (.int .i64 0))]
def i4S:=Ts [] [bP 38 .lss (.v 17) (.v 16)] (.t 38) .skip (.exit 0)
def g3o:=Rg [9] [oP 39 (.iad 2) [.v 15,.v 17],oP 40 (.ldSt true 2) [.t 39],⟨.bx,.alloc [.str [],.list true []],[],some 9,none⟩,xP (.stLc 9 2) [.l 9,.ts 40] 9]
def e22:=Rg [10] [nP 42 0,oP 43 .nilchk [.t 42],fP 44 0 (.t 43),oP 45 (.ldSt false 1) [.t 44],nP 46 1,fP 47 1 (.l 9),lP 48 9 false 1 (.t 47),oP 49 (.iad 7) [.t 48,.c (.int .i64 0)],fP 50 2 (.t 49),oP 51 (.ldAn false 1) [.t 50],oP 52 (.call 45) [.t 45,.t 46,.t 51],mP 41 (.t 52),oP 53 (.ext 0) [.t 41],oP 54 (.ext 1) [.t 41],⟨.bx,.alloc [.str [],.list true [],.str [],.list true [],.bool false,.bool false,.int .u8 0,.int .i64 0,.str [],.list true [],.list true []],[],some 10,none⟩,xP (.stLc 10 11) [.l 10,.ts 53] 10,vP 11 (.t 54)]
def e7h:=Ts [] [nP 55 11,oP 56 (.un .not) [.t 55]] (.t 56) (.exit 1) .skip
def b9W:=Rg [] [oP 60 (.build [.int .u8 0,.int .i64 0,.str [],.list true [],.list true []] []) [],xP (.stLc 6 5) [.l 6,.ts 60] 6,vP 7 (.c (.bool false))]
def c4Z:=Sq b9W .ret
def d2U:=Ts [] [nP 57 0,oP 58 (.call 265) [.t 57],oP 59 (.un .not) [.t 58]] (.t 59) c4Z .skip
def c8m:=Rg [] [nP 61 4,oP 62 (.call 262) [.t 61],fP 63 0 (.l 9),lP 64 9 false 1 (.t 63),oP 65 (.bslice 1 [[.str []]] [0]) [.t 64],oP 66 (.app 1 16) [.ts 62,.t 65],vP 12 (.ts 66)]
def c9F:=Rg [13] [nP 68 0,nP 69 1,lP 70 5 true 4 (.l 5),lP 71 10 true 11 (.l 10),lP 72 9 true 2 (.l 9),nP 73 12,oP 74 (.call 289) [.t 68,.t 69,.t 70,.t 71,.t 72,.t 73],mP 67 (.t 74),oP 75 (.ext 0) [.t 67],oP 76 (.ext 1) [.t 67],⟨.bx,.alloc [.int .u8 0,.int .i64 0,.str [],.list true [],.list true []],[],some 13,none⟩,xP (.stLc 13 5) [.l 13,.ts 75] 13,vP 14 (.t 76)]
def c87:=Rg [] [oP 79 (.build [.int .u8 0,.int .i64 0,.str [],.list true [],.list true []] []) [],xP (.stLc 6 5) [.l 6,.ts 79] 6,vP 7 (.c (.bool false))]
def d0r:=Sq c87 .ret
def c9H:=Ts [] [nP 77 14,oP 78 (.un .not) [.t 77]] (.t 78) d0r .skip
def c6k:=Rg [] [fP 80 3 (.v 8),oP 81 (.ldStSR 3) [.t 80,.v 8],fP 82 0 (.l 9),lP 83 9 false 1 (.t 82),oP 84 (.bslice 1 [[.str []]] [0]) [.t 83],oP 85 (.app 1 16) [.ts 81,.t 84],fP 86 4 (.v 8),oP 87 (.ldStSR 4) [.t 86,.v 8],lP 88 13 true 5 (.l 13),oP 89 (.bslice 5 [[.int .u8 0,.int .i64 0,.str [],.list true [],.list true []]] [0]) [.t 88],oP 90 (.app 5 80) [.ts 87,.t 89],fP 91 3 (.v 8),op .none (.stSt 1) [.t 91,.ts 85],fP 92 4 (.v 8),op .none (.stSt 1) [.t 92,.ts 90]]
def c63:=Sq c9H c6k
def f2f:=Sq c9F c63
def c5Z:=Sq c8m f2f
def c8R:=Sq d2U c5Z
def e4K:=Sq e7h c8R
def c5E:=Sq e22 e4K
def e4y:=Sq g3o c5E
def c6e:=Bk 1 e4y
def d5X:=Rg [] [bP 93 .add (.v 17) (.c (.int .i64 1)),vP 17 (.t 93)]
def c83:=Sq c6e d5X
def c3S:=Sq i4S c83
def c0F:=Lp c3S
def d92:=Bk 0 c0F
def c72:=Sq i1S d92
def e3s:=Rg [] [oP 94 (.ldSt true 5) [.v 8],xP (.stLc 6 5) [.l 6,.ts 94] 6,vP 7 (.c (.bool true))]
def d8D:=Sq e3s .ret
def c3D:=Sq c72 d8D
def e5X:=Sq i36 c3D
def b6N:=Sq g1L e5X
def i84:ACode :=
  b6N
def b3N:AFn:={ np:=5,nv:=18,results:=[.bx 6 true 5,.v 7],code:=i84 }

def g1i:=Rg [1] [⟨.bx,.boxV,[.v 0],some 1,none⟩,op (.v 2) .mv [.c (.list true [])]]
def h9f:=Rg [] [op (.v 3) .mv [.c (.list true [])]]
def g3e:=Rg [] [fP 6 1 (.l 1),⟨.v 5,.ldLc 1 false 1,[.t 6],some 1,none⟩,op (.v 6) .lenL [.v 5],vP 7 (.c (.int .i64 0))]
def f2w:=Ts [] [bP 10 .lss (.v 7) (.v 6)] (.t 10) .skip (.exit 0)
def g2g:=Rg [4] [oP 11 (.iad 7) [.v 5,.v 7],oP 12 (.ldAn true 7) [.t 11],⟨.bx,.alloc [.int .u8 0,.str [],.str [],.str [],.list true [],.list true [],.list true []],[],some 4,none⟩,xP (.stLc 4 7) [.l 4,.ts 12] 4]
def e9n:=Rg [] [mP 13 (.vs 3),fP 14 6 (.l 4),lP 15 4 false 1 (.t 14),oP 16 (.app 7 128) [.ts 13,.t 15],vP 3 (.ts 16)]
def e1g:=Sq g2g e9n
def d2w:=Bk 1 e1g
def d59:=Rg [] [bP 17 .add (.v 7) (.c (.int .i64 1)),vP 7 (.t 17)]
def f1T:=Sq d2w d59
def c3E:=Sq f2w f1T
def b6D:=Lp c3E
def f0A:=Bk 0 b6D
def c2N:=Sq g3e f0A
def d6c:=Rg [] [nP 18 3,vP 2 (.ts 18)]
def e4j:=Sq d6c .ret
def b8G:=Sq c2N e4j
def c8D:=Sq h9f b8G
def e5g:=Sq g1i c8D
def j4c:ACode :=
  e5g
def k1o:AFn:={ np:=1,nv:=8,results:=[.v 2],code:=j4c }

def h1Q:=Rg [] [vP 3 (.c (.int .i64 0)),vP 4 (.c (.nili))]
def f6K:=Rg [] [oP 14 .stuck [],vP 3 (.c (.int .i64 0)),vP 4 (.t 14)]
def i04:=Sq f6K .ret
def f6E:=Ts [] [nP 12 0,oP 13 (.bin .eql) [.t 12,.c (.str [])]] (.t 13) i04 .skip
def g9h:=Rg [] [vP 5 (.c (.bool false))]
def b6S:=Rg [] [nP 15 0,op (.v 9) .idxS [.t 15,.c (.int .i64 0)]]
def d5r:=Rg [] [nP 19 0,oP 20 (.slS true false) [.t 19,.c (.int .i64 1)],vP 0 (.t 20)]
def c2C:=Rg [] [nP 23 0,oP 24 (.slS true false) [.t 23,.c (.int .i64 1)],vP 0 (.t 24)]
def d9X:=Rg [] [vP 5 (.c (.bool true))]
def f09:=Sq c2C d9X
def e6o:=Ts [] [bP 22 .eql (.v 9) (.c (.int .u8 45)),mP 21 (.t 22)] (.t 21) f09 .skip
def e7d:=Ts [] [bP 18 .eql (.v 9) (.c (.int .u8 43)),mP 17 (.t 18)] (.t 17) d5r e6o
def e2i:=Bk 0 e7d
def b9C:=Sq b6S e2i
def b7D:=Rg [] [vP 6 (.c (.int .u64 0))]
def d4C:=Rg [] [nP 26 0,nP 27 1,nP 28 2,oP 29 (.call 290) [.t 26,.t 27,.t 28],mP 25 (.t 29),oP 30 (.ext 0) [.t 25],oP 31 (.ext 1) [.t 25],vP 6 (.t 30),vP 4 (.t 31)]
def e8y:=Rg [] [nP 39 4,vP 3 (.c (.int .i64 0)),vP 4 (.t 39)]
def f0J:=Sq e8y .ret
def d1G:=Ts [] [nP 32 4,oP 33 (.binP .gtr) [.t 32,.c (.nili)],mP 34 (.t 33),gP 35 .mv [.v 4] 34 true,gP 36 .stuck [] 34 true,gP 37 .stuck [] 34 true,oP 38 .pick [.t 34,.t 37,.c (.bool false)]] (.t 38) f0J .skip
def c1w:=Rg [] [vP 2 (.c (.int .i64 64))]
def e35:=Ts [] [nP 40 2,bP 41 .eql (.t 40) (.c (.int .i64 0))] (.t 41) c1w .skip
def d2M:=Rg [] [nP 42 2,bP 43 .sub (.t 42) (.c (.int .i64 1)),oP 44 (.conv .u64) [.t 43],bP 45 .shl (.c (.int .u64 1)) (.t 44),vP 7 (.t 45)]
def c6b:=Rg [] [nP 53 7,bP 54 .sub (.t 53) (.c (.int .u64 1)),oP 55 (.conv .i64) [.t 54],oP 56 .stuck [],vP 3 (.t 55),vP 4 (.t 56)]
def d0m:=Sq c6b .ret
def e2L:=Ts [] [nP 46 5,oP 47 (.un .not) [.t 46],mP 48 (.t 47),gP 49 .mv [.v 6] 48 true,gP 50 .mv [.v 7] 48 true,gP 51 (.bin .geq) [.t 49,.t 50] 48 true,oP 52 .pick [.t 48,.t 51,.c (.bool false)]] (.t 52) d0m .skip
def c0P:=Rg [] [nP 63 7,oP 64 (.conv .i64) [.t 63],oP 65 (.un .neg) [.t 64],oP 66 .stuck [],vP 3 (.t 65),vP 4 (.t 66)]
def b6h:=Sq c0P .ret
def b9P:=Ts [] [nP 57 5,mP 58 (.t 57),gP 59 .mv [.v 6] 58 true,gP 60 .mv [.v 7] 58 true,gP 61 (.bin .gtr) [.t 59,.t 60] 58 true,oP 62 .pick [.t 58,.t 61,.c (.bool false)]] (.t 62) b6h .skip
def e7A:=Rg [] [nP 67 6,oP 68 (.conv .i64) [.t 67],vP 8 (.t 68)]
def d7E:=Rg [] [nP 70 8,oP 71 (.un .neg) [.t 70],vP 8 (.t 71)]
def c3C:=Ts [] [nP 69 5] (.t 69) d7E .skip
def c9K:=Rg [] [nP 72 8,vP 3 (.t 72),vP 4 (.c (.nili))]
def e0V:=Sq c9K .ret
def d1Q:=Sq c3C e0V
def c9j:=Sq e7A d1Q
def d2h:=Sq b9P c9j
def e0u:=Sq e2L d2h
def d3x:=Sq d2M e0u
def d9x:=Sq e35 d3x
def d1c:=Sq d1G d9x
def e8Z:=Sq d4C d1c
def b7o:=Sq b7D e8Z
def c3P:=Sq b9C b7o
def d6e:=Sq g9h c3P
def d4S:=Sq f6E d6e
def f0b:=Sq h1Q d4S
def j30:ACode :=
  f0b
def k1x:AFn:={ np:=3,nv:=10,results:=[.v 3,.v 4],code:=j30 }

def h9L:=Rg [] [op (.v 4) .boxO [.v 3]]
def h4h:=Rg [] [nP 11 0,nP 12 0,oP 13 .nilchk [.t 12],fP 14 5 (.t 13),oP 15 .ldStS [.t 14],oP 16 (.ldSt false 1) [.v 4],oP 17 (.bslice 1 [[.str []]] [0]) [.t 16],oP 18 (.app 1 16) [.ts 15,.t 17],oP 19 .nilchk [.t 11],fP 20 5 (.t 19),op .none (.stSt 1) [.t 20,.ts 18]]
def i6C:=Rg [] [nP 21 0,oP 22 .nilchk [.t 21],fP 23 1 (.t 22),fP 24 2 (.t 23),oP 25 (.ldSt false 1) [.t 24],oP 26 (.mkF 297 0) [.v 4],oP 27 (.call 296) [.t 25,.t 26],vP 5 (.t 27)]
def f8A:=Rg [] [nP 30 0,oP 31 .nilchk [.t 30],fP 32 0 (.t 31),oP 33 (.ldSt false 1) [.t 32],oP 34 (.ldSt false 1) [.v 4],oP 35 (.call 90) [.t 33,.c (.int .i64 16),.t 34]]
def g7o:=Sq f8A .ret
def f06:=Ts [] [nP 28 5,bP 29 .lss (.t 28) (.c (.int .i64 0))] (.t 29) g7o .skip
def e0R:=Ts [] [nP 36 1,oP 37 (.binP .eql) [.t 36,.c (.nilp)]] (.t 37) .ret .skip
def e6t:=Rg [6] [nP 38 0,oP 39 .nilchk [.t 38],fP 40 1 (.t 39),fP 41 2 (.t 40),oP 42 (.ldSt false 1) [.t 41],nP 43 5,oP 44 (.iad 10) [.t 42,.t 43],oP 45 (.ldRo true 10) [.t 44],⟨.bx,.alloc [.str [],.str [],.list true [],.bool false,.bool false,.int .u8 0,.int .i64 0,.str [],.list true [],.list true []],[],some 6,none⟩,xP (.stLc 6 10) [.l 6,.ts 45] 6]
def b9M:=Rg [7] [nP 46 1,oP 47 .nilchk [.t 46],oP 48 (.ldSt true 3) [.t 47],⟨.bx,.alloc [.str [],.list true [],.bool false],[],some 7,none⟩,xP (.stLc 7 3) [.l 7,.ts 48] 7]
def d7I:=Rg [] [fP 70 2 (.l 7),xP (.stLc 7 1) [.t 70,.c (.bool false)] 7]
def e3K:=Ts [] [fP 49 2 (.l 7),lP 50 7 false 1 (.t 49),mP 51 (.t 50),gP 52 (.fad 1) [.l 6] 51 true,gP 53 (.fad 2) [.t 52] 51 true,⟨.t 54,.ldLc 6 false 1,[.t 53],some 6,some (.t 51,true)⟩,gP 55 (.un .not) [.t 54] 51 true,oP 56 .pick [.t 51,.t 55,.c (.bool false)],mP 57 (.t 56),gP 58 .mv [.v 2] 57 true,gP 59 .mv [.t 58] 57 true,gP 60 (.fad 4) [.l 6] 59 false,⟨.t 61,.ldLc 6 false 1,[.t 60],some 6,some (.t 59,false)⟩,gP 62 .mv [.t 61] 59 false,gP 63 (.fad 5) [.l 6] 62 true,gP 64 (.fad 0) [.t 63] 62 true,⟨.t 65,.ldLc 6 false 1,[.t 64],some 6,some (.t 62,true)⟩,gP 66 (.bin .neq) [.t 65,.c (.int .u8 0)] 62 true,gP 67 .pick [.t 62,.t 66,.c (.bool false)] 59 false,gP 68 .pick [.t 59,.c (.bool true),.t 67] 57 true,oP 69 .pick [.t 57,.t 68,.c (.bool false)]] (.t 69) d7I .skip
def c0A:=Rg [] [nP 76 0,oP 77 .nilchk [.t 76],fP 78 0 (.t 77),oP 79 (.ldSt false 1) [.t 78],oP 80 (.ldSt false 1) [.v 4],oP 81 (.call 90) [.t 79,.c (.int .i64 18),.t 80]]
def c70:=Ts [] [fP 71 1 (.l 6),lP 72 6 true 3 (.t 71),lP 73 7 true 3 (.l 7),oP 74 (.call 298) [.t 72,.t 73],oP 75 (.un .not) [.t 74]] (.t 75) c0A .skip
def e16:=Sq e3K c70
def c8u:=Sq b9M e16
def e3G:=Sq e6t c8u
def e1r:=Sq e0R e3G
def d8X:=Sq f06 e1r
def d64:=Sq i6C d8X
def e1V:=Sq h4h d64
def d4q:=Sq h9L e1V
def j4X:ACode :=
  d4q
def j9N:AFn:={ np:=4,nv:=8,results:=[],code:=j4X }

def f2p:=Rg [3] [⟨.bx,.boxV,[.v 0],some 3,none⟩,vP 4 (.c (.bool false))]
def i2W:=Rg [] [fP 5 0 (.l 3),lP 6 3 false 1 (.t 5),fP 7 3 (.v 1),oP 8 (.ldSt false 1) [.t 7],oP 9 (.ldSt false 1) [.v 2],oP 10 (.iad 1) [.t 8,.t 9],oP 11 (.ldAn false 1) [.t 10],bP 12 .eql (.t 6) (.t 11),vP 4 (.t 12)]
def g7V:=Sq i2W .ret
def f7i:=Sq f2p g7V
def j0Z:ACode :=
  f7i
def k3L:AFn:={ np:=3,nv:=5,results:=[.v 4],code:=j0Z }

def h7x:=Rg [] [vP 2 (.c (.bool false))]
def g5d:=Rg [] [nP 5 0,nP 6 1,oP 7 (.call 299) [.t 5,.t 6],bP 8 .geq (.t 7) (.c (.int .i64 0)),vP 2 (.t 8)]
def g0D:=Sq g5d .ret
def g9x:=Sq h7x g0D
def j8n:ACode :=
  g9x
def k19:AFn:={ np:=2,nv:=3,results:=[.v 2],code:=j8n }

def h5w:=Rg [] [op (.v 2) .boxO [.v 0],vP 3 (.c (.bool false))]
def i0e:=Rg [] [oP 4 (.ldSt false 1) [.v 1],oP 5 (.mkF 278 0) [.v 2],oP 6 (.call 276) [.t 4,.t 5],oP 7 (.un .not) [.t 6],vP 3 (.t 7)]
def h4e:=Sq i0e .ret
def i2d:=Sq h5w h4e
def j1p:ACode :=
  i2d
def k18:AFn:={ np:=2,nv:=4,results:=[.v 3],code:=j1p }

def f5I:=Rg [2] [⟨.bx,.boxV,[.v 0],some 2,none⟩,vP 3 (.c (.bool false))]
def f7w:=Rg [] [fP 4 0 (.v 1),oP 5 (.ldSt false 1) [.t 4],fP 6 0 (.l 2),lP 7 2 false 1 (.t 6),bP 8 .eql (.t 5) (.t 7),mP 9 (.t 8),gP 10 (.fad 1) [.v 1] 9 true,gP 11 (.ldSt true 5) [.t 10] 9 true,gP 12 (.fad 1) [.l 2] 9 true,⟨.t 13,.ldLc 2 true 5,[.t 12],some 2,some (.t 9,true)⟩,gP 14 (.call 279) [.t 11,.t 13] 9 true,oP 15 .pick [.t 9,.t 14,.c (.bool false)],vP 3 (.t 15)]
def i6h:=Sq f7w .ret
def h3x:=Sq f5I i6h
def j70:ACode :=
  h3x
def k0c:AFn:={ np:=2,nv:=4,results:=[.v 3],code:=j70 }

def h59:=Rg [2,3] [⟨.bx,.boxV,[.v 0],some 2,none⟩,⟨.bx,.boxV,[.v 1],some 3,none⟩,vP 4 (.c (.bool false))]
def g6S:=Rg [] [fP 5 0 (.l 2),lP 6 2 false 1 (.t 5),fP 7 0 (.l 3),lP 8 3 false 1 (.t 7),bP 9 .eql (.t 6) (.t 8),mP 10 (.t 9),gP 11 (.fad 1) [.l 2] 10 true,⟨.t 12,.ldLc 2 false 1,[.t 11],some 2,some (.t 10,true)⟩,gP 13 (.fad 1) [.l 3] 10 true,⟨.t 14,.ldLc 3 false 1,[.t 13],some 3,some (.t 10,true)⟩,gP 15 (.bin .eql) [.t 12,.t 14] 10 true,oP 16 .pick [.t 10,.t 15,.c (.bool false)],mP 17 (.t 16),gP 18 (.fad 2) [.l 2] 17 true,⟨.t 19,.ldLc 2 false 1,[.t 18],some 2,some (.t 17,true)⟩,gP 20 (.fad 2) [.l 3] 17 true,⟨.t 21,.ldLc 3 false 1,[.t 20],some 3,some (.t 17,true)⟩,gP 22 (.bin .eql) [.t 19,.t 21] 17 true,oP 23 .pick [.t 17,.t 22,.c (.bool false)],mP 24 (.t 23),gP 25 (.fad 3) [.l 2] 24 true,⟨.t 26,.ldLc 2 false 1,[.t 25],some 2,some (.t 24,true)⟩,gP 27 (.fad 3) [.l 3] 24 true,⟨.t 28,.ldLc 3 false 1,[.t 27],some 3,some (.t 24,true)⟩,gP 29 (.call 300) [.t 26,.t 28] 24 true,oP 30 .pick [.t 24,.t 29,.c (.bool false)],mP 31 (.t 30),gP 32 (.fad 4) [.l 2] 31 true,⟨.t 33,.ldLc 2 false 1,[.t 32],some 2,some (.t 31,true)⟩,gP 34 (.fad 4) [.l 3] 31 true,⟨.t 35,.ldLc 3 false 1,[.t 34],some 3,some (.t 31,true)⟩,gP 36 (.call 301) [.t 33,.t 35,.c (.func 279 [] [])] 31 true,oP 37 .pick [.t 31,.t 36,.c (.bool false)],vP 4 (.t 37)]
def f8o:=Sq g6S .ret
def g8E:=Sq h59 f8o
def j1i:ACode :=
  g8E
def j93:AFn:={ np:=2,nv:=5,results:=[.v 4],code:=j1i }

def g1Z:=Rg [] [vP 3 (.c (.bool false))]
def h0h:=Rg [] [vP 3 (.c (.bool false))]
def g5I:=Sq h0h .ret
def f2D:=Ts [] [nP 10 0,oP 11 .lenL [.t 10],nP 12 1,oP 13 .lenL [.t 12],bP 14 .neq (.t 11) (.t 13)] (.t 14) g5I .skip
def g7w:=Rg [] [vP 7 (.v 0),op (.v 8) .lenL [.v 7],vP 9 (.c (.int .i64 0))]
def c4j:=Ts [] [bP 18 .lss (.v 9) (.v 8)] (.t 18) .skip (.exit 0)
def d29:=Rg [5] [nP 19 9,oP 20 (.iad 2) [.v 7,.v 9],oP 21 (.ldRo true 2) [.t 20],⟨.bx,.alloc [.str [],.list true []],[],some 5,none⟩,vP 4 (.t 19),xP (.stLc 5 2) [.l 5,.ts 21] 5]
def c7A:=Rg [6] [nP 22 1,nP 23 4,oP 24 (.iad 2) [.t 22,.t 23],oP 25 (.ldRo true 2) [.t 24],⟨.bx,.alloc [.str [],.list true []],[],some 6,none⟩,xP (.stLc 6 2) [.l 6,.ts 25] 6]
def e2U:=Rg [] [vP 3 (.c (.bool false))]
def d9c:=Sq e2U .ret
def d19:=Ts [] [nP 26 2,lP 27 5 true 2 (.l 5),lP 28 6 true 2 (.l 6),oP 29 .callV [.t 26,.t 27,.t 28],oP 30 (.un .not) [.t 29]] (.t 30) d9c .skip
def e2q:=Sq c7A d19
def d2k:=Sq d29 e2q
def c1n:=Bk 1 d2k
def c8X:=Rg [] [bP 31 .add (.v 9) (.c (.int .i64 1)),vP 9 (.t 31)]
def d2e:=Sq c1n c8X
def f1m:=Sq c4j d2e
def e82:=Lp f1m
def c4G:=Bk 0 e82
def e0k:=Sq g7w c4G
def b8Y:=Rg [] [vP 3 (.c (.bool true))]
def f0F:=Sq b8Y .ret
def d2D:=Sq e0k f0F
def c3J:=Sq f2D d2D
def d8O:=Sq g1Z c3J
def i9d:ACode :=
  d8O
def j9T:AFn:={ np:=3,nv:=10,results:=[.v 3],code:=i9d }

def h3M:=Rg [2,3] [⟨.bx,.boxV,[.v 0],some 2,none⟩,⟨.bx,.boxV,[.v 1],some 3,none⟩,vP 4 (.c (.bool false))]
def g9m:=Rg [] [fP 5 0 (.l 2),lP 6 2 false 1 (.t 5),fP 7 0 (.l 3),lP 8 3 false 1 (.t 7),bP 9 .eql (.t 6) (.t 8),mP 10 (.t 9),gP 11 (.fad 1) [.l 2] 10 true,⟨.t 12,.ldLc 2 false 1,[.t 11],some 2,some (.t 10,true)⟩,gP 13 (.fad 1) [.l 3] 10 true,⟨.t 14,.ldLc 3 false 1,[.t 13],some 3,some (.t 10,true)⟩,gP 15 (.call 247) [.t 12,.t 14] 10 true,oP 16 .pick [.t 10,.t 15,.c (.bool false)],vP 4 (.t 16)]
def f49:=Sq g9m .ret
def h9b:=Sq h3M f49
def j7s:ACode :=
  h9b
def k28:AFn:={ np:=2,nv:=5,results:=[.v 4],code:=j7s }

def i6u:=Rg [3] [⟨.bx,.boxV,[.v 0],some 3,none⟩,vP 4 (.c (.bool false))]
def f4x:=Rg [] [oP 5 (.ldSt false 1) [.v 1],fP 6 1 (.v 2),oP 7 (.ldSt false 1) [.t 6],oP 8 (.iad 3) [.t 7,.c (.int .i64 0)],oP 9 (.ldRo true 3) [.t 8],lP 10 3 true 5 (.l 3),oP 11 (.call 253) [.t 5,.t 9,.t 10],oP 12 (.un .not) [.t 11],vP 4 (.t 12)]
def i4m:=Sq f4x .ret
def i7B:=Sq i6u i4m
def j4Z:ACode :=
  i7B
def k1c:AFn:={ np:=3,nv:=5,results:=[.v 4],code:=j4Z }

def h7W:=Rg [2] [⟨.bx,.boxV,[.v 0],some 2,none⟩,vP 3 (.c (.bool false))]
def h6p:=Rg [] [fP 4 0 (.l 2),lP 5 2 false 1 (.t 4),oP 6 (.ldSt false 1) [.v 1],bP 7 .eql (.t 5) (.t 6),vP 3 (.t 7)]
def h1S:=Sq h6p .ret
def f5d:=Sq h7W h1S
def j2n:ACode :=
  f5d
def j9P:AFn:={ np:=2,nv:=4,results:=[.v 3],code:=j2n }

def g5c:=Rg [2] [⟨.bx,.boxV,[.v 0],some 2,none⟩,vP 3 (.c (.bool false))]
def i4J:=Rg [] [fP 4 2 (.l 2),fP 5 2 (.t 4),lP 6 2 false 1 (.t 5),mP 7 (.t 6),gP 8 (.fad 5) [.l 2] 7 true,⟨.t 9,.ldLc 2 false 1,[.t 8],some 2,some (.t 7,true)⟩,gP 10 (.un .not) [.t 9] 7 true,oP 11 .pick [.t 7,.t 10,.c (.bool false)],mP 12 (.t 11),gP 13 (.fad 3) [.v 1] 12 true,gP 14 (.ldSt false 1) [.t 13] 12 true,gP 15 (.fad 0) [.l 2] 12 true,⟨.t 16,.ldLc 2 false 1,[.t 15],some 2,some (.t 12,true)⟩,gP 17 (.call 27) [.t 14,.t 16] 12 true,gP 18 (.un .not) [.t 17] 12 true,oP 19 .pick [.t 12,.t 18,.c (.bool false)],vP 3 (.t 19)]
def f3P:=Sq i4J .ret
def h4W:=Sq g5c f3P
def j2P:ACode :=
  h4W
def k3r:AFn:={ np:=2,nv:=4,results:=[.v 3],code:=j2P }

def g50:=Rg [] [vP 5 (.c (.int .i64 0)),vP 6 (.c (.int .i64 0))]
def g4f:=Rg [] [nP 23 3,oP 24 .nilchk [.t 23],oP 25 (.ldSt false 1) [.t 24],bP 26 .add (.t 25) (.c (.int .i64 1)),oP 27 .nilchk [.t 23],op .none (.stSt 1) [.t 27,.t 26]]
def i1s:=Rg [] [nP 28 2,nP 29 1,vP 5 (.t 28),vP 6 (.t 29)]
def h6L:=Sq i1s .ret
def i4Q:=Sq g4f h6L
def g6v:=Ts [] [nP 12 4,nP 13 0,nP 14 2,oP 15 (.iad 2) [.t 13,.t 14],oP 16 (.ldAn true 2) [.t 15],nP 17 0,nP 18 1,oP 19 (.iad 2) [.t 17,.t 18],oP 20 (.ldAn true 2) [.t 19],oP 21 .callV [.t 12,.t 16,.t 20],bP 22 .lss (.t 21) (.c (.int .i64 0))] (.t 22) i4Q .skip
def c1r:=Rg [] [nP 30 1,nP 31 2,vP 5 (.t 30),vP 6 (.t 31)]
def d5A:=Sq c1r .ret
def d0s:=Sq g6v d5A
def b6x:=Sq g50 d0s
def j0r:ACode :=
  b6x
def k1h:AFn:={ np:=5,nv:=7,results:=[.v 5,.v 6],code:=j0r }

def i2T:AFn:={ np:=2,nv:=0,results:=[],code:=.skip,ext:=some (a3N) }

def h0j:=Rg [] [op (.v 1) .mv [.c (.str [])]]
def f2Y:=Rg [] [nP 3 0,oP 4 (.call 286) [.t 3,.c (.int .i64 10)],vP 1 (.t 4)]
def f2B:=Sq f2Y .ret
def i0L:=Sq h0j f2B
def j4B:ACode :=
  i0L
def j9p:AFn:={ np:=1,nv:=2,results:=[.v 1],code:=j4B }

def h9R:=Rg [] [vP 2 (.c (.bool false))]
def h7m:=Rg [] [fP 4 2 (.v 1),oP 5 (.ldSt false 1) [.t 4],nP 6 0,oP 7 (.call 27) [.t 5,.t 6],oP 8 (.un .not) [.t 7],vP 2 (.t 8)]
def h2D:=Sq h7m .ret
def h8e:=Sq h9R h2D
def j1m:ACode :=
  h8e
def k0J:AFn:={ np:=2,nv:=3,results:=[.v 2],code:=j1m }

def f3K:=Rg [6,7,8,9] [⟨.bx,.boxV,[.v 2],some 6,none⟩,⟨.bx,.boxV,[.v 3],some 7,none⟩,⟨.bx,.boxV,[.v 4],some 8,none⟩,⟨.bx,.alloc [.int .u8 0,.int .i64 0,.str [],.list true [],.list true []],[],some 9,none⟩,vP 10 (.c (.bool false))]
def i2c:=Rg [] [nP 28 1,oP 29 (.build [.int .u8 0,.int .i64 0,.str [],.list true [],.list true []] [(0,1),(2,1)]) [.c (.int .u8 2),.t 28],xP (.stLc 9 5) [.l 9,.ts 29] 9,vP 10 (.c (.bool true))]
def h8i:=Sq i2c .ret
def i3D:=Ts [] [fP 25 0 (.l 7),lP 26 7 false 1 (.t 25),oP 27 (.bin .eql) [.t 26,.c (.str [95,95,116,121,112,101,110,97,109,101])]] (.t 27) h8i .skip
def h2F:=Rg [11] [fP 33 2 (.l 6),lP 34 6 false 1 (.t 33),fP 35 3 (.l 6),lP 36 6 false 1 (.t 35),oP 37 (.build [.int .u8 0,.int .i64 0,.str [],.list true [],.list true []] [(0,1),(3,1),(4,1)]) [.c (.int .u8 6),.t 34,.t 36],fP 38 0 (.l 7),lP 39 7 false 1 (.t 38),oP 40 (.call 106) [.t 37,.t 39],mP 32 (.t 40),oP 41 (.ext 0) [.t 32],oP 42 (.ext 1) [.t 32],⟨.bx,.alloc [.int .u8 0,.int .i64 0,.str [],.list true [],.list true []],[],some 11,none⟩,xP (.stLc 11 5) [.l 11,.ts 41] 11,mP 15 (.t 42)]
def d9T:=Rg [] [nP 43 0,fP 44 2 (.l 7),lP 45 7 true 3 (.t 44),lP 46 11 true 5 (.l 11),lP 47 8 true 2 (.l 8),nP 48 5,oP 49 (.call 182) [.t 43,.t 45,.t 46,.t 47,.t 48],oP 50 (.ext 0) [.t 49],oP 51 (.ext 1) [.t 49],xP (.stLc 9 5) [.l 9,.ts 50] 9,vP 10 (.t 51)]
def e8N:=Sq d9T .ret
def d4l:=Sq h2F e8N
def e5p:=Ts [] [nP 30 1,oP 31 (.bin .neq) [.t 30,.c (.str [81,117,101,114,121])]] (.t 31) d4l .skip
def d3S:=Rg [] [fP 52 2 (.l 7),lP 53 7 true 3 (.t 52),oP 54 (.call 124) [.t 53],vP 12 (.t 54)]
def e3t:=Rg [] [nP 66 0,oP 67 .nilchk [.t 66],fP 68 12 (.t 67),op .none (.stSt 1) [.t 68,.c (.bool true)]]
def b92:=Ts [] [nP 55 0,oP 56 .nilchk [.t 55],fP 57 3 (.t 56),oP 58 (.ldSt true 3) [.t 57],nP 59 0,oP 60 .nilchk [.t 59],fP 61 0 (.t 60),oP 62 (.ldSt false 1) [.t 61],nP 63 12,oP 64 (.call 268) [.t 58,.t 62,.t 63],oP 65 (.un .not) [.t 64]] (.t 65) e3t .skip
def c9A:=Rg [13] [oP 73 (.build [.int .u8 0,.int .i64 0,.str [],.list true [],.list true []] [(0,1)]) [.c (.int .u8 5)],⟨.bx,.alloc [.int .u8 0,.int .i64 0,.str [],.list true [],.list true []],[],some 13,none⟩,xP (.stLc 13 5) [.l 13,.ts 73] 13]
def c45:=Rg [] [nP 74 0,oP 75 .nilchk [.t 74],fP 76 3 (.t 75),fP 77 0 (.t 76),fP 78 0 (.t 77),op (.v 18) (.ldSt false 1) [.t 78],op (.v 19) .lenL [.v 18],vP 20 (.c (.int .i64 0))]
def d4G:=Ts [] [bP 82 .lss (.v 20) (.v 19)] (.t 82) .skip (.exit 0)
def c3a:=Rg [14] [oP 83 (.iad 4) [.v 18,.v 20],oP 84 (.ldAn true 4) [.t 83],⟨.bx,.alloc [.str [],.str [],.list true [],.list true []],[],some 14,none⟩,xP (.stLc 14 4) [.l 14,.ts 84] 14]
def c5b:=Rg [] [fP 94 4 (.l 13),⟨.t 95,.ldLcS 13,[.t 94],some 13,none⟩,fP 96 1 (.l 14),lP 97 14 false 1 (.t 96),oP 98 (.build [.int .u8 0,.int .i64 0,.str [],.list true [],.list true []] [(0,1),(2,1)]) [.c (.int .u8 8),.t 97],oP 99 (.bslice 5 [[.int .u8 0,.int .i64 0,.str [],.list true [],.list true []]] [0]) [.t 98],oP 100 (.app 5 80) [.ts 95,.t 99],fP 101 4 (.l 13),xP (.stLc 13 1) [.t 101,.ts 100] 13]
def b7y:=Ts [] [nP 85 0,oP 86 .nilchk [.t 85],fP 87 0 (.t 86),oP 88 (.ldSt false 1) [.t 87],nP 89 12,oP 90 (.call 230) [.t 88,.t 89],fP 91 0 (.l 14),lP 92 14 false 1 (.t 91),oP 93 (.call 27) [.t 90,.t 92]] (.t 93) c5b .skip
def c5u:=Sq c3a b7y
def b59:=Bk 1 c5u
def e4E:=Rg [] [bP 102 .add (.v 20) (.c (.int .i64 1)),vP 20 (.t 102)]
def d9e:=Sq b59 e4E
def f2a:=Sq d4G d9e
def e00:=Lp f2a
def c3K:=Bk 0 e00
def c2H:=Sq c45 c3K
def b68:=Rg [] [nP 103 0,fP 104 2 (.l 7),lP 105 7 true 3 (.t 104),lP 106 13 true 5 (.l 13),lP 107 8 true 2 (.l 8),nP 108 5,oP 109 (.call 182) [.t 103,.t 105,.t 106,.t 107,.t 108],oP 110 (.ext 0) [.t 109],oP 111 (.ext 1) [.t 109],xP (.stLc 9 5) [.l 9,.ts 110] 9,vP 10 (.t 111)]
def e18:=Sq b68 .ret
def c08:=Sq c2H e18
def e9e:=Sq c9A c08
def d7v:=Ts [] [fP 69 1 (.l 7),lP 70 7 false 1 (.t 69),oP 71 .lenL [.t 70],bP 72 .eql (.t 71) (.c (.int .i64 0))] (.t 72) e9e .skip
def b7k:=Rg [15] [nP 113 0,oP 114 .nilchk [.t 113],fP 115 0 (.t 114),oP 116 (.ldSt false 1) [.t 115],lP 117 7 true 11 (.l 7),fP 118 1 (.l 8),lP 119 8 false 1 (.t 118),oP 120 (.iad 7) [.t 119,.c (.int .i64 0)],fP 121 4 (.t 120),oP 122 (.ldAn false 1) [.t 121],nP 123 0,oP 124 .nilchk [.t 123],fP 125 6 (.t 124),oP 126 (.ldSt true 5) [.t 125],oP 127 (.call 112) [.t 116,.t 117,.t 122,.t 126],mP 112 (.t 127),oP 128 (.ext 0) [.t 112],oP 129 (.ext 1) [.t 112],oP 130 (.ext 2) [.t 112],⟨.bx,.alloc [.int .u8 0,.int .i64 0,.str [],.list true [],.list true []],[],some 15,none⟩,xP (.stLc 15 5) [.l 15,.ts 128] 15,mP 21 (.t 129),vP 16 (.t 130)]
def e92:=Rg [] [nP 133 0,nP 134 5,nP 135 16,oP 136 (.call 234) [.t 133,.t 134,.t 135]]
def d51:=Rg [] [oP 137 (.build [.int .u8 0,.int .i64 0,.str [],.list true [],.list true []] []) [],xP (.stLc 9 5) [.l 9,.ts 137] 9,vP 10 (.c (.bool true))]
def b6I:=Sq d51 .ret
def e38:=Sq e92 b6I
def d89:=Ts [] [nP 131 16,bP 132 .neq (.t 131) (.c (.int .i64 0))] (.t 132) e38 .skip
def e4r:=Rg [17] [lP 139 15 true 5 (.l 15),oP 140 (.call 106) [.t 139,.c (.str [105,100])],mP 138 (.t 140),oP 141 (.ext 0) [.t 138],oP 142 (.ext 1) [.t 138],⟨.bx,.alloc [.int .u8 0,.int .i64 0,.str [],.list true [],.list true []],[],some 17,none⟩,xP (.stLc 17 5) [.l 17,.ts 141] 17,mP 24 (.t 142)]
def c9M:=Rg [] [nP 143 0,fP 144 2 (.l 7),lP 145 7 true 3 (.t 144),fP 146 2 (.l 17),lP 147 17 false 1 (.t 146),oP 148 (.build [.int .u8 0,.int .i64 0,.str [],.list true [],.list true []] [(0,1),(2,1)]) [.c (.int .u8 8),.t 147],lP 149 8 true 2 (.l 8),nP 150 5,oP 151 (.call 182) [.t 143,.t 145,.t 148,.t 149,.t 150],oP 152 (.ext 0) [.t 151],oP 153 (.ext 1) [.t 151],xP (.stLc 9 5) [.l 9,.ts 152] 9,vP 10 (.t 153)]
def d3k:=Sq c9M .ret
def e7q:=Sq e4r d3k
def e8H:=Sq d89 e7q
def c4M:=Sq b7k e8H
def d09:=Sq d7v c4M
def e2k:=Sq b92 d09
def c5x:=Sq d3S e2k
def c7G:=Sq e5p c5x
def c8a:=Sq i3D c7G
def d1e:=Sq f3K c8a
def i9j:ACode :=
  d1e
def k3Q:AFn:={ np:=6,nv:=21,results:=[.bx 9 true 5,.v 10],code:=i9j }

def f9H:AFn:={ np:=3,nv:=0,results:=[],code:=.skip,ext:=some (R9) }

def h9q:=Rg [] [vP 2 (.c (.int .i64 0))]
def i1L:=Rg [] [nP 6 0,op (.v 4) .lenL [.t 6],vP 5 (.c (.int .i64 0))]
def g8K:=Ts [] [bP 9 .lss (.v 5) (.v 4)] (.t 9) .skip (.exit 0)
def g6g:=Rg [] [nP 10 5,vP 3 (.t 10)]
def e7v:=Rg [] [nP 17 3,vP 2 (.t 17)]
def e0Q:=Sq e7v .ret
def c9y:=Ts [] [nP 11 1,nP 12 0,nP 13 3,oP 14 (.iad 10) [.t 12,.t 13],oP 15 (.ldRo true 10) [.t 14],oP 16 .callV [.t 11,.t 15]] (.t 16) e0Q .skip
def d3f:=Sq g6g c9y
def d3K:=Bk 1 d3f
def c2O:=Rg [] [bP 18 .add (.v 5) (.c (.int .i64 1)),vP 5 (.t 18)]
def e3V:=Sq d3K c2O
def e73:=Sq g8K e3V
def d4Y:=Lp e73
def e39:=Bk 0 d4Y
def d5s:=Sq i1L e39
def e8k:=Rg [] [vP 2 (.c (.int .i64 (-1)))]
def c06:=Sq e8k .ret
def c8t:=Sq d5s c06
def e5s:=Sq h9q c8t
def j8t:ACode :=
  e5s
def k2T:AFn:={ np:=2,nv:=6,results:=[.v 2],code:=j8t }

def h9W:=Rg [2] [⟨.bx,.boxV,[.v 0],some 2,none⟩,vP 3 (.c (.bool false))]
def f67:=Rg [] [fP 4 0 (.l 2),lP 5 2 false 1 (.t 4),oP 6 (.ldSt false 1) [.v 1],bP 7 .eql (.t 5) (.t 6),vP 3 (.t 7)]
def h34:=Sq f67 .ret
def g5e:=Sq h9W h34
def j3r:ACode :=
  g5e
def k2X:AFn:={ np:=2,nv:=4,results:=[.v 3],code:=j3r }

def f9L:=Rg [2,3] [⟨.bx,.boxV,[.v 0],some 2,none⟩,⟨.bx,.boxV,[.v 1],some 3,none⟩,vP 4 (.c (.bool false))]
def i6I:=Rg [] [vP 4 (.c (.bool false))]
def g6G:=Sq i6I .ret
def g1w:=Ts [] [fP 5 2 (.l 3),lP 6 3 false 1 (.t 5),mP 7 (.t 6),gP 8 (.fad 2) [.l 2] 7 true,⟨.t 9,.ldLc 2 false 1,[.t 8],some 2,some (.t 7,true)⟩,gP 10 (.un .not) [.t 9] 7 true,oP 11 .pick [.t 7,.t 10,.c (.bool false)],mP 12 (.t 11),gP 13 (.fad 1) [.l 2] 12 false,⟨.t 14,.ldLc 2 false 1,[.t 13],some 2,some (.t 12,false)⟩,gP 15 .lenL [.t 14] 12 false,gP 16 (.fad 1) [.l 3] 12 false,⟨.t 17,.ldLc 3 false 1,[.t 16],some 3,some (.t 12,false)⟩,gP 18 .lenL [.t 17] 12 false,gP 19 (.bin .neq) [.t 15,.t 18] 12 false,oP 20 .pick [.t 12,.c (.bool true),.t 19]] (.t 20) g6G .skip
def h0N:=Rg [] [fP 25 1 (.l 2),lP 26 2 false 1 (.t 25),oP 27 (.iad 3) [.t 26,.c (.int .i64 0)],oP 28 (.ldRo true 3) [.t 27],fP 29 1 (.l 3),lP 30 3 false 1 (.t 29),oP 31 (.iad 3) [.t 30,.c (.int .i64 0)],oP 32 (.ldRo true 3) [.t 31],oP 33 (.call 298) [.t 28,.t 32],vP 4 (.t 33)]
def d0w:=Sq h0N .ret
def d4j:=Ts [] [fP 21 1 (.l 2),lP 22 2 false 1 (.t 21),oP 23 .lenL [.t 22],bP 24 .gtr (.t 23) (.c (.int .i64 0))] (.t 24) d0w .skip
def b8v:=Rg [] [fP 34 0 (.l 2),lP 35 2 false 1 (.t 34),fP 36 0 (.l 3),lP 37 3 false 1 (.t 36),bP 38 .eql (.t 35) (.t 37),vP 4 (.t 38)]
def d6i:=Sq b8v .ret
def e3j:=Sq d4j d6i
def c96:=Sq g1w e3j
def b7t:=Sq f9L c96
def j51:ACode :=
  b7t
def k0I:AFn:={ np:=2,nv:=5,results:=[.v 4],code:=j51 }

def i3y:=Rg [] [vP 2 (.c (.int .i64 0))]
def g7k:=Rg [] [nP 6 0,op (.v 4) .lenL [.t 6],vP 5 (.c (.int .i64 0))]
def h46:=Ts [] [bP 9 .lss (.v 5) (.v 4)] (.t 9) .skip (.exit 0)
def g0d:=Rg [] [nP 10 5,vP 3 (.t 10)]
def c3z:=Rg [] [nP 17 3,vP 2 (.t 17)]
def d6F:=Sq c3z .ret
def d56:=Ts [] [nP 11 1,nP 12 0,nP 13 3,oP 14 (.iad 6) [.t 12,.t 13],oP 15 (.ldRo true 6) [.t 14],oP 16 .callV [.t 11,.t 15]] (.t 16) d6F .skip
def f1w:=Sq g0d d56
def d2Y:=Bk 1 f1w
def e3N:=Rg [] [bP 18 .add (.v 5) (.c (.int .i64 1)),vP 5 (.t 18)]
def e2E:=Sq d2Y e3N
def b70:=Sq h46 e2E
def e27:=Lp b70
def b6Y:=Bk 0 e27
def f15:=Sq g7k b6Y
def d1f:=Rg [] [vP 2 (.c (.int .i64 (-1)))]
def e4S:=Sq d1f .ret
def d2K:=Sq f15 e4S
def d0i:=Sq i3y d2K
def j0g:ACode :=
  d0i
def k1e:AFn:={ np:=2,nv:=6,results:=[.v 2],code:=j0g }

def h0M:=Rg [] [vP 2 (.c (.bool false))]
def h9S:=Rg [] [vP 2 (.c (.bool false))]
def f5Q:=Sq h9S .ret
def h7O:=Ts [] [nP 6 0,oP 7 .lenL [.t 6],nP 8 1,oP 9 .lenL [.t 8],bP 10 .neq (.t 7) (.t 9)] (.t 10) f5Q .skip
def i2V:=Rg [] [nP 11 0,op (.v 4) .lenL [.t 11],vP 5 (.c (.int .i64 0))]
def c1C:=Ts [] [bP 14 .lss (.v 5) (.v 4)] (.t 14) .skip (.exit 0)
def d1I:=Rg [] [nP 15 5,vP 3 (.t 15)]
def d5Y:=Rg [] [vP 2 (.c (.bool false))]
def b8O:=Sq d5Y .ret
def c0i:=Ts [] [nP 16 0,nP 17 3,oP 18 (.iad 1) [.t 16,.t 17],oP 19 (.ldAn false 1) [.t 18],nP 20 1,nP 21 3,oP 22 (.iad 1) [.t 20,.t 21],oP 23 (.ldAn false 1) [.t 22],bP 24 .neq (.t 19) (.t 23)] (.t 24) b8O .skip
def e4Z:=Sq d1I c0i
def e08:=Bk 1 e4Z
def d6R:=Rg [] [bP 25 .add (.v 5) (.c (.int .i64 1)),vP 5 (.t 25)]
def c4D:=Sq e08 d6R
def e1k:=Sq c1C c4D
def d1M:=Lp e1k
def d3P:=Bk 0 d1M
def c0m:=Sq i2V d3P
def d0x:=Rg [] [vP 2 (.c (.bool true))]
def e4O:=Sq d0x .ret
def d6B:=Sq c0m e4O
def c0t:=Sq h7O d6B
def c3M:=Sq h0M c0t
def j7O:ACode :=
  c3M
def k3K:AFn:={ np:=2,nv:=6,results:=[.v 2],code:=j7O }

def h1G:=Rg [] [vP 3 (.c (.bool false))]
def i4t:=Rg [] [vP 3 (.c (.bool false))]
def i6D:=Sq i4t .ret
def g6F:=Ts [] [nP 10 0,oP 11 .lenL [.t 10],nP 12 1,oP 13 .lenL [.t 12],bP 14 .neq (.t 11) (.t 13)] (.t 14) i6D .skip
def i45:=Rg [] [vP 7 (.v 0),op (.v 8) .lenL [.v 7],vP 9 (.c (.int .i64 0))]
def f1o:=Ts [] [bP 18 .lss (.v 9) (.v 8)] (.t 18) .skip (.exit 0)
def f1v:=Rg [5] [nP 19 9,oP 20 (.iad 5) [.v 7,.v 9],oP 21 (.ldAn true 5) [.t 20],⟨.bx,.alloc [.int .u8 0,.int .i64 0,.str [],.list true [],.list true []],[],some 5,none⟩,vP 4 (.t 19),xP (.stLc 5 5) [.l 5,.ts 21] 5]
def d3t:=Rg [6] [nP 22 1,nP 23 4,oP 24 (.iad 5) [.t 22,.t 23],oP 25 (.ldAn true 5) [.t 24],⟨.bx,.alloc [.int .u8 0,.int .i64 0,.str [],.list true [],.list true []],[],some 6,none⟩,xP (.stLc 6 5) [.l 6,.ts 25] 6]
def f2j:=Rg [] [vP 3 (.c (.bool false))]
def c3o:=Sq f2j .ret
def b7K:=Ts [] [nP 26 2,lP 27 5 true 5 (.l 5),lP 28 6 true 5 (.l 6),oP 29 .callV [.t 26,.t 27,.t 28],oP 30 (.un .not) [.t 29]] (.t 30) c3o .skip
def b8Z:=Sq d3t b7K
def c5r:=Sq f1v b8Z
def c2z:=Bk 1 c5r
def c71:=Rg [] [bP 31 .add (.v 9) (.c (.int .i64 1)),vP 9 (.t 31)]
def c9Z:=Sq c2z c71
def e7p:=Sq f1o c9Z
def c1z:=Lp e7p
def c9z:=Bk 0 c1z
def f1D:=Sq i45 c9z
def e2m:=Rg [] [vP 3 (.c (.bool true))]
def e7s:=Sq e2m .ret
def c8x:=Sq f1D e7s
def d85:=Sq g6F c8x
def d0t:=Sq h1G d85
def i8O:ACode :=
  d0t
def j9z:AFn:={ np:=3,nv:=10,results:=[.v 3],code:=i8O }

def tblL:List (List (Option AFn)):=[
  [none,none,none,some a3,none,some a5,some a6,some a7,some a8,some a9],
  [some a10,none,none,none,none,some a15,some a16,some a17,some a18,some a19],
  [some a20,none,some a22,some a23,some a24,some a25,some a26,some a27,some a28,some a29],
  [some a30,some a31,some a32,some a33,some a34,some a35,some a36,some a37,some a38,some a39],
  [some a40,some a41,some a42,some a43,some a44,some a45,some a46,none,some a48,some a49],
  [some a50,some a51,some a52,some a53,some a54,some a55,some a56,some a57,some a58,some a59],
  [some a60,some a61,some a62,some a63,some a64,some a65,some a66,some a67,some a68,some a69],
  [some a70,some a71,some a72,some a73,some a74,some a75,some a76,some a77,some a78,none],
  [none,some a81,some a82,none,some a84,some a85,some a86,some a87,some a88,some a89],
  [some a90,some a91,some a92,some a93,some a94,some a95,some a96,some a97,some a98,some a99],
  [some k04,some k0G,some k1W,some k2v,some k29,some k33,some k1b,some k0y,some k36,some k2k],
  [some a9Z,some k00,some k1n,some i7X,some b3d,some k3V,some j9s,some k35,some k1D,some k3J],
  [some k2M,some k2L,some k3N,some k1K,some k03,some k16,some k2b,some a127,some j9R,some k2F],
  [some k3x,some k3k,some k2t,some j9C,some j9M,some k3C,some k2S,some k2G,some j9L,none],
  [some j90,some j9q,some k2e,some k3f,some h3b,some j95,some k1V,some j9t,some k0v,some j9u],
  [some k1S,some j9O,some k05,some k0B,some j94,some k3T,some k1t,some k2i,some k0z,some k0l],
  [some k3v,some k11,some k0S,some k3Y,some a164,some k0A,some k1C,some a167,some k13,some k3m],
  [some k0h,some a171,some k3u,some a173,some k3X,some k2l,some j9V,some k0Z,some j9y,some k3a],
  [some k1r,some k2E,some b4I,some k0C,some g0q,some k06,some k1X,some k2V,some k0F,some k02],
  [none,some g8v,some k0e,some k2c,some k22,some k0N,some b4v,some j9I,some k24,some g6t],
  [some f9C,some k2a,some k1v,some k3H,some a204,some a205,some k2h,some k2K,some j98,some j9G],
  [some k31,some k2f,some a212,some a213,some k2J,some k1d,some j97,some k2z,some k3w,some k26],
  [some k2Z,some k1F,some k1P,some k1M,some k3g,some k3U,some k0g,some k2H,some k2d,some k3h],
  [some k0Y,some k2B,some a232,some a233,some k3p,some j9x,some k0V,some k2q,none,some k0t],
  [none,none,none,some k20,some j9K,some k0j,some k3s,some j9n,some k3E,some k3i],
  [some k0x,some k1i,some j9D,some k2y,some k0u,some k2U,some k0i,some k2o,some j9W,some k3D],
  [some k1Z,some j9r,some h8t,some j9E,some k1k,some k0T,some k3P,some k1B,some k2A,some b3N],
  [some k1o,some k1x,none,none,some j9N,some k3L,some k19,some k18,some k0c,some j93],
  [some j9T,some k28,some k1c,some j9P,some k3r,some k1h,some i2T,some j9p,some k0J,some k3Q],
  [some f9H,none,none,none,none,none,some k2T,some k2X,some k0I,some k1e],
  [some k3K,some j9z,none,none,none,none,none,none,none,none],
  [none,none,none,none,none,none,none,none,none,none],
  [none,none,none,none,none,none,none,none,none,none],
  [none,none,none,none,none,none,none,none,none,none],
  [none,none,none,none,none,none,none,none,none,none]]
def tbl:Nat→Option AFn:=k14 tblL
def gts:List (Nat×List AV):=[(0,[.str [66,111,111,108,101,97,110],.str [73,68],.str [73,110,116],.str [83,116,114,105,110,103]]),(5,Lib.pow10Tab.map (AV.int .u64))]
end Go.Cb.CodeA
