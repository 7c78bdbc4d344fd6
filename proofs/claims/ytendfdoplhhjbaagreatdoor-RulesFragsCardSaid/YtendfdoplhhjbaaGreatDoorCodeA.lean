/- The functions of the seat, told as code of the abstract machine. No conditions. -/
import Derived.Test.YtendfdoplhhjbaaGreatDoorCodeAp0
namespace Go.Cb.CodeA
open Go Go.Cb
open Go.Cb.ACode renaming seq→Sq,reg→Rg,test→Ts,blk→Bk,loop→Lp

def d6J:=Ts [] [nP 41 5,oP 42 (.bin .eql) [.t 41,.c (.str [100,101,108,101,116,101])]] (.t 42) (Sq d3u .ret) .skip
def c83:=Rg [] [vP 4 (.c (.bool false))]
def d6F:=Ts [] [fP 54 1 (.l 3),lP 55 3 false 1 (.t 54),oP 56 .lenL [.t 55],bP 57 .neq (.t 56) (.c (.int .i64 2)),mP 58 (.t 57),gP 59 (.fad 1) [.l 3] 58 false,⟨.t 60,.ldLc 3 false 1,[.t 59],some 3,some (.t 58,false)⟩,gP 61 (.iad 11) [.t 60,.c (.int .i64 0)] 58 false,gP 62 (.ldRo true 11) [.t 61] 58 false,gP 63 (.call 135) [.t 62] 58 false,gP 64 (.un .not) [.t 63] 58 false,oP 65 .pick [.t 58,.c (.bool true),.t 64],mP 66 (.t 65),gP 67 (.fad 1) [.l 3] 66 false,⟨.t 68,.ldLc 3 false 1,[.t 67],some 3,some (.t 66,false)⟩,gP 69 (.iad 11) [.t 68,.c (.int .i64 1)] 66 false,gP 70 (.fad 0) [.t 69] 66 false,gP 71 (.ldRo false 1) [.t 70] 66 false,gP 72 (.bin .neq) [.t 71,.c (.str [105,110,112,117,116])] 66 false,oP 73 .pick [.t 66,.c (.bool true),.t 72],mP 74 (.t 73),gP 75 (.fad 1) [.l 3] 74 false,⟨.t 76,.ldLc 3 false 1,[.t 75],some 3,some (.t 74,false)⟩,gP 77 (.iad 11) [.t 76,.c (.int .i64 1)] 74 false,gP 78 (.fad 2) [.t 77] 74 false,gP 79 (.fad 2) [.t 78] 74 false,gP 80 (.ldRo false 1) [.t 79] 74 false,gP 81 (.un .not) [.t 80] 74 false,oP 82 .pick [.t 74,.c (.bool true),.t 81],mP 83 (.t 82),gP 84 (.fad 1) [.l 3] 83 false,⟨.t 85,.ldLc 3 false 1,[.t 84],some 3,some (.t 83,false)⟩,gP 86 (.iad 11) [.t 85,.c (.int .i64 1)] 83 false,gP 87 (.fad 2) [.t 86] 83 false,gP 88 (.fad 1) [.t 87] 83 false,gP 89 (.ldRo false 1) [.t 88] 83 false,gP 90 .lenL [.t 89] 83 false,gP 91 (.bin .gtr) [.t 90,.c (.int .i64 0)] 83 false,oP 92 .pick [.t 83,.c (.bool true),.t 91]] (.t 92) (Sq c83 .ret) .skip
def c6O:=Rg [9] [oP 94 (.ldSt false 1) [.v 2],fP 95 1 (.l 3),lP 96 3 false 1 (.t 95),oP 97 (.iad 11) [.t 96,.c (.int .i64 1)],fP 98 2 (.t 97),fP 99 0 (.t 98),oP 100 (.ldRo false 1) [.t 99],oP 101 (.call 45) [.t 94,.t 100],mP 93 (.t 101),oP 102 (.ext 0) [.t 93],oP 103 (.ext 1) [.t 93],⟨.bx,.alloc [.int .u8 0,.str [],.list true [],.list true []],[],some 9,none⟩,xP (.stLc 9 4) [.l 9,.ts 102] 9,vP 8 (.t 103)]
def d7q:=Rg [] [vP 4 (.c (.bool false))]
def d88:=Ts [] [nP 104 8,oP 105 (.un .not) [.t 104],mP 106 (.t 105),gP 107 (.fad 0) [.l 9] 106 false,⟨.t 108,.ldLc 9 false 1,[.t 107],some 9,some (.t 106,false)⟩,gP 109 (.bin .neq) [.t 108,.c (.int .u8 5)] 106 false,oP 110 .pick [.t 106,.c (.bool true),.t 109]] (.t 110) (Sq d7q .ret) .skip
def c84:=Rg [] [fP 111 2 (.l 9),lP 112 9 false 1 (.t 111),oP 113 (.mkF 138 0) [.v 7,.v 2],oP 114 (.call 132) [.t 112,.t 113],oP 115 (.un .not) [.t 114],vP 4 (.t 115)]
def f3M:ACode :=
  (Sq f0e (Sq e41 (Sq d94 (Sq c4o (Sq d6J (Sq d6F (Sq c6O (Sq d88 (Sq c84 .ret)))))))))
def a86:AFn:={ np:=2,nv:=10,results:=[.v 4],code:=f3M }
def f8f:List Nat:=[0,1,2,3,4,5,6,7,8,9]
def f3A:List Nat:=[3,9]

def f0p:=Rg [] [op (.v 1) .mv [.c (.str [])],vP 2 (.c (.int .i64 0))]
def f0O:=Rg [] [vP 3 (.c (.int .i64 0))]
def e5g:=Ts [] [nP 5 3,nP 6 0,oP 7 .lenL [.t 6],bP 8 .lss (.t 5) (.t 7)] (.t 8) .skip (.exit 0)
def e6n:=Rg [] [nP 19 0,nP 20 3,oP 21 (.iad 1) [.t 19,.t 20],oP 22 (.ldAn false 1) [.t 21],vP 1 (.t 22),vP 2 (.c (.int .i64 7))]
def d5j:=Ts [] [nP 11 0,nP 12 3,oP 13 (.slL 1 false true) [.t 11,.t 12],nP 14 0,nP 15 3,oP 16 (.iad 1) [.t 14,.t 15],oP 17 (.ldAn false 1) [.t 16],oP 18 (.call 48) [.t 13,.t 17]] (.t 18) (Sq e6n .ret) .skip
def d6Q:=Rg [] [nP 28 0,nP 29 3,oP 30 (.iad 1) [.t 28,.t 29],oP 31 (.ldAn false 1) [.t 30],vP 1 (.t 31),vP 2 (.c (.int .i64 1))]
def d5Y:=Ts [] [nP 23 0,nP 24 3,oP 25 (.iad 1) [.t 23,.t 24],oP 26 (.ldAn false 1) [.t 25],oP 27 (.call 49) [.t 26,.c (.str [95,95])]] (.t 27) (Sq d6Q .ret) .skip
def c9Z:=Rg [] [nP 9 3,bP 10 .add (.t 9) (.c (.int .i64 1)),vP 3 (.t 10)]
def d1n:=Rg [] [op (.v 1) .mv [.c (.str [])],vP 2 (.c (.int .i64 0))]
def f3h:ACode :=
  (Sq f0p (Sq (Sq f0O (Bk 0 (Lp (Sq e5g (Sq (Bk 1 (Sq d5j d5Y)) c9Z))))) (Sq d1n .ret)))
def a87:AFn:={ np:=1,nv:=4,results:=[.v 1,.v 2],code:=f3h }
def f6Z:List Nat:=[0,2,3,4]
def f8y:List Nat:=[]

def f0V:=Rg [] [op (.v 1) .mv [.c (.list true [])]]
def e0M:=Rg [] [op (.v 2) .mv [.c (.list true [])]]
def e5f:=Rg [] [vP 3 (.c (.int .i64 0))]
def e3S:=Ts [] [nP 5 3,nP 6 0,oP 7 .lenL [.t 6],bP 8 .lss (.t 5) (.t 7)] (.t 8) .skip (.exit 0)
def e3u:=Rg [] [mP 11 (.vs 2),nP 12 0,nP 13 3,oP 14 (.iad 11) [.t 12,.t 13],fP 15 0 (.t 14),oP 16 (.ldRo false 1) [.t 15],oP 17 (.bslice 1 [[.str []]] [0]) [.t 16],oP 18 (.app 1 16) [.ts 11,.t 17],vP 2 (.ts 18)]
def d4k:=Rg [] [nP 9 3,bP 10 .add (.t 9) (.c (.int .i64 1)),vP 3 (.t 10)]
def d8S:=Rg [] [nP 19 2,vP 1 (.ts 19)]
def f3y:ACode :=
  (Sq f0V (Sq e0M (Sq (Sq e5f (Bk 0 (Lp (Sq e3S (Sq (Bk 1 e3u) d4k))))) (Sq d8S .ret))))
def a88:AFn:={ np:=1,nv:=4,results:=[.v 1],code:=f3y }
def f3J:List Nat:=[0,2,3,4]
def f3t:List Nat:=[]

def e2T:=Rg [3] [⟨.bx,.boxV,[.v 1],some 3,none⟩,op (.v 4) .mv [.c (.str [])],vP 5 (.c (.int .i64 0))]
def e9l:=Rg [] [fP 14 2 (.l 3),lP 15 3 true 3 (.t 14),oP 16 (.call 93) [.t 15],vP 6 (.t 16)]
def d9W:=Rg [] [nP 17 0,nP 18 6,oP 19 (.call 51) [.t 17,.t 18],oP 20 (.fld 0 1 false) [.t 19],vP 7 (.t 20)]
def d9B:=Rg [] [nP 28 6,vP 4 (.t 28),vP 5 (.c (.int .i64 6))]
def c9b:=Ts [] [nP 21 6,oP 22 (.call 47) [.t 21],oP 23 (.un .not) [.t 22],mP 24 (.t 23),gP 25 .mv [.v 7] 24 true,gP 26 (.bin .eql) [.t 25,.c (.int .u8 0)] 24 true,oP 27 .pick [.t 24,.t 26,.c (.bool false)]] (.t 27) (Sq d9B .ret) .skip
def d3h:=Rg [] [nP 48 6,vP 4 (.t 48),vP 5 (.c (.int .i64 8))]
def d6k:=Ts [] [nP 29 2,mP 30 (.t 29),gP 31 .mv [.v 0] 30 true,gP 32 .mv [.v 6] 30 true,gP 33 (.call 140) [.t 31,.t 32] 30 true,gP 34 (.un .not) [.t 33] 30 true,oP 35 .pick [.t 30,.t 34,.c (.bool false)],mP 36 (.t 35),gP 37 .mv [.v 2] 36 false,gP 38 (.un .not) [.t 37] 36 false,gP 39 .mv [.t 38] 36 false,gP 40 .mv [.v 7] 39 true,gP 41 (.bin .eql) [.t 40,.c (.int .u8 5)] 39 true,gP 42 .pick [.t 39,.t 41,.c (.bool false)] 36 false,oP 43 .pick [.t 36,.c (.bool true),.t 42],mP 44 (.t 43),gP 45 .mv [.v 6] 44 false,gP 46 (.call 90) [.t 45] 44 false,oP 47 .pick [.t 44,.c (.bool true),.t 46]] (.t 47) (Sq d3h .ret) .skip
def c8R:=Rg [] [fP 60 0 (.l 3),lP 61 3 false 1 (.t 60),vP 4 (.t 61),vP 5 (.c (.int .i64 8))]
def c8B:=Ts [] [fP 49 5 (.l 3),lP 50 3 false 1 (.t 49),mP 51 (.t 50),gP 52 .mv [.v 0] 51 true,gP 53 (.fad 2) [.l 3] 51 true,⟨.t 54,.ldLc 3 true 3,[.t 53],some 3,some (.t 51,true)⟩,gP 55 (.fad 6) [.l 3] 51 true,⟨.t 56,.ldLc 3 true 5,[.t 55],some 3,some (.t 51,true)⟩,gP 57 (.call 141) [.t 52,.t 54,.t 56,.c (.bool false)] 51 true,gP 58 (.un .not) [.t 57] 51 true,oP 59 .pick [.t 51,.t 58,.c (.bool false)]] (.t 59) (Sq c8R .ret) .skip
def c8J:=Rg [] [fP 63 1 (.l 3),lP 64 3 false 1 (.t 63),oP 65 (.call 88) [.t 64],oP 66 (.call 87) [.t 65],mP 62 (.t 66),oP 67 (.ext 0) [.t 62],oP 68 (.ext 1) [.t 62],vP 8 (.t 67),vP 9 (.t 68)]
def d8n:=Rg [] [nP 71 8,nP 72 9,vP 4 (.t 71),vP 5 (.t 72)]
def c5J:=Ts [] [nP 69 9,bP 70 .neq (.t 69) (.c (.int .i64 0))] (.t 70) (Sq d8n .ret) .skip
def d84:=Rg [] [vP 10 (.c (.int .i64 0))]
def c60:=Ts [] [nP 73 10,fP 74 1 (.l 3),lP 75 3 false 1 (.t 74),oP 76 .lenL [.t 75],bP 77 .lss (.t 73) (.t 76)] (.t 77) .skip (.exit 0)
def d50:=Rg [11] [fP 80 1 (.l 3),lP 81 3 false 1 (.t 80),nP 82 10,oP 83 (.iad 11) [.t 81,.t 82],oP 84 (.ldRo true 11) [.t 83],⟨.bx,.alloc [.str [],.list true [],.str [],.list true [],.bool false,.bool false,.int .u8 0,.int .i64 0,.str [],.list true [],.list true []],[],some 11,none⟩,xP (.stLc 11 11) [.l 11,.ts 84] 11]
def c4m:=Rg [] [fP 94 0 (.l 11),lP 95 11 false 1 (.t 94),vP 4 (.t 95),vP 5 (.c (.int .i64 8))]
def d3s:=Ts [] [fP 92 5 (.l 11),lP 93 11 false 1 (.t 92)] (.t 93) (Sq c4m .ret) .skip
def d6s:=Ts [] [nP 85 0,fP 86 2 (.l 11),lP 87 11 true 3 (.t 86),oP 88 (.call 93) [.t 87],oP 89 (.call 51) [.t 85,.t 88],oP 90 (.fld 0 1 false) [.t 89],bP 91 .eql (.t 90) (.c (.int .u8 5))] (.t 91) (Sq d3s (.exit 1)) .skip
def d3t:=Rg [] [nP 97 0,lP 98 11 true 11 (.l 11),oP 99 (.call 89) [.t 97,.t 98,.c (.bool true)],mP 96 (.t 99),oP 100 (.ext 0) [.t 96],oP 101 (.ext 1) [.t 96],vP 8 (.t 100),vP 9 (.t 101)]
def d4i:=Rg [] [nP 104 8,nP 105 9,vP 4 (.t 104),vP 5 (.t 105)]
def c4O:=Ts [] [nP 102 9,bP 103 .neq (.t 102) (.c (.int .i64 0))] (.t 103) (Sq d4i .ret) .skip
def d5e:=Rg [] [nP 78 10,bP 79 .add (.t 78) (.c (.int .i64 1)),vP 10 (.t 79)]
def d0Y:=Rg [] [op (.v 4) .mv [.c (.str [])],vP 5 (.c (.int .i64 0))]
def f3P:ACode :=
  (Sq e2T (Sq e9l (Sq d9W (Sq c9b (Sq d6k (Sq c8B (Sq c8J (Sq c5J (Sq (Sq d84 (Bk 0 (Lp (Sq c60 (Sq (Bk 1 (Sq d50 (Sq d6s (Sq d3t c4O)))) d5e))))) (Sq d0Y .ret))))))))))
def a89:AFn:={ np:=3,nv:=12,results:=[.v 4,.v 5],code:=f3P }
def f3u:List Nat:=[0,1,2,4,6,7,8,9,10,11,12,13]
def f7v:List Nat:=[3,11]

def e6J:=Rg [] [vP 1 (.c (.bool false))]
def e9V:=Rg [] [nP 3 0,oP 4 (.bin .eql) [.t 3,.c (.str [81,117,101,114,121])],mP 5 (.t 4),gP 6 .mv [.v 0] 5 false,gP 7 (.bin .eql) [.t 6,.c (.str [77,117,116,97,116,105,111,110])] 5 false,oP 8 .pick [.t 5,.c (.bool true),.t 7],vP 1 (.t 8)]
def f4d:ACode :=
  (Sq e6J (Sq e9V .ret))
def a90:AFn:={ np:=1,nv:=2,results:=[.v 1],code:=f4d }
def f1q:List Nat:=[0,2]
def f7Q:List Nat:=[]

def e2s:=Rg [] [vP 2 (.c (.int .i64 0))]
def e3w:=Rg [] [vP 3 (.c (.int .i64 0))]
def e7J:=Ts [] [nP 6 3,nP 7 0,oP 8 .lenL [.t 7],bP 9 .lss (.t 6) (.t 8)] (.t 9) .skip (.exit 0)
def e3J:=Rg [] [nP 19 3,vP 2 (.t 19)]
def d6f:=Ts [] [nP 12 0,nP 13 3,oP 14 (.iad 11) [.t 12,.t 13],fP 15 0 (.t 14),oP 16 (.ldRo false 1) [.t 15],nP 17 1,bP 18 .eql (.t 16) (.t 17)] (.t 18) (Sq e3J .ret) .skip
def d46:=Rg [] [nP 10 3,bP 11 .add (.t 10) (.c (.int .i64 1)),vP 3 (.t 11)]
def c6g:=Rg [] [vP 2 (.c (.int .i64 (-1)))]
def f5z:ACode :=
  (Sq e2s (Sq (Sq e3w (Bk 0 (Lp (Sq e7J (Sq (Bk 1 d6f) d46))))) (Sq c6g .ret)))
def a91:AFn:={ np:=2,nv:=4,results:=[.v 2],code:=f5z }
def f5m:List Nat:=[0,1,4,5]
def f5f:List Nat:=[]

def e5u:=Rg [2,3] [⟨.bx,.boxV,[.v 0],some 2,none⟩,⟨.bx,.boxV,[.v 1],some 3,none⟩,vP 4 (.c (.bool false))]
def e1Z:=Rg [] [vP 4 (.c (.bool false))]
def e7P:=Ts [] [fP 5 0 (.l 2),lP 6 2 false 1 (.t 5),fP 7 0 (.l 3),lP 8 3 false 1 (.t 7),bP 9 .neq (.t 6) (.t 8),mP 10 (.t 9),gP 11 (.fad 2) [.l 2] 10 false,⟨.t 12,.ldLc 2 false 1,[.t 11],some 2,some (.t 10,false)⟩,gP 13 (.fad 2) [.l 3] 10 false,⟨.t 14,.ldLc 3 false 1,[.t 13],some 3,some (.t 10,false)⟩,gP 15 (.binB .neq) [.t 12,.t 14] 10 false,oP 16 .pick [.t 10,.c (.bool true),.t 15],mP 17 (.t 16),gP 18 (.fad 1) [.l 2] 17 false,⟨.t 19,.ldLc 2 false 1,[.t 18],some 2,some (.t 17,false)⟩,gP 20 .lenL [.t 19] 17 false,gP 21 (.fad 1) [.l 3] 17 false,⟨.t 22,.ldLc 3 false 1,[.t 21],some 3,some (.t 17,false)⟩,gP 23 .lenL [.t 22] 17 false,gP 24 (.bin .neq) [.t 20,.t 23] 17 false,oP 25 .pick [.t 17,.c (.bool true),.t 24]] (.t 25) (Sq e1Z .ret) .skip
def e8l:=Rg [] [fP 26 1 (.l 2),lP 27 2 false 1 (.t 26),oP 28 .lenL [.t 27],bP 29 .eql (.t 28) (.c (.int .i64 0)),mP 30 (.t 29),gP 31 (.fad 1) [.l 2] 30 false,⟨.t 32,.ldLc 2 false 1,[.t 31],some 2,some (.t 30,false)⟩,gP 33 (.iad 3) [.t 32,.c (.int .i64 0)] 30 false,gP 34 (.ldRo true 3) [.t 33] 30 false,gP 35 (.fad 1) [.l 3] 30 false,⟨.t 36,.ldLc 3 false 1,[.t 35],some 3,some (.t 30,false)⟩,gP 37 (.iad 3) [.t 36,.c (.int .i64 0)] 30 false,gP 38 (.ldRo true 3) [.t 37] 30 false,gP 39 (.call 92) [.t 34,.t 38] 30 false,oP 40 .pick [.t 30,.c (.bool true),.t 39],vP 4 (.t 40)]
def f7H:ACode :=
  (Sq e5u (Sq e7P (Sq e8l .ret)))
def a92:AFn:={ np:=2,nv:=5,results:=[.v 4],code:=f7H }
def f6M:List Nat:=[0,1,2,3,4]
def f2P:List Nat:=[2,3]

def e4d:=Rg [1] [⟨.bx,.boxV,[.v 0],some 1,none⟩,op (.v 2) .mv [.c (.str [])]]
def e9i:=Rg [] [fP 7 1 (.l 1),lP 8 1 false 1 (.t 7),oP 9 (.iad 3) [.t 8,.c (.int .i64 0)],oP 10 (.ldRo true 3) [.t 9],oP 11 (.call 93) [.t 10],vP 2 (.t 11)]
def e5m:=Ts [] [fP 3 1 (.l 1),lP 4 1 false 1 (.t 3),oP 5 .lenL [.t 4],bP 6 .gtr (.t 5) (.c (.int .i64 0))] (.t 6) (Sq e9i .ret) .skip
def e0u:=Rg [] [fP 12 0 (.l 1),lP 13 1 false 1 (.t 12),vP 2 (.t 13)]
def f5M:ACode :=
  (Sq e4d (Sq e5m (Sq e0u .ret)))
def a93:AFn:={ np:=1,nv:=3,results:=[.v 2],code:=f5M }
def f5N:List Nat:=[0,1,2]
def f1Y:List Nat:=[1]

def e0P:=Rg [] [vP 2 (.c (.bool false))]
def e1p:=Rg [] [nP 6 0,nP 7 1,oP 8 (.call 51) [.t 6,.t 7],oP 9 (.fld 0 1 false) [.t 8],vP 3 (.t 9)]
def e5n:=Rg [] [nP 10 1,oP 11 (.call 90) [.t 10],oP 12 (.un .not) [.t 11],mP 13 (.t 12),gP 14 .mv [.v 3] 13 true,gP 15 (.bin .eql) [.t 14,.c (.int .u8 1)] 13 true,gP 16 .mv [.t 15] 13 true,gP 17 .mv [.v 3] 16 false,gP 18 (.bin .eql) [.t 17,.c (.int .u8 2)] 16 false,gP 19 .pick [.t 16,.c (.bool true),.t 18] 13 true,gP 20 .mv [.t 19] 13 true,gP 21 .mv [.v 3] 20 false,gP 22 (.bin .eql) [.t 21,.c (.int .u8 3)] 20 false,gP 23 .pick [.t 20,.c (.bool true),.t 22] 13 true,oP 24 .pick [.t 13,.t 23,.c (.bool false)],vP 2 (.t 24)]
def f1V:ACode :=
  (Sq e0P (Sq e1p (Sq e5n .ret)))
def a94:AFn:={ np:=2,nv:=4,results:=[.v 2],code:=f1V }
def f3O:List Nat:=[0,1,4,5]
def f6I:List Nat:=[]

def e4M:=Rg [1] [⟨.bx,.boxV,[.v 0],some 1,none⟩,vP 2 (.c (.bool false))]
def e7C:=Rg [] [fP 3 0 (.l 1),lP 4 1 false 1 (.t 3),oP 5 (.bin .eql) [.t 4,.c (.str [105,100])],mP 6 (.t 5),gP 7 (.fad 2) [.l 1] 6 true,gP 8 (.fad 0) [.t 7] 6 true,⟨.t 9,.ldLc 1 false 1,[.t 8],some 1,some (.t 6,true)⟩,gP 10 (.bin .eql) [.t 9,.c (.str [73,68])] 6 true,oP 11 .pick [.t 6,.t 10,.c (.bool false)],mP 12 (.t 11),gP 13 (.fad 2) [.l 1] 12 true,gP 14 (.fad 2) [.t 13] 12 true,⟨.t 15,.ldLc 1 false 1,[.t 14],some 1,some (.t 12,true)⟩,oP 16 .pick [.t 12,.t 15,.c (.bool false)],mP 17 (.t 16),gP 18 (.fad 2) [.l 1] 17 true,gP 19 (.fad 1) [.t 18] 17 true,⟨.t 20,.ldLc 1 false 1,[.t 19],some 1,some (.t 17,true)⟩,gP 21 .lenL [.t 20] 17 true,gP 22 (.bin .eql) [.t 21,.c (.int .i64 0)] 17 true,oP 23 .pick [.t 17,.t 22,.c (.bool false)],mP 24 (.t 23),gP 25 (.fad 5) [.l 1] 24 true,⟨.t 26,.ldLc 1 false 1,[.t 25],some 1,some (.t 24,true)⟩,gP 27 (.un .not) [.t 26] 24 true,oP 28 .pick [.t 24,.t 27,.c (.bool false)],vP 2 (.t 28)]
def f6p:ACode :=
  (Sq e4M (Sq e7C .ret))
def a95:AFn:={ np:=1,nv:=3,results:=[.v 2],code:=f6p }
def f4t:List Nat:=[0,1,2]
def f7X:List Nat:=[1]

def f0G:=Rg [2] [⟨.bx,.boxV,[.v 1],some 2,none⟩,vP 3 (.c (.bool false))]
def e1B:=Rg [] [fP 12 0 (.l 2),lP 13 2 false 1 (.t 12),oP 14 (.call 142) [.t 13],mP 11 (.t 14),oP 15 (.ext 0) [.t 11],oP 16 (.ext 1) [.t 11],vP 4 (.t 15),vP 5 (.t 16)]
def e1d:=Rg [6] [nP 17 0,nP 18 5,oP 19 (.call 51) [.t 17,.t 18],⟨.bx,.alloc [.int .u8 0,.str [],.list true [],.list true []],[],some 6,none⟩,xP (.stLc 6 4) [.l 6,.ts 19] 6]
def e18:=Rg [] [vP 3 (.c (.bool false))]
def d7U:=Ts [] [nP 20 4,oP 21 (.bin .eql) [.t 20,.c (.str [])],mP 22 (.t 21),gP 23 (.fad 0) [.l 6] 22 false,⟨.t 24,.ldLc 6 false 1,[.t 23],some 6,some (.t 22,false)⟩,gP 25 (.bin .neq) [.t 24,.c (.int .u8 1)] 22 false,oP 26 .pick [.t 22,.c (.bool true),.t 25],mP 27 (.t 26),gP 28 .mv [.v 5] 27 false,gP 29 (.call 90) [.t 28] 27 false,oP 30 .pick [.t 27,.c (.bool true),.t 29],mP 31 (.t 30),gP 32 (.fad 2) [.l 2] 31 false,gP 33 (.fad 1) [.t 32] 31 false,⟨.t 34,.ldLc 2 false 1,[.t 33],some 2,some (.t 31,false)⟩,gP 35 .lenL [.t 34] 31 false,gP 36 (.bin .gtr) [.t 35,.c (.int .i64 0)] 31 false,oP 37 .pick [.t 31,.c (.bool true),.t 36],mP 38 (.t 37),gP 39 (.fad 2) [.l 2] 38 false,gP 40 (.fad 2) [.t 39] 38 false,⟨.t 41,.ldLc 2 false 1,[.t 40],some 2,some (.t 38,false)⟩,oP 42 .pick [.t 38,.c (.bool true),.t 41],mP 43 (.t 42),gP 44 (.fad 2) [.l 2] 43 false,gP 45 (.fad 0) [.t 44] 43 false,⟨.t 46,.ldLc 2 false 1,[.t 45],some 2,some (.t 43,false)⟩,gP 47 .mv [.v 5] 43 false,gP 48 (.bin .neq) [.t 46,.t 47] 43 false,oP 49 .pick [.t 43,.c (.bool true),.t 48],mP 50 (.t 49),gP 51 (.fad 1) [.l 2] 50 false,⟨.t 52,.ldLc 2 false 1,[.t 51],some 2,some (.t 50,false)⟩,gP 53 .lenL [.t 52] 50 false,gP 54 (.bin .eql) [.t 53,.c (.int .i64 0)] 50 false,oP 55 .pick [.t 50,.c (.bool true),.t 54],mP 56 (.t 55),gP 57 (.fad 1) [.l 2] 56 false,⟨.t 58,.ldLc 2 false 1,[.t 57],some 2,some (.t 56,false)⟩,gP 59 (.iad 11) [.t 58,.c (.int .i64 0)] 56 false,gP 60 (.ldRo true 11) [.t 59] 56 false,gP 61 (.call 95) [.t 60] 56 false,gP 62 (.un .not) [.t 61] 56 false,oP 63 .pick [.t 56,.c (.bool true),.t 62]] (.t 63) (Sq e18 .ret) .skip
def c92:=Rg [] [fP 66 1 (.l 2),lP 67 2 false 1 (.t 66),oP 68 .lenL [.t 67],bP 69 .eql (.t 68) (.c (.int .i64 1)),vP 3 (.t 69)]
def c55:=Ts [] [nP 64 4,oP 65 (.bin .eql) [.t 64,.c (.str [100,101,108,101,116,101])]] (.t 65) (Sq c92 .ret) .skip
def c6H:=Rg [] [vP 3 (.c (.bool false))]
def d45:=Ts [] [fP 70 1 (.l 2),lP 71 2 false 1 (.t 70),oP 72 .lenL [.t 71],bP 73 .neq (.t 72) (.c (.int .i64 2)),mP 74 (.t 73),gP 75 (.fad 1) [.l 2] 74 false,⟨.t 76,.ldLc 2 false 1,[.t 75],some 2,some (.t 74,false)⟩,gP 77 (.iad 11) [.t 76,.c (.int .i64 1)] 74 false,gP 78 (.fad 0) [.t 77] 74 false,gP 79 (.ldRo false 1) [.t 78] 74 false,gP 80 (.bin .neq) [.t 79,.c (.str [105,110,112,117,116])] 74 false,oP 81 .pick [.t 74,.c (.bool true),.t 80],mP 82 (.t 81),gP 83 (.fad 1) [.l 2] 82 false,⟨.t 84,.ldLc 2 false 1,[.t 83],some 2,some (.t 82,false)⟩,gP 85 (.iad 11) [.t 84,.c (.int .i64 1)] 82 false,gP 86 (.fad 2) [.t 85] 82 false,gP 87 (.fad 2) [.t 86] 82 false,gP 88 (.ldRo false 1) [.t 87] 82 false,gP 89 (.un .not) [.t 88] 82 false,oP 90 .pick [.t 82,.c (.bool true),.t 89],mP 91 (.t 90),gP 92 (.fad 1) [.l 2] 91 false,⟨.t 93,.ldLc 2 false 1,[.t 92],some 2,some (.t 91,false)⟩,gP 94 (.iad 11) [.t 93,.c (.int .i64 1)] 91 false,gP 95 (.fad 2) [.t 94] 91 false,gP 96 (.fad 1) [.t 95] 91 false,gP 97 (.ldRo false 1) [.t 96] 91 false,gP 98 .lenL [.t 97] 91 false,gP 99 (.bin .gtr) [.t 98,.c (.int .i64 0)] 91 false,oP 100 .pick [.t 91,.c (.bool true),.t 99]] (.t 100) (Sq c6H .ret) .skip
def d2W:=Rg [7] [nP 101 0,fP 102 1 (.l 2),lP 103 2 false 1 (.t 102),oP 104 (.iad 11) [.t 103,.c (.int .i64 1)],fP 105 2 (.t 104),fP 106 0 (.t 105),oP 107 (.ldRo false 1) [.t 106],oP 108 (.call 51) [.t 101,.t 107],⟨.bx,.alloc [.int .u8 0,.str [],.list true [],.list true []],[],some 7,none⟩,xP (.stLc 7 4) [.l 7,.ts 108] 7]
def c4V:=Rg [] [vP 3 (.c (.bool false))]
def c7C:=Ts [] [fP 109 0 (.l 7),lP 110 7 false 1 (.t 109),bP 111 .neq (.t 110) (.c (.int .u8 5))] (.t 111) (Sq c4V .ret) .skip
def d87:=Rg [] [vP 8 (.c (.int .i64 0))]
def d4e:=Ts [] [nP 112 8,fP 113 2 (.l 7),lP 114 7 false 1 (.t 113),oP 115 .lenL [.t 114],bP 116 .lss (.t 112) (.t 115)] (.t 116) .skip (.exit 0)
def c7I:=Rg [] [fP 119 2 (.l 6),lP 120 6 false 1 (.t 119),fP 121 2 (.l 7),lP 122 7 false 1 (.t 121),nP 123 8,oP 124 (.iad 11) [.t 122,.t 123],fP 125 0 (.t 124),oP 126 (.ldRo false 1) [.t 125],oP 127 (.call 91) [.t 120,.t 126],vP 9 (.t 127)]
def d7n:=Rg [] [vP 3 (.c (.bool false))]
def d1N:=Ts [] [nP 128 9,bP 129 .lss (.t 128) (.c (.int .i64 0)),mP 130 (.t 129),gP 131 .mv [.v 0] 130 false,gP 132 (.fad 2) [.l 6] 130 false,⟨.t 133,.ldLc 6 false 1,[.t 132],some 6,some (.t 130,false)⟩,gP 134 .mv [.v 9] 130 false,gP 135 (.iad 11) [.t 133,.t 134] 130 false,gP 136 (.fad 2) [.t 135] 130 false,gP 137 (.ldRo true 3) [.t 136] 130 false,gP 138 (.fad 2) [.l 7] 130 false,⟨.t 139,.ldLc 7 false 1,[.t 138],some 7,some (.t 130,false)⟩,gP 140 .mv [.v 8] 130 false,gP 141 (.iad 11) [.t 139,.t 140] 130 false,gP 142 (.fad 2) [.t 141] 130 false,gP 143 (.ldRo true 3) [.t 142] 130 false,gP 144 (.call 143) [.t 131,.t 137,.t 143] 130 false,gP 145 (.un .not) [.t 144] 130 false,oP 146 .pick [.t 130,.c (.bool true),.t 145]] (.t 146) (Sq d7n .ret) .skip
def c4Y:=Rg [] [nP 117 8,bP 118 .add (.t 117) (.c (.int .i64 1)),vP 8 (.t 118)]
def d4b:=Rg [] [vP 3 (.c (.bool true))]
def f3a:ACode :=
  (Sq f0G (Sq e1B (Sq e1d (Sq d7U (Sq c55 (Sq d45 (Sq d2W (Sq c7C (Sq (Sq d87 (Bk 0 (Lp (Sq d4e (Sq (Bk 1 (Sq c7I d1N)) c4Y))))) (Sq d4b .ret))))))))))
def a96:AFn:={ np:=2,nv:=10,results:=[.v 3],code:=f3a }
def f4g:List Nat:=[0,1,3,4,5,6,7,8,9,10]
def f1A:List Nat:=[2,6,7]

def e0p:=Rg [] [vP 1 (.c (.bool false))]
def e3g:=Rg [] [nP 3 0,bP 4 .geq (.t 3) (.c (.int .u8 97)),mP 5 (.t 4),gP 6 .mv [.v 0] 5 true,gP 7 (.bin .leq) [.t 6,.c (.int .u8 122)] 5 true,oP 8 .pick [.t 5,.t 7,.c (.bool false)],mP 9 (.t 8),gP 10 .mv [.v 0] 9 false,gP 11 (.bin .geq) [.t 10,.c (.int .u8 65)] 9 false,gP 12 .mv [.t 11] 9 false,gP 13 .mv [.v 0] 12 true,gP 14 (.bin .leq) [.t 13,.c (.int .u8 90)] 12 true,gP 15 .pick [.t 12,.t 14,.c (.bool false)] 9 false,oP 16 .pick [.t 9,.c (.bool true),.t 15],mP 17 (.t 16),gP 18 .mv [.v 0] 17 false,gP 19 (.bin .eql) [.t 18,.c (.int .u8 95)] 17 false,oP 20 .pick [.t 17,.c (.bool true),.t 19],vP 1 (.t 20)]
def f3k:ACode :=
  (Sq e0p (Sq e3g .ret))
def a97:AFn:={ np:=1,nv:=2,results:=[.v 1],code:=f3k }
def f5X:List Nat:=[0,2]
def f6x:List Nat:=[]

def e3B:=Rg [] [vP 1 (.c (.bool false))]
def e1U:=Rg [] [nP 3 0,bP 4 .geq (.t 3) (.c (.int .u8 48)),mP 5 (.t 4),gP 6 .mv [.v 0] 5 true,gP 7 (.bin .leq) [.t 6,.c (.int .u8 57)] 5 true,oP 8 .pick [.t 5,.t 7,.c (.bool false)],vP 1 (.t 8)]
def f7n:ACode :=
  (Sq e3B (Sq e1U .ret))
def a98:AFn:={ np:=1,nv:=2,results:=[.v 1],code:=f7n }
def f2l:List Nat:=[0,2]
def f3T:List Nat:=[]

def e69:=Rg [2] [⟨.bx,.alloc [.int .u8 0,.str [],.int .i64 0,.int .i64 0],[],some 2,none⟩,vP 3 (.c (.int .i64 0)),vP 4 (.c (.int .i64 0)),vP 5 (.c (.int .i64 0))]
def e4R:=Rg [] [nP 12 1,vP 6 (.t 12)]
def e4l:=Rg [] [nP 13 0,nP 14 6,oP 15 .idxS [.t 13,.t 14],bP 16 .eql (.t 15) (.c (.int .u8 45)),vP 7 (.t 16)]
def e3c:=Rg [] [nP 18 6,bP 19 .add (.t 18) (.c (.int .i64 1)),vP 6 (.t 19)]
def e7W:=Ts [] [nP 17 7] (.t 17) e3c .skip
def c3S:=Rg [] [nP 20 6,vP 8 (.t 20)]
def c4i:=Rg [] [vP 9 (.c (.int .i64 0))]
def c4G:=Ts [] [nP 21 6,nP 22 0,oP 23 .lenS [.t 22],bP 24 .lss (.t 21) (.t 23),mP 25 (.t 24),gP 26 .mv [.v 0] 25 true,gP 27 .mv [.v 6] 25 true,gP 28 .idxS [.t 26,.t 27] 25 true,gP 29 (.call 98) [.t 28] 25 true,oP 30 .pick [.t 25,.t 29,.c (.bool false)]] (.t 30) .skip (.exit 0)
def d5O:=Rg [] [nP 35 9,bP 36 .mul (.t 35) (.c (.int .i64 10)),nP 37 0,nP 38 6,oP 39 .idxS [.t 37,.t 38],bP 40 .sub (.t 39) (.c (.int .u8 48)),oP 41 (.conv .i64) [.t 40],bP 42 .add (.t 36) (.t 41),vP 9 (.t 42)]
def c7X:=Ts [] [nP 31 6,nP 32 8,bP 33 .sub (.t 31) (.t 32),bP 34 .lss (.t 33) (.c (.int .i64 18))] (.t 34) d5O .skip
def d6e:=Rg [] [nP 43 6,bP 44 .add (.t 43) (.c (.int .i64 1)),vP 6 (.t 44)]
def d69:=Rg [] [oP 49 (.build [.int .u8 0,.str [],.int .i64 0,.int .i64 0] []) [],nP 50 6,xP (.stLc 2 4) [.l 2,.t 49] 2,vP 3 (.c (.int .i64 0)),vP 4 (.t 50),vP 5 (.c (.int .i64 4))]
def c5D:=Rg [] [oP 62 (.build [.int .u8 0,.str [],.int .i64 0,.int .i64 0] []) [],nP 63 8,bP 64 .add (.t 63) (.c (.int .i64 1)),xP (.stLc 2 4) [.l 2,.t 62] 2,vP 3 (.c (.int .i64 0)),vP 4 (.t 64),vP 5 (.c (.int .i64 4))]
def d4l:=Rg [] [oP 82 (.build [.int .u8 0,.str [],.int .i64 0,.int .i64 0] []) [],nP 83 6,xP (.stLc 2 4) [.l 2,.t 82] 2,vP 3 (.c (.int .i64 0)),vP 4 (.t 83),vP 5 (.c (.int .i64 4))]
def d2N:=Rg [] [oP 89 (.build [.int .u8 0,.str [],.int .i64 0,.int .i64 0] []) [],nP 90 1,xP (.stLc 2 4) [.l 2,.t 89] 2,vP 3 (.c (.int .i64 0)),vP 4 (.t 90),vP 5 (.c (.int .i64 1))]
def d2J:=Ts [] [nP 85 6,nP 86 8,bP 87 .sub (.t 85) (.t 86),bP 88 .gtr (.t 87) (.c (.int .i64 18)),mP 84 (.t 88)] (.t 84) (Sq d2N .ret) .skip
def d8F:=Ts [] [nP 66 6,nP 67 0,oP 68 .lenS [.t 67],bP 69 .lss (.t 66) (.t 68),mP 70 (.t 69),gP 71 .mv [.v 0] 70 true,gP 72 .mv [.v 6] 70 true,gP 73 .idxS [.t 71,.t 72] 70 true,gP 74 (.call 97) [.t 73] 70 true,gP 75 .mv [.t 74] 70 true,gP 76 .mv [.v 0] 75 false,gP 77 .mv [.v 6] 75 false,gP 78 .idxS [.t 76,.t 77] 75 false,gP 79 (.bin .eql) [.t 78,.c (.int .u8 46)] 75 false,gP 80 .pick [.t 75,.c (.bool true),.t 79] 70 true,oP 81 .pick [.t 70,.t 80,.c (.bool false)],mP 65 (.t 81)] (.t 65) (Sq d4l .ret) d2J
def c4N:=Ts [] [nP 52 0,nP 53 8,oP 54 .idxS [.t 52,.t 53],bP 55 .eql (.t 54) (.c (.int .u8 48)),mP 56 (.t 55),gP 57 .mv [.v 6] 56 true,gP 58 .mv [.v 8] 56 true,gP 59 (.bin .add) [.t 58,.c (.int .i64 1)] 56 true,gP 60 (.bin .gtr) [.t 57,.t 59] 56 true,oP 61 .pick [.t 56,.t 60,.c (.bool false)],mP 51 (.t 61)] (.t 51) (Sq c5D .ret) d8F
def d0i:=Ts [] [nP 46 6,nP 47 8,bP 48 .eql (.t 46) (.t 47),mP 45 (.t 48)] (.t 45) (Sq d69 .ret) c4N
def d2a:=Rg [] [nP 92 9,oP 93 (.un .neg) [.t 92],vP 9 (.t 93)]
def d7B:=Ts [] [nP 91 7] (.t 91) d2a .skip
def d2x:=Rg [] [nP 94 0,nP 95 1,nP 96 6,oP 97 (.slS true true) [.t 94,.t 95,.t 96],nP 98 9,oP 99 (.build [.int .u8 0,.str [],.int .i64 0,.int .i64 0] [(0,1),(1,1),(2,1)]) [.c (.int .u8 2),.t 97,.t 98],nP 100 6,xP (.stLc 2 4) [.l 2,.t 99] 2,vP 3 (.t 100),vP 4 (.c (.int .i64 0)),vP 5 (.c (.int .i64 0))]
def f6X:ACode :=
  (Sq e69 (Sq e4R (Sq e4l (Sq e7W (Sq c3S (Sq c4i (Sq (Bk 0 (Lp (Sq c4G (Bk 1 (Sq c7X d6e))))) (Sq (Bk 2 d0i) (Sq d7B (Sq d2x .ret))))))))))
def a99:AFn:={ np:=2,nv:=10,results:=[.bx 2 true 4,.v 3,.v 4,.v 5],code:=f6X }
def f5t:List Nat:=[0,1,4,5,6,7,8,9,10,11]
def f5L:List Nat:=[2]

def c8t:=Rg [2] [⟨.bx,.alloc [.int .u8 0,.str [],.int .i64 0,.int .i64 0],[],some 2,none⟩,vP 3 (.c (.int .i64 0)),vP 4 (.c (.int .i64 0)),vP 5 (.c (.int .i64 0))]
def d6l:=Rg [] [op (.v 6) .mv [.c (.str [])]]
def d5q:=Rg [] [nP 10 1,bP 11 .add (.t 10) (.c (.int .i64 1)),vP 7 (.t 11)]
def d1i:=Ts [] [nP 12 7,nP 13 0,oP 14 .lenS [.t 13],bP 15 .lss (.t 12) (.t 14)] (.t 15) .skip (.exit 0)
def d4O:=Rg [] [nP 16 0,nP 17 7,op (.v 8) .idxS [.t 16,.t 17]]
def b6X:=Rg [] [oP 31 (.build [.int .u8 0,.str [],.int .i64 0,.int .i64 0] []) [],nP 32 1,xP (.stLc 2 4) [.l 2,.t 31] 2,vP 3 (.c (.int .i64 0)),vP 4 (.t 32),vP 5 (.c (.int .i64 2))]
def b8a:=Ts [] [nP 28 6,oP 29 .lenS [.t 28],bP 30 .gtr (.t 29) (.c (.int .i64 200))] (.t 30) (Sq b6X .ret) .skip
def b64:=Rg [] [nP 33 6,oP 34 (.build [.int .u8 0,.str [],.int .i64 0,.int .i64 0] [(0,1),(1,1)]) [.c (.int .u8 3),.t 33],nP 35 7,bP 36 .add (.t 35) (.c (.int .i64 1)),xP (.stLc 2 4) [.l 2,.t 34] 2,vP 3 (.t 36),vP 4 (.c (.int .i64 0)),vP 5 (.c (.int .i64 0))]
def c1Y:=Rg [] [oP 39 (.build [.int .u8 0,.str [],.int .i64 0,.int .i64 0] []) [],nP 40 7,xP (.stLc 2 4) [.l 2,.t 39] 2,vP 3 (.c (.int .i64 0)),vP 4 (.t 40),vP 5 (.c (.int .i64 4))]
def c1G:=Rg [] [nP 43 7,bP 44 .add (.t 43) (.c (.int .i64 1)),vP 7 (.t 44)]
def c0M:=Rg [] [oP 49 (.build [.int .u8 0,.str [],.int .i64 0,.int .i64 0] []) [],nP 50 7,xP (.stLc 2 4) [.l 2,.t 49] 2,vP 3 (.c (.int .i64 0)),vP 4 (.t 50),vP 5 (.c (.int .i64 4))]
def b9P:=Ts [] [nP 45 7,nP 46 0,oP 47 .lenS [.t 46],bP 48 .eql (.t 45) (.t 47)] (.t 48) (Sq c0M .ret) .skip
def b8F:=Rg [] [nP 51 0,nP 52 7,op (.v 9) .idxS [.t 51,.t 52]]
def c0g:=Rg [] [nP 58 6,oP 59 (.bin .add) [.t 58,.c (.str [10])],vP 6 (.t 59)]
def c2N:=Rg [] [nP 62 6,oP 63 (.bin .add) [.t 62,.c (.str [9])],vP 6 (.t 63)]
def c2m:=Rg [] [bP 67 .eql (.v 9) (.c (.int .u8 92)),vP 10 (.t 67)]
def b9h:=Ts [] [bP 66 .eql (.v 9) (.c (.int .u8 47)),vP 10 (.t 66)] (.v 10) .skip c2m
def c1U:=Ts [] [bP 65 .eql (.v 9) (.c (.int .u8 34)),vP 10 (.t 65)] (.v 10) .skip b9h
def c29:=Rg [] [nP 68 6,nP 69 0,nP 70 7,nP 71 7,bP 72 .add (.t 71) (.c (.int .i64 1)),oP 73 (.slS true true) [.t 69,.t 70,.t 72],bP 74 .add (.t 68) (.t 73),vP 6 (.t 74)]
def c2b:=Rg [] [oP 54 (.build [.int .u8 0,.str [],.int .i64 0,.int .i64 0] []) [],nP 55 7,xP (.stLc 2 4) [.l 2,.t 54] 2,vP 3 (.c (.int .i64 0)),vP 4 (.t 55),vP 5 (.c (.int .i64 4))]
def b7u:=Ts [] [] (.v 10) c29 (Sq c2b .ret)
def b7v:=Ts [] [bP 61 .eql (.v 9) (.c (.int .u8 116)),mP 60 (.t 61)] (.t 60) c2N (Sq c1U b7u)
def b80:=Ts [] [bP 57 .eql (.v 9) (.c (.int .u8 110)),mP 56 (.t 57)] (.t 56) c0g b7v
def b9e:=Rg [] [nP 19 6,nP 20 0,nP 21 7,nP 22 7,bP 23 .add (.t 22) (.c (.int .i64 1)),oP 24 (.slS true true) [.t 20,.t 21,.t 23],bP 25 .add (.t 19) (.t 24),vP 6 (.t 25)]
def c1Z:=Ts [] [bP 42 .eql (.v 8) (.c (.int .u8 92)),mP 41 (.t 42)] (.t 41) (Sq c1G (Sq b9P (Sq b8F (Bk 3 b80)))) b9e
def c2J:=Ts [] [bP 38 .eql (.v 8) (.c (.int .u8 10)),mP 37 (.t 38)] (.t 37) (Sq c1Y .ret) c1Z
def c0w:=Ts [] [bP 27 .eql (.v 8) (.c (.int .u8 34)),mP 26 (.t 27)] (.t 26) (Sq b8a (Sq b64 .ret)) c2J
def b8H:=Rg [] [nP 75 7,bP 76 .add (.t 75) (.c (.int .i64 1)),vP 7 (.t 76)]
def c3M:=Rg [] [oP 77 (.build [.int .u8 0,.str [],.int .i64 0,.int .i64 0] []) [],nP 78 7,xP (.stLc 2 4) [.l 2,.t 77] 2,vP 3 (.c (.int .i64 0)),vP 4 (.t 78),vP 5 (.c (.int .i64 4))]
def e2w:ACode :=
  (Sq c8t (Sq d6l (Sq d5q (Sq (Bk 0 (Lp (Sq d1i (Bk 1 (Sq (Sq d4O (Bk 2 c0w)) b8H))))) (Sq c3M .ret)))))
def d4x:AFn:={ np:=2,nv:=11,results:=[.bx 2 true 4,.v 3,.v 4,.v 5],code:=e2w }
def e81:List Nat:=[0,1,4,5,6,7,8,9,18,53,64]
def e0O:List Nat:=[2]

def d3g:=Rg [] [op (.v 1) .mv [.c (.list true [])]]
def c5F:=Rg [] [op (.v 2) .mv [.c (.list true [])]]
def d5t:=Rg [] [op (.v 1) .mv [.c (.list true [])]]
def d2e:=Ts [] [nP 6 0,oP 7 (.call 23) [.t 6,.c (.str [40])],oP 8 (.un .not) [.t 7]] (.t 8) (Sq d5t .ret) .skip
def c2n:=Rg [] [vP 3 (.c (.bool true))]
def b75:=Ts [] [nP 9 0,oP 10 .nilchk [.t 9],fP 11 4 (.t 10),oP 12 (.ldSt false 1) [.t 11],bP 13 .eql (.t 12) (.c (.int .i64 0)),mP 14 (.t 13),gP 15 .mv [.v 3] 14 true,gP 16 .mv [.t 15] 14 true,gP 17 .mv [.v 0] 16 false,gP 18 (.call 23) [.t 17,.c (.str [41])] 16 false,gP 19 (.un .not) [.t 18] 16 false,gP 20 .pick [.t 16,.c (.bool true),.t 19] 14 true,oP 21 .pick [.t 14,.t 20,.c (.bool false)]] (.t 21) .skip (.exit 0)
def b8Z:=Rg [4] [nP 22 0,oP 23 (.call 19) [.t 22],oP 24 (.build [.str [],.int .u8 0,.int .i64 0,.str [],.list true [],.list true []] [(0,1)]) [.t 23],⟨.bx,.alloc [.str [],.int .u8 0,.int .i64 0,.str [],.list true [],.list true []],[],some 4,none⟩,xP (.stLc 4 6) [.l 4,.ts 24] 4]
def c1L:=Rg [] [nP 25 0,oP 26 (.call 20) [.t 25,.c (.str [58])]]
def b9i:=Rg [] [nP 27 0,oP 28 (.call 57) [.t 27,.c (.bool false)],fP 29 1 (.l 4),xP (.stLc 4 5) [.t 29,.ts 28] 4]
def b8B:=Rg [] [mP 30 (.vs 2),lP 31 4 true 6 (.l 4),oP 32 (.bslice 6 [[.str [],.int .u8 0,.int .i64 0,.str [],.list true [],.list true []]] [0]) [.t 31],oP 33 (.app 6 96) [.ts 30,.t 32],vP 2 (.ts 33)]
def b9q:=Rg [] [vP 3 (.c (.bool false))]
def c2M:=Rg [] [nP 34 2,vP 1 (.ts 34)]
def e83:ACode :=
  (Sq d3g (Sq c5F (Sq d2e (Sq (Sq c2n (Bk 0 (Lp (Sq b75 (Sq (Bk 1 (Sq b8Z (Sq c1L (Sq b9i b8B)))) b9q))))) (Sq c2M .ret)))))
def d4U:AFn:={ np:=1,nv:=5,results:=[.v 1],code:=e83 }
def e1P:List Nat:=[0,2,3,4,5]
def d9w:List Nat:=[4]

def c9S:=Rg [] [op (.v 1) .mv [.c (.list true [])]]
def d4m:=Rg [] [op (.v 2) .mv [.c (.list true [])]]
def d2F:=Ts [] [nP 5 0,oP 6 (.call 23) [.t 5,.c (.str [64])]] (.t 6) .skip (.exit 0)
def c6L:=Rg [3] [nP 7 0,oP 8 (.call 19) [.t 7],oP 9 (.build [.str [],.list true []] [(0,1)]) [.t 8],⟨.bx,.alloc [.str [],.list true []],[],some 3,none⟩,xP (.stLc 3 2) [.l 3,.ts 9] 3]
def c6M:=Rg [] [nP 10 0,oP 11 (.call 101) [.t 10],fP 12 1 (.l 3),xP (.stLc 3 1) [.t 12,.ts 11] 3]
def b9j:=Rg [] [mP 13 (.vs 2),lP 14 3 true 2 (.l 3),oP 15 (.bslice 2 [[.str [],.list true []]] [0]) [.t 14],oP 16 (.app 2 40) [.ts 13,.t 15],vP 2 (.ts 16)]
def c2R:=Rg [] [nP 17 2,vP 1 (.ts 17)]
def e8w:ACode :=
  (Sq c9S (Sq d4m (Sq (Bk 0 (Lp (Sq d2F (Bk 1 (Sq c6L (Sq c6M b9j)))))) (Sq c2R .ret))))
def c82:AFn:={ np:=1,nv:=4,results:=[.v 1],code:=e8w }
def e9U:List Nat:=[0,2,3,4]
def e2X:List Nat:=[3]

def c9p:=Rg [2] [⟨.bx,.alloc [.int .u8 0,.int .i64 0,.str [],.list true [],.list true []],[],some 2,none⟩]
def d2k:=Rg [3] [nP 10 0,oP 11 .nilchk [.t 10],fP 12 0 (.t 11),oP 13 (.ldSt false 1) [.t 12],nP 14 0,oP 15 .nilchk [.t 14],fP 16 1 (.t 15),oP 17 (.ldSt false 1) [.t 16],oP 18 (.iad 4) [.t 13,.t 17],oP 19 (.ldRo true 4) [.t 18],⟨.bx,.alloc [.int .u8 0,.str [],.int .i64 0,.int .i64 0],[],some 3,none⟩,xP (.stLc 3 4) [.l 3,.t 19] 3]
def d1f:=Rg [] [nP 24 0,oP 25 .nilchk [.t 24],fP 26 1 (.t 25),oP 27 (.ldSt false 1) [.t 26],bP 28 .add (.t 27) (.c (.int .i64 1)),oP 29 .nilchk [.t 24],fP 30 1 (.t 29),op .none (.stSt 1) [.t 30,.t 28]]
def c3U:=Rg [] [fP 31 2 (.l 3),lP 32 3 false 1 (.t 31),oP 33 (.build [.int .u8 0,.int .i64 0,.str [],.list true [],.list true []] [(0,1),(1,1)]) [.c (.int .u8 1),.t 32],xP (.stLc 2 5) [.l 2,.ts 33] 2]
def b9Y:=Rg [] [nP 38 0,oP 39 .nilchk [.t 38],fP 40 1 (.t 39),oP 41 (.ldSt false 1) [.t 40],bP 42 .add (.t 41) (.c (.int .i64 1)),oP 43 .nilchk [.t 38],fP 44 1 (.t 43),op .none (.stSt 1) [.t 44,.t 42]]
def c3m:=Rg [] [fP 45 1 (.l 3),lP 46 3 false 1 (.t 45),oP 47 (.build [.int .u8 0,.int .i64 0,.str [],.list true [],.list true []] [(0,1),(2,1)]) [.c (.int .u8 2),.t 46],xP (.stLc 2 5) [.l 2,.ts 47] 2]
def b93:=Rg [] [oP 51 (.build [.int .u8 0,.int .i64 0,.str [],.list true [],.list true []] [(0,1),(1,1)]) [.c (.int .u8 3),.c (.int .i64 1)],xP (.stLc 2 5) [.l 2,.ts 51] 2]
def b7m:=Rg [] [oP 55 (.build [.int .u8 0,.int .i64 0,.str [],.list true [],.list true []] [(0,1)]) [.c (.int .u8 3)],xP (.stLc 2 5) [.l 2,.ts 55] 2]
def b6Y:=Rg [] [oP 59 (.build [.int .u8 0,.int .i64 0,.str [],.list true [],.list true []] []) [],xP (.stLc 2 5) [.l 2,.ts 59] 2]
def b63:=Rg [] [nP 64 0,oP 65 .nilchk [.t 64],fP 66 1 (.t 65),oP 67 (.ldSt false 1) [.t 66],bP 68 .add (.t 67) (.c (.int .i64 1)),oP 69 .nilchk [.t 64],fP 70 1 (.t 69),op .none (.stSt 1) [.t 70,.t 68]]
def c27:=Rg [] [fP 71 1 (.l 3),lP 72 3 false 1 (.t 71),oP 73 (.build [.int .u8 0,.int .i64 0,.str [],.list true [],.list true []] [(0,1),(2,1)]) [.c (.int .u8 4),.t 72],xP (.stLc 2 5) [.l 2,.ts 73] 2]
def c0u:=Rg [] [nP 81 0,oP 82 .nilchk [.t 81],fP 83 1 (.t 82),oP 84 (.ldSt false 1) [.t 83],bP 85 .add (.t 84) (.c (.int .i64 1)),oP 86 .nilchk [.t 81],fP 87 1 (.t 86),op .none (.stSt 1) [.t 87,.t 85]]
def c2C:=Rg [] [nP 88 0,oP 89 (.call 19) [.t 88],oP 90 (.build [.int .u8 0,.int .i64 0,.str [],.list true [],.list true []] [(0,1),(2,1)]) [.c (.int .u8 7),.t 89],xP (.stLc 2 5) [.l 2,.ts 90] 2]
def c1a:=Rg [4] [oP 94 (.build [.int .u8 0,.int .i64 0,.str [],.list true [],.list true []] [(0,1)]) [.c (.int .u8 5)],⟨.bx,.alloc [.int .u8 0,.int .i64 0,.str [],.list true [],.list true []],[],some 4,none⟩,xP (.stLc 4 5) [.l 4,.ts 94] 4]
def b9R:=Ts [] [nP 95 0,oP 96 .nilchk [.t 95],fP 97 4 (.t 96),oP 98 (.ldSt false 1) [.t 97],bP 99 .eql (.t 98) (.c (.int .i64 0)),mP 100 (.t 99),gP 101 .mv [.v 0] 100 true,gP 102 (.call 23) [.t 101,.c (.str [93])] 100 true,gP 103 (.un .not) [.t 102] 100 true,oP 104 .pick [.t 100,.t 103,.c (.bool false)]] (.t 104) .skip (.exit 1)
def b90:=Rg [5] [nP 105 0,nP 106 1,oP 107 (.call 57) [.t 105,.t 106],⟨.bx,.alloc [.int .u8 0,.int .i64 0,.str [],.list true [],.list true []],[],some 5,none⟩,xP (.stLc 5 5) [.l 5,.ts 107] 5]
def b7w:=Rg [] [fP 108 4 (.l 4),⟨.t 109,.ldLcS 4,[.t 108],some 4,none⟩,lP 110 5 true 5 (.l 5),oP 111 (.bslice 5 [[.int .u8 0,.int .i64 0,.str [],.list true [],.list true []]] [0]) [.t 110],oP 112 (.app 5 80) [.ts 109,.t 111],fP 113 4 (.l 4),xP (.stLc 4 1) [.t 113,.ts 112] 4]
def c1D:=Rg [] [lP 114 4 true 5 (.l 4),xP (.stLc 2 5) [.l 2,.ts 114] 2]
def c0p:=Rg [6] [oP 118 (.build [.int .u8 0,.int .i64 0,.str [],.list true [],.list true []] [(0,1)]) [.c (.int .u8 6)],⟨.bx,.alloc [.int .u8 0,.int .i64 0,.str [],.list true [],.list true []],[],some 6,none⟩,xP (.stLc 6 5) [.l 6,.ts 118] 6]
def b9L:=Ts [] [nP 119 0,oP 120 .nilchk [.t 119],fP 121 4 (.t 120),oP 122 (.ldSt false 1) [.t 121],bP 123 .eql (.t 122) (.c (.int .i64 0)),mP 124 (.t 123),gP 125 .mv [.v 0] 124 true,gP 126 (.call 23) [.t 125,.c (.str [125])] 124 true,gP 127 (.un .not) [.t 126] 124 true,oP 128 .pick [.t 124,.t 127,.c (.bool false)]] (.t 128) .skip (.exit 3)
def c2V:=Rg [] [fP 129 3 (.l 6),⟨.t 130,.ldLcS 6,[.t 129],some 6,none⟩,nP 131 0,oP 132 (.call 19) [.t 131],oP 133 (.bslice 1 [[.str []]] [0]) [.t 132],oP 134 (.app 1 16) [.ts 130,.t 133],fP 135 3 (.l 6),xP (.stLc 6 1) [.t 135,.ts 134] 6]
def c1B:=Rg [] [nP 136 0,oP 137 (.call 20) [.t 136,.c (.str [58])]]
def b7x:=Rg [7] [nP 138 0,nP 139 1,oP 140 (.call 57) [.t 138,.t 139],⟨.bx,.alloc [.int .u8 0,.int .i64 0,.str [],.list true [],.list true []],[],some 7,none⟩,xP (.stLc 7 5) [.l 7,.ts 140] 7]
def b7Z:=Rg [] [fP 141 4 (.l 6),⟨.t 142,.ldLcS 6,[.t 141],some 6,none⟩,lP 143 7 true 5 (.l 7),oP 144 (.bslice 5 [[.int .u8 0,.int .i64 0,.str [],.list true [],.list true []]] [0]) [.t 143],oP 145 (.app 5 80) [.ts 142,.t 144],fP 146 4 (.l 6),xP (.stLc 6 1) [.t 146,.ts 145] 6]
def b7A:=Rg [] [lP 147 6 true 5 (.l 6),xP (.stLc 2 5) [.l 2,.ts 147] 2]
def b9g:=Ts [] [nP 116 0,oP 117 (.call 23) [.t 116,.c (.str [123])],mP 115 (.t 117)] (.t 115) (Sq c0p (Sq (Bk 3 (Lp (Sq b9L (Bk 4 (Sq c2V (Sq c1B (Sq b7x b7Z))))))) (Sq b7A .ret))) .skip
def c1J:=Ts [] [nP 92 0,oP 93 (.call 23) [.t 92,.c (.str [91])],mP 91 (.t 93)] (.t 91) (Sq c1a (Sq (Bk 1 (Lp (Sq b9R (Bk 2 (Sq b90 b7w))))) (Sq c1D .ret))) b9g
def b91:=Ts [] [nP 75 0,oP 76 (.call 22) [.t 75,.c (.str [36])],mP 77 (.t 76),gP 78 .mv [.v 1] 77 true,gP 79 (.un .not) [.t 78] 77 true,oP 80 .pick [.t 77,.t 79,.c (.bool false)],mP 74 (.t 80)] (.t 74) (Sq c0u (Sq c2C .ret)) c1J
def b9F:=Ts [] [fP 61 0 (.l 3),lP 62 3 false 1 (.t 61),bP 63 .eql (.t 62) (.c (.int .u8 1)),mP 60 (.t 63)] (.t 60) (Sq b63 (Sq c27 .ret)) b91
def b7K:=Ts [] [nP 57 0,oP 58 (.call 23) [.t 57,.c (.str [110,117,108,108])],mP 56 (.t 58)] (.t 56) (Sq b6Y .ret) b9F
def c0c:=Ts [] [nP 53 0,oP 54 (.call 23) [.t 53,.c (.str [102,97,108,115,101])],mP 52 (.t 54)] (.t 52) (Sq b7m .ret) b7K
def b7R:=Ts [] [nP 49 0,oP 50 (.call 23) [.t 49,.c (.str [116,114,117,101])],mP 48 (.t 50)] (.t 48) (Sq b93 .ret) c0c
def b8V:=Ts [] [fP 35 0 (.l 3),lP 36 3 false 1 (.t 35),bP 37 .eql (.t 36) (.c (.int .u8 3)),mP 34 (.t 37)] (.t 34) (Sq b9Y (Sq c3m .ret)) b7R
def b8x:=Ts [] [fP 21 0 (.l 3),lP 22 3 false 1 (.t 21),bP 23 .eql (.t 22) (.c (.int .u8 2)),mP 20 (.t 23)] (.t 20) (Sq d1f (Sq c3U .ret)) b8V
def b7n:=Rg [] [nP 148 0,oP 149 (.call 18) [.t 148,.c (.int .i64 4)]]
def b4D:=Rg [] [oP 150 (.build [.int .u8 0,.int .i64 0,.str [],.list true [],.list true []] []) [],xP (.stLc 2 5) [.l 2,.ts 150] 2]
def e9P:ACode :=
  (Sq c9p (Sq d2k (Sq (Bk 0 b8x) (Sq b7n (Sq b4D .ret)))))
def d2u:AFn:={ np:=2,nv:=8,results:=[.bx 2 true 5],code:=e9P }
def e2D:List Nat:=[0,1,4,5,6,7,8,9]
def e4n:List Nat:=[2,3,4,5,6,7]

def c5B:=Rg [] [vP 2 (.c (.bool false))]
def c5k:=Rg [] [nP 5 0,oP 6 (.binP .neq) [.t 5,.c (.nilp)],mP 7 (.t 6),gP 8 (.slA 4 1 false false) [.c (.ro [.str [66,111,111,108,101,97,110],.str [73,68],.str [73,110,116],.str [83,116,114,105,110,103]])] 7 true,gP 9 .mv [.v 1] 7 true,gP 10 (.call 32) [.t 8,.t 9] 7 true,oP 11 .pick [.t 7,.t 10,.c (.bool false)],vP 2 (.t 11)]
def e0y:ACode :=
  (Sq c5B (Sq c5k .ret))
def d5L:AFn:={ np:=2,nv:=3,results:=[.v 2],code:=e0y }
def e9v:List Nat:=[0,1,4]
def e9B:List Nat:=[]

def c5y:=Rg [] [vP 2 (.c (.bool false))]
def c9H:=Rg [] [nP 5 0,nP 6 1,oP 7 (.call 106) [.t 5,.t 6,.c (.int .u8 4)],vP 2 (.t 7)]
def e4Q:ACode :=
  (Sq c5y (Sq c9H .ret))
def d3Y:AFn:={ np:=2,nv:=3,results:=[.v 2],code:=e4Q }
def e3k:List Nat:=[0,1,4]
def e74:List Nat:=[]

def d3f:=Rg [] [vP 3 (.c (.bool false))]
def c4d:=Rg [4] [nP 10 0,nP 11 1,oP 12 (.call 45) [.t 10,.t 11],mP 9 (.t 12),oP 13 (.ext 0) [.t 9],oP 14 (.ext 1) [.t 9],⟨.bx,.alloc [.int .u8 0,.str [],.list true [],.list true []],[],some 4,none⟩,xP (.stLc 4 4) [.l 4,.ts 13] 4,vP 5 (.t 14)]
def d9h:=Rg [] [nP 15 5,mP 16 (.t 15),gP 17 (.fad 0) [.l 4] 16 true,⟨.t 18,.ldLc 4 false 1,[.t 17],some 4,some (.t 16,true)⟩,gP 19 .mv [.v 2] 16 true,gP 20 (.bin .eql) [.t 18,.t 19] 16 true,oP 21 .pick [.t 16,.t 20,.c (.bool false)],vP 3 (.t 21)]
def e62:ACode :=
  (Sq d3f (Sq c4d (Sq d9h .ret)))
def c7N:AFn:={ np:=3,nv:=6,results:=[.v 3],code:=e62 }
def e9a:List Nat:=[0,1,2,6,7,8]
def e42:List Nat:=[4]

def c7D:=Rg [] [vP 2 (.c (.bool false))]
def c9a:=Rg [] [nP 5 0,nP 6 1,oP 7 (.call 144) [.t 5,.t 6],bP 8 .geq (.t 7) (.c (.int .i64 0)),vP 2 (.t 8)]
def e8x:ACode :=
  (Sq c7D (Sq c9a .ret))
def c5l:AFn:={ np:=2,nv:=3,results:=[.v 2],code:=e8x }
def e2q:List Nat:=[0,1,4]
def e3t:List Nat:=[]

def c6D:=Rg [3] [⟨.bx,.boxV,[.v 0],some 3,none⟩,vP 4 (.c (.bool false))]
def c6P:=Rg [] [oP 5 (.ldSt false 1) [.v 1],fP 6 1 (.v 2),oP 7 (.ldSt false 1) [.t 6],oP 8 (.iad 3) [.t 7,.c (.int .i64 0)],oP 9 (.ldRo true 3) [.t 8],lP 10 3 true 5 (.l 3),oP 11 (.call 65) [.t 5,.t 9,.t 10],oP 12 (.un .not) [.t 11],vP 4 (.t 12)]
def e6r:ACode :=
  (Sq c6D (Sq c6P .ret))
def c80:AFn:={ np:=3,nv:=5,results:=[.v 4],code:=e6r }
def e3N:List Nat:=[0,1,2,3,4]
def e1I:List Nat:=[3]

def c8u:=Rg [3] [⟨.bx,.boxV,[.v 1],some 3,none⟩,op (.v 4) .boxO [.v 2],vP 5 (.c (.bool false))]
def c73:=Rg [] [fP 10 3 (.v 4),op (.v 9) (.ldSt false 1) [.t 10],op (.v 10) .lenL [.v 9],vP 11 (.c (.int .i64 0))]
def d0w:=Ts [] [bP 14 .lss (.v 11) (.v 10)] (.t 14) .skip (.exit 0)
def d3o:=Rg [] [nP 15 11,oP 16 (.iad 1) [.v 9,.v 11],oP 17 (.ldAn false 1) [.t 16],vP 6 (.t 15),vP 7 (.t 17)]
def c9U:=Rg [] [fP 18 2 (.l 3),lP 19 3 false 1 (.t 18),oP 20 (.call 80) [.t 19],nP 21 7,oP 22 (.call 67) [.t 20,.t 21],vP 8 (.t 22)]
def b8u:=Rg [] [vP 5 (.c (.bool false))]
def c0n:=Ts [] [nP 23 8,bP 24 .lss (.t 23) (.c (.int .i64 0)),mP 25 (.t 24),gP 26 (.fad 3) [.v 4] 25 false,gP 27 (.ldSt false 1) [.t 26] 25 false,gP 28 .mv [.v 6] 25 false,gP 29 (.slL 1 false true) [.t 27,.t 28] 25 false,gP 30 .mv [.v 7] 25 false,gP 31 (.call 32) [.t 29,.t 30] 25 false,oP 32 .pick [.t 25,.c (.bool true),.t 31],mP 33 (.t 32),gP 34 .mv [.v 0] 33 false,gP 35 (.fad 2) [.l 3] 33 false,⟨.t 36,.ldLc 3 false 1,[.t 35],some 3,some (.t 33,false)⟩,gP 37 .mv [.v 8] 33 false,gP 38 (.iad 11) [.t 36,.t 37] 33 false,gP 39 (.fad 2) [.t 38] 33 false,gP 40 (.ldRo true 3) [.t 39] 33 false,gP 41 (.fad 4) [.v 4] 33 false,gP 42 (.ldSt false 1) [.t 41] 33 false,gP 43 .mv [.v 6] 33 false,gP 44 (.iad 5) [.t 42,.t 43] 33 false,gP 45 (.ldAn true 5) [.t 44] 33 false,gP 46 (.call 65) [.t 34,.t 40,.t 45] 33 false,gP 47 (.un .not) [.t 46] 33 false,oP 48 .pick [.t 33,.c (.bool true),.t 47]] (.t 48) (Sq b8u .ret) .skip
def c2s:=Rg [] [bP 49 .add (.v 11) (.c (.int .i64 1)),vP 11 (.t 49)]
def c1R:=Rg [] [fP 50 2 (.l 3),lP 51 3 false 1 (.t 50),oP 52 (.mkF 145 0) [.v 4],oP 53 (.call 132) [.t 51,.t 52],oP 54 (.un .not) [.t 53],vP 5 (.t 54)]
def e4S:ACode :=
  (Sq c8u (Sq (Sq c73 (Bk 0 (Lp (Sq d0w (Sq (Bk 1 (Sq d3o (Sq c9U c0n))) c2s))))) (Sq c1R .ret)))
def c8V:AFn:={ np:=3,nv:=12,results:=[.v 5],code:=e4S }
def e0v:List Nat:=[0,1,2,4,5,6,7,8,9,11,12,13]
def e4T:List Nat:=[3]

def d2E:=Rg [] [vP 5 (.v 2),op (.v 6) .lenL [.v 5],vP 7 (.c (.int .i64 0))]
def d3D:=Ts [] [bP 12 .lss (.v 7) (.v 6)] (.t 12) .skip (.exit 0)
def c4e:=Rg [] [oP 13 (.iad 6) [.v 5,.v 7],oP 14 (.ldRo true 6) [.t 13],op (.v 3) (.allocO [.str [],.int .u8 0,.int .i64 0,.str [],.list true [],.list true []]) [],op .none (.stSt 6) [.v 3,.ts 14]]
def d7J:=Rg [] [nP 15 1,oP 16 (.mkF 147 0) [.v 3],oP 17 (.call 146) [.t 15,.t 16],vP 4 (.t 17)]
def b68:=Rg [] [nP 20 0,fP 21 1 (.v 3),oP 22 (.ldSt true 5) [.t 21],oP 23 (.call 148) [.t 20,.c (.nilp),.c (.bool false),.t 22]]
def b9G:=Rg [] [nP 24 0,nP 25 1,nP 26 4,oP 27 (.iad 11) [.t 25,.t 26],fP 28 2 (.t 27),nP 29 1,nP 30 4,oP 31 (.iad 11) [.t 29,.t 30],fP 32 5 (.t 31),oP 33 (.ldRo false 1) [.t 32],fP 34 1 (.v 3),oP 35 (.ldSt true 5) [.t 34],oP 36 (.call 148) [.t 24,.t 28,.t 33,.t 35]]
def c2T:=Ts [] [nP 18 4,bP 19 .lss (.t 18) (.c (.int .i64 0))] (.t 19) b68 b9G
def c3j:=Rg [] [bP 37 .add (.v 7) (.c (.int .i64 1)),vP 7 (.t 37)]
def e2G:ACode :=
  (Sq d2E (Bk 0 (Lp (Sq d3D (Sq (Bk 1 (Sq c4e (Sq d7J c2T))) c3j)))))
def c5f:AFn:={ np:=3,nv:=8,results:=[],code:=e2G }
def f0t:List Nat:=[0,1,2,7,8,9,10,11]
def d9I:List Nat:=[]

def d8u:=Rg [3] [⟨.bx,.alloc [.str [],.list true [],.str [],.list true [],.bool false,.bool false,.int .u8 0,.int .i64 0,.str [],.list true [],.list true []],[],some 3,none⟩,vP 4 (.c (.bool false))]
def c9W:=Rg [5] [nP 12 0,nP 13 1,oP 14 (.call 45) [.t 12,.t 13],mP 11 (.t 14),oP 15 (.ext 0) [.t 11],oP 16 (.ext 1) [.t 11],⟨.bx,.alloc [.int .u8 0,.str [],.list true [],.list true []],[],some 5,none⟩,xP (.stLc 5 4) [.l 5,.ts 15] 5,vP 6 (.t 16)]
def d3O:=Rg [] [nP 31 2,oP 32 (.build [.str [],.list true [],.bool false] [(0,1),(2,1)]) [.c (.str [83,116,114,105,110,103]),.c (.bool true)],oP 33 (.build [.str [],.list true [],.str [],.list true [],.bool false,.bool false,.int .u8 0,.int .i64 0,.str [],.list true [],.list true []] [(0,1),(2,3)]) [.t 31,.t 32],xP (.stLc 3 11) [.l 3,.ts 33] 3,vP 4 (.c (.bool true))]
def c7p:=Ts [] [nP 17 6,mP 18 (.t 17),gP 19 .mv [.v 2] 18 true,gP 20 (.bin .eql) [.t 19,.c (.str [95,95,116,121,112,101,110,97,109,101])] 18 true,oP 21 .pick [.t 18,.t 20,.c (.bool false)],mP 22 (.t 21),gP 23 .mv [.v 0] 22 true,gP 24 .mv [.v 1] 22 true,gP 25 (.call 136) [.t 23,.t 24] 22 true,gP 26 .mv [.t 25] 22 true,gP 27 .mv [.v 1] 26 false,gP 28 (.call 82) [.t 27] 26 false,gP 29 .pick [.t 26,.c (.bool true),.t 28] 22 true,oP 30 .pick [.t 22,.t 29,.c (.bool false)]] (.t 30) (Sq d3O .ret) .skip
def c0d:=Rg [] [fP 34 2 (.l 5),lP 35 5 false 1 (.t 34),oP 36 (.call 80) [.t 35],nP 37 2,oP 38 (.call 67) [.t 36,.t 37],vP 7 (.t 38)]
def c1K:=Rg [] [fP 46 2 (.l 5),lP 47 5 false 1 (.t 46),nP 48 7,oP 49 (.iad 11) [.t 47,.t 48],oP 50 (.ldRo true 11) [.t 49],xP (.stLc 3 11) [.l 3,.ts 50] 3,vP 4 (.c (.bool true))]
def b94:=Ts [] [nP 39 7,bP 40 .geq (.t 39) (.c (.int .i64 0)),mP 41 (.t 40),gP 42 (.fad 0) [.l 5] 41 true,⟨.t 43,.ldLc 5 false 1,[.t 42],some 5,some (.t 41,true)⟩,gP 44 (.bin .neq) [.t 43,.c (.int .u8 5)] 41 true,oP 45 .pick [.t 41,.t 44,.c (.bool false)]] (.t 45) (Sq c1K .ret) .skip
def b9Q:=Rg [] [oP 51 (.build [.str [],.list true [],.str [],.list true [],.bool false,.bool false,.int .u8 0,.int .i64 0,.str [],.list true [],.list true []] []) [],xP (.stLc 3 11) [.l 3,.ts 51] 3,vP 4 (.c (.bool false))]
def e97:ACode :=
  (Sq d8u (Sq c9W (Sq c7p (Sq (Sq c0d b94) (Sq b9Q .ret)))))
def c6h:AFn:={ np:=3,nv:=8,results:=[.bx 3 true 11,.v 4],code:=e97 }
def e0e:List Nat:=[0,1,2,6,7,8,9,10]
def e6D:List Nat:=[3,5]

def a112s1:=Rg [] [op (.v 3) .mv [.c (.list true [])]]
def a112s3:=Rg [] [op (.v 4) .mv [.c (.list true [])]]
def a112s5:=Rg [] [vP 8 (.v 1),op (.v 9) .lenL [.v 8],vP 10 (.c (.int .i64 0))]
def a112s7:=Ts [] [bP 15 .lss (.v 10) (.v 9)] (.t 15) .skip (.exit 0)
def a112s9:=Rg [5] [oP 16 (.iad 7) [.v 8,.v 10],oP 17 (.ldAn true 7) [.t 16],⟨.bx,.alloc [.int .u8 0,.str [],.str [],.str [],.list true [],.list true [],.list true []],[],some 5,none⟩,xP (.stLc 5 7) [.l 5,.ts 17] 5]
def a112s11:=Rg [] [fP 18 0 (.l 5),⟨.v 11,.ldLc 5 false 1,[.t 18],some 5,none⟩]
def a112s14:=Rg [] [mP 29 (.vs 4),lP 30 5 true 7 (.l 5),oP 31 (.bslice 7 [[.int .u8 0,.str [],.str [],.str [],.list true [],.list true [],.list true []]] [0]) [.t 30],oP 32 (.app 7 128) [.ts 29,.t 31],vP 4 (.ts 32)]
def a112s17:=Rg [6] [nP 36 0,fP 37 2 (.l 5),lP 38 5 false 1 (.t 37),oP 39 (.call 58) [.t 36,.t 38],mP 35 (.t 39),oP 40 (.ext 0) [.t 35],oP 41 (.ext 1) [.t 35],⟨.bx,.alloc [.str [],.str [],.list true []],[],some 6,none⟩,xP (.stLc 6 3) [.l 6,.ts 40] 6,vP 7 (.t 41)]
def a112s20:=Rg [] [nP 52 2,nP 53 2,oP 54 .nilchk [.t 53],oP 55 .ldStS [.t 54],fP 56 2 (.l 5),lP 57 5 false 1 (.t 56),oP 58 (.bslice 1 [[.str []]] [0]) [.t 57],oP 59 (.app 1 16) [.ts 55,.t 58],oP 60 .nilchk [.t 52],op .none (.stSt 1) [.t 60,.ts 59]]
def a112s22:=Rg [] [mP 61 (.vs 4),nP 62 0,fP 63 2 (.l 6),lP 64 6 false 1 (.t 63),nP 65 2,oP 66 (.call 112) [.t 62,.t 64,.t 65],oP 67 (.app 7 128) [.ts 61,.t 66],vP 4 (.ts 67)]
def a112s24:=Ts [] [nP 42 7,mP 43 (.t 42),gP 44 .mv [.v 2] 43 true,gP 45 .nilchk [.t 44] 43 true,gP 46 (.ldSt false 1) [.t 45] 43 true,gP 47 (.fad 2) [.l 5] 43 true,⟨.t 48,.ldLc 5 false 1,[.t 47],some 5,some (.t 43,true)⟩,gP 49 (.call 32) [.t 46,.t 48] 43 true,gP 50 (.un .not) [.t 49] 43 true,oP 51 .pick [.t 43,.t 50,.c (.bool false)]] (.t 51) (Sq a112s20 a112s22) .skip
def a112s27:=Rg [] [mP 20 (.vs 4),nP 21 0,fP 22 6 (.l 5),lP 23 5 false 1 (.t 22),nP 24 2,oP 25 (.call 112) [.t 21,.t 23,.t 24],oP 26 (.app 7 128) [.ts 20,.t 25],vP 4 (.ts 26)]
def a112s28:=Ts [] [bP 34 .eql (.v 11) (.c (.int .u8 2)),mP 33 (.t 34)] (.t 33) (Sq a112s17 a112s24) a112s27
def a112s29:=Ts [] [bP 28 .eql (.v 11) (.c (.int .u8 1)),mP 27 (.t 28)] (.t 27) a112s14 a112s28
def a112s35:=Rg [] [bP 68 .add (.v 10) (.c (.int .i64 1)),vP 10 (.t 68)]
def a112s42:=Rg [] [nP 69 4,vP 3 (.ts 69)]
def a112c:ACode :=
  (Sq a112s1 (Sq a112s3 (Sq (Sq a112s5 (Bk 0 (Lp (Sq a112s7 (Sq (Bk 1 (Sq a112s9 (Sq a112s11 (Bk 2 a112s29)))) a112s35))))) (Sq a112s42 .ret))))
def a112:AFn:={ np:=3,nv:=12,results:=[.v 3],code:=a112c }
def e8y:List Nat:=[0,1,2,6,7,9,10,11,12,13,14,19]
def d9q:List Nat:=[5,6]

def a113s1:=Rg [] [vP 2 (.c (.int .i64 0))]
def a113s3:=Rg [] [nP 6 0,op (.v 4) .lenL [.t 6],vP 5 (.c (.int .i64 0))]
def a113s5:=Ts [] [bP 9 .lss (.v 5) (.v 4)] (.t 9) .skip (.exit 0)
def a113s7:=Rg [] [nP 10 5,vP 3 (.t 10)]
def a113s10:=Rg [] [nP 17 3,vP 2 (.t 17)]
def a113s12:=Ts [] [nP 11 1,nP 12 0,nP 13 3,oP 14 (.iad 7) [.t 12,.t 13],oP 15 (.ldAn true 7) [.t 14],oP 16 .callV [.t 11,.t 15]] (.t 16) (Sq a113s10 .ret) .skip
def a113s16:=Rg [] [bP 18 .add (.v 5) (.c (.int .i64 1)),vP 5 (.t 18)]
def a113s23:=Rg [] [vP 2 (.c (.int .i64 (-1)))]
def a113c:ACode :=
  (Sq a113s1 (Sq (Sq a113s3 (Bk 0 (Lp (Sq a113s5 (Sq (Bk 1 (Sq a113s7 a113s12)) a113s16))))) (Sq a113s23 .ret)))
def a113:AFn:={ np:=2,nv:=6,results:=[.v 2],code:=a113c }
def e19:List Nat:=[0,1,4,5,7,8]
def e2V:List Nat:=[]

def a114s1:=Rg [2] [⟨.bx,.boxV,[.v 0],some 2,none⟩,vP 3 (.c (.bool false))]
def a114s3:=Rg [1000000,1000002,1000001,1000003,1000004,1000005] [lP 4 2 true 7 (.l 2),oP 6 (.ldStR true 7) [.v 1,.v 1],oP 5 (.callA 9 1) [.t 4,.v 1],oP 7 (.call 9) [.t 6],bP 8 .eql (.t 5) (.t 7),vP 3 (.t 8)]
def a114c:ACode :=
  (Sq a114s1 (Sq a114s3 .ret))
def a114:AFn:={ np:=2,nv:=4,results:=[.v 3],code:=a114c }
def e3e:List Nat:=[0,1,2,3]
def d99:List Nat:=[2]

def a115s1:=Rg [2,3] [⟨.bx,.boxV,[.v 0],some 2,none⟩,⟨.bx,.boxV,[.v 1],some 3,none⟩,vP 4 (.c (.bool false))]
def a115s3:=Rg [] [fP 5 2 (.l 2),lP 6 2 false 1 (.t 5),fP 7 2 (.l 3),lP 8 3 false 1 (.t 7),bP 9 .eql (.t 6) (.t 8),mP 10 (.t 9),gP 11 (.fad 4) [.l 2] 10 true,⟨.t 12,.ldLc 2 false 1,[.t 11],some 2,some (.t 10,true)⟩,gP 13 (.fad 4) [.l 3] 10 true,⟨.t 14,.ldLc 3 false 1,[.t 13],some 3,some (.t 10,true)⟩,gP 15 (.call 149) [.t 12,.t 14] 10 true,oP 16 .pick [.t 10,.t 15,.c (.bool false)],mP 17 (.t 16),gP 18 (.fad 6) [.l 2] 17 true,⟨.t 19,.ldLc 2 false 1,[.t 18],some 2,some (.t 17,true)⟩,gP 20 (.fad 6) [.l 3] 17 true,⟨.t 21,.ldLc 3 false 1,[.t 20],some 3,some (.t 17,true)⟩,gP 22 (.call 150) [.t 19,.t 21,.c (.func 151 [] [])] 17 true,oP 23 .pick [.t 17,.t 22,.c (.bool false)],vP 4 (.t 23)]
def a115c:ACode :=
  (Sq a115s1 (Sq a115s3 .ret))
def a115:AFn:={ np:=2,nv:=5,results:=[.v 4],code:=a115c }
def e7L:List Nat:=[0,1,2,3,4]
def e6Q:List Nat:=[2,3]

def d2Y:=Rg [] [op (.v 2) .mv [.c (.list true [])]]
def c7s:=Rg [] [op (.v 3) .mv [.c (.list true [])]]
def d5x:=Rg [] [vP 5 (.v 0),op (.v 6) .lenL [.v 5],vP 7 (.c (.int .i64 0))]
def d3d:=Ts [] [bP 11 .lss (.v 7) (.v 6)] (.t 11) .skip (.exit 0)
def d11:=Rg [4] [oP 12 (.iad 2) [.v 5,.v 7],oP 13 (.ldRo true 2) [.t 12],⟨.bx,.alloc [.str [],.list true []],[],some 4,none⟩,xP (.stLc 4 2) [.l 4,.ts 13] 4]
def c0N:=Rg [] [mP 14 (.vs 3),nP 15 1,lP 16 4 true 2 (.l 4),oP 17 .callV [.t 15,.t 16],oP 18 (.bslice 1 [[.str []]] [0]) [.t 17],oP 19 (.app 1 16) [.ts 14,.t 18],vP 3 (.ts 19)]
def c2E:=Rg [] [bP 20 .add (.v 7) (.c (.int .i64 1)),vP 7 (.t 20)]
def b9b:=Rg [] [nP 21 3,vP 2 (.ts 21)]
def e7e:ACode :=
  (Sq d2Y (Sq c7s (Sq (Sq d5x (Bk 0 (Lp (Sq d3d (Sq (Bk 1 (Sq d11 c0N)) c2E))))) (Sq b9b .ret))))
def d7w:AFn:={ np:=2,nv:=8,results:=[.v 2],code:=e7e }
def e23:List Nat:=[0,1,4,5,7,8,9,10]
def e7q:List Nat:=[4]

def c77:=Rg [1] [⟨.bx,.boxV,[.v 0],some 1,none⟩,op (.v 2) .mv [.c (.str [])]]
def c5S:=Rg [] [fP 3 0 (.l 1),lP 4 1 false 1 (.t 3),vP 2 (.t 4)]
def f0B:ACode :=
  (Sq c77 (Sq c5S .ret))
def c9D:AFn:={ np:=1,nv:=3,results:=[.v 2],code:=f0B }
def d9M:List Nat:=[0,1,2]
def f0D:List Nat:=[1]

def d3j:=Rg [] [nP 12 2,oP 13 (.call 152) [.t 12,.c (.func 153 [] [])],vP 3 (.ts 13)]
def d6d:=Rg [] [nP 14 0,nP 15 3,oP 16 (.call 27) [.t 14,.c (.int .i64 11),.t 15]]
def d7D:=Rg [] [vP 7 (.v 2),op (.v 8) .lenL [.v 7],vP 9 (.c (.int .i64 0))]
def c5Q:=Ts [] [bP 20 .lss (.v 9) (.v 8)] (.t 20) .skip (.exit 0)
def d0G:=Rg [] [oP 21 (.iad 6) [.v 7,.v 9],oP 22 (.ldRo true 6) [.t 21],op (.v 4) (.allocO [.str [],.int .u8 0,.int .i64 0,.str [],.list true [],.list true []]) [],op .none (.stSt 6) [.v 4,.ts 22]]
def b8o:=Rg [] [nP 23 1,oP 24 (.mkF 154 0) [.v 4],oP 25 (.call 146) [.t 23,.t 24],vP 5 (.t 25)]
def c2S:=Rg [] [nP 28 0,fP 29 0 (.v 4),oP 30 (.ldSt false 1) [.t 29],oP 31 (.call 26) [.t 28,.c (.int .i64 10),.t 30]]
def c0z:=Rg [] [nP 42 0,fP 43 0 (.v 4),oP 44 (.ldSt false 1) [.t 43],oP 45 (.call 26) [.t 42,.c (.int .i64 13),.t 44]]
def b9M:=Ts [] [nP 32 0,nP 33 1,nP 34 5,oP 35 (.iad 11) [.t 33,.t 34],fP 36 2 (.t 35),oP 37 (.ldRo true 3) [.t 36],fP 38 1 (.v 4),oP 39 (.ldSt true 5) [.t 38],oP 40 (.call 155) [.t 32,.t 37,.t 39],oP 41 (.un .not) [.t 40]] (.t 41) c0z .skip
def c2x:=Ts [] [nP 26 5,bP 27 .lss (.t 26) (.c (.int .i64 0))] (.t 27) c2S b9M
def b9v:=Rg [] [bP 46 .add (.v 9) (.c (.int .i64 1)),vP 9 (.t 46)]
def c1k:=Rg [] [vP 10 (.v 1),op (.v 11) .lenL [.v 10],vP 12 (.c (.int .i64 0))]
def b8P:=Ts [] [bP 50 .lss (.v 12) (.v 11)] (.t 50) .skip (.exit 2)
def c2Y:=Rg [6] [oP 51 (.iad 11) [.v 10,.v 12],oP 52 (.ldRo true 11) [.t 51],⟨.bx,.alloc [.str [],.list true [],.str [],.list true [],.bool false,.bool false,.int .u8 0,.int .i64 0,.str [],.list true [],.list true []],[],some 6,none⟩,xP (.stLc 6 11) [.l 6,.ts 52] 6]
def b9z:=Rg [] [nP 68 0,fP 69 0 (.l 6),lP 70 6 false 1 (.t 69),oP 71 (.call 26) [.t 68,.c (.int .i64 12),.t 70]]
def c00:=Ts [] [fP 53 2 (.l 6),fP 54 2 (.t 53),lP 55 6 false 1 (.t 54),mP 56 (.t 55),gP 57 (.fad 5) [.l 6] 56 true,⟨.t 58,.ldLc 6 false 1,[.t 57],some 6,some (.t 56,true)⟩,gP 59 (.un .not) [.t 58] 56 true,oP 60 .pick [.t 56,.t 59,.c (.bool false)],mP 61 (.t 60),gP 62 .mv [.v 3] 61 true,gP 63 (.fad 0) [.l 6] 61 true,⟨.t 64,.ldLc 6 false 1,[.t 63],some 6,some (.t 61,true)⟩,gP 65 (.call 32) [.t 62,.t 64] 61 true,gP 66 (.un .not) [.t 65] 61 true,oP 67 .pick [.t 61,.t 66,.c (.bool false)]] (.t 67) b9z .skip
def c3t:=Rg [] [bP 72 .add (.v 12) (.c (.int .i64 1)),vP 12 (.t 72)]
def d9Y:ACode :=
  (Sq d3j (Sq d6d (Sq (Sq d7D (Bk 0 (Lp (Sq c5Q (Sq (Bk 1 (Sq d0G (Sq b8o c2x))) b9v))))) (Sq c1k (Bk 2 (Lp (Sq b8P (Sq (Bk 3 (Sq c2Y c00)) c3t))))))))
def d89:AFn:={ np:=3,nv:=13,results:=[],code:=d9Y }
def e7F:List Nat:=[0,1,2,6,8,9,11,17,18,19,47,48,49]
def e7l:List Nat:=[6]

def d0e:=Rg [] [op (.v 2) .mv [.c (.list true [])]]
def d6Y:=Rg [3] [nP 8 0,oP 9 .nilchk [.t 8],fP 10 0 (.t 9),oP 11 (.ldSt false 1) [.t 10],nP 12 1,oP 13 (.call 45) [.t 11,.t 12],mP 7 (.t 13),oP 14 (.ext 0) [.t 7],oP 15 (.ext 1) [.t 7],⟨.bx,.alloc [.int .u8 0,.str [],.list true [],.list true []],[],some 3,none⟩,xP (.stLc 3 4) [.l 3,.ts 14] 3,vP 4 (.t 15)]
def c8x:=Rg [] [nP 22 1,oP 23 (.bslice 1 [[.str []]] [0]) [.t 22],vP 2 (.ts 23)]
def d4M:=Ts [] [nP 16 4,mP 17 (.t 16),gP 18 (.fad 0) [.l 3] 17 true,⟨.t 19,.ldLc 3 false 1,[.t 18],some 3,some (.t 17,true)⟩,gP 20 (.bin .eql) [.t 19,.c (.int .u8 1)] 17 true,oP 21 .pick [.t 17,.t 20,.c (.bool false)]] (.t 21) (Sq c8x .ret) .skip
def c0T:=Rg [] [nP 24 0,oP 25 .nilchk [.t 24],fP 26 0 (.t 25),oP 27 (.ldSt false 1) [.t 26],nP 28 1,oP 29 (.call 156) [.t 27,.t 28],vP 2 (.ts 29)]
def e3C:ACode :=
  (Sq d0e (Sq (Sq d6Y d4M) (Sq c0T .ret)))
def d7C:AFn:={ np:=2,nv:=5,results:=[.v 2],code:=e3C }
def e0x:List Nat:=[0,1,4,5,6]
def e8O:List Nat:=[3]

def c6x:=Rg [] [vP 2 (.c (.bool false))]
def c32:=Rg [] [nP 5 0,nP 6 1,oP 7 (.call 157) [.t 5,.t 6],bP 8 .geq (.t 7) (.c (.int .i64 0)),vP 2 (.t 8)]
def e37:ACode :=
  (Sq c6x (Sq c32 .ret))
def d4g:AFn:={ np:=2,nv:=3,results:=[.v 2],code:=e37 }
def e7x:List Nat:=[0,1,4]
def e5N:List Nat:=[]

def d3i:=Rg [] [vP 2 (.c (.bool false))]
def c8b:=Rg [] [oP 4 (.ldSt false 1) [.v 1],nP 5 0,oP 6 (.call 32) [.t 4,.t 5],vP 2 (.t 6)]
def e40:ACode :=
  (Sq d3i (Sq c8b .ret))
def d4c:AFn:={ np:=2,nv:=3,results:=[.v 2],code:=e40 }
def e7T:List Nat:=[0,1,3]
def e3x:List Nat:=[]

def c7g:=Rg [] [nP 10 1,bP 11 .add (.t 10) (.c (.int .i64 1)),vP 4 (.t 11)]
def d0A:=Ts [] [nP 12 4,nP 13 2,bP 14 .lss (.t 12) (.t 13)] (.t 14) .skip (.exit 0)
def c6s:=Rg [] [nP 17 4,vP 5 (.t 17)]
def c9C:=Ts [] [nP 18 5,nP 19 1,bP 20 .gtr (.t 18) (.t 19),mP 21 (.t 20),gP 22 .mv [.v 3] 21 true,gP 23 .mv [.v 0] 21 true,gP 24 .mv [.v 5] 21 true,gP 25 (.iad 2) [.t 23,.t 24] 21 true,gP 26 (.ldAn true 2) [.t 25] 21 true,gP 27 .mv [.v 0] 21 true,gP 28 .mv [.v 5] 21 true,gP 29 (.bin .sub) [.t 28,.c (.int .i64 1)] 21 true,gP 30 (.iad 2) [.t 27,.t 29] 21 true,gP 31 (.ldAn true 2) [.t 30] 21 true,gP 32 .callV [.t 22,.t 26,.t 31] 21 true,gP 33 (.bin .lss) [.t 32,.c (.int .i64 0)] 21 true,oP 34 .pick [.t 21,.t 33,.c (.bool false)]] (.t 34) .skip (.exit 2)
def c9I:=Rg [] [nP 37 0,nP 38 5,nP 39 0,nP 40 5,bP 41 .sub (.t 40) (.c (.int .i64 1)),nP 42 0,nP 43 5,bP 44 .sub (.t 43) (.c (.int .i64 1)),oP 45 (.iad 2) [.t 42,.t 44],oP 46 (.ldAn true 2) [.t 45],nP 47 0,nP 48 5,oP 49 (.iad 2) [.t 47,.t 48],oP 50 (.ldAn true 2) [.t 49],oP 51 (.iad 2) [.t 37,.t 38],op .none (.stSt 2) [.t 51,.t 46],oP 52 (.iad 2) [.t 39,.t 41],op .none (.stSt 2) [.t 52,.t 50]]
def b8G:=Rg [] [nP 35 5,bP 36 .sub (.t 35) (.c (.int .i64 1)),vP 5 (.t 36)]
def c1b:=Rg [] [nP 15 4,bP 16 .add (.t 15) (.c (.int .i64 1)),vP 4 (.t 16)]
def e9c:ACode :=
  (Sq c7g (Bk 0 (Lp (Sq d0A (Sq (Bk 1 (Sq c6s (Bk 2 (Lp (Sq c9C (Sq (Bk 3 c9I) b8G)))))) c1b)))))
def d7x:AFn:={ np:=4,nv:=6,results:=[],code:=e9c }
def e9C:List Nat:=[0,1,2,3,8,9]
def e7c:List Nat:=[]

def d76:=Rg [] [nP 13 1,vP 4 (.t 13)]
def d7L:=Rg [] [vP 5 (.c (.int .i64 0))]
def d6v:=Rg [] [nP 14 2,nP 15 1,bP 16 .sub (.t 14) (.t 15),vP 6 (.t 16)]
def d0h:=Rg [] [nP 17 6,bP 18 .sub (.t 17) (.c (.int .i64 1)),bP 19 .quo (.t 18) (.c (.int .i64 2)),vP 7 (.t 19)]
def d7P:=Ts [] [nP 20 7,bP 21 .geq (.t 20) (.c (.int .i64 0))] (.t 21) .skip (.exit 0)
def b9I:=Rg [] [nP 24 0,nP 25 7,nP 26 6,nP 27 4,nP 28 3,oP 29 (.call 158) [.t 24,.t 25,.t 26,.t 27,.t 28]]
def b8R:=Rg [] [nP 22 7,bP 23 .sub (.t 22) (.c (.int .i64 1)),vP 7 (.t 23)]
def c1v:=Rg [] [nP 30 6,bP 31 .sub (.t 30) (.c (.int .i64 1)),vP 8 (.t 31)]
def b7T:=Ts [] [nP 32 8,bP 33 .geq (.t 32) (.c (.int .i64 0))] (.t 33) .skip (.exit 2)
def b8l:=Rg [] [nP 36 0,nP 37 4,nP 38 0,nP 39 4,nP 40 8,bP 41 .add (.t 39) (.t 40),nP 42 0,nP 43 4,nP 44 8,bP 45 .add (.t 43) (.t 44),oP 46 (.iad 2) [.t 42,.t 45],oP 47 (.ldAn true 2) [.t 46],nP 48 0,nP 49 4,oP 50 (.iad 2) [.t 48,.t 49],oP 51 (.ldAn true 2) [.t 50],oP 52 (.iad 2) [.t 36,.t 37],op .none (.stSt 2) [.t 52,.t 47],oP 53 (.iad 2) [.t 38,.t 41],op .none (.stSt 2) [.t 53,.t 51]]
def c3w:=Rg [] [nP 54 0,nP 55 5,nP 56 8,nP 57 4,nP 58 3,oP 59 (.call 158) [.t 54,.t 55,.t 56,.t 57,.t 58]]
def c2q:=Rg [] [nP 34 8,bP 35 .sub (.t 34) (.c (.int .i64 1)),vP 8 (.t 35)]
def e8Y:ACode :=
  (Sq d76 (Sq d7L (Sq d6v (Sq (Sq d0h (Bk 0 (Lp (Sq d7P (Sq (Bk 1 b9I) b8R))))) (Sq c1v (Bk 2 (Lp (Sq b7T (Sq (Bk 3 (Sq b8l c3w)) c2q)))))))))
def c8U:AFn:={ np:=4,nv:=9,results:=[],code:=e8Y }
def e9e:List Nat:=[0,1,2,3,8,9,10,11,12]
def e24:List Nat:=[]

def c4B:=Rg [] [nP 13 2,nP 14 1,bP 15 .sub (.t 13) (.t 14),vP 4 (.t 15)]
def d2C:=Rg [] [nP 18 4,oP 19 (.conv .u64) [.t 18],op (.v 5) (.allocO [.int .u64 0]) [],op .none (.stSt 1) [.v 5,.t 19]]
def d1T:=Rg [] [nP 20 4,oP 21 (.call 159) [.t 20],vP 6 (.t 21)]
def d6U:=Rg [] [nP 22 1,nP 23 4,bP 24 .quo (.t 23) (.c (.int .i64 4)),bP 25 .mul (.t 24) (.c (.int .i64 2)),bP 26 .add (.t 22) (.t 25),bP 27 .sub (.t 26) (.c (.int .i64 1)),vP 7 (.t 27)]
def b8j:=Ts [] [nP 28 7,nP 29 1,nP 30 4,bP 31 .quo (.t 30) (.c (.int .i64 4)),bP 32 .mul (.t 31) (.c (.int .i64 2)),bP 33 .add (.t 29) (.t 32),bP 34 .add (.t 33) (.c (.int .i64 1)),bP 35 .leq (.t 28) (.t 34)] (.t 35) .skip (.exit 0)
def c3b:=Rg [] [oP 38 (.call 160) [.v 5],nP 39 6,bP 40 .sub (.t 39) (.c (.int .u64 1)),bP 41 .and (.t 38) (.t 40),oP 42 (.conv .i64) [.t 41],vP 8 (.t 42)]
def c1C:=Rg [] [nP 46 8,nP 47 4,bP 48 .sub (.t 46) (.t 47),vP 8 (.t 48)]
def b7X:=Ts [] [nP 43 8,nP 44 4,bP 45 .geq (.t 43) (.t 44)] (.t 45) c1C .skip
def c1x:=Rg [] [nP 49 0,nP 50 7,nP 51 0,nP 52 1,nP 53 8,bP 54 .add (.t 52) (.t 53),nP 55 0,nP 56 1,nP 57 8,bP 58 .add (.t 56) (.t 57),oP 59 (.iad 2) [.t 55,.t 58],oP 60 (.ldAn true 2) [.t 59],nP 61 0,nP 62 7,oP 63 (.iad 2) [.t 61,.t 62],oP 64 (.ldAn true 2) [.t 63],oP 65 (.iad 2) [.t 49,.t 50],op .none (.stSt 2) [.t 65,.t 60],oP 66 (.iad 2) [.t 51,.t 54],op .none (.stSt 2) [.t 66,.t 64]]
def c0y:=Rg [] [nP 36 7,bP 37 .add (.t 36) (.c (.int .i64 1)),vP 7 (.t 37)]
def c0t:=Ts [] [nP 16 4,bP 17 .geq (.t 16) (.c (.int .i64 8))] (.t 17) (Sq d2C (Sq d1T (Sq d6U (Bk 0 (Lp (Sq b8j (Sq (Bk 1 (Sq c3b (Sq b7X c1x))) c0y))))))) .skip
def e1y:ACode :=
  (Sq c4B c0t)
def c9m:AFn:={ np:=4,nv:=9,results:=[],code:=e1y }
def f0Q:List Nat:=[0,1,2,3,8,9,10,11,12]
def e6u:List Nat:=[]

def d2b:=Rg [] [vP 4 (.c (.int .i64 0)),vP 5 (.c (.int .i64 0))]
def d0Q:=Rg [] [nP 15 2,nP 16 1,bP 17 .sub (.t 15) (.t 16),vP 6 (.t 17)]
def d4Z:=Rg [] [op (.v 7) (.allocO [.int .i64 0]) []]
def c7h:=Rg [] [nP 18 1,nP 19 6,bP 20 .quo (.t 19) (.c (.int .i64 4)),bP 21 .mul (.t 20) (.c (.int .i64 1)),bP 22 .add (.t 18) (.t 21),vP 8 (.t 22)]
def d13:=Rg [] [nP 23 1,nP 24 6,bP 25 .quo (.t 24) (.c (.int .i64 4)),bP 26 .mul (.t 25) (.c (.int .i64 2)),bP 27 .add (.t 23) (.t 26),vP 9 (.t 27)]
def c1e:=Rg [] [nP 28 1,nP 29 6,bP 30 .quo (.t 29) (.c (.int .i64 4)),bP 31 .mul (.t 30) (.c (.int .i64 3)),bP 32 .add (.t 28) (.t 31),vP 10 (.t 32)]
def b8M:=Rg [] [nP 37 0,nP 38 8,nP 39 3,oP 40 (.call 161) [.t 37,.t 38,.v 7,.t 39],vP 8 (.t 40)]
def b92:=Rg [] [nP 41 0,nP 42 9,nP 43 3,oP 44 (.call 161) [.t 41,.t 42,.v 7,.t 43],vP 9 (.t 44)]
def c07:=Rg [] [nP 45 0,nP 46 10,nP 47 3,oP 48 (.call 161) [.t 45,.t 46,.v 7,.t 47],vP 10 (.t 48)]
def c1z:=Ts [] [nP 35 6,bP 36 .geq (.t 35) (.c (.int .i64 50))] (.t 36) (Sq b8M (Sq b92 c07)) .skip
def c1i:=Rg [] [nP 49 0,nP 50 8,nP 51 9,nP 52 10,nP 53 3,oP 54 (.call 162) [.t 49,.t 50,.t 51,.t 52,.v 7,.t 53],vP 9 (.t 54)]
def c2D:=Ts [] [nP 33 6,bP 34 .geq (.t 33) (.c (.int .i64 8))] (.t 34) (Sq c1z c1i) .skip
def c2U:=Rg [] [op (.v 11) (.ldSt false 1) [.v 7]]
def c1y:=Rg [] [nP 59 9,vP 4 (.t 59),vP 5 (.c (.int .i64 1))]
def b9C:=Rg [] [nP 62 9,vP 4 (.t 62),vP 5 (.c (.int .i64 2))]
def b9w:=Rg [] [nP 56 9,vP 4 (.t 56),vP 5 (.c (.int .i64 0))]
def c2F:=Ts [] [bP 61 .eql (.v 11) (.c (.int .i64 12)),mP 60 (.t 61)] (.t 60) (Sq b9C .ret) (Sq b9w .ret)
def c2P:=Ts [] [bP 58 .eql (.v 11) (.c (.int .i64 0)),mP 57 (.t 58)] (.t 57) (Sq c1y .ret) c2F
def e2h:ACode :=
  (Sq d2b (Sq d0Q (Sq d4Z (Sq c7h (Sq d13 (Sq c1e (Sq c2D (Sq c2U (Bk 0 c2P)))))))))
def c65:AFn:={ np:=4,nv:=12,results:=[.v 4,.v 5],code:=e2h }
def e7D:List Nat:=[0,1,2,3,8,9,10,11,12,13,14,55]
def e6e:List Nat:=[]

def d0M:=Rg [] [nP 10 1,vP 4 (.t 10)]
def d39:=Rg [] [nP 11 2,bP 12 .sub (.t 11) (.c (.int .i64 1)),vP 5 (.t 12)]
def d1v:=Ts [] [nP 13 4,nP 14 5,bP 15 .lss (.t 13) (.t 14)] (.t 15) .skip (.exit 0)
def c4k:=Rg [] [nP 16 0,nP 17 4,nP 18 0,nP 19 5,nP 20 0,nP 21 5,oP 22 (.iad 2) [.t 20,.t 21],oP 23 (.ldAn true 2) [.t 22],nP 24 0,nP 25 4,oP 26 (.iad 2) [.t 24,.t 25],oP 27 (.ldAn true 2) [.t 26],oP 28 (.iad 2) [.t 16,.t 17],op .none (.stSt 2) [.t 28,.t 23],oP 29 (.iad 2) [.t 18,.t 19],op .none (.stSt 2) [.t 29,.t 27]]
def c8l:=Rg [] [nP 30 4,bP 31 .add (.t 30) (.c (.int .i64 1)),vP 4 (.t 31)]
def b98:=Rg [] [nP 32 5,bP 33 .sub (.t 32) (.c (.int .i64 1)),vP 5 (.t 33)]
def d9L:ACode :=
  (Sq d0M (Sq d39 (Bk 0 (Lp (Sq d1v (Bk 1 (Sq c4k (Sq c8l b98))))))))
def d4Y:AFn:={ np:=4,nv:=6,results:=[],code:=d9L }
def e1f:List Nat:=[0,1,2,3,8,9]
def e3s:List Nat:=[]

def c6n:=Rg [] [vP 4 (.c (.bool false))]
def d8c:=Rg [] [nP 13 1,bP 14 .add (.t 13) (.c (.int .i64 1)),vP 5 (.t 14)]
def c41:=Rg [] [vP 6 (.c (.int .i64 0))]
def d2X:=Ts [] [nP 15 6,bP 16 .lss (.t 15) (.c (.int .i64 5))] (.t 16) .skip (.exit 0)
def d67:=Ts [] [nP 19 5,nP 20 2,bP 21 .lss (.t 19) (.t 20),mP 22 (.t 21),gP 23 .mv [.v 3] 22 true,gP 24 .mv [.v 0] 22 true,gP 25 .mv [.v 5] 22 true,gP 26 (.iad 2) [.t 24,.t 25] 22 true,gP 27 (.ldAn true 2) [.t 26] 22 true,gP 28 .mv [.v 0] 22 true,gP 29 .mv [.v 5] 22 true,gP 30 (.bin .sub) [.t 29,.c (.int .i64 1)] 22 true,gP 31 (.iad 2) [.t 28,.t 30] 22 true,gP 32 (.ldAn true 2) [.t 31] 22 true,gP 33 .callV [.t 23,.t 27,.t 32] 22 true,gP 34 (.bin .lss) [.t 33,.c (.int .i64 0)] 22 true,gP 35 (.un .not) [.t 34] 22 true,oP 36 .pick [.t 22,.t 35,.c (.bool false)]] (.t 36) .skip (.exit 2)
def b9J:=Rg [] [nP 37 5,bP 38 .add (.t 37) (.c (.int .i64 1)),vP 5 (.t 38)]
def b8S:=Rg [] [vP 4 (.c (.bool true))]
def b77:=Ts [] [nP 39 5,nP 40 2,bP 41 .eql (.t 39) (.t 40)] (.t 41) (Sq b8S .ret) .skip
def b8m:=Rg [] [vP 4 (.c (.bool false))]
def b78:=Ts [] [nP 42 2,nP 43 1,bP 44 .sub (.t 42) (.t 43),bP 45 .lss (.t 44) (.c (.int .i64 50))] (.t 45) (Sq b8m .ret) .skip
def b8Y:=Rg [] [nP 46 0,nP 47 5,nP 48 0,nP 49 5,bP 50 .sub (.t 49) (.c (.int .i64 1)),nP 51 0,nP 52 5,bP 53 .sub (.t 52) (.c (.int .i64 1)),oP 54 (.iad 2) [.t 51,.t 53],oP 55 (.ldAn true 2) [.t 54],nP 56 0,nP 57 5,oP 58 (.iad 2) [.t 56,.t 57],oP 59 (.ldAn true 2) [.t 58],oP 60 (.iad 2) [.t 46,.t 47],op .none (.stSt 2) [.t 60,.t 55],oP 61 (.iad 2) [.t 48,.t 50],op .none (.stSt 2) [.t 61,.t 59]]
def b8h:=Rg [] [nP 66 5,bP 67 .sub (.t 66) (.c (.int .i64 1)),vP 7 (.t 67)]
def b7P:=Ts [] [nP 68 7,bP 69 .geq (.t 68) (.c (.int .i64 1))] (.t 69) .skip (.exit 4)
def c0a:=Ts [] [nP 72 3,nP 73 0,nP 74 7,oP 75 (.iad 2) [.t 73,.t 74],oP 76 (.ldAn true 2) [.t 75],nP 77 0,nP 78 7,bP 79 .sub (.t 78) (.c (.int .i64 1)),oP 80 (.iad 2) [.t 77,.t 79],oP 81 (.ldAn true 2) [.t 80],oP 82 .callV [.t 72,.t 76,.t 81],bP 83 .lss (.t 82) (.c (.int .i64 0)),oP 84 (.un .not) [.t 83]] (.t 84) (.exit 4) .skip
def c1h:=Rg [] [nP 85 0,nP 86 7,nP 87 0,nP 88 7,bP 89 .sub (.t 88) (.c (.int .i64 1)),nP 90 0,nP 91 7,bP 92 .sub (.t 91) (.c (.int .i64 1)),oP 93 (.iad 2) [.t 90,.t 92],oP 94 (.ldAn true 2) [.t 93],nP 95 0,nP 96 7,oP 97 (.iad 2) [.t 95,.t 96],oP 98 (.ldAn true 2) [.t 97],oP 99 (.iad 2) [.t 85,.t 86],op .none (.stSt 2) [.t 99,.t 94],oP 100 (.iad 2) [.t 87,.t 89],op .none (.stSt 2) [.t 100,.t 98]]
def c1V:=Rg [] [nP 70 7,bP 71 .sub (.t 70) (.c (.int .i64 1)),vP 7 (.t 71)]
def b7d:=Ts [] [nP 62 5,nP 63 1,bP 64 .sub (.t 62) (.t 63),bP 65 .geq (.t 64) (.c (.int .i64 2))] (.t 65) (Sq b8h (Bk 4 (Lp (Sq b7P (Sq (Bk 5 (Sq c0a c1h)) c1V))))) .skip
def c2p:=Rg [] [nP 105 5,bP 106 .add (.t 105) (.c (.int .i64 1)),vP 8 (.t 106)]
def b7e:=Ts [] [nP 107 8,nP 108 2,bP 109 .lss (.t 107) (.t 108)] (.t 109) .skip (.exit 6)
def b60:=Ts [] [nP 112 3,nP 113 0,nP 114 8,oP 115 (.iad 2) [.t 113,.t 114],oP 116 (.ldAn true 2) [.t 115],nP 117 0,nP 118 8,bP 119 .sub (.t 118) (.c (.int .i64 1)),oP 120 (.iad 2) [.t 117,.t 119],oP 121 (.ldAn true 2) [.t 120],oP 122 .callV [.t 112,.t 116,.t 121],bP 123 .lss (.t 122) (.c (.int .i64 0)),oP 124 (.un .not) [.t 123]] (.t 124) (.exit 6) .skip
def c3x:=Rg [] [nP 125 0,nP 126 8,nP 127 0,nP 128 8,bP 129 .sub (.t 128) (.c (.int .i64 1)),nP 130 0,nP 131 8,bP 132 .sub (.t 131) (.c (.int .i64 1)),oP 133 (.iad 2) [.t 130,.t 132],oP 134 (.ldAn true 2) [.t 133],nP 135 0,nP 136 8,oP 137 (.iad 2) [.t 135,.t 136],oP 138 (.ldAn true 2) [.t 137],oP 139 (.iad 2) [.t 125,.t 126],op .none (.stSt 2) [.t 139,.t 134],oP 140 (.iad 2) [.t 127,.t 129],op .none (.stSt 2) [.t 140,.t 138]]
def b9T:=Rg [] [nP 110 8,bP 111 .add (.t 110) (.c (.int .i64 1)),vP 8 (.t 111)]
def c3H:=Ts [] [nP 101 2,nP 102 5,bP 103 .sub (.t 101) (.t 102),bP 104 .geq (.t 103) (.c (.int .i64 2))] (.t 104) (Sq c2p (Bk 6 (Lp (Sq b7e (Sq (Bk 7 (Sq b60 c3x)) b9T))))) .skip
def b9f:=Rg [] [nP 17 6,bP 18 .add (.t 17) (.c (.int .i64 1)),vP 6 (.t 18)]
def b8E:=Rg [] [vP 4 (.c (.bool false))]
def e9z:ACode :=
  (Sq c6n (Sq d8c (Sq (Sq c41 (Bk 0 (Lp (Sq d2X (Sq (Bk 1 (Sq (Bk 2 (Lp (Sq d67 (Bk 3 b9J)))) (Sq b77 (Sq b78 (Sq b8Y (Sq b7d c3H)))))) b9f))))) (Sq b8E .ret))))
def d42:AFn:={ np:=4,nv:=9,results:=[.v 4],code:=e9z }
def e3G:List Nat:=[0,1,2,3,8,9,10,11,12]
def e0d:List Nat:=[]

def c86:=Rg [] [vP 5 (.c (.int .i64 0))]
def c4S:=Rg [] [nP 13 0,nP 14 1,nP 15 0,nP 16 3,nP 17 0,nP 18 3,oP 19 (.iad 2) [.t 17,.t 18],oP 20 (.ldAn true 2) [.t 19],nP 21 0,nP 22 1,oP 23 (.iad 2) [.t 21,.t 22],oP 24 (.ldAn true 2) [.t 23],oP 25 (.iad 2) [.t 13,.t 14],op .none (.stSt 2) [.t 25,.t 20],oP 26 (.iad 2) [.t 15,.t 16],op .none (.stSt 2) [.t 26,.t 24]]
def c9T:=Rg [] [nP 27 1,bP 28 .add (.t 27) (.c (.int .i64 1)),nP 29 2,bP 30 .sub (.t 29) (.c (.int .i64 1)),vP 6 (.t 28),vP 7 (.t 30)]
def d1t:=Ts [] [nP 31 6,nP 32 7,bP 33 .leq (.t 31) (.t 32),mP 34 (.t 33),gP 35 .mv [.v 4] 34 true,gP 36 .mv [.v 0] 34 true,gP 37 .mv [.v 1] 34 true,gP 38 (.iad 2) [.t 36,.t 37] 34 true,gP 39 (.ldAn true 2) [.t 38] 34 true,gP 40 .mv [.v 0] 34 true,gP 41 .mv [.v 6] 34 true,gP 42 (.iad 2) [.t 40,.t 41] 34 true,gP 43 (.ldAn true 2) [.t 42] 34 true,gP 44 .callV [.t 35,.t 39,.t 43] 34 true,gP 45 (.bin .lss) [.t 44,.c (.int .i64 0)] 34 true,gP 46 (.un .not) [.t 45] 34 true,oP 47 .pick [.t 34,.t 46,.c (.bool false)]] (.t 47) .skip (.exit 2)
def d1Z:=Rg [] [nP 48 6,bP 49 .add (.t 48) (.c (.int .i64 1)),vP 6 (.t 49)]
def b7h:=Ts [] [nP 50 6,nP 51 7,bP 52 .leq (.t 50) (.t 51),mP 53 (.t 52),gP 54 .mv [.v 4] 53 true,gP 55 .mv [.v 0] 53 true,gP 56 .mv [.v 1] 53 true,gP 57 (.iad 2) [.t 55,.t 56] 53 true,gP 58 (.ldAn true 2) [.t 57] 53 true,gP 59 .mv [.v 0] 53 true,gP 60 .mv [.v 7] 53 true,gP 61 (.iad 2) [.t 59,.t 60] 53 true,gP 62 (.ldAn true 2) [.t 61] 53 true,gP 63 .callV [.t 54,.t 58,.t 62] 53 true,gP 64 (.bin .lss) [.t 63,.c (.int .i64 0)] 53 true,oP 65 .pick [.t 53,.t 64,.c (.bool false)]] (.t 65) .skip (.exit 4)
def c0i:=Rg [] [nP 66 7,bP 67 .sub (.t 66) (.c (.int .i64 1)),vP 7 (.t 67)]
def b9d:=Ts [] [nP 68 6,nP 69 7,bP 70 .gtr (.t 68) (.t 69)] (.t 70) (.exit 0) .skip
def b67:=Rg [] [nP 71 0,nP 72 6,nP 73 0,nP 74 7,nP 75 0,nP 76 7,oP 77 (.iad 2) [.t 75,.t 76],oP 78 (.ldAn true 2) [.t 77],nP 79 0,nP 80 6,oP 81 (.iad 2) [.t 79,.t 80],oP 82 (.ldAn true 2) [.t 81],oP 83 (.iad 2) [.t 71,.t 72],op .none (.stSt 2) [.t 83,.t 78],oP 84 (.iad 2) [.t 73,.t 74],op .none (.stSt 2) [.t 84,.t 82]]
def b9m:=Rg [] [nP 85 6,bP 86 .add (.t 85) (.c (.int .i64 1)),vP 6 (.t 86)]
def b8i:=Rg [] [nP 87 7,bP 88 .sub (.t 87) (.c (.int .i64 1)),vP 7 (.t 88)]
def c3i:=Rg [] [nP 89 6,vP 5 (.t 89)]
def e7k:ACode :=
  (Sq c86 (Sq c4S (Sq c9T (Sq (Bk 0 (Lp (Bk 1 (Sq (Bk 2 (Lp (Sq d1t (Bk 3 d1Z)))) (Sq (Bk 4 (Lp (Sq b7h (Bk 5 c0i)))) (Sq b9d (Sq b67 (Sq b9m b8i)))))))) (Sq c3i .ret)))))
def c7E:AFn:={ np:=5,nv:=8,results:=[.v 5],code:=e7k }
def e52:List Nat:=[0,1,2,3,4,10,11,12]
def f0S:List Nat:=[]

def c90:=Rg [] [vP 5 (.c (.int .i64 0)),vP 6 (.c (.bool false))]
def d5o:=Rg [] [nP 14 0,nP 15 1,nP 16 0,nP 17 3,nP 18 0,nP 19 3,oP 20 (.iad 2) [.t 18,.t 19],oP 21 (.ldAn true 2) [.t 20],nP 22 0,nP 23 1,oP 24 (.iad 2) [.t 22,.t 23],oP 25 (.ldAn true 2) [.t 24],oP 26 (.iad 2) [.t 14,.t 15],op .none (.stSt 2) [.t 26,.t 21],oP 27 (.iad 2) [.t 16,.t 17],op .none (.stSt 2) [.t 27,.t 25]]
def d71:=Rg [] [nP 28 1,bP 29 .add (.t 28) (.c (.int .i64 1)),nP 30 2,bP 31 .sub (.t 30) (.c (.int .i64 1)),vP 7 (.t 29),vP 8 (.t 31)]
def d2y:=Ts [] [nP 32 7,nP 33 8,bP 34 .leq (.t 32) (.t 33),mP 35 (.t 34),gP 36 .mv [.v 4] 35 true,gP 37 .mv [.v 0] 35 true,gP 38 .mv [.v 7] 35 true,gP 39 (.iad 2) [.t 37,.t 38] 35 true,gP 40 (.ldAn true 2) [.t 39] 35 true,gP 41 .mv [.v 0] 35 true,gP 42 .mv [.v 1] 35 true,gP 43 (.iad 2) [.t 41,.t 42] 35 true,gP 44 (.ldAn true 2) [.t 43] 35 true,gP 45 .callV [.t 36,.t 40,.t 44] 35 true,gP 46 (.bin .lss) [.t 45,.c (.int .i64 0)] 35 true,oP 47 .pick [.t 35,.t 46,.c (.bool false)]] (.t 47) .skip (.exit 0)
def c7J:=Rg [] [nP 48 7,bP 49 .add (.t 48) (.c (.int .i64 1)),vP 7 (.t 49)]
def b66:=Ts [] [nP 50 7,nP 51 8,bP 52 .leq (.t 50) (.t 51),mP 53 (.t 52),gP 54 .mv [.v 4] 53 true,gP 55 .mv [.v 0] 53 true,gP 56 .mv [.v 8] 53 true,gP 57 (.iad 2) [.t 55,.t 56] 53 true,gP 58 (.ldAn true 2) [.t 57] 53 true,gP 59 .mv [.v 0] 53 true,gP 60 .mv [.v 1] 53 true,gP 61 (.iad 2) [.t 59,.t 60] 53 true,gP 62 (.ldAn true 2) [.t 61] 53 true,gP 63 .callV [.t 54,.t 58,.t 62] 53 true,gP 64 (.bin .lss) [.t 63,.c (.int .i64 0)] 53 true,gP 65 (.un .not) [.t 64] 53 true,oP 66 .pick [.t 53,.t 65,.c (.bool false)]] (.t 66) .skip (.exit 2)
def b7z:=Rg [] [nP 67 8,bP 68 .sub (.t 67) (.c (.int .i64 1)),vP 8 (.t 68)]
def c28:=Rg [] [nP 72 0,nP 73 8,nP 74 0,nP 75 1,nP 76 0,nP 77 1,oP 78 (.iad 2) [.t 76,.t 77],oP 79 (.ldAn true 2) [.t 78],nP 80 0,nP 81 8,oP 82 (.iad 2) [.t 80,.t 81],oP 83 (.ldAn true 2) [.t 82],oP 84 (.iad 2) [.t 72,.t 73],op .none (.stSt 2) [.t 84,.t 79],oP 85 (.iad 2) [.t 74,.t 75],op .none (.stSt 2) [.t 85,.t 83]]
def b8q:=Rg [] [nP 86 8,vP 5 (.t 86),vP 6 (.c (.bool true))]
def c3q:=Ts [] [nP 69 7,nP 70 8,bP 71 .gtr (.t 69) (.t 70)] (.t 71) (Sq c28 (Sq b8q .ret)) .skip
def c1M:=Rg [] [nP 87 0,nP 88 7,nP 89 0,nP 90 8,nP 91 0,nP 92 8,oP 93 (.iad 2) [.t 91,.t 92],oP 94 (.ldAn true 2) [.t 93],nP 95 0,nP 96 7,oP 97 (.iad 2) [.t 95,.t 96],oP 98 (.ldAn true 2) [.t 97],oP 99 (.iad 2) [.t 87,.t 88],op .none (.stSt 2) [.t 99,.t 94],oP 100 (.iad 2) [.t 89,.t 90],op .none (.stSt 2) [.t 100,.t 98]]
def c02:=Rg [] [nP 101 7,bP 102 .add (.t 101) (.c (.int .i64 1)),vP 7 (.t 102)]
def c0P:=Rg [] [nP 103 8,bP 104 .sub (.t 103) (.c (.int .i64 1)),vP 8 (.t 104)]
def c0O:=Ts [] [nP 105 7,nP 106 8,bP 107 .leq (.t 105) (.t 106),mP 108 (.t 107),gP 109 .mv [.v 4] 108 true,gP 110 .mv [.v 0] 108 true,gP 111 .mv [.v 7] 108 true,gP 112 (.iad 2) [.t 110,.t 111] 108 true,gP 113 (.ldAn true 2) [.t 112] 108 true,gP 114 .mv [.v 0] 108 true,gP 115 .mv [.v 1] 108 true,gP 116 (.iad 2) [.t 114,.t 115] 108 true,gP 117 (.ldAn true 2) [.t 116] 108 true,gP 118 .callV [.t 109,.t 113,.t 117] 108 true,gP 119 (.bin .lss) [.t 118,.c (.int .i64 0)] 108 true,oP 120 .pick [.t 108,.t 119,.c (.bool false)]] (.t 120) .skip (.exit 6)
def b79:=Rg [] [nP 121 7,bP 122 .add (.t 121) (.c (.int .i64 1)),vP 7 (.t 122)]
def b99:=Ts [] [nP 123 7,nP 124 8,bP 125 .leq (.t 123) (.t 124),mP 126 (.t 125),gP 127 .mv [.v 4] 126 true,gP 128 .mv [.v 0] 126 true,gP 129 .mv [.v 8] 126 true,gP 130 (.iad 2) [.t 128,.t 129] 126 true,gP 131 (.ldAn true 2) [.t 130] 126 true,gP 132 .mv [.v 0] 126 true,gP 133 .mv [.v 1] 126 true,gP 134 (.iad 2) [.t 132,.t 133] 126 true,gP 135 (.ldAn true 2) [.t 134] 126 true,gP 136 .callV [.t 127,.t 131,.t 135] 126 true,gP 137 (.bin .lss) [.t 136,.c (.int .i64 0)] 126 true,gP 138 (.un .not) [.t 137] 126 true,oP 139 .pick [.t 126,.t 138,.c (.bool false)]] (.t 139) .skip (.exit 8)
def c2B:=Rg [] [nP 140 8,bP 141 .sub (.t 140) (.c (.int .i64 1)),vP 8 (.t 141)]
def b97:=Ts [] [nP 142 7,nP 143 8,bP 144 .gtr (.t 142) (.t 143)] (.t 144) (.exit 4) .skip
def c09:=Rg [] [nP 145 0,nP 146 7,nP 147 0,nP 148 8,nP 149 0,nP 150 8,oP 151 (.iad 2) [.t 149,.t 150],oP 152 (.ldAn true 2) [.t 151],nP 153 0,nP 154 7,oP 155 (.iad 2) [.t 153,.t 154],oP 156 (.ldAn true 2) [.t 155],oP 157 (.iad 2) [.t 145,.t 146],op .none (.stSt 2) [.t 157,.t 152],oP 158 (.iad 2) [.t 147,.t 148],op .none (.stSt 2) [.t 158,.t 156]]
def c0h:=Rg [] [nP 159 7,bP 160 .add (.t 159) (.c (.int .i64 1)),vP 7 (.t 160)]
def c3F:=Rg [] [nP 161 8,bP 162 .sub (.t 161) (.c (.int .i64 1)),vP 8 (.t 162)]
def b6Z:=Rg [] [nP 163 0,nP 164 8,nP 165 0,nP 166 1,nP 167 0,nP 168 1,oP 169 (.iad 2) [.t 167,.t 168],oP 170 (.ldAn true 2) [.t 169],nP 171 0,nP 172 8,oP 173 (.iad 2) [.t 171,.t 172],oP 174 (.ldAn true 2) [.t 173],oP 175 (.iad 2) [.t 163,.t 164],op .none (.stSt 2) [.t 175,.t 170],oP 176 (.iad 2) [.t 165,.t 166],op .none (.stSt 2) [.t 176,.t 174]]
def c0B:=Rg [] [nP 177 8,vP 5 (.t 177),vP 6 (.c (.bool false))]
def e9r:ACode :=
  (Sq c90 (Sq d5o (Sq d71 (Sq (Bk 0 (Lp (Sq d2y (Bk 1 c7J)))) (Sq (Bk 2 (Lp (Sq b66 (Bk 3 b7z)))) (Sq c3q (Sq c1M (Sq c02 (Sq c0P (Sq (Bk 4 (Lp (Bk 5 (Sq (Bk 6 (Lp (Sq c0O (Bk 7 b79)))) (Sq (Bk 8 (Lp (Sq b99 (Bk 9 c2B)))) (Sq b97 (Sq c09 (Sq c0h c3F)))))))) (Sq b6Z (Sq c0B .ret))))))))))))
def c7b:AFn:={ np:=5,nv:=9,results:=[.v 5,.v 6],code:=e9r }
def e4Z:List Nat:=[0,1,2,3,4,10,11,12,13]
def e5X:List Nat:=[]

def c44:=Rg [] [vP 1 (.c (.int .i64 0))]
def c9E:=Rg [] [nP 5 0,bP 6 .shr (.t 5) (.c (.int .u64 16)),vP 0 (.t 6)]
def d1K:=Rg [] [vP 1 (.c (.int .i64 16))]
def c6J:=Ts [] [nP 3 0,bP 4 .geq (.t 3) (.c (.int .u32 65536))] (.t 4) (Sq c9E d1K) .skip
def c1u:=Rg [] [nP 9 0,bP 10 .shr (.t 9) (.c (.int .u64 8)),vP 0 (.t 10)]
def b8L:=Rg [] [nP 11 1,bP 12 .add (.t 11) (.c (.int .i64 8)),vP 1 (.t 12)]
def b7B:=Ts [] [nP 7 0,bP 8 .geq (.t 7) (.c (.int .u32 256))] (.t 8) (Sq c1u b8L) .skip
def b7k:=Rg [] [nP 13 1,nP 14 0,oP 15 (.conv .u8) [.t 14],oP 16 .idxS [.c (.str [0,1,2,2,3,3,3,3,4,4,4,4,4,4,4,4,5,5,5,5,5,5,5,5,5,5,5,5,5,5,5,5,6,6,6,6,6,6,6,6,6,6,6,6,6,6,6,6,6,6,6,6,6,6,6,6,6,6,6,6,6,6,6,6,7,7,7,7,7,7,7,7,7,7,7,7,7,7,7,7,7,7,7,7,7,7,7,7,7,7,7,7,7,7,7,7,7,7,7,7,7,7,7,7,7,7,7,7,7,7,7,7,7,7,7,7,7,7,7,7,7,7,7,7,7,7,7,7,8,8,8,8,8,8,8,8,8,8,8,8,8,8,8,8,8,8,8,8,8,8,8,8,8,8,8,8,8,8,8,8,8,8,8,8,8,8,8,8,8,8,8,8,8,8,8,8,8,8,8,8,8,8,8,8,8,8,8,8,8,8,8,8,8,8,8,8,8,8,8,8,8,8,8,8,8,8,8,8,8,8,8,8,8,8,8,8,8,8,8,8,8,8,8,8,8,8,8,8,8,8,8,8,8,8,8,8,8,8,8,8,8,8,8,8,8,8,8,8,8,8,8,8,8,8,8,8]),.t 15],oP 17 (.conv .i64) [.t 16],bP 18 .add (.t 13) (.t 17),vP 1 (.t 18)]
def e0K:ACode :=
  (Sq c44 (Sq c6J (Sq b7B (Sq b7k .ret))))
def d4o:AFn:={ np:=1,nv:=2,results:=[.v 1],code:=e0K }
def e0I:List Nat:=[0,2]
def e1o:List Nat:=[]

def c93:=Rg [] [vP 1 (.c (.int .i64 0))]
def c8A:=Rg [] [nP 5 0,bP 6 .shr (.t 5) (.c (.int .u64 32)),vP 0 (.t 6)]
def d8B:=Rg [] [vP 1 (.c (.int .i64 32))]
def c5K:=Ts [] [nP 3 0,bP 4 .geq (.t 3) (.c (.int .u64 4294967296))] (.t 4) (Sq c8A d8B) .skip
def b7Q:=Rg [] [nP 9 0,bP 10 .shr (.t 9) (.c (.int .u64 16)),vP 0 (.t 10)]
def b9x:=Rg [] [nP 11 1,bP 12 .add (.t 11) (.c (.int .i64 16)),vP 1 (.t 12)]
def c3B:=Ts [] [nP 7 0,bP 8 .geq (.t 7) (.c (.int .u64 65536))] (.t 8) (Sq b7Q b9x) .skip
def c1s:=Rg [] [nP 15 0,bP 16 .shr (.t 15) (.c (.int .u64 8)),vP 0 (.t 16)]
def c2w:=Rg [] [nP 17 1,bP 18 .add (.t 17) (.c (.int .i64 8)),vP 1 (.t 18)]
def c3v:=Ts [] [nP 13 0,bP 14 .geq (.t 13) (.c (.int .u64 256))] (.t 14) (Sq c1s c2w) .skip
def c0e:=Rg [] [nP 19 1,nP 20 0,oP 21 (.conv .u8) [.t 20],oP 22 .idxS [.c (.str [0,1,2,2,3,3,3,3,4,4,4,4,4,4,4,4,5,5,5,5,5,5,5,5,5,5,5,5,5,5,5,5,6,6,6,6,6,6,6,6,6,6,6,6,6,6,6,6,6,6,6,6,6,6,6,6,6,6,6,6,6,6,6,6,7,7,7,7,7,7,7,7,7,7,7,7,7,7,7,7,7,7,7,7,7,7,7,7,7,7,7,7,7,7,7,7,7,7,7,7,7,7,7,7,7,7,7,7,7,7,7,7,7,7,7,7,7,7,7,7,7,7,7,7,7,7,7,7,8,8,8,8,8,8,8,8,8,8,8,8,8,8,8,8,8,8,8,8,8,8,8,8,8,8,8,8,8,8,8,8,8,8,8,8,8,8,8,8,8,8,8,8,8,8,8,8,8,8,8,8,8,8,8,8,8,8,8,8,8,8,8,8,8,8,8,8,8,8,8,8,8,8,8,8,8,8,8,8,8,8,8,8,8,8,8,8,8,8,8,8,8,8,8,8,8,8,8,8,8,8,8,8,8,8,8,8,8,8,8,8,8,8,8,8,8,8,8,8,8,8,8,8,8,8,8,8]),.t 21],oP 23 (.conv .i64) [.t 22],bP 24 .add (.t 19) (.t 23),vP 1 (.t 24)]
def e0Z:ACode :=
  (Sq c93 (Sq c5K (Sq c3B (Sq c3v (Sq c0e .ret)))))
def d6S:AFn:={ np:=1,nv:=2,results:=[.v 1],code:=e0Z }
def e9g:List Nat:=[0,2]
def e4x:List Nat:=[]

def d8C:=Rg [] [vP 2 (.c (.bool false))]
def c3V:=Rg [] [nP 5 0,nP 6 1,oP 7 (.call 146) [.t 5,.t 6],bP 8 .geq (.t 7) (.c (.int .i64 0)),vP 2 (.t 8)]
def f0R:ACode :=
  (Sq d8C (Sq c3V .ret))
def c5P:AFn:={ np:=2,nv:=3,results:=[.v 2],code:=f0R }
def e82:List Nat:=[0,1,4]
def d9z:List Nat:=[]

def c6z:=Rg [2] [⟨.bx,.boxV,[.v 0],some 2,none⟩,vP 3 (.c (.bool false))]
def d0d:=Rg [] [fP 5 2 (.v 1),oP 6 (.ldSt false 1) [.t 5],oP 7 (.call 80) [.t 6],fP 8 0 (.l 2),lP 9 2 false 1 (.t 8),oP 10 (.call 67) [.t 7,.t 9],vP 4 (.t 10)]
def c9n:=Rg [] [nP 11 4,bP 12 .lss (.t 11) (.c (.int .i64 0)),mP 13 (.t 12),gP 14 (.fad 2) [.v 1] 13 false,gP 15 (.ldSt false 1) [.t 14] 13 false,gP 16 .mv [.v 4] 13 false,gP 17 (.iad 11) [.t 15,.t 16] 13 false,gP 18 (.fad 2) [.t 17] 13 false,gP 19 (.ldRo true 3) [.t 18] 13 false,gP 20 (.fad 2) [.l 2] 13 false,⟨.t 21,.ldLc 2 true 3,[.t 20],some 2,some (.t 13,false)⟩,gP 22 (.call 134) [.t 19,.t 21] 13 false,gP 23 (.un .not) [.t 22] 13 false,oP 24 .pick [.t 13,.c (.bool true),.t 23],vP 3 (.t 24)]
def e0W:ACode :=
  (Sq c6z (Sq d0d (Sq c9n .ret)))
def d4G:AFn:={ np:=2,nv:=5,results:=[.v 3],code:=e0W }
def d95:List Nat:=[0,1,2,3,4]
def e8E:List Nat:=[2]

def c8e:=Rg [2,3] [⟨.bx,.boxV,[.v 0],some 2,none⟩,⟨.bx,.boxV,[.v 1],some 3,none⟩,vP 4 (.c (.bool false))]
def c7Y:=Rg [] [fP 5 0 (.l 2),lP 6 2 false 1 (.t 5),fP 7 0 (.l 3),lP 8 3 false 1 (.t 7),bP 9 .eql (.t 6) (.t 8),mP 10 (.t 9),gP 11 (.fad 2) [.l 2] 10 true,⟨.t 12,.ldLc 2 false 1,[.t 11],some 2,some (.t 10,true)⟩,gP 13 (.fad 2) [.l 3] 10 true,⟨.t 14,.ldLc 3 false 1,[.t 13],some 3,some (.t 10,true)⟩,gP 15 (.binB .eql) [.t 12,.t 14] 10 true,oP 16 .pick [.t 10,.t 15,.c (.bool false)],mP 17 (.t 16),gP 18 (.fad 1) [.l 2] 17 true,⟨.t 19,.ldLc 2 false 1,[.t 18],some 2,some (.t 17,true)⟩,gP 20 (.fad 1) [.l 3] 17 true,⟨.t 21,.ldLc 3 false 1,[.t 20],some 3,some (.t 17,true)⟩,gP 22 (.call 163) [.t 19,.t 21,.c (.func 134 [] [])] 17 true,oP 23 .pick [.t 17,.t 22,.c (.bool false)],vP 4 (.t 23)]
def e2y:ACode :=
  (Sq c8e (Sq c7Y .ret))
def c97:AFn:={ np:=2,nv:=5,results:=[.v 4],code:=e2y }
def e0Q:List Nat:=[0,1,2,3,4]
def e4p:List Nat:=[2,3]

def d2m:=Rg [1] [⟨.bx,.boxV,[.v 0],some 1,none⟩,vP 2 (.c (.bool false))]
def d05:=Rg [] [fP 3 0 (.l 1),lP 4 1 false 1 (.t 3),oP 5 (.bin .eql) [.t 4,.c (.str [105,100])],mP 6 (.t 5),gP 7 (.fad 5) [.l 1] 6 true,⟨.t 8,.ldLc 1 false 1,[.t 7],some 1,some (.t 6,true)⟩,gP 9 (.un .not) [.t 8] 6 true,oP 10 .pick [.t 6,.t 9,.c (.bool false)],mP 11 (.t 10),gP 12 (.fad 2) [.l 1] 11 true,⟨.t 13,.ldLc 1 true 3,[.t 12],some 1,some (.t 11,true)⟩,⟨.t 14,(.build [.str [],.list true [],.bool false] [(0,1),(2,1)]),[.c (.str [73,68]),.c (.bool true)],none,some (.t 11,true)⟩,gP 15 (.call 134) [.t 13,.t 14] 11 true,oP 16 .pick [.t 11,.t 15,.c (.bool false)],vP 2 (.t 16)]
def d9l:ACode :=
  (Sq d2m (Sq d05 .ret))
def c5z:AFn:={ np:=1,nv:=3,results:=[.v 2],code:=d9l }
def e4O:List Nat:=[0,1,2]
def e0E:List Nat:=[1]

def c63:=Rg [] [vP 2 (.c (.bool false))]
def d0v:=Rg [] [nP 5 1,oP 6 (.call 82) [.t 5],oP 7 (.un .not) [.t 6],mP 8 (.t 7),gP 9 .mv [.v 0] 8 true,gP 10 .mv [.v 1] 8 true,gP 11 (.call 106) [.t 9,.t 10,.c (.int .u8 1)] 8 true,gP 12 .mv [.t 11] 8 true,gP 13 .mv [.v 0] 12 false,gP 14 .mv [.v 1] 12 false,gP 15 (.call 106) [.t 13,.t 14,.c (.int .u8 2)] 12 false,gP 16 .pick [.t 12,.c (.bool true),.t 15] 8 true,gP 17 .mv [.t 16] 8 true,gP 18 .mv [.v 0] 17 false,gP 19 .mv [.v 1] 17 false,gP 20 (.call 106) [.t 18,.t 19,.c (.int .u8 3)] 17 false,gP 21 .pick [.t 17,.c (.bool true),.t 20] 8 true,oP 22 .pick [.t 8,.t 21,.c (.bool false)],vP 2 (.t 22)]
def e8F:ACode :=
  (Sq c63 (Sq d0v .ret))
def c5j:AFn:={ np:=2,nv:=3,results:=[.v 2],code:=e8F }
def e79:List Nat:=[0,1,4]
def e5M:List Nat:=[]

def c5v:=Rg [] [op (.v 1) .mv [.c (.str [])],op (.v 2) .mv [.c (.str [])]]
def d5M:=Rg [] [op (.v 6) (.bslice 1 [[.str []],[.str []],[.str []]] [0,1,2]) [.c (.str [99,114,101,97,116,101]),.c (.str [117,112,100,97,116,101]),.c (.str [100,101,108,101,116,101])],op (.v 7) .lenL [.v 6],vP 8 (.c (.int .i64 0))]
def c4t:=Ts [] [bP 11 .lss (.v 8) (.v 7)] (.t 11) .skip (.exit 0)
def c4h:=Rg [] [oP 12 (.iad 1) [.v 6,.v 8],oP 13 (.ldAn false 1) [.t 12],vP 3 (.t 13)]
def c8p:=Rg [] [nP 15 0,nP 16 3,oP 17 (.call 164) [.t 15,.t 16],mP 14 (.t 17),oP 18 (.ext 0) [.t 14],oP 19 (.ext 1) [.t 14],vP 4 (.t 18),vP 5 (.t 19)]
def b8T:=Rg [] [nP 21 3,nP 22 4,vP 1 (.t 21),vP 2 (.t 22)]
def c0x:=Ts [] [nP 20 5] (.t 20) (Sq b8T .ret) .skip
def c1p:=Rg [] [bP 23 .add (.v 8) (.c (.int .i64 1)),vP 8 (.t 23)]
def c2h:=Rg [] [op (.v 1) .mv [.c (.str [])],op (.v 2) .mv [.c (.str [])]]
def e5E:ACode :=
  (Sq c5v (Sq (Sq d5M (Bk 0 (Lp (Sq c4t (Sq (Bk 1 (Sq c4h (Sq c8p c0x))) c1p))))) (Sq c2h .ret)))
def d7W:AFn:={ np:=1,nv:=9,results:=[.v 1,.v 2],code:=e5E }
def e7g:List Nat:=[0,2,3,5,6,7,8,9,10]
def e1q:List Nat:=[]

def d8T:=Rg [3] [⟨.bx,.boxV,[.v 0],some 3,none⟩,vP 4 (.c (.bool false))]
def c9M:=Rg [] [fP 6 2 (.v 1),oP 7 (.ldSt false 1) [.t 6],oP 8 (.call 80) [.t 7],fP 9 0 (.l 3),lP 10 3 false 1 (.t 9),oP 11 (.call 67) [.t 8,.t 10],vP 5 (.t 11)]
def d00:=Rg [] [nP 12 5,bP 13 .lss (.t 12) (.c (.int .i64 0)),mP 14 (.t 13),gP 15 (.ldSt false 1) [.v 2] 14 false,gP 16 (.fad 2) [.v 1] 14 false,gP 17 (.ldSt false 1) [.t 16] 14 false,gP 18 .mv [.v 5] 14 false,gP 19 (.iad 11) [.t 17,.t 18] 14 false,gP 20 (.fad 2) [.t 19] 14 false,gP 21 (.ldRo true 3) [.t 20] 14 false,gP 22 (.fad 2) [.l 3] 14 false,⟨.t 23,.ldLc 3 true 3,[.t 22],some 3,some (.t 14,false)⟩,gP 24 (.call 139) [.t 15,.t 21,.t 23] 14 false,gP 25 (.un .not) [.t 24] 14 false,oP 26 .pick [.t 14,.c (.bool true),.t 25],vP 4 (.t 26)]
def e32:ACode :=
  (Sq d8T (Sq c9M (Sq d00 .ret)))
def d34:AFn:={ np:=3,nv:=6,results:=[.v 4],code:=e32 }
def e5I:List Nat:=[0,1,2,3,4,5]
def f0Y:List Nat:=[3]

def d6P:=Rg [3,4] [⟨.bx,.boxV,[.v 1],some 3,none⟩,⟨.bx,.boxV,[.v 2],some 4,none⟩,vP 5 (.c (.bool false))]
def d8e:=Rg [] [vP 5 (.c (.bool false))]
def d0j:=Ts [] [fP 7 1 (.l 3),lP 8 3 false 1 (.t 7),oP 9 .lenL [.t 8],fP 10 1 (.l 4),lP 11 4 false 1 (.t 10),oP 12 .lenL [.t 11],bP 13 .neq (.t 9) (.t 12)] (.t 13) (Sq d8e .ret) .skip
def d3M:=Rg [] [nP 18 0,fP 19 1 (.l 3),lP 20 3 false 1 (.t 19),oP 21 (.iad 3) [.t 20,.c (.int .i64 0)],oP 22 (.ldRo true 3) [.t 21],fP 23 1 (.l 4),lP 24 4 false 1 (.t 23),oP 25 (.iad 3) [.t 24,.c (.int .i64 0)],oP 26 (.ldRo true 3) [.t 25],oP 27 (.call 139) [.t 18,.t 22,.t 26],vP 5 (.t 27)]
def c2g:=Ts [] [fP 14 1 (.l 3),lP 15 3 false 1 (.t 14),oP 16 .lenL [.t 15],bP 17 .gtr (.t 16) (.c (.int .i64 0))] (.t 17) (Sq d3M .ret) .skip
def c2I:=Rg [] [fP 28 0 (.l 3),lP 29 3 false 1 (.t 28),fP 30 0 (.l 4),lP 31 4 false 1 (.t 30),bP 32 .eql (.t 29) (.t 31),mP 33 (.t 32),gP 34 .mv [.v 0] 33 false,gP 35 (.fad 0) [.l 3] 33 false,⟨.t 36,.ldLc 3 false 1,[.t 35],some 3,some (.t 33,false)⟩,gP 37 (.call 136) [.t 34,.t 36] 33 false,gP 38 .mv [.t 37] 33 false,gP 39 (.fad 0) [.l 4] 38 true,⟨.t 40,.ldLc 4 false 1,[.t 39],some 4,some (.t 38,true)⟩,gP 41 (.bin .eql) [.t 40,.c (.str [73,68])] 38 true,gP 42 .pick [.t 38,.t 41,.c (.bool false)] 33 false,oP 43 .pick [.t 33,.c (.bool true),.t 42],vP 5 (.t 43)]
def e91:ACode :=
  (Sq d6P (Sq d0j (Sq c2g (Sq c2I .ret))))
def c43:AFn:={ np:=3,nv:=6,results:=[.v 5],code:=e91 }
def e2P:List Nat:=[0,1,2,4,5,6]
def e1K:List Nat:=[3,4]

def c8r:=Rg [] [vP 2 (.c (.bool false))]
def d2n:=Rg [] [nP 5 1,oP 6 (.call 47) [.t 5],mP 7 (.t 6),gP 8 .mv [.v 0] 7 false,gP 9 .mv [.v 1] 7 false,gP 10 (.call 51) [.t 8,.t 9] 7 false,gP 11 (.fld 0 1 false) [.t 10] 7 false,gP 12 (.bin .eql) [.t 11,.c (.int .u8 4)] 7 false,oP 13 .pick [.t 7,.c (.bool true),.t 12],vP 2 (.t 13)]
def e4k:ACode :=
  (Sq c8r (Sq d2n .ret))
def c7A:AFn:={ np:=2,nv:=3,results:=[.v 2],code:=e4k }
def e4G:List Nat:=[0,1,4]
def e6b:List Nat:=[]

def d74:=Rg [4,5] [⟨.bx,.boxV,[.v 1],some 4,none⟩,⟨.bx,.boxV,[.v 2],some 5,none⟩,vP 6 (.c (.bool false))]
def c9x:=Rg [] [vP 6 (.c (.bool true))]
def c9u:=Ts [] [fP 14 0 (.l 5),lP 15 5 false 1 (.t 14),bP 16 .eql (.t 15) (.c (.int .u8 7)),mP 17 (.t 16),gP 18 .mv [.v 3] 17 true,oP 19 .pick [.t 17,.t 18,.c (.bool false)]] (.t 19) (Sq c9x .ret) .skip
def d1I:=Rg [] [fP 23 2 (.l 4),lP 24 4 false 1 (.t 23),oP 25 (.un .not) [.t 24],vP 6 (.t 25)]
def c0l:=Ts [] [fP 20 0 (.l 5),lP 21 5 false 1 (.t 20),bP 22 .eql (.t 21) (.c (.int .u8 0))] (.t 22) (Sq d1I .ret) .skip
def b8n:=Rg [] [nP 33 0,fP 34 1 (.l 4),lP 35 4 false 1 (.t 34),oP 36 (.iad 3) [.t 35,.c (.int .i64 0)],oP 37 (.ldRo true 3) [.t 36],lP 38 5 true 5 (.l 5),nP 39 3,oP 40 (.call 141) [.t 33,.t 37,.t 38,.t 39],vP 6 (.t 40)]
def c3O:=Ts [] [fP 30 0 (.l 5),lP 31 5 false 1 (.t 30),bP 32 .neq (.t 31) (.c (.int .u8 5))] (.t 32) (Sq b8n .ret) .skip
def b7o:=Rg [] [vP 7 (.c (.int .i64 0))]
def c3G:=Ts [] [nP 41 7,fP 42 4 (.l 5),lP 43 5 false 1 (.t 42),oP 44 .lenL [.t 43],bP 45 .lss (.t 41) (.t 44)] (.t 45) .skip (.exit 0)
def c2L:=Rg [] [vP 6 (.c (.bool false))]
def b9S:=Ts [] [nP 48 0,fP 49 1 (.l 4),lP 50 4 false 1 (.t 49),oP 51 (.iad 3) [.t 50,.c (.int .i64 0)],oP 52 (.ldRo true 3) [.t 51],fP 53 4 (.l 5),lP 54 5 false 1 (.t 53),nP 55 7,oP 56 (.iad 5) [.t 54,.t 55],oP 57 (.ldAn true 5) [.t 56],nP 58 3,oP 59 (.call 141) [.t 48,.t 52,.t 57,.t 58],oP 60 (.un .not) [.t 59]] (.t 60) (Sq c2L .ret) .skip
def c3u:=Rg [] [nP 46 7,bP 47 .add (.t 46) (.c (.int .i64 1)),vP 7 (.t 47)]
def b8p:=Rg [] [vP 6 (.c (.bool true))]
def b7D:=Ts [] [fP 26 1 (.l 4),lP 27 4 false 1 (.t 26),oP 28 .lenL [.t 27],bP 29 .gtr (.t 28) (.c (.int .i64 0))] (.t 29) (Sq c3O (Sq (Sq b7o (Bk 0 (Lp (Sq c3G (Sq (Bk 1 b9S) c3u))))) (Sq b8p .ret))) .skip
def b95:=Rg [] [fP 61 0 (.l 4),⟨.v 12,.ldLc 4 false 1,[.t 61],some 4,none⟩]
def b88:=Rg [] [fP 65 0 (.l 5),lP 66 5 false 1 (.t 65),bP 67 .eql (.t 66) (.c (.int .u8 1)),mP 68 (.t 67),gP 69 (.fad 1) [.l 5] 68 true,⟨.t 70,.ldLc 5 false 1,[.t 69],some 5,some (.t 68,true)⟩,gP 71 (.bin .geq) [.t 70,.c (.int .i64 (-2147483648))] 68 true,oP 72 .pick [.t 68,.t 71,.c (.bool false)],mP 73 (.t 72),gP 74 (.fad 1) [.l 5] 73 true,⟨.t 75,.ldLc 5 false 1,[.t 74],some 5,some (.t 73,true)⟩,gP 76 (.bin .leq) [.t 75,.c (.int .i64 2147483647)] 73 true,oP 77 .pick [.t 73,.t 76,.c (.bool false)],vP 6 (.t 77)]
def b8z:=Rg [] [fP 80 0 (.l 5),lP 81 5 false 1 (.t 80),bP 82 .eql (.t 81) (.c (.int .u8 2)),vP 6 (.t 82)]
def b8k:=Rg [] [fP 85 0 (.l 5),lP 86 5 false 1 (.t 85),bP 87 .eql (.t 86) (.c (.int .u8 3)),vP 6 (.t 87)]
def b7l:=Rg [] [fP 90 0 (.l 5),lP 91 5 false 1 (.t 90),bP 92 .eql (.t 91) (.c (.int .u8 2)),mP 93 (.t 92),gP 94 (.fad 0) [.l 5] 93 false,⟨.t 95,.ldLc 5 false 1,[.t 94],some 5,some (.t 93,false)⟩,gP 96 (.bin .eql) [.t 95,.c (.int .u8 1)] 93 false,oP 97 .pick [.t 93,.c (.bool true),.t 96],vP 6 (.t 97)]
def c0V:=Ts [] [oP 89 (.bin .eql) [.v 12,.c (.str [73,68])],mP 88 (.t 89)] (.t 88) (Sq b7l .ret) .skip
def b71:=Ts [] [oP 84 (.bin .eql) [.v 12,.c (.str [66,111,111,108,101,97,110])],mP 83 (.t 84)] (.t 83) (Sq b8k .ret) c0V
def b9N:=Ts [] [oP 79 (.bin .eql) [.v 12,.c (.str [83,116,114,105,110,103])],mP 78 (.t 79)] (.t 78) (Sq b8z .ret) b71
def c2X:=Ts [] [oP 64 (.bin .eql) [.v 12,.c (.str [73,110,116])],mP 63 (.t 64)] (.t 63) (Sq b88 .ret) b9N
def b8e:=Rg [8] [nP 98 0,fP 99 0 (.l 4),lP 100 4 false 1 (.t 99),oP 101 (.call 51) [.t 98,.t 100],⟨.bx,.alloc [.int .u8 0,.str [],.list true [],.list true []],[],some 8,none⟩,xP (.stLc 8 4) [.l 8,.ts 101] 8]
def b8I:=Rg [] [fP 105 0 (.l 5),lP 106 5 false 1 (.t 105),bP 107 .eql (.t 106) (.c (.int .u8 4)),mP 108 (.t 107),gP 109 (.fad 3) [.l 8] 108 true,⟨.t 110,.ldLc 8 false 1,[.t 109],some 8,some (.t 108,true)⟩,gP 111 (.fad 2) [.l 5] 108 true,⟨.t 112,.ldLc 5 false 1,[.t 111],some 5,some (.t 108,true)⟩,gP 113 (.call 48) [.t 110,.t 112] 108 true,oP 114 .pick [.t 108,.t 113,.c (.bool false)],vP 6 (.t 114)]
def c0F:=Ts [] [fP 102 0 (.l 8),lP 103 8 false 1 (.t 102),bP 104 .eql (.t 103) (.c (.int .u8 4))] (.t 104) (Sq b8I .ret) .skip
def b9y:=Rg [] [vP 6 (.c (.bool false))]
def b7i:=Ts [] [fP 115 0 (.l 8),lP 116 8 false 1 (.t 115),bP 117 .neq (.t 116) (.c (.int .u8 5)),mP 118 (.t 117),gP 119 (.fad 0) [.l 5] 118 false,⟨.t 120,.ldLc 5 false 1,[.t 119],some 5,some (.t 118,false)⟩,gP 121 (.bin .neq) [.t 120,.c (.int .u8 6)] 118 false,oP 122 .pick [.t 118,.c (.bool true),.t 121]] (.t 122) (Sq b9y .ret) .skip
def c0o:=Rg [] [vP 9 (.c (.int .i64 0))]
def c3s:=Ts [] [nP 123 9,fP 124 3 (.l 5),lP 125 5 false 1 (.t 124),oP 126 .lenL [.t 125],bP 127 .lss (.t 123) (.t 126)] (.t 127) .skip (.exit 3)
def b7y:=Rg [] [fP 130 2 (.l 8),lP 131 8 false 1 (.t 130),fP 132 3 (.l 5),lP 133 5 false 1 (.t 132),nP 134 9,oP 135 (.iad 1) [.t 133,.t 134],oP 136 (.ldAn false 1) [.t 135],oP 137 (.call 91) [.t 131,.t 136],vP 10 (.t 137)]
def c04:=Rg [] [vP 6 (.c (.bool false))]
def b7O:=Ts [] [nP 138 10,bP 139 .lss (.t 138) (.c (.int .i64 0)),mP 140 (.t 139),gP 141 (.fad 3) [.l 5] 140 false,⟨.t 142,.ldLc 5 false 1,[.t 141],some 5,some (.t 140,false)⟩,gP 143 .mv [.v 9] 140 false,gP 144 (.slL 1 false true) [.t 142,.t 143] 140 false,gP 145 (.fad 3) [.l 5] 140 false,⟨.t 146,.ldLc 5 false 1,[.t 145],some 5,some (.t 140,false)⟩,gP 147 .mv [.v 9] 140 false,gP 148 (.iad 1) [.t 146,.t 147] 140 false,gP 149 (.ldAn false 1) [.t 148] 140 false,gP 150 (.call 48) [.t 144,.t 149] 140 false,oP 151 .pick [.t 140,.c (.bool true),.t 150],mP 152 (.t 151),gP 153 .mv [.v 0] 152 false,gP 154 (.fad 2) [.l 8] 152 false,⟨.t 155,.ldLc 8 false 1,[.t 154],some 8,some (.t 152,false)⟩,gP 156 .mv [.v 10] 152 false,gP 157 (.iad 11) [.t 155,.t 156] 152 false,gP 158 (.fad 2) [.t 157] 152 false,gP 159 (.ldRo true 3) [.t 158] 152 false,gP 160 (.fad 4) [.l 5] 152 false,⟨.t 161,.ldLc 5 false 1,[.t 160],some 5,some (.t 152,false)⟩,gP 162 .mv [.v 9] 152 false,gP 163 (.iad 5) [.t 161,.t 162] 152 false,gP 164 (.ldAn true 5) [.t 163] 152 false,gP 165 .mv [.v 3] 152 false,gP 166 (.call 141) [.t 153,.t 159,.t 164,.t 165] 152 false,gP 167 (.un .not) [.t 166] 152 false,oP 168 .pick [.t 152,.c (.bool true),.t 167]] (.t 168) (Sq c04 .ret) .skip
def b72:=Rg [] [nP 128 9,bP 129 .add (.t 128) (.c (.int .i64 1)),vP 9 (.t 129)]
def c0Z:=Rg [] [vP 11 (.c (.int .i64 0))]
def b42:=Ts [] [nP 169 11,fP 170 2 (.l 8),lP 171 8 false 1 (.t 170),oP 172 .lenL [.t 171],bP 173 .lss (.t 169) (.t 172)] (.t 173) .skip (.exit 5)
def b4M:=Rg [] [vP 6 (.c (.bool false))]
def b4g:=Ts [] [fP 176 2 (.l 8),lP 177 8 false 1 (.t 176),nP 178 11,oP 179 (.iad 11) [.t 177,.t 178],fP 180 2 (.t 179),fP 181 2 (.t 180),oP 182 (.ldRo false 1) [.t 181],mP 183 (.t 182),gP 184 (.fad 2) [.l 8] 183 true,⟨.t 185,.ldLc 8 false 1,[.t 184],some 8,some (.t 183,true)⟩,gP 186 .mv [.v 11] 183 true,gP 187 (.iad 11) [.t 185,.t 186] 183 true,gP 188 (.fad 5) [.t 187] 183 true,gP 189 (.ldRo false 1) [.t 188] 183 true,gP 190 (.un .not) [.t 189] 183 true,oP 191 .pick [.t 183,.t 190,.c (.bool false)],mP 192 (.t 191),gP 193 (.fad 3) [.l 5] 192 true,⟨.t 194,.ldLc 5 false 1,[.t 193],some 5,some (.t 192,true)⟩,gP 195 (.fad 2) [.l 8] 192 true,⟨.t 196,.ldLc 8 false 1,[.t 195],some 8,some (.t 192,true)⟩,gP 197 .mv [.v 11] 192 true,gP 198 (.iad 11) [.t 196,.t 197] 192 true,gP 199 (.fad 0) [.t 198] 192 true,gP 200 (.ldRo false 1) [.t 199] 192 true,gP 201 (.call 48) [.t 194,.t 200] 192 true,gP 202 (.un .not) [.t 201] 192 true,oP 203 .pick [.t 192,.t 202,.c (.bool false)]] (.t 203) (Sq b4M .ret) .skip
def b4m:=Rg [] [nP 174 11,bP 175 .add (.t 174) (.c (.int .i64 1)),vP 11 (.t 175)]
def b3N:=Rg [] [vP 6 (.c (.bool true))]
def e98:ACode :=
  (Sq d74 (Sq c9u (Sq c0l (Sq b7D (Sq (Sq b95 (Bk 2 c2X)) (Sq b8e (Sq c0F (Sq b7i (Sq (Sq c0o (Bk 3 (Lp (Sq c3s (Sq (Bk 4 (Sq b7y b7O)) b72))))) (Sq (Sq c0Z (Bk 5 (Lp (Sq b42 (Sq (Bk 6 b4g) b4m))))) (Sq b3N .ret)))))))))))
def d1k:AFn:={ np:=4,nv:=13,results:=[.v 6],code:=e98 }
def e8Z:List Nat:=[0,1,2,3,5,6,8,9,10,11,12,13,62]
def f0l:List Nat:=[4,5,8]

def c9d:=Rg [] [op (.v 1) .mv [.c (.str [])],op (.v 2) .mv [.c (.str [])]]
def d1j:=Rg [] [oP 6 (.bslice 1 [[.str []],[.str []],[.str []]] [0,1,2]) [.c (.str [99,114,101,97,116,101]),.c (.str [117,112,100,97,116,101]),.c (.str [100,101,108,101,116,101])],vP 3 (.ts 6)]
def d4L:=Rg [] [vP 4 (.c (.int .i64 0))]
def c7a:=Ts [] [nP 7 4,bP 8 .lss (.t 7) (.c (.int .i64 3))] (.t 8) .skip (.exit 0)
def c3o:=Rg [] [nP 17 3,nP 18 4,oP 19 (.iad 1) [.t 17,.t 18],oP 20 (.ldAn false 1) [.t 19],nP 21 0,oP 22 (.slS true false) [.t 21,.c (.int .i64 6)],vP 1 (.t 20),vP 2 (.t 22)]
def b9O:=Ts [] [nP 11 0,nP 12 3,nP 13 4,oP 14 (.iad 1) [.t 12,.t 13],oP 15 (.ldAn false 1) [.t 14],oP 16 (.call 49) [.t 11,.t 15]] (.t 16) (Sq c3o .ret) .skip
def c1S:=Rg [] [nP 9 4,bP 10 .add (.t 9) (.c (.int .i64 1)),vP 4 (.t 10)]
def c0f:=Rg [] [op (.v 1) .mv [.c (.str [])],op (.v 2) .mv [.c (.str [])]]
def e3j:ACode :=
  (Sq c9d (Sq d1j (Sq (Sq d4L (Bk 0 (Lp (Sq c7a (Sq (Bk 1 b9O) c1S))))) (Sq c0f .ret))))
def c9X:AFn:={ np:=1,nv:=5,results:=[.v 1,.v 2],code:=e3j }
def f0M:List Nat:=[0,2,3,4,5]
def e01:List Nat:=[]

def d0p:=Rg [3,4] [⟨.bx,.boxV,[.v 1],some 3,none⟩,⟨.bx,.boxV,[.v 2],some 4,none⟩,vP 5 (.c (.bool false))]
def d5G:=Rg [] [fP 17 1 (.l 3),lP 18 3 false 1 (.t 17),oP 19 .lenL [.t 18],bP 20 .gtr (.t 19) (.c (.int .i64 0)),mP 21 (.t 20),gP 22 (.fad 1) [.l 4] 21 true,⟨.t 23,.ldLc 4 false 1,[.t 22],some 4,some (.t 21,true)⟩,gP 24 .lenL [.t 23] 21 true,gP 25 (.bin .gtr) [.t 24,.c (.int .i64 0)] 21 true,oP 26 .pick [.t 21,.t 25,.c (.bool false)],mP 27 (.t 26),gP 28 .mv [.v 0] 27 true,gP 29 (.fad 1) [.l 3] 27 true,⟨.t 30,.ldLc 3 false 1,[.t 29],some 3,some (.t 27,true)⟩,gP 31 (.iad 3) [.t 30,.c (.int .i64 0)] 27 true,gP 32 (.ldRo true 3) [.t 31] 27 true,gP 33 (.fad 1) [.l 4] 27 true,⟨.t 34,.ldLc 4 false 1,[.t 33],some 4,some (.t 27,true)⟩,gP 35 (.iad 3) [.t 34,.c (.int .i64 0)] 27 true,gP 36 (.ldRo true 3) [.t 35] 27 true,gP 37 (.call 143) [.t 28,.t 32,.t 36] 27 true,oP 38 .pick [.t 27,.t 37,.c (.bool false)],vP 5 (.t 38)]
def c7Z:=Ts [] [fP 7 1 (.l 3),lP 8 3 false 1 (.t 7),oP 9 .lenL [.t 8],bP 10 .gtr (.t 9) (.c (.int .i64 0)),mP 11 (.t 10),gP 12 (.fad 1) [.l 4] 11 false,⟨.t 13,.ldLc 4 false 1,[.t 12],some 4,some (.t 11,false)⟩,gP 14 .lenL [.t 13] 11 false,gP 15 (.bin .gtr) [.t 14,.c (.int .i64 0)] 11 false,oP 16 .pick [.t 11,.c (.bool true),.t 15]] (.t 16) (Sq d5G .ret) .skip
def d62:=Rg [] [fP 39 0 (.l 3),lP 40 3 false 1 (.t 39),fP 41 0 (.l 4),lP 42 4 false 1 (.t 41),bP 43 .eql (.t 40) (.t 42),mP 44 (.t 43),gP 45 (.fad 0) [.l 4] 44 false,⟨.t 46,.ldLc 4 false 1,[.t 45],some 4,some (.t 44,false)⟩,gP 47 (.bin .eql) [.t 46,.c (.str [73,68])] 44 false,gP 48 .mv [.t 47] 44 false,gP 49 .mv [.v 0] 48 true,gP 50 (.fad 0) [.l 3] 48 true,⟨.t 51,.ldLc 3 false 1,[.t 50],some 3,some (.t 48,true)⟩,gP 52 (.call 94) [.t 49,.t 51] 48 true,gP 53 .pick [.t 48,.t 52,.c (.bool false)] 44 false,oP 54 .pick [.t 44,.c (.bool true),.t 53],vP 5 (.t 54)]
def e02:ACode :=
  (Sq d0p (Sq c7Z (Sq d62 .ret)))
def d8y:AFn:={ np:=3,nv:=6,results:=[.v 5],code:=e02 }
def e3q:List Nat:=[0,1,2,4,5,6]
def e5w:List Nat:=[3,4]

def d5C:=Rg [] [vP 2 (.c (.int .i64 0))]
def d7a:=Rg [] [nP 6 0,op (.v 4) .lenL [.t 6],vP 5 (.c (.int .i64 0))]
def d3B:=Ts [] [bP 9 .lss (.v 5) (.v 4)] (.t 9) .skip (.exit 0)
def d5I:=Rg [] [nP 10 5,vP 3 (.t 10)]
def b9D:=Rg [] [nP 17 3,vP 2 (.t 17)]
def b82:=Ts [] [nP 11 1,nP 12 0,nP 13 3,oP 14 (.iad 5) [.t 12,.t 13],oP 15 (.ldAn true 5) [.t 14],oP 16 .callV [.t 11,.t 15]] (.t 16) (Sq b9D .ret) .skip
def c1w:=Rg [] [bP 18 .add (.v 5) (.c (.int .i64 1)),vP 5 (.t 18)]
def c1E:=Rg [] [vP 2 (.c (.int .i64 (-1)))]
def e35:ACode :=
  (Sq d5C (Sq (Sq d7a (Bk 0 (Lp (Sq d3B (Sq (Bk 1 (Sq d5I b82)) c1w))))) (Sq c1E .ret)))
def d65:AFn:={ np:=2,nv:=6,results:=[.v 2],code:=e35 }
def e4B:List Nat:=[0,1,4,5,7,8]
def e6q:List Nat:=[]

def d0D:=Rg [2] [⟨.bx,.boxV,[.v 0],some 2,none⟩,vP 3 (.c (.bool false))]
def d3x:=Rg [] [fP 4 2 (.l 2),fP 5 2 (.t 4),lP 6 2 false 1 (.t 5),mP 7 (.t 6),gP 8 (.fad 5) [.l 2] 7 true,⟨.t 9,.ldLc 2 false 1,[.t 8],some 2,some (.t 7,true)⟩,gP 10 (.un .not) [.t 9] 7 true,oP 11 .pick [.t 7,.t 10,.c (.bool false)],mP 12 (.t 11),gP 13 (.fad 3) [.v 1] 12 true,gP 14 (.ldSt false 1) [.t 13] 12 true,gP 15 (.fad 0) [.l 2] 12 true,⟨.t 16,.ldLc 2 false 1,[.t 15],some 2,some (.t 12,true)⟩,gP 17 (.call 32) [.t 14,.t 16] 12 true,gP 18 (.un .not) [.t 17] 12 true,oP 19 .pick [.t 12,.t 18,.c (.bool false)],vP 3 (.t 19)]
def e47:ACode :=
  (Sq d0D (Sq d3x .ret))
def c8k:AFn:={ np:=2,nv:=4,results:=[.v 3],code:=e47 }
def e9o:List Nat:=[0,1,2,3]
def e4w:List Nat:=[2]

def c8h:=Rg [] [vP 2 (.c (.int .i64 0))]
def d3G:=Rg [] [nP 6 0,op (.v 4) .lenL [.t 6],vP 5 (.c (.int .i64 0))]
def d3U:=Ts [] [bP 9 .lss (.v 5) (.v 4)] (.t 9) .skip (.exit 0)
def d4y:=Rg [] [nP 10 5,vP 3 (.t 10)]
def c2v:=Rg [] [nP 17 3,vP 2 (.t 17)]
def b7F:=Ts [] [nP 11 1,nP 12 0,nP 13 3,oP 14 (.iad 11) [.t 12,.t 13],oP 15 (.ldRo true 11) [.t 14],oP 16 .callV [.t 11,.t 15]] (.t 16) (Sq c2v .ret) .skip
def b9r:=Rg [] [bP 18 .add (.v 5) (.c (.int .i64 1)),vP 5 (.t 18)]
def c2t:=Rg [] [vP 2 (.c (.int .i64 (-1)))]
def e9p:ACode :=
  (Sq c8h (Sq (Sq d3G (Bk 0 (Lp (Sq d3U (Sq (Bk 1 (Sq d4y b7F)) b9r))))) (Sq c2t .ret)))
def d7r:AFn:={ np:=2,nv:=6,results:=[.v 2],code:=e9p }
def e1C:List Nat:=[0,1,4,5,7,8]
def e44:List Nat:=[]

def d3k:=Rg [2] [⟨.bx,.boxV,[.v 0],some 2,none⟩,vP 3 (.c (.bool false))]
def c4H:=Rg [] [fP 4 0 (.l 2),lP 5 2 false 1 (.t 4),fP 6 0 (.v 1),oP 7 (.ldSt false 1) [.t 6],bP 8 .eql (.t 5) (.t 7),vP 3 (.t 8)]
def d9J:ACode :=
  (Sq d3k (Sq c4H .ret))
def c88:AFn:={ np:=2,nv:=4,results:=[.v 3],code:=d9J }
def e8n:List Nat:=[0,1,2,3]
def d9K:List Nat:=[2]

def d2g:=Rg [] [op (.v 4) .boxO [.v 3]]
def d6X:=Rg [] [nP 18 0,nP 19 1,nP 20 2,fP 21 2 (.v 4),oP 22 (.ldSt false 1) [.t 21],oP 23 (.call 165) [.t 18,.t 19,.t 20,.t 22]]
def d9g:=Ts [] [fP 15 0 (.v 4),oP 16 (.ldSt false 1) [.t 15],bP 17 .eql (.t 16) (.c (.int .u8 7))] (.t 17) d6X .skip
def c36:=Rg [] [fP 24 4 (.v 4),op (.v 11) (.ldSt false 1) [.t 24],op (.v 12) .lenL [.v 11],vP 13 (.c (.int .i64 0))]
def c8T:=Ts [] [bP 28 .lss (.v 13) (.v 12)] (.t 28) .skip (.exit 0)
def b9o:=Rg [6] [nP 29 13,oP 30 (.iad 5) [.v 11,.v 13],oP 31 (.ldAn true 5) [.t 30],op (.v 5) (.allocO [.int .i64 0]) [],⟨.bx,.alloc [.int .u8 0,.int .i64 0,.str [],.list true [],.list true []],[],some 6,none⟩,op .none (.stSt 1) [.v 5,.t 29],xP (.stLc 6 5) [.l 6,.ts 31] 6]
def c0I:=Rg [] [vP 7 (.c (.nilp))]
def c0Y:=Rg [] [vP 8 (.c (.bool false))]
def c2y:=Rg [] [nP 47 1,oP 48 .nilchk [.t 47],fP 49 1 (.t 48),oP 50 (.ldSt false 1) [.t 49],oP 51 (.iad 3) [.t 50,.c (.int .i64 0)],vP 7 (.t 51)]
def c1T:=Rg [9] [nP 65 0,oP 66 .nilchk [.t 65],fP 67 0 (.t 66),oP 68 (.ldSt false 1) [.t 67],oP 69 .nilchk [.t 68],fP 70 0 (.t 69),oP 71 (.ldSt false 1) [.t 70],nP 72 1,oP 73 .nilchk [.t 72],fP 74 0 (.t 73),oP 75 (.ldSt false 1) [.t 74],oP 76 (.call 45) [.t 71,.t 75],mP 64 (.t 76),oP 77 (.ext 0) [.t 64],oP 78 (.ext 1) [.t 64],⟨.bx,.alloc [.int .u8 0,.str [],.list true [],.list true []],[],some 9,none⟩,xP (.stLc 9 4) [.l 9,.ts 77] 9,mP 13 (.t 78)]
def c1c:=Rg [] [fP 79 2 (.l 9),lP 80 9 false 1 (.t 79),oP 81 (.mkF 166 0) [.v 4,.v 5],oP 82 (.call 146) [.t 80,.t 81],vP 10 (.t 82)]
def b9A:=Rg [] [fP 90 2 (.l 9),lP 91 9 false 1 (.t 90),nP 92 10,oP 93 (.iad 11) [.t 91,.t 92],fP 94 2 (.t 93),fP 95 2 (.l 9),lP 96 9 false 1 (.t 95),nP 97 10,oP 98 (.iad 11) [.t 96,.t 97],fP 99 5 (.t 98),oP 100 (.ldRo false 1) [.t 99],vP 7 (.t 94),vP 8 (.t 100)]
def b8b:=Ts [] [nP 83 10,bP 84 .geq (.t 83) (.c (.int .i64 0)),mP 85 (.t 84),gP 86 (.fad 0) [.l 9] 85 true,⟨.t 87,.ldLc 9 false 1,[.t 86],some 9,some (.t 85,true)⟩,gP 88 (.bin .eql) [.t 87,.c (.int .u8 5)] 85 true,oP 89 .pick [.t 85,.t 88,.c (.bool false)]] (.t 89) b9A .skip
def b8W:=Ts [] [fP 53 0 (.v 4),oP 54 (.ldSt false 1) [.t 53],bP 55 .eql (.t 54) (.c (.int .u8 6)),mP 56 (.t 55),gP 57 .mv [.v 1] 56 true,gP 58 .nilchk [.t 57] 56 true,gP 59 (.fad 1) [.t 58] 56 true,gP 60 (.ldSt false 1) [.t 59] 56 true,gP 61 .lenL [.t 60] 56 true,gP 62 (.bin .eql) [.t 61,.c (.int .i64 0)] 56 true,oP 63 .pick [.t 56,.t 62,.c (.bool false)],mP 52 (.t 63)] (.t 52) (Sq c1T (Sq c1c b8b)) .skip
def b8g:=Ts [] [fP 36 0 (.v 4),oP 37 (.ldSt false 1) [.t 36],bP 38 .eql (.t 37) (.c (.int .u8 5)),mP 39 (.t 38),gP 40 .mv [.v 1] 39 true,gP 41 .nilchk [.t 40] 39 true,gP 42 (.fad 1) [.t 41] 39 true,gP 43 (.ldSt false 1) [.t 42] 39 true,gP 44 .lenL [.t 43] 39 true,gP 45 (.bin .gtr) [.t 44,.c (.int .i64 0)] 39 true,oP 46 .pick [.t 39,.t 45,.c (.bool false)],mP 35 (.t 46)] (.t 35) c2y b8W
def c2c:=Ts [] [nP 33 1,oP 34 (.binP .eql) [.t 33,.c (.nilp)],mP 32 (.t 34)] (.t 32) .skip b8g
def c1Q:=Rg [] [nP 101 0,nP 102 7,nP 103 8,lP 104 6 true 5 (.l 6),oP 105 (.call 148) [.t 101,.t 102,.t 103,.t 104]]
def b7M:=Rg [] [bP 106 .add (.v 13) (.c (.int .i64 1)),vP 13 (.t 106)]
def f0I:ACode :=
  (Sq d2g (Sq d9g (Sq c36 (Bk 0 (Lp (Sq c8T (Sq (Bk 1 (Sq b9o (Sq c0I (Sq c0Y (Sq (Bk 2 c2c) c1Q))))) b7M)))))))
def d5J:AFn:={ np:=4,nv:=14,results:=[],code:=f0I }
def e38:List Nat:=[0,1,2,3,7,8,9,10,11,12,14,25,26,27]
def f0K:List Nat:=[6,9]

def a149s1:=Rg [] [op (.v 2) .boxO [.v 1],vP 3 (.c (.bool false))]
def a149s3:=Rg [] [nP 5 0,oP 6 .lenL [.t 5],oP 7 (.ldSt false 1) [.v 2],oP 8 .lenL [.t 7],bP 9 .eql (.t 6) (.t 8),mP 10 (.t 9),gP 11 .mv [.v 0] 10 true,gP 12 (.mkF 168 0) [.v 2] 10 true,gP 13 (.call 167) [.t 11,.t 12] 10 true,gP 14 (.un .not) [.t 13] 10 true,oP 15 .pick [.t 10,.t 14,.c (.bool false)],vP 3 (.t 15)]
def a149c:ACode :=
  (Sq a149s1 (Sq a149s3 .ret))
def a149:AFn:={ np:=2,nv:=4,results:=[.v 3],code:=a149c }
def e3v:List Nat:=[0,1,3,4]
def e9y:List Nat:=[]

def a150s1:=Rg [] [vP 3 (.c (.bool false))]
def a150s4:=Rg [] [vP 3 (.c (.bool false))]
def a150s6:=Ts [] [nP 10 0,oP 11 .lenL [.t 10],nP 12 1,oP 13 .lenL [.t 12],bP 14 .neq (.t 11) (.t 13)] (.t 14) (Sq a150s4 .ret) .skip
def a150s8:=Rg [] [vP 7 (.v 0),op (.v 8) .lenL [.v 7],vP 9 (.c (.int .i64 0))]
def a150s10:=Ts [] [bP 18 .lss (.v 9) (.v 8)] (.t 18) .skip (.exit 0)
def a150s12:=Rg [5] [nP 19 9,oP 20 (.iad 7) [.v 7,.v 9],oP 21 (.ldAn true 7) [.t 20],⟨.bx,.alloc [.int .u8 0,.str [],.str [],.str [],.list true [],.list true [],.list true []],[],some 5,none⟩,vP 4 (.t 19),xP (.stLc 5 7) [.l 5,.ts 21] 5]
def a150s14:=Rg [6] [nP 22 1,nP 23 4,oP 24 (.iad 7) [.t 22,.t 23],oP 25 (.ldAn true 7) [.t 24],⟨.bx,.alloc [.int .u8 0,.str [],.str [],.str [],.list true [],.list true [],.list true []],[],some 6,none⟩,xP (.stLc 6 7) [.l 6,.ts 25] 6]
def a150s17:=Rg [] [vP 3 (.c (.bool false))]
def a150s19:=Ts [] [nP 26 2,lP 27 5 true 7 (.l 5),lP 28 6 true 7 (.l 6),oP 29 .callV [.t 26,.t 27,.t 28],oP 30 (.un .not) [.t 29]] (.t 30) (Sq a150s17 .ret) .skip
def a150s24:=Rg [] [bP 31 .add (.v 9) (.c (.int .i64 1)),vP 9 (.t 31)]
def a150s31:=Rg [] [vP 3 (.c (.bool true))]
def a150c:ACode :=
  (Sq a150s1 (Sq a150s6 (Sq (Sq a150s8 (Bk 0 (Lp (Sq a150s10 (Sq (Bk 1 (Sq a150s12 (Sq a150s14 a150s19))) a150s24))))) (Sq a150s31 .ret))))
def a150:AFn:={ np:=3,nv:=10,results:=[.v 3],code:=a150c }
def f0x:List Nat:=[0,1,2,6,7,8,9,15,16,17]
def e99:List Nat:=[5,6]

def c4U:=Rg [2,3] [⟨.bx,.boxV,[.v 0],some 2,none⟩,⟨.bx,.boxV,[.v 1],some 3,none⟩,vP 4 (.c (.bool false))]
def d4P:=Rg [] [fP 5 0 (.l 2),lP 6 2 false 1 (.t 5),fP 7 0 (.l 3),lP 8 3 false 1 (.t 7),bP 9 .eql (.t 6) (.t 8),mP 10 (.t 9),gP 11 (.fad 1) [.l 2] 10 true,⟨.t 12,.ldLc 2 false 1,[.t 11],some 2,some (.t 10,true)⟩,gP 13 (.fad 1) [.l 3] 10 true,⟨.t 14,.ldLc 3 false 1,[.t 13],some 3,some (.t 10,true)⟩,gP 15 (.bin .eql) [.t 12,.t 14] 10 true,oP 16 .pick [.t 10,.t 15,.c (.bool false)],mP 17 (.t 16),gP 18 (.fad 3) [.l 2] 17 true,⟨.t 19,.ldLc 2 false 1,[.t 18],some 2,some (.t 17,true)⟩,gP 20 (.fad 3) [.l 3] 17 true,⟨.t 21,.ldLc 3 false 1,[.t 20],some 3,some (.t 17,true)⟩,gP 22 (.bin .eql) [.t 19,.t 21] 17 true,oP 23 .pick [.t 17,.t 22,.c (.bool false)],mP 24 (.t 23),gP 25 (.fad 5) [.l 2] 24 true,⟨.t 26,.ldLc 2 false 1,[.t 25],some 2,some (.t 24,true)⟩,gP 27 (.fad 5) [.l 3] 24 true,⟨.t 28,.ldLc 3 false 1,[.t 27],some 3,some (.t 24,true)⟩,gP 29 (.call 171) [.t 26,.t 28,.c (.func 172 [] [])] 24 true,oP 30 .pick [.t 24,.t 29,.c (.bool false)],mP 31 (.t 30),⟨.t 32,.ldLc 2 true 7,[.l 2],some 2,some (.t 31,true)⟩,⟨.t 33,.ldLc 3 true 7,[.l 3],some 3,some (.t 31,true)⟩,gP 34 (.call 115) [.t 32,.t 33] 31 true,oP 35 .pick [.t 31,.t 34,.c (.bool false)],vP 4 (.t 35)]
def e8o:ACode :=
  (Sq c4U (Sq d4P .ret))
def c9A:AFn:={ np:=2,nv:=5,results:=[.v 4],code:=e8o }
def e3U:List Nat:=[0,1,2,3,4]
def e5L:List Nat:=[2,3]

def d8g:=Rg [] [op (.v 2) .mv [.c (.list true [])]]
def d6z:=Rg [] [op (.v 3) .mv [.c (.list true [])]]
def d1s:=Rg [] [vP 5 (.v 0),op (.v 6) .lenL [.v 5],vP 7 (.c (.int .i64 0))]
def d6L:=Ts [] [bP 11 .lss (.v 7) (.v 6)] (.t 11) .skip (.exit 0)
def c53:=Rg [4] [oP 12 (.iad 6) [.v 5,.v 7],oP 13 (.ldRo true 6) [.t 12],⟨.bx,.alloc [.str [],.int .u8 0,.int .i64 0,.str [],.list true [],.list true []],[],some 4,none⟩,xP (.stLc 4 6) [.l 4,.ts 13] 4]
def c3l:=Rg [] [mP 14 (.vs 3),nP 15 1,lP 16 4 true 6 (.l 4),oP 17 .callV [.t 15,.t 16],oP 18 (.bslice 1 [[.str []]] [0]) [.t 17],oP 19 (.app 1 16) [.ts 14,.t 18],vP 3 (.ts 19)]
def b7S:=Rg [] [bP 20 .add (.v 7) (.c (.int .i64 1)),vP 7 (.t 20)]
def b7r:=Rg [] [nP 21 3,vP 2 (.ts 21)]
def e43:ACode :=
  (Sq d8g (Sq d6z (Sq (Sq d1s (Bk 0 (Lp (Sq d6L (Sq (Bk 1 (Sq c53 c3l)) b7S))))) (Sq b7r .ret))))
def c8F:AFn:={ np:=2,nv:=8,results:=[.v 2],code:=e43 }
def e9J:List Nat:=[0,1,4,5,7,8,9,10]
def e1j:List Nat:=[4]

def c34:=Rg [1] [⟨.bx,.boxV,[.v 0],some 1,none⟩,op (.v 2) .mv [.c (.str [])]]
def c6Y:=Rg [] [fP 3 0 (.l 1),lP 4 1 false 1 (.t 3),vP 2 (.t 4)]
def e4r:ACode :=
  (Sq c34 (Sq c6Y .ret))
def d8i:AFn:={ np:=1,nv:=3,results:=[.v 2],code:=e4r }
def d9C:List Nat:=[0,1,2]
def e5W:List Nat:=[1]

def c4W:=Rg [2] [⟨.bx,.boxV,[.v 0],some 2,none⟩,vP 3 (.c (.bool false))]
def d8I:=Rg [] [fP 4 0 (.l 2),lP 5 2 false 1 (.t 4),fP 6 0 (.v 1),oP 7 (.ldSt false 1) [.t 6],bP 8 .eql (.t 5) (.t 7),vP 3 (.t 8)]
def e17:ACode :=
  (Sq c4W (Sq d8I .ret))
def d8a:AFn:={ np:=2,nv:=4,results:=[.v 3],code:=e17 }
def e4I:List Nat:=[0,1,2,3]
def e2B:List Nat:=[2]

def d8J:=Rg [] [op (.v 3) .boxO [.v 0],op (.v 4) .boxO [.v 1],op (.v 5) .boxO [.v 2],vP 6 (.c (.bool false))]
def c6m:=Rg [] [vP 6 (.c (.bool true))]
def d8b:=Rg [] [fP 26 4 (.v 5),oP 27 (.ldSt false 1) [.t 26],oP 28 (.mkF 173 0) [.v 3,.v 4],oP 29 (.call 107) [.t 27,.t 28],oP 30 (.un .not) [.t 29],vP 6 (.t 30)]
def b65:=Rg [] [oP 41 (.ldSt false 1) [.v 3],fP 42 1 (.v 4),oP 43 (.ldSt false 1) [.t 42],oP 44 (.iad 3) [.t 43,.c (.int .i64 0)],oP 45 (.ldRo true 3) [.t 44],oP 46 (.ldSt true 5) [.v 5],oP 47 (.call 155) [.t 41,.t 45,.t 46],vP 6 (.t 47)]
def c2d:=Rg [] [oP 62 (.ldSt false 1) [.v 3],oP 63 .nilchk [.t 62],fP 64 0 (.t 63),oP 65 (.ldSt false 1) [.t 64],oP 66 (.ldSt true 3) [.v 4],oP 67 (.ldSt true 5) [.v 5],oP 68 (.call 65) [.t 65,.t 66,.t 67],vP 6 (.t 68)]
def b73:=Ts [] [fP 49 0 (.v 5),oP 50 (.ldSt false 1) [.t 49],bP 51 .neq (.t 50) (.c (.int .u8 6)),mP 52 (.t 51),gP 53 (.ldSt false 1) [.v 3] 52 false,gP 54 .nilchk [.t 53] 52 false,gP 55 (.fad 0) [.t 54] 52 false,gP 56 (.ldSt false 1) [.t 55] 52 false,gP 57 (.fad 0) [.v 4] 52 false,gP 58 (.ldSt false 1) [.t 57] 52 false,gP 59 (.call 64) [.t 56,.t 58] 52 false,gP 60 (.un .not) [.t 59] 52 false,oP 61 .pick [.t 52,.c (.bool true),.t 60],mP 48 (.t 61)] (.t 48) (Sq c2d .ret) .skip
def c1t:=Ts [] [fP 32 1 (.v 4),oP 33 (.ldSt false 1) [.t 32],oP 34 .lenL [.t 33],bP 35 .gtr (.t 34) (.c (.int .i64 0)),mP 36 (.t 35),gP 37 (.fad 0) [.v 5] 36 true,gP 38 (.ldSt false 1) [.t 37] 36 true,gP 39 (.bin .neq) [.t 38,.c (.int .u8 0)] 36 true,oP 40 .pick [.t 36,.t 39,.c (.bool false)],mP 31 (.t 40)] (.t 31) (Sq b65 .ret) b73
def c1g:=Ts [] [fP 17 0 (.v 5),oP 18 (.ldSt false 1) [.t 17],bP 19 .eql (.t 18) (.c (.int .u8 5)),mP 20 (.t 19),gP 21 (.fad 1) [.v 4] 20 true,gP 22 (.ldSt false 1) [.t 21] 20 true,gP 23 .lenL [.t 22] 20 true,gP 24 (.bin .gtr) [.t 23,.c (.int .i64 0)] 20 true,oP 25 .pick [.t 20,.t 24,.c (.bool false)],mP 16 (.t 25)] (.t 16) (Sq d8b .ret) c1t
def b9k:=Ts [] [fP 13 0 (.v 5),oP 14 (.ldSt false 1) [.t 13],bP 15 .eql (.t 14) (.c (.int .u8 7)),mP 12 (.t 15)] (.t 12) (Sq c6m .ret) c1g
def b7I:=Rg [7] [oP 70 (.ldSt false 1) [.v 3],oP 71 .nilchk [.t 70],fP 72 0 (.t 71),oP 73 (.ldSt false 1) [.t 72],fP 74 0 (.v 4),oP 75 (.ldSt false 1) [.t 74],oP 76 (.call 45) [.t 73,.t 75],mP 69 (.t 76),oP 77 (.ext 0) [.t 69],oP 78 (.ext 1) [.t 69],⟨.bx,.alloc [.int .u8 0,.str [],.list true [],.list true []],[],some 7,none⟩,xP (.stLc 7 4) [.l 7,.ts 77] 7,mP 8 (.t 78)]
def c2A:=Rg [] [fP 79 3 (.v 5),op (.v 11) (.ldSt false 1) [.t 79],op (.v 12) .lenL [.v 11],vP 13 (.c (.int .i64 0))]
def b8A:=Ts [] [bP 83 .lss (.v 13) (.v 12)] (.t 83) .skip (.exit 1)
def c1H:=Rg [] [nP 84 13,oP 85 (.iad 1) [.v 11,.v 13],oP 86 (.ldAn false 1) [.t 85],op (.v 9) (.allocO [.str []]) [],vP 8 (.t 84),op .none (.stSt 1) [.v 9,.t 86]]
def b69:=Rg [] [fP 87 2 (.l 7),lP 88 7 false 1 (.t 87),oP 89 (.mkF 174 0) [.v 9],oP 90 (.call 146) [.t 88,.t 89],vP 10 (.t 90)]
def c3A:=Rg [] [vP 6 (.c (.bool false))]
def c2O:=Ts [] [nP 91 10,bP 92 .lss (.t 91) (.c (.int .i64 0)),mP 93 (.t 92),gP 94 (.fad 3) [.v 5] 93 false,gP 95 (.ldSt false 1) [.t 94] 93 false,gP 96 .mv [.v 8] 93 false,gP 97 (.slL 1 false true) [.t 95,.t 96] 93 false,gP 98 (.ldSt false 1) [.v 9] 93 false,gP 99 (.call 32) [.t 97,.t 98] 93 false,oP 100 .pick [.t 93,.c (.bool true),.t 99],mP 101 (.t 100),gP 102 (.ldSt false 1) [.v 3] 101 false,gP 103 (.fad 2) [.l 7] 101 false,⟨.t 104,.ldLc 7 false 1,[.t 103],some 7,some (.t 101,false)⟩,gP 105 .mv [.v 10] 101 false,gP 106 (.iad 11) [.t 104,.t 105] 101 false,gP 107 (.fad 2) [.t 106] 101 false,gP 108 (.ldRo true 3) [.t 107] 101 false,gP 109 (.fad 4) [.v 5] 101 false,gP 110 (.ldSt false 1) [.t 109] 101 false,gP 111 .mv [.v 8] 101 false,gP 112 (.iad 5) [.t 110,.t 111] 101 false,gP 113 (.ldAn true 5) [.t 112] 101 false,gP 114 (.call 155) [.t 102,.t 108,.t 113] 101 false,gP 115 (.un .not) [.t 114] 101 false,oP 116 .pick [.t 101,.c (.bool true),.t 115]] (.t 116) (Sq c3A .ret) .skip
def b8U:=Rg [] [bP 117 .add (.v 13) (.c (.int .i64 1)),vP 13 (.t 117)]
def b8N:=Rg [] [fP 118 2 (.l 7),lP 119 7 false 1 (.t 118),oP 120 (.mkF 175 0) [.v 5],oP 121 (.call 132) [.t 119,.t 120],oP 122 (.un .not) [.t 121],vP 6 (.t 122)]
def e8L:ACode :=
  (Sq d8J (Sq (Bk 0 b9k) (Sq b7I (Sq (Sq c2A (Bk 1 (Lp (Sq b8A (Sq (Bk 2 (Sq c1H (Sq b69 c2O))) b8U))))) (Sq b8N .ret)))))
def c4C:AFn:={ np:=3,nv:=14,results:=[.v 6],code:=e8L }
def e68:List Nat:=[0,1,2,3,4,5,6,7,9,10,11,80,81,82]
def f0s:List Nat:=[7]

def d0F:=Rg [] [op (.v 2) .mv [.c (.list true [])]]
def d68:=Rg [3] [nP 11 0,nP 12 1,oP 13 (.call 45) [.t 11,.t 12],mP 10 (.t 13),oP 14 (.ext 0) [.t 10],oP 15 (.ext 1) [.t 10],⟨.bx,.alloc [.int .u8 0,.str [],.list true [],.list true []],[],some 3,none⟩,xP (.stLc 3 4) [.l 3,.ts 14] 3,vP 4 (.t 15)]
def c3Y:=Rg [] [op (.v 2) .mv [.c (.list true [])]]
def b74:=Rg [] [nP 23 1,oP 24 (.bslice 1 [[.str []]] [0]) [.t 23],vP 2 (.ts 24)]
def b7H:=Rg [] [fP 29 3 (.l 3),lP 30 3 false 1 (.t 29),oP 31 (.call 176) [.t 30],vP 2 (.ts 31)]
def b9U:=Rg [] [op (.v 2) .mv [.c (.list true [])]]
def c1O:=Ts [] [fP 33 0 (.l 3),lP 34 3 false 1 (.t 33),bP 35 .neq (.t 34) (.c (.int .u8 2)),mP 32 (.t 35)] (.t 32) (Sq b9U .ret) .skip
def c2r:=Ts [] [fP 26 0 (.l 3),lP 27 3 false 1 (.t 26),bP 28 .eql (.t 27) (.c (.int .u8 3)),mP 25 (.t 28)] (.t 25) (Sq b7H .ret) c1O
def c3J:=Ts [] [fP 20 0 (.l 3),lP 21 3 false 1 (.t 20),bP 22 .eql (.t 21) (.c (.int .u8 1)),mP 19 (.t 22)] (.t 19) (Sq b74 .ret) c2r
def b81:=Ts [] [nP 17 4,oP 18 (.un .not) [.t 17],mP 16 (.t 18)] (.t 16) (Sq c3Y .ret) c3J
def c2Q:=Rg [] [op (.v 5) .mv [.c (.list true [])]]
def b7b:=Rg [] [nP 36 0,oP 37 .nilchk [.t 36],fP 38 0 (.t 37),op (.v 7) (.ldSt false 1) [.t 38],op (.v 8) .lenL [.v 7],vP 9 (.c (.int .i64 0))]
def b8d:=Ts [] [bP 42 .lss (.v 9) (.v 8)] (.t 42) .skip (.exit 1)
def b61:=Rg [6] [oP 43 (.iad 4) [.v 7,.v 9],oP 44 (.ldRo true 4) [.t 43],⟨.bx,.alloc [.int .u8 0,.str [],.list true [],.list true []],[],some 6,none⟩,xP (.stLc 6 4) [.l 6,.ts 44] 6]
def c1N:=Rg [] [mP 54 (.vs 5),fP 55 1 (.l 6),lP 56 6 false 1 (.t 55),oP 57 (.bslice 1 [[.str []]] [0]) [.t 56],oP 58 (.app 1 16) [.ts 54,.t 57],vP 5 (.ts 58)]
def b8s:=Ts [] [fP 45 0 (.l 6),lP 46 6 false 1 (.t 45),bP 47 .eql (.t 46) (.c (.int .u8 1)),mP 48 (.t 47),gP 49 (.fad 3) [.l 6] 48 true,⟨.t 50,.ldLc 6 false 1,[.t 49],some 6,some (.t 48,true)⟩,gP 51 .mv [.v 1] 48 true,gP 52 (.call 32) [.t 50,.t 51] 48 true,oP 53 .pick [.t 48,.t 52,.c (.bool false)]] (.t 53) c1N .skip
def b9K:=Rg [] [bP 59 .add (.v 9) (.c (.int .i64 1)),vP 9 (.t 59)]
def c0S:=Rg [] [nP 60 5,vP 2 (.ts 60)]
def e3o:ACode :=
  (Sq d0F (Sq d68 (Sq (Bk 0 b81) (Sq c2Q (Sq (Sq b7b (Bk 1 (Lp (Sq b8d (Sq (Bk 2 (Sq b61 b8s)) b9K))))) (Sq c0S .ret))))))
def d0m:AFn:={ np:=2,nv:=10,results:=[.v 2],code:=e3o }
def f0C:List Nat:=[0,1,4,5,6,7,9,39,40,41]
def e2a:List Nat:=[3,6]

def d5w:=Rg [] [vP 2 (.c (.int .i64 0))]
def d8L:=Rg [] [nP 6 0,op (.v 4) .lenL [.t 6],vP 5 (.c (.int .i64 0))]
def c7k:=Ts [] [bP 9 .lss (.v 5) (.v 4)] (.t 9) .skip (.exit 0)
def d7F:=Rg [] [nP 10 5,vP 3 (.t 10)]
def c1n:=Rg [] [nP 17 3,vP 2 (.t 17)]
def c0Q:=Ts [] [nP 11 1,nP 12 0,nP 13 3,oP 14 (.iad 1) [.t 12,.t 13],oP 15 (.ldAn false 1) [.t 14],oP 16 .callV [.t 11,.t 15]] (.t 16) (Sq c1n .ret) .skip
def b9u:=Rg [] [bP 18 .add (.v 5) (.c (.int .i64 1)),vP 5 (.t 18)]
def b7q:=Rg [] [vP 2 (.c (.int .i64 (-1)))]
def e2L:ACode :=
  (Sq d5w (Sq (Sq d8L (Bk 0 (Lp (Sq c7k (Sq (Bk 1 (Sq d7F c0Q)) b9u))))) (Sq b7q .ret)))
def d6H:AFn:={ np:=2,nv:=6,results:=[.v 2],code:=e2L }
def f0q:List Nat:=[0,1,4,5,7,8]
def e6R:List Nat:=[]

def c6v:=Rg [] [nP 12 1,vP 5 (.t 12)]
def d2T:=Rg [] [nP 13 5,bP 14 .mul (.c (.int .i64 2)) (.t 13),bP 15 .add (.t 14) (.c (.int .i64 1)),vP 6 (.t 15)]
def c7n:=Ts [] [nP 16 6,nP 17 2,bP 18 .geq (.t 16) (.t 17)] (.t 18) (.exit 0) .skip
def c56:=Rg [] [nP 41 6,bP 42 .add (.t 41) (.c (.int .i64 1)),vP 6 (.t 42)]
def c5N:=Ts [] [nP 19 6,bP 20 .add (.t 19) (.c (.int .i64 1)),nP 21 2,bP 22 .lss (.t 20) (.t 21),mP 23 (.t 22),gP 24 .mv [.v 4] 23 true,gP 25 .mv [.v 0] 23 true,gP 26 .mv [.v 3] 23 true,gP 27 .mv [.v 6] 23 true,gP 28 (.bin .add) [.t 26,.t 27] 23 true,gP 29 (.iad 2) [.t 25,.t 28] 23 true,gP 30 (.ldAn true 2) [.t 29] 23 true,gP 31 .mv [.v 0] 23 true,gP 32 .mv [.v 3] 23 true,gP 33 .mv [.v 6] 23 true,gP 34 (.bin .add) [.t 32,.t 33] 23 true,gP 35 (.bin .add) [.t 34,.c (.int .i64 1)] 23 true,gP 36 (.iad 2) [.t 31,.t 35] 23 true,gP 37 (.ldAn true 2) [.t 36] 23 true,gP 38 .callV [.t 24,.t 30,.t 37] 23 true,gP 39 (.bin .lss) [.t 38,.c (.int .i64 0)] 23 true,oP 40 .pick [.t 23,.t 39,.c (.bool false)]] (.t 40) c56 .skip
def b85:=Ts [] [nP 43 4,nP 44 0,nP 45 3,nP 46 5,bP 47 .add (.t 45) (.t 46),oP 48 (.iad 2) [.t 44,.t 47],oP 49 (.ldAn true 2) [.t 48],nP 50 0,nP 51 3,nP 52 6,bP 53 .add (.t 51) (.t 52),oP 54 (.iad 2) [.t 50,.t 53],oP 55 (.ldAn true 2) [.t 54],oP 56 .callV [.t 43,.t 49,.t 55],bP 57 .lss (.t 56) (.c (.int .i64 0)),oP 58 (.un .not) [.t 57]] (.t 58) .ret .skip
def c1o:=Rg [] [nP 59 0,nP 60 3,nP 61 5,bP 62 .add (.t 60) (.t 61),nP 63 0,nP 64 3,nP 65 6,bP 66 .add (.t 64) (.t 65),nP 67 0,nP 68 3,nP 69 6,bP 70 .add (.t 68) (.t 69),oP 71 (.iad 2) [.t 67,.t 70],oP 72 (.ldAn true 2) [.t 71],nP 73 0,nP 74 3,nP 75 5,bP 76 .add (.t 74) (.t 75),oP 77 (.iad 2) [.t 73,.t 76],oP 78 (.ldAn true 2) [.t 77],oP 79 (.iad 2) [.t 59,.t 62],op .none (.stSt 2) [.t 79,.t 72],oP 80 (.iad 2) [.t 63,.t 66],op .none (.stSt 2) [.t 80,.t 78]]
def b8D:=Rg [] [nP 81 6,vP 5 (.t 81)]
def e9T:ACode :=
  (Sq c6v (Bk 0 (Lp (Bk 1 (Sq d2T (Sq c7n (Sq c5N (Sq b85 (Sq c1o b8D)))))))))
def d4I:AFn:={ np:=5,nv:=7,results:=[],code:=e9T }
def e49:List Nat:=[0,1,2,3,4,10,11]
def d9Q:List Nat:=[]

def c4F:=Rg [] [vP 1 (.c (.int .u64 0))]
def d7Z:=Rg [] [nP 3 0,oP 4 (.conv .u64) [.t 3],oP 5 (.call 73) [.t 4],bP 6 .shl (.c (.int .u64 1)) (.t 5),vP 1 (.t 6)]
def e0s:ACode :=
  (Sq c4F (Sq d7Z .ret))
def d7k:AFn:={ np:=1,nv:=2,results:=[.v 1],code:=e0s }
def e8p:List Nat:=[0,2]
def e4Y:List Nat:=[]

def d54:=Rg [] [vP 1 (.c (.int .u64 0))]
def d7Y:=Rg [] [nP 3 0,oP 4 .nilchk [.t 3],oP 5 (.ldSt false 1) [.t 4],nP 6 0,oP 7 .nilchk [.t 6],oP 8 (.ldSt false 1) [.t 7],bP 9 .shl (.t 8) (.c (.int .u64 13)),bP 10 .xor (.t 5) (.t 9),oP 11 .nilchk [.t 3],op .none (.stSt 1) [.t 11,.t 10]]
def d8h:=Rg [] [nP 12 0,oP 13 .nilchk [.t 12],oP 14 (.ldSt false 1) [.t 13],nP 15 0,oP 16 .nilchk [.t 15],oP 17 (.ldSt false 1) [.t 16],bP 18 .shr (.t 17) (.c (.int .u64 7)),bP 19 .xor (.t 14) (.t 18),oP 20 .nilchk [.t 12],op .none (.stSt 1) [.t 20,.t 19]]
def d1e:=Rg [] [nP 21 0,oP 22 .nilchk [.t 21],oP 23 (.ldSt false 1) [.t 22],nP 24 0,oP 25 .nilchk [.t 24],oP 26 (.ldSt false 1) [.t 25],bP 27 .shl (.t 26) (.c (.int .u64 17)),bP 28 .xor (.t 23) (.t 27),oP 29 .nilchk [.t 21],op .none (.stSt 1) [.t 29,.t 28]]
def c7F:=Rg [] [nP 30 0,oP 31 .nilchk [.t 30],oP 32 (.ldSt false 1) [.t 31],vP 1 (.t 32)]
def e7i:ACode :=
  (Sq d54 (Sq d7Y (Sq d8h (Sq d1e (Sq c7F .ret)))))
def d1g:AFn:={ np:=1,nv:=2,results:=[.v 1],code:=e7i }
def f0N:List Nat:=[0,2]
def e9A:List Nat:=[]

def c6a:=Rg [] [vP 4 (.c (.int .i64 0))]
def d7Q:=Rg [] [nP 9 0,nP 10 1,bP 11 .sub (.t 10) (.c (.int .i64 1)),nP 12 1,nP 13 1,bP 14 .add (.t 13) (.c (.int .i64 1)),nP 15 2,nP 16 3,oP 17 (.call 162) [.t 9,.t 11,.t 12,.t 14,.t 15,.t 16],vP 4 (.t 17)]
def e1e:ACode :=
  (Sq c6a (Sq d7Q .ret))
def d3l:AFn:={ np:=4,nv:=5,results:=[.v 4],code:=e1e }
def e2g:List Nat:=[0,1,2,3,8]
def f0Z:List Nat:=[]

def d0t:=Rg [] [vP 6 (.c (.int .i64 0))]
def d5Z:=Rg [] [nP 14 0,nP 15 1,nP 16 2,nP 17 4,nP 18 5,oP 19 (.call 177) [.t 14,.t 15,.t 16,.t 17,.t 18],mP 13 (.t 19),oP 20 (.ext 0) [.t 13],oP 21 (.ext 1) [.t 13],vP 1 (.t 20),vP 2 (.t 21)]
def c9e:=Rg [] [nP 23 0,nP 24 2,nP 25 3,nP 26 4,nP 27 5,oP 28 (.call 177) [.t 23,.t 24,.t 25,.t 26,.t 27],mP 22 (.t 28),oP 29 (.ext 0) [.t 22],oP 30 (.ext 1) [.t 22],vP 2 (.t 29),vP 3 (.t 30)]
def c4a:=Rg [] [nP 32 0,nP 33 1,nP 34 2,nP 35 4,nP 36 5,oP 37 (.call 177) [.t 32,.t 33,.t 34,.t 35,.t 36],mP 31 (.t 37),oP 38 (.ext 0) [.t 31],oP 39 (.ext 1) [.t 31],vP 1 (.t 38),vP 2 (.t 39)]
def c7W:=Rg [] [nP 40 2,vP 6 (.t 40)]
def d9m:ACode :=
  (Sq d0t (Sq d5Z (Sq c9e (Sq c4a (Sq c7W .ret)))))
def c5h:AFn:={ np:=6,nv:=7,results:=[.v 6],code:=d9m }
def e06:List Nat:=[0,1,2,3,4,5,12]
def e2e:List Nat:=[]

def c7u:=Rg [] [vP 3 (.c (.bool false))]
def d0H:=Rg [] [vP 3 (.c (.bool false))]
def c47:=Ts [] [nP 10 0,oP 11 .lenL [.t 10],nP 12 1,oP 13 .lenL [.t 12],bP 14 .neq (.t 11) (.t 13)] (.t 14) (Sq d0H .ret) .skip
def c7L:=Rg [] [vP 7 (.v 0),op (.v 8) .lenL [.v 7],vP 9 (.c (.int .i64 0))]
def b9n:=Ts [] [bP 18 .lss (.v 9) (.v 8)] (.t 18) .skip (.exit 0)
def b89:=Rg [5] [nP 19 9,oP 20 (.iad 3) [.v 7,.v 9],oP 21 (.ldRo true 3) [.t 20],⟨.bx,.alloc [.str [],.list true [],.bool false],[],some 5,none⟩,vP 4 (.t 19),xP (.stLc 5 3) [.l 5,.ts 21] 5]
def c0v:=Rg [6] [nP 22 1,nP 23 4,oP 24 (.iad 3) [.t 22,.t 23],oP 25 (.ldRo true 3) [.t 24],⟨.bx,.alloc [.str [],.list true [],.bool false],[],some 6,none⟩,xP (.stLc 6 3) [.l 6,.ts 25] 6]
def c3d:=Rg [] [vP 3 (.c (.bool false))]
def b7J:=Ts [] [nP 26 2,lP 27 5 true 3 (.l 5),lP 28 6 true 3 (.l 6),oP 29 .callV [.t 26,.t 27,.t 28],oP 30 (.un .not) [.t 29]] (.t 30) (Sq c3d .ret) .skip
def c0G:=Rg [] [bP 31 .add (.v 9) (.c (.int .i64 1)),vP 9 (.t 31)]
def c3g:=Rg [] [vP 3 (.c (.bool true))]
def e6d:ACode :=
  (Sq c7u (Sq c47 (Sq (Sq c7L (Bk 0 (Lp (Sq b9n (Sq (Bk 1 (Sq b89 (Sq c0v b7J))) c0G))))) (Sq c3g .ret))))
def d85:AFn:={ np:=3,nv:=10,results:=[.v 3],code:=e6d }
def e5G:List Nat:=[0,1,2,6,7,8,9,15,16,17]
def e7v:List Nat:=[5,6]

def d07:=Rg [] [op (.v 2) .mv [.c (.str [])],vP 3 (.c (.bool false))]
def d4q:=Rg [] [nP 6 0,nP 7 1,oP 8 (.call 178) [.t 6,.t 7],oP 9 (.ext 0) [.t 8],oP 10 (.ext 1) [.t 8],vP 2 (.t 9),vP 3 (.t 10)]
def e2N:ACode :=
  (Sq d07 (Sq d4q .ret))
def d8G:AFn:={ np:=2,nv:=4,results:=[.v 2,.v 3],code:=e2N }
def e2o:List Nat:=[0,1,4,5]
def e71:List Nat:=[]

def d7g:=Rg [] [op (.v 4) .boxO [.v 3]]
def d3y:=Rg [] [nP 11 0,nP 12 0,oP 13 .nilchk [.t 12],fP 14 5 (.t 13),oP 15 .ldStS [.t 14],oP 16 (.ldSt false 1) [.v 4],oP 17 (.bslice 1 [[.str []]] [0]) [.t 16],oP 18 (.app 1 16) [.ts 15,.t 17],oP 19 .nilchk [.t 11],fP 20 5 (.t 19),op .none (.stSt 1) [.t 20,.ts 18]]
def d6R:=Rg [] [nP 21 0,oP 22 .nilchk [.t 21],fP 23 1 (.t 22),fP 24 2 (.t 23),oP 25 (.ldSt false 1) [.t 24],oP 26 (.mkF 180 0) [.v 4],oP 27 (.call 179) [.t 25,.t 26],vP 5 (.t 27)]
def d59:=Rg [] [nP 30 0,oP 31 .nilchk [.t 30],fP 32 0 (.t 31),oP 33 (.ldSt false 1) [.t 32],oP 34 (.ldSt false 1) [.v 4],oP 35 (.call 26) [.t 33,.c (.int .i64 16),.t 34]]
def b9W:=Ts [] [nP 28 5,bP 29 .lss (.t 28) (.c (.int .i64 0))] (.t 29) (Sq d59 .ret) .skip
def b7L:=Ts [] [nP 36 1,oP 37 (.binP .eql) [.t 36,.c (.nilp)]] (.t 37) .ret .skip
def c2G:=Rg [6] [nP 38 0,oP 39 .nilchk [.t 38],fP 40 1 (.t 39),fP 41 2 (.t 40),oP 42 (.ldSt false 1) [.t 41],nP 43 5,oP 44 (.iad 10) [.t 42,.t 43],oP 45 (.ldRo true 10) [.t 44],⟨.bx,.alloc [.str [],.str [],.list true [],.bool false,.bool false,.int .u8 0,.int .i64 0,.str [],.list true [],.list true []],[],some 6,none⟩,xP (.stLc 6 10) [.l 6,.ts 45] 6]
def c3a:=Rg [7] [nP 46 1,oP 47 .nilchk [.t 46],oP 48 (.ldSt true 3) [.t 47],⟨.bx,.alloc [.str [],.list true [],.bool false],[],some 7,none⟩,xP (.stLc 7 3) [.l 7,.ts 48] 7]
def c0s:=Rg [] [fP 70 2 (.l 7),xP (.stLc 7 1) [.t 70,.c (.bool false)] 7]
def c1j:=Ts [] [fP 49 2 (.l 7),lP 50 7 false 1 (.t 49),mP 51 (.t 50),gP 52 (.fad 1) [.l 6] 51 true,gP 53 (.fad 2) [.t 52] 51 true,⟨.t 54,.ldLc 6 false 1,[.t 53],some 6,some (.t 51,true)⟩,gP 55 (.un .not) [.t 54] 51 true,oP 56 .pick [.t 51,.t 55,.c (.bool false)],mP 57 (.t 56),gP 58 .mv [.v 2] 57 true,gP 59 .mv [.t 58] 57 true,gP 60 (.fad 4) [.l 6] 59 false,⟨.t 61,.ldLc 6 false 1,[.t 60],some 6,some (.t 59,false)⟩,gP 62 .mv [.t 61] 59 false,gP 63 (.fad 5) [.l 6] 62 true,gP 64 (.fad 0) [.t 63] 62 true,⟨.t 65,.ldLc 6 false 1,[.t 64],some 6,some (.t 62,true)⟩,gP 66 (.bin .neq) [.t 65,.c (.int .u8 0)] 62 true,gP 67 .pick [.t 62,.t 66,.c (.bool false)] 59 false,gP 68 .pick [.t 59,.c (.bool true),.t 67] 57 true,oP 69 .pick [.t 57,.t 68,.c (.bool false)]] (.t 69) c0s .skip
def b7V:=Rg [] [nP 76 0,oP 77 .nilchk [.t 76],fP 78 0 (.t 77),oP 79 (.ldSt false 1) [.t 78],oP 80 (.ldSt false 1) [.v 4],oP 81 (.call 26) [.t 79,.c (.int .i64 18),.t 80]]
def c3f:=Ts [] [fP 71 1 (.l 6),lP 72 6 true 3 (.t 71),lP 73 7 true 3 (.l 7),oP 74 (.call 181) [.t 72,.t 73],oP 75 (.un .not) [.t 74]] (.t 75) b7V .skip
def e5p:ACode :=
  (Sq d7g (Sq d3y (Sq d6R (Sq b9W (Sq b7L (Sq c2G (Sq c3a (Sq c1j c3f))))))))
def d2w:AFn:={ np:=4,nv:=8,results:=[],code:=e5p }
def e3O:List Nat:=[0,1,2,3,7,8,9,10]
def e7O:List Nat:=[6,7]

def d2B:=Rg [3] [⟨.bx,.boxV,[.v 0],some 3,none⟩,vP 4 (.c (.bool false))]
def d8q:=Rg [] [fP 5 0 (.l 3),lP 6 3 false 1 (.t 5),fP 7 3 (.v 1),oP 8 (.ldSt false 1) [.t 7],oP 9 (.ldSt false 1) [.v 2],oP 10 (.iad 1) [.t 8,.t 9],oP 11 (.ldAn false 1) [.t 10],bP 12 .eql (.t 6) (.t 11),vP 4 (.t 12)]
def e6f:ACode :=
  (Sq d2B (Sq d8q .ret))
def c5T:AFn:={ np:=3,nv:=5,results:=[.v 4],code:=e6f }
def e6t:List Nat:=[0,1,2,3,4]
def e93:List Nat:=[3]

def a167s1:=Rg [] [vP 2 (.c (.bool false))]
def a167s3:=Rg [] [nP 5 0,nP 6 1,oP 7 (.call 182) [.t 5,.t 6],bP 8 .geq (.t 7) (.c (.int .i64 0)),vP 2 (.t 8)]
def a167c:ACode :=
  (Sq a167s1 (Sq a167s3 .ret))
def a167:AFn:={ np:=2,nv:=3,results:=[.v 2],code:=a167c }
def e4C:List Nat:=[0,1,4]
def e96:List Nat:=[]

def d1F:=Rg [] [op (.v 2) .boxO [.v 0],vP 3 (.c (.bool false))]
def d7o:=Rg [] [oP 4 (.ldSt false 1) [.v 1],oP 5 (.mkF 169 0) [.v 2],oP 6 (.call 167) [.t 4,.t 5],oP 7 (.un .not) [.t 6],vP 3 (.t 7)]
def e6W:ACode :=
  (Sq d1F (Sq d7o .ret))
def d64:AFn:={ np:=2,nv:=4,results:=[.v 3],code:=e6W }
def f0i:List Nat:=[0,1,2,3]
def f06:List Nat:=[]

def d73:=Rg [2] [⟨.bx,.boxV,[.v 0],some 2,none⟩,vP 3 (.c (.bool false))]
def d1H:=Rg [] [fP 4 0 (.v 1),oP 5 (.ldSt false 1) [.t 4],fP 6 0 (.l 2),lP 7 2 false 1 (.t 6),bP 8 .eql (.t 5) (.t 7),mP 9 (.t 8),gP 10 (.fad 1) [.v 1] 9 true,gP 11 (.ldSt true 5) [.t 10] 9 true,gP 12 (.fad 1) [.l 2] 9 true,⟨.t 13,.ldLc 2 true 5,[.t 12],some 2,some (.t 9,true)⟩,gP 14 (.call 170) [.t 11,.t 13] 9 true,oP 15 .pick [.t 9,.t 14,.c (.bool false)],vP 3 (.t 15)]
def e8q:ACode :=
  (Sq d73 (Sq d1H .ret))
def c7S:AFn:={ np:=2,nv:=4,results:=[.v 3],code:=e8q }
def e0l:List Nat:=[0,1,2,3]
def e8H:List Nat:=[2]

def d1Y:=Rg [2,3] [⟨.bx,.boxV,[.v 0],some 2,none⟩,⟨.bx,.boxV,[.v 1],some 3,none⟩,vP 4 (.c (.bool false))]
def c38:=Rg [] [fP 5 0 (.l 2),lP 6 2 false 1 (.t 5),fP 7 0 (.l 3),lP 8 3 false 1 (.t 7),bP 9 .eql (.t 6) (.t 8),mP 10 (.t 9),gP 11 (.fad 1) [.l 2] 10 true,⟨.t 12,.ldLc 2 false 1,[.t 11],some 2,some (.t 10,true)⟩,gP 13 (.fad 1) [.l 3] 10 true,⟨.t 14,.ldLc 3 false 1,[.t 13],some 3,some (.t 10,true)⟩,gP 15 (.bin .eql) [.t 12,.t 14] 10 true,oP 16 .pick [.t 10,.t 15,.c (.bool false)],mP 17 (.t 16),gP 18 (.fad 2) [.l 2] 17 true,⟨.t 19,.ldLc 2 false 1,[.t 18],some 2,some (.t 17,true)⟩,gP 20 (.fad 2) [.l 3] 17 true,⟨.t 21,.ldLc 3 false 1,[.t 20],some 3,some (.t 17,true)⟩,gP 22 (.bin .eql) [.t 19,.t 21] 17 true,oP 23 .pick [.t 17,.t 22,.c (.bool false)],mP 24 (.t 23),gP 25 (.fad 3) [.l 2] 24 true,⟨.t 26,.ldLc 2 false 1,[.t 25],some 2,some (.t 24,true)⟩,gP 27 (.fad 3) [.l 3] 24 true,⟨.t 28,.ldLc 3 false 1,[.t 27],some 3,some (.t 24,true)⟩,gP 29 (.call 183) [.t 26,.t 28] 24 true,oP 30 .pick [.t 24,.t 29,.c (.bool false)],mP 31 (.t 30),gP 32 (.fad 4) [.l 2] 31 true,⟨.t 33,.ldLc 2 false 1,[.t 32],some 2,some (.t 31,true)⟩,gP 34 (.fad 4) [.l 3] 31 true,⟨.t 35,.ldLc 3 false 1,[.t 34],some 3,some (.t 31,true)⟩,gP 36 (.call 184) [.t 33,.t 35,.c (.func 170 [] [])] 31 true,oP 37 .pick [.t 31,.t 36,.c (.bool false)],vP 4 (.t 37)]
def e1w:ACode :=
  (Sq d1Y (Sq c38 .ret))
def d7N:AFn:={ np:=2,nv:=5,results:=[.v 4],code:=e1w }
def e3X:List Nat:=[0,1,2,3,4]
def e46:List Nat:=[2,3]

def c4Z:=Rg [] [vP 3 (.c (.bool false))]
def c95:=Rg [] [vP 3 (.c (.bool false))]
def d8E:=Ts [] [nP 10 0,oP 11 .lenL [.t 10],nP 12 1,oP 13 .lenL [.t 12],bP 14 .neq (.t 11) (.t 13)] (.t 14) (Sq c95 .ret) .skip
def c7m:=Rg [] [vP 7 (.v 0),op (.v 8) .lenL [.v 7],vP 9 (.c (.int .i64 0))]
def b62:=Ts [] [bP 18 .lss (.v 9) (.v 8)] (.t 18) .skip (.exit 0)
def b87:=Rg [5] [nP 19 9,oP 20 (.iad 2) [.v 7,.v 9],oP 21 (.ldRo true 2) [.t 20],⟨.bx,.alloc [.str [],.list true []],[],some 5,none⟩,vP 4 (.t 19),xP (.stLc 5 2) [.l 5,.ts 21] 5]
def c0W:=Rg [6] [nP 22 1,nP 23 4,oP 24 (.iad 2) [.t 22,.t 23],oP 25 (.ldRo true 2) [.t 24],⟨.bx,.alloc [.str [],.list true []],[],some 6,none⟩,xP (.stLc 6 2) [.l 6,.ts 25] 6]
def b76:=Rg [] [vP 3 (.c (.bool false))]
def b8J:=Ts [] [nP 26 2,lP 27 5 true 2 (.l 5),lP 28 6 true 2 (.l 6),oP 29 .callV [.t 26,.t 27,.t 28],oP 30 (.un .not) [.t 29]] (.t 30) (Sq b76 .ret) .skip
def b83:=Rg [] [bP 31 .add (.v 9) (.c (.int .i64 1)),vP 9 (.t 31)]
def c3N:=Rg [] [vP 3 (.c (.bool true))]
def e5A:ACode :=
  (Sq c4Z (Sq d8E (Sq (Sq c7m (Bk 0 (Lp (Sq b62 (Sq (Bk 1 (Sq b87 (Sq c0W b8J))) b83))))) (Sq c3N .ret))))
def c5p:AFn:={ np:=3,nv:=10,results:=[.v 3],code:=e5A }
def e5D:List Nat:=[0,1,2,6,7,8,9,15,16,17]
def e2E:List Nat:=[5,6]

def d3e:=Rg [2,3] [⟨.bx,.boxV,[.v 0],some 2,none⟩,⟨.bx,.boxV,[.v 1],some 3,none⟩,vP 4 (.c (.bool false))]
def c4T:=Rg [] [fP 5 0 (.l 2),lP 6 2 false 1 (.t 5),fP 7 0 (.l 3),lP 8 3 false 1 (.t 7),bP 9 .eql (.t 6) (.t 8),mP 10 (.t 9),gP 11 (.fad 1) [.l 2] 10 true,⟨.t 12,.ldLc 2 false 1,[.t 11],some 2,some (.t 10,true)⟩,gP 13 (.fad 1) [.l 3] 10 true,⟨.t 14,.ldLc 3 false 1,[.t 13],some 3,some (.t 10,true)⟩,gP 15 (.call 149) [.t 12,.t 14] 10 true,oP 16 .pick [.t 10,.t 15,.c (.bool false)],vP 4 (.t 16)]
def e94:ACode :=
  (Sq d3e (Sq c4T .ret))
def d6o:AFn:={ np:=2,nv:=5,results:=[.v 4],code:=e94 }
def e2M:List Nat:=[0,1,2,3,4]
def e5y:List Nat:=[2,3]

def d2H:=Rg [3] [⟨.bx,.boxV,[.v 0],some 3,none⟩,vP 4 (.c (.bool false))]
def c6C:=Rg [] [oP 5 (.ldSt false 1) [.v 1],fP 6 1 (.v 2),oP 7 (.ldSt false 1) [.t 6],oP 8 (.iad 3) [.t 7,.c (.int .i64 0)],oP 9 (.ldRo true 3) [.t 8],lP 10 3 true 5 (.l 3),oP 11 (.call 155) [.t 5,.t 9,.t 10],oP 12 (.un .not) [.t 11],vP 4 (.t 12)]
def e0V:ACode :=
  (Sq d2H (Sq c6C .ret))
def c4y:AFn:={ np:=3,nv:=5,results:=[.v 4],code:=e0V }
def e2W:List Nat:=[0,1,2,3,4]
def e8i:List Nat:=[3]

def d4Q:=Rg [2] [⟨.bx,.boxV,[.v 0],some 2,none⟩,vP 3 (.c (.bool false))]
def d6O:=Rg [] [fP 4 0 (.l 2),lP 5 2 false 1 (.t 4),oP 6 (.ldSt false 1) [.v 1],bP 7 .eql (.t 5) (.t 6),vP 3 (.t 7)]
def e8P:ACode :=
  (Sq d4Q (Sq d6O .ret))
def c5H:AFn:={ np:=2,nv:=4,results:=[.v 3],code:=e8P }
def e1c:List Nat:=[0,1,2,3]
def e0g:List Nat:=[2]

def d7T:=Rg [2] [⟨.bx,.boxV,[.v 0],some 2,none⟩,vP 3 (.c (.bool false))]
def d8o:=Rg [] [fP 4 2 (.l 2),fP 5 2 (.t 4),lP 6 2 false 1 (.t 5),mP 7 (.t 6),gP 8 (.fad 5) [.l 2] 7 true,⟨.t 9,.ldLc 2 false 1,[.t 8],some 2,some (.t 7,true)⟩,gP 10 (.un .not) [.t 9] 7 true,oP 11 .pick [.t 7,.t 10,.c (.bool false)],mP 12 (.t 11),gP 13 (.fad 3) [.v 1] 12 true,gP 14 (.ldSt false 1) [.t 13] 12 true,gP 15 (.fad 0) [.l 2] 12 true,⟨.t 16,.ldLc 2 false 1,[.t 15],some 2,some (.t 12,true)⟩,gP 17 (.call 32) [.t 14,.t 16] 12 true,gP 18 (.un .not) [.t 17] 12 true,oP 19 .pick [.t 12,.t 18,.c (.bool false)],vP 3 (.t 19)]
def e5e:ACode :=
  (Sq d7T (Sq d8o .ret))
def d2t:AFn:={ np:=2,nv:=4,results:=[.v 3],code:=e5e }
def e6C:List Nat:=[0,1,2,3]
def e9k:List Nat:=[2]

def c4l:AFn:={ np:=1,nv:=0,results:=[],code:=.skip,ext:=some (U9 1 16) }
def c8Y:=Rg [] [vP 5 (.c (.int .i64 0)),vP 6 (.c (.int .i64 0))]
def d1M:=Rg [] [nP 23 3,oP 24 .nilchk [.t 23],oP 25 (.ldSt false 1) [.t 24],bP 26 .add (.t 25) (.c (.int .i64 1)),oP 27 .nilchk [.t 23],op .none (.stSt 1) [.t 27,.t 26]]
def c7V:=Rg [] [nP 28 2,nP 29 1,vP 5 (.t 28),vP 6 (.t 29)]
def d44:=Ts [] [nP 12 4,nP 13 0,nP 14 2,oP 15 (.iad 2) [.t 13,.t 14],oP 16 (.ldAn true 2) [.t 15],nP 17 0,nP 18 1,oP 19 (.iad 2) [.t 17,.t 18],oP 20 (.ldAn true 2) [.t 19],oP 21 .callV [.t 12,.t 16,.t 20],bP 22 .lss (.t 21) (.c (.int .i64 0))] (.t 22) (Sq d1M (Sq c7V .ret)) .skip
def c0R:=Rg [] [nP 30 1,nP 31 2,vP 5 (.t 30),vP 6 (.t 31)]
def e5v:ACode :=
  (Sq c8Y (Sq d44 (Sq c0R .ret)))
def d8R:AFn:={ np:=5,nv:=7,results:=[.v 5,.v 6],code:=e5v }
def e0j:List Nat:=[0,1,2,3,4,10,11]
def f07:List Nat:=[]

def d5f:=Rg [] [op (.v 2) .mv [.c (.str [])],vP 3 (.c (.bool false))]
def d2D:=Rg [] [nP 10 0,vP 2 (.t 10),vP 3 (.c (.bool false))]
def c8o:=Ts [] [nP 6 0,nP 7 1,oP 8 (.call 78) [.t 6,.t 7],oP 9 (.un .not) [.t 8]] (.t 9) (Sq d2D .ret) .skip
def c40:=Rg [] [nP 11 0,nP 12 1,oP 13 .lenS [.t 12],oP 14 (.slS true false) [.t 11,.t 13],vP 2 (.t 14),vP 3 (.c (.bool true))]
def e8b:ACode :=
  (Sq d5f (Sq c8o (Sq c40 .ret)))
def d8P:AFn:={ np:=2,nv:=4,results:=[.v 2,.v 3],code:=e8b }
def e7Q:List Nat:=[0,1,4,5]
def e8e:List Nat:=[]

def d5u:=Rg [] [vP 2 (.c (.int .i64 0))]
def d2P:=Rg [] [nP 6 0,op (.v 4) .lenL [.t 6],vP 5 (.c (.int .i64 0))]
def d4V:=Ts [] [bP 9 .lss (.v 5) (.v 4)] (.t 9) .skip (.exit 0)
def d52:=Rg [] [nP 10 5,vP 3 (.t 10)]
def b9p:=Rg [] [nP 17 3,vP 2 (.t 17)]
def c3C:=Ts [] [nP 11 1,nP 12 0,nP 13 3,oP 14 (.iad 10) [.t 12,.t 13],oP 15 (.ldRo true 10) [.t 14],oP 16 .callV [.t 11,.t 15]] (.t 16) (Sq b9p .ret) .skip
def c0A:=Rg [] [bP 18 .add (.v 5) (.c (.int .i64 1)),vP 5 (.t 18)]
def c0q:=Rg [] [vP 2 (.c (.int .i64 (-1)))]
def e78:ACode :=
  (Sq d5u (Sq (Sq d2P (Bk 0 (Lp (Sq d4V (Sq (Bk 1 (Sq d52 c3C)) c0A))))) (Sq c0q .ret)))
def d1J:AFn:={ np:=2,nv:=6,results:=[.v 2],code:=e78 }
def e5j:List Nat:=[0,1,4,5,7,8]
def e8S:List Nat:=[]

def d5H:=Rg [2] [⟨.bx,.boxV,[.v 0],some 2,none⟩,vP 3 (.c (.bool false))]
def c9P:=Rg [] [fP 4 0 (.l 2),lP 5 2 false 1 (.t 4),oP 6 (.ldSt false 1) [.v 1],bP 7 .eql (.t 5) (.t 6),vP 3 (.t 7)]
def e8M:ACode :=
  (Sq d5H (Sq c9P .ret))
def c6W:AFn:={ np:=2,nv:=4,results:=[.v 3],code:=e8M }
def e3R:List Nat:=[0,1,2,3]
def f0k:List Nat:=[2]

def d8s:=Rg [2,3] [⟨.bx,.boxV,[.v 0],some 2,none⟩,⟨.bx,.boxV,[.v 1],some 3,none⟩,vP 4 (.c (.bool false))]
def d2L:=Rg [] [vP 4 (.c (.bool false))]
def d1z:=Ts [] [fP 5 2 (.l 3),lP 6 3 false 1 (.t 5),mP 7 (.t 6),gP 8 (.fad 2) [.l 2] 7 true,⟨.t 9,.ldLc 2 false 1,[.t 8],some 2,some (.t 7,true)⟩,gP 10 (.un .not) [.t 9] 7 true,oP 11 .pick [.t 7,.t 10,.c (.bool false)],mP 12 (.t 11),gP 13 (.fad 1) [.l 2] 12 false,⟨.t 14,.ldLc 2 false 1,[.t 13],some 2,some (.t 12,false)⟩,gP 15 .lenL [.t 14] 12 false,gP 16 (.fad 1) [.l 3] 12 false,⟨.t 17,.ldLc 3 false 1,[.t 16],some 3,some (.t 12,false)⟩,gP 18 .lenL [.t 17] 12 false,gP 19 (.bin .neq) [.t 15,.t 18] 12 false,oP 20 .pick [.t 12,.c (.bool true),.t 19]] (.t 20) (Sq d2L .ret) .skip
def d5B:=Rg [] [fP 25 1 (.l 2),lP 26 2 false 1 (.t 25),oP 27 (.iad 3) [.t 26,.c (.int .i64 0)],oP 28 (.ldRo true 3) [.t 27],fP 29 1 (.l 3),lP 30 3 false 1 (.t 29),oP 31 (.iad 3) [.t 30,.c (.int .i64 0)],oP 32 (.ldRo true 3) [.t 31],oP 33 (.call 181) [.t 28,.t 32],vP 4 (.t 33)]
def c0m:=Ts [] [fP 21 1 (.l 2),lP 22 2 false 1 (.t 21),oP 23 .lenL [.t 22],bP 24 .gtr (.t 23) (.c (.int .i64 0))] (.t 24) (Sq d5B .ret) .skip
def c1W:=Rg [] [fP 34 0 (.l 2),lP 35 2 false 1 (.t 34),fP 36 0 (.l 3),lP 37 3 false 1 (.t 36),bP 38 .eql (.t 35) (.t 37),vP 4 (.t 38)]
def e0t:ACode :=
  (Sq d8s (Sq d1z (Sq c0m (Sq c1W .ret))))
def c5x:AFn:={ np:=2,nv:=5,results:=[.v 4],code:=e0t }
def f0a:List Nat:=[0,1,2,3,4]
def e1F:List Nat:=[2,3]

def a182s1:=Rg [] [vP 2 (.c (.int .i64 0))]
def a182s3:=Rg [] [nP 6 0,op (.v 4) .lenL [.t 6],vP 5 (.c (.int .i64 0))]
def a182s5:=Ts [] [bP 9 .lss (.v 5) (.v 4)] (.t 9) .skip (.exit 0)
def a182s7:=Rg [] [nP 10 5,vP 3 (.t 10)]
def a182s10:=Rg [] [nP 17 3,vP 2 (.t 17)]
def a182s12:=Ts [] [nP 11 1,nP 12 0,nP 13 3,oP 14 (.iad 6) [.t 12,.t 13],oP 15 (.ldRo true 6) [.t 14],oP 16 .callV [.t 11,.t 15]] (.t 16) (Sq a182s10 .ret) .skip
def a182s16:=Rg [] [bP 18 .add (.v 5) (.c (.int .i64 1)),vP 5 (.t 18)]
def a182s23:=Rg [] [vP 2 (.c (.int .i64 (-1)))]
def a182c:ACode :=
  (Sq a182s1 (Sq (Sq a182s3 (Bk 0 (Lp (Sq a182s5 (Sq (Bk 1 (Sq a182s7 a182s12)) a182s16))))) (Sq a182s23 .ret)))
def a182:AFn:={ np:=2,nv:=6,results:=[.v 2],code:=a182c }
def e7o:List Nat:=[0,1,4,5,7,8]
def e5c:List Nat:=[]

def c76:=Rg [] [vP 2 (.c (.bool false))]
def d19:=Rg [] [vP 2 (.c (.bool false))]
def c5u:=Ts [] [nP 6 0,oP 7 .lenL [.t 6],nP 8 1,oP 9 .lenL [.t 8],bP 10 .neq (.t 7) (.t 9)] (.t 10) (Sq d19 .ret) .skip
def d58:=Rg [] [nP 11 0,op (.v 4) .lenL [.t 11],vP 5 (.c (.int .i64 0))]
def c2i:=Ts [] [bP 14 .lss (.v 5) (.v 4)] (.t 14) .skip (.exit 0)
def c1d:=Rg [] [nP 15 5,vP 3 (.t 15)]
def b8f:=Rg [] [vP 2 (.c (.bool false))]
def c1X:=Ts [] [nP 16 0,nP 17 3,oP 18 (.iad 1) [.t 16,.t 17],oP 19 (.ldAn false 1) [.t 18],nP 20 1,nP 21 3,oP 22 (.iad 1) [.t 20,.t 21],oP 23 (.ldAn false 1) [.t 22],bP 24 .neq (.t 19) (.t 23)] (.t 24) (Sq b8f .ret) .skip
def b6W:=Rg [] [bP 25 .add (.v 5) (.c (.int .i64 1)),vP 5 (.t 25)]
def c3c:=Rg [] [vP 2 (.c (.bool true))]
def e0R:ACode :=
  (Sq c76 (Sq c5u (Sq (Sq d58 (Bk 0 (Lp (Sq c2i (Sq (Bk 1 (Sq c1d c1X)) b6W))))) (Sq c3c .ret))))
def d4u:AFn:={ np:=2,nv:=6,results:=[.v 2],code:=e0R }
def e0X:List Nat:=[0,1,4,5,12,13]
def e4f:List Nat:=[]

def c4c:=Rg [] [vP 3 (.c (.bool false))]
def d0q:=Rg [] [vP 3 (.c (.bool false))]
def d57:=Ts [] [nP 10 0,oP 11 .lenL [.t 10],nP 12 1,oP 13 .lenL [.t 12],bP 14 .neq (.t 11) (.t 13)] (.t 14) (Sq d0q .ret) .skip
def d4K:=Rg [] [vP 7 (.v 0),op (.v 8) .lenL [.v 7],vP 9 (.c (.int .i64 0))]
def c0C:=Ts [] [bP 18 .lss (.v 9) (.v 8)] (.t 18) .skip (.exit 0)
def c0b:=Rg [5] [nP 19 9,oP 20 (.iad 5) [.v 7,.v 9],oP 21 (.ldAn true 5) [.t 20],⟨.bx,.alloc [.int .u8 0,.int .i64 0,.str [],.list true [],.list true []],[],some 5,none⟩,vP 4 (.t 19),xP (.stLc 5 5) [.l 5,.ts 21] 5]
def c1l:=Rg [6] [nP 22 1,nP 23 4,oP 24 (.iad 5) [.t 22,.t 23],oP 25 (.ldAn true 5) [.t 24],⟨.bx,.alloc [.int .u8 0,.int .i64 0,.str [],.list true [],.list true []],[],some 6,none⟩,xP (.stLc 6 5) [.l 6,.ts 25] 6]
def b7p:=Rg [] [vP 3 (.c (.bool false))]
def c0k:=Ts [] [nP 26 2,lP 27 5 true 5 (.l 5),lP 28 6 true 5 (.l 6),oP 29 .callV [.t 26,.t 27,.t 28],oP 30 (.un .not) [.t 29]] (.t 30) (Sq b7p .ret) .skip
def b9Z:=Rg [] [bP 31 .add (.v 9) (.c (.int .i64 1)),vP 9 (.t 31)]
def c03:=Rg [] [vP 3 (.c (.bool true))]
def e50:ACode :=
  (Sq c4c (Sq d57 (Sq (Sq d4K (Bk 0 (Lp (Sq c0C (Sq (Bk 1 (Sq c0b (Sq c1l c0k))) b9Z))))) (Sq c03 .ret))))
def d7E:AFn:={ np:=3,nv:=10,results:=[.v 3],code:=e50 }
def e6U:List Nat:=[0,1,2,6,7,8,9,15,16,17]
def d9S:List Nat:=[5,6]

def tblL:List (List (Option AFn)):=[
  [none,none,none,none,some a4,some a5,some a6,some a7,some a8,some a9],
  [none,some a11,some a12,some a13,some a14,some a15,some a16,some a17,some a18,some a19],
  [some a20,some a21,some a22,some a23,some a24,some a25,some a26,some a27,some a28,some a29],
  [some a30,some a31,some a32,some a33,some a34,some a35,some a36,some a37,some a38,some a39],
  [some a40,some a41,some a42,some a43,some a44,some a45,some a46,some a47,some a48,some a49],
  [some a50,some a51,some a52,some a53,some a54,some a55,some a56,some a57,some a58,some a59],
  [some a60,some a61,some a62,some a63,some a64,some a65,some a66,some a67,some a68,some a69],
  [some a70,some a71,some a72,some a73,some a74,some a75,some a76,some a77,some a78,some a79],
  [some a80,some a81,some a82,some a83,some a84,some a85,some a86,some a87,some a88,some a89],
  [some a90,some a91,some a92,some a93,some a94,some a95,some a96,some a97,some a98,some a99],
  [some d4x,some d4U,some c82,some d2u,some d5L,some d3Y,some c7N,some c5l,some c80,some c8V],
  [some c5f,some c6h,some a112,some a113,some a114,some a115,some d7w,some c9D,some d89,some d7C],
  [some d4g,some d4c,some d7x,some c8U,some c9m,some c65,some d4Y,some d42,some c7E,some c7b],
  [some d4o,some d6S,some c5P,some d4G,some c97,some c5z,some c5j,some d7W,some d34,some c43],
  [some c7A,some d1k,some c9X,some d8y,some d65,some c8k,some d7r,some c88,some d5J,some a149],
  [some a150,some c9A,some c8F,some d8i,some d8a,some c4C,some d0m,some d6H,some d4I,some d7k],
  [some d1g,some d3l,some c5h,some d85,some d8G,some d2w,some c5T,some a167,some d64,some c7S],
  [some d7N,some c5p,some d6o,some c4y,some c5H,some d2t,some c4l,some d8R,some d8P,some d1J],
  [some c6W,some c5x,some a182,some d4u,some d7E,none,none,none,none,none],
  [none,none,none,none,none,none,none,none,none,none],
  [none,none,none,none,none,none,none,none,none,none]]
def tbl:Nat→Option AFn:=f1B tblL
def gts:List (Nat×List AV):=[(0,[.str [66,111,111,108,101,97,110],.str [73,68],.str [73,110,116],.str [83,116,114,105,110,103]])]
end Go.Cb.CodeA
