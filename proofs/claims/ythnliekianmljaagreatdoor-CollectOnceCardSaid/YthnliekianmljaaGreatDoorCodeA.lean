/- The functions of the seat, told as code of the abstract machine. No conditions. -/
import Derived.Test.YthnliekianmljaaGreatDoorCodeAp0
namespace Go.Cb.CodeA
open Go Go.Cb

def a66r39 : List AOper := [
 op (.t 85) .mv [.v 6],
 op (.t 86) .mv [.v 8],
 op (.t 87) (.bin .sub) [.t 85,.t 86],
 op (.t 88) (.bin .gtr) [.t 87,.c (.int .i64 18)],
 op (.t 84) .mv [.t 88]]
def a66r40 : List AOper := [
 op (.t 89) (.build [.int .u8 0,.str [],.int .i64 0,.int .i64 0] []) [],
 op (.t 90) .mv [.v 1],
 ⟨.none,.stLc 2 4,[.l 2,.t 89],some 2,none⟩,
 op (.v 3) .mv [.c (.int .i64 0)],
 op (.v 4) .mv [.t 90],
 op (.v 5) .mv [.c (.int .i64 1)]]
def a66s41 : ACode := .reg [] a66r40
def a66s42 : ACode := .seq a66s41 .ret
def a66s43 : ACode := .test [] a66r39 (.t 84) a66s42 .skip
def a66s44 : ACode := .test [] a66r35 (.t 65) a66s38 a66s43
def a66s45 : ACode := .test [] a66r31 (.t 51) a66s34 a66s44
def a66s46 : ACode := .test [] a66r27 (.t 45) a66s30 a66s45
def a66s47 : ACode := .blk 2 a66s46
def a66r48 : List AOper := [
 op (.t 91) .mv [.v 7]]
def a66r49 : List AOper := [
 op (.t 92) .mv [.v 9],
 op (.t 93) (.un .neg) [.t 92],
 op (.v 9) .mv [.t 93]]
def a66s50 : ACode := .reg [] a66r49
def a66s51 : ACode := .test [] a66r48 (.t 91) a66s50 .skip
def a66r52 : List AOper := [
 op (.t 94) .mv [.v 0],
 op (.t 95) .mv [.v 1],
 op (.t 96) .mv [.v 6],
 op (.t 97) (.slS true true) [.t 94,.t 95,.t 96],
 op (.t 98) .mv [.v 9],
 op (.t 99) (.build [.int .u8 0,.str [],.int .i64 0,.int .i64 0] [(0,1),(1,1),(2,1)]) [.c (.int .u8 2),.t 97,.t 98],
 op (.t 100) .mv [.v 6],
 ⟨.none,.stLc 2 4,[.l 2,.t 99],some 2,none⟩,
 op (.v 3) .mv [.t 100],
 op (.v 4) .mv [.c (.int .i64 0)],
 op (.v 5) .mv [.c (.int .i64 0)]]
def a66s53 : ACode := .reg [] a66r52
def a66s54 : ACode := .seq a66s53 .ret
def a66s55 : ACode := .seq a66s51 a66s54
def a66s56 : ACode := .seq a66s47 a66s55
def a66s57 : ACode := .seq a66s26 a66s56
def a66s58 : ACode := .seq a66s13 a66s57
def a66s59 : ACode := .seq a66s11 a66s58
def a66s60 : ACode := .seq a66s9 a66s59
def a66s61 : ACode := .seq a66s5 a66s60
def a66s62 : ACode := .seq a66s3 a66s61
def a66s63 : ACode := .seq a66s1 a66s62
def a66c : ACode :=
  a66s63
def a66 : AFn := { np := 2,nv := 10,results := [.bx 2 true 4,.v 3,.v 4,.v 5],code := a66c }
def a66v : List Nat := [0,1,4,5,6,7,8,9,10,11]
def a66b : List Nat := [2]

def a67r0 : List AOper := [
 ⟨.bx,.alloc [.int .u8 0,.str [],.int .i64 0,.int .i64 0],[],some 2,none⟩,
 op (.v 3) .mv [.c (.int .i64 0)],
 op (.v 4) .mv [.c (.int .i64 0)],
 op (.v 5) .mv [.c (.int .i64 0)]]
def a67s1 : ACode := .reg [2] a67r0
def a67r2 : List AOper := [
 op (.v 6) .mv [.c (.str [])]]
def a67s3 : ACode := .reg [] a67r2
def a67r4 : List AOper := [
 op (.t 10) .mv [.v 1],
 op (.t 11) (.bin .add) [.t 10,.c (.int .i64 1)],
 op (.v 7) .mv [.t 11]]
def a67s5 : ACode := .reg [] a67r4
def a67r6 : List AOper := [
 op (.t 12) .mv [.v 7],
 op (.t 13) .mv [.v 0],
 op (.t 14) .lenS [.t 13],
 op (.t 15) (.bin .lss) [.t 12,.t 14]]
def a67s7 : ACode := .test [] a67r6 (.t 15) .skip (.exit 0)
def a67r8 : List AOper := [
 op (.t 16) .mv [.v 0],
 op (.t 17) .mv [.v 7],
 op (.v 8) .idxS [.t 16,.t 17]]
def a67s9 : ACode := .reg [] a67r8
def a67r10 : List AOper := [
 op (.t 27) (.bin .eql) [.v 8,.c (.int .u8 34)],
 op (.t 26) .mv [.t 27]]
def a67r11 : List AOper := [
 op (.t 28) .mv [.v 6],
 op (.t 29) .lenS [.t 28],
 op (.t 30) (.bin .gtr) [.t 29,.c (.int .i64 200)]]
def a67r12 : List AOper := [
 op (.t 31) (.build [.int .u8 0,.str [],.int .i64 0,.int .i64 0] []) [],
 op (.t 32) .mv [.v 1],
 ⟨.none,.stLc 2 4,[.l 2,.t 31],some 2,none⟩,
 op (.v 3) .mv [.c (.int .i64 0)],
 op (.v 4) .mv [.t 32],
 op (.v 5) .mv [.c (.int .i64 2)]]
def a67s13 : ACode := .reg [] a67r12
def a67s14 : ACode := .seq a67s13 .ret
def a67s15 : ACode := .test [] a67r11 (.t 30) a67s14 .skip
def a67r16 : List AOper := [
 op (.t 33) .mv [.v 6],
 op (.t 34) (.build [.int .u8 0,.str [],.int .i64 0,.int .i64 0] [(0,1),(1,1)]) [.c (.int .u8 3),.t 33],
 op (.t 35) .mv [.v 7],
 op (.t 36) (.bin .add) [.t 35,.c (.int .i64 1)],
 ⟨.none,.stLc 2 4,[.l 2,.t 34],some 2,none⟩,
 op (.v 3) .mv [.t 36],
 op (.v 4) .mv [.c (.int .i64 0)],
 op (.v 5) .mv [.c (.int .i64 0)]]
def a67s17 : ACode := .reg [] a67r16
def a67s18 : ACode := .seq a67s17 .ret
def a67s19 : ACode := .seq a67s15 a67s18
def a67r20 : List AOper := [
 op (.t 38) (.bin .eql) [.v 8,.c (.int .u8 10)],
 op (.t 37) .mv [.t 38]]
def a67r21 : List AOper := [
 op (.t 39) (.build [.int .u8 0,.str [],.int .i64 0,.int .i64 0] []) [],
 op (.t 40) .mv [.v 7],
 ⟨.none,.stLc 2 4,[.l 2,.t 39],some 2,none⟩,
 op (.v 3) .mv [.c (.int .i64 0)],
 op (.v 4) .mv [.t 40],
 op (.v 5) .mv [.c (.int .i64 4)]]
def a67s22 : ACode := .reg [] a67r21
def a67s23 : ACode := .seq a67s22 .ret
def a67r24 : List AOper := [
 op (.t 42) (.bin .eql) [.v 8,.c (.int .u8 92)],
 op (.t 41) .mv [.t 42]]
def a67r25 : List AOper := [
 op (.t 43) .mv [.v 7],
 op (.t 44) (.bin .add) [.t 43,.c (.int .i64 1)],
 op (.v 7) .mv [.t 44]]
def a67s26 : ACode := .reg [] a67r25
def a67r27 : List AOper := [
 op (.t 45) .mv [.v 7],
 op (.t 46) .mv [.v 0],
 op (.t 47) .lenS [.t 46],
 op (.t 48) (.bin .eql) [.t 45,.t 47]]
def a67r28 : List AOper := [
 op (.t 49) (.build [.int .u8 0,.str [],.int .i64 0,.int .i64 0] []) [],
 op (.t 50) .mv [.v 7],
 ⟨.none,.stLc 2 4,[.l 2,.t 49],some 2,none⟩,
 op (.v 3) .mv [.c (.int .i64 0)],
 op (.v 4) .mv [.t 50],
 op (.v 5) .mv [.c (.int .i64 4)]]
def a67s29 : ACode := .reg [] a67r28
def a67s30 : ACode := .seq a67s29 .ret
def a67s31 : ACode := .test [] a67r27 (.t 48) a67s30 .skip
def a67r32 : List AOper := [
 op (.t 51) .mv [.v 0],
 op (.t 52) .mv [.v 7],
 op (.v 9) .idxS [.t 51,.t 52]]
def a67s33 : ACode := .reg [] a67r32
def a67r34 : List AOper := [
 op (.t 57) (.bin .eql) [.v 9,.c (.int .u8 110)],
 op (.t 56) .mv [.t 57]]
def a67r35 : List AOper := [
 op (.t 58) .mv [.v 6],
 op (.t 59) (.bin .add) [.t 58,.c (.str [10])],
 op (.v 6) .mv [.t 59]]
def a67s36 : ACode := .reg [] a67r35
def a67r37 : List AOper := [
 op (.t 61) (.bin .eql) [.v 9,.c (.int .u8 116)],
 op (.t 60) .mv [.t 61]]
def a67r38 : List AOper := [
 op (.t 62) .mv [.v 6],
 op (.t 63) (.bin .add) [.t 62,.c (.str [9])],
 op (.v 6) .mv [.t 63]]
def a67s39 : ACode := .reg [] a67r38
def a67r40 : List AOper := [
 op (.t 65) (.bin .eql) [.v 9,.c (.int .u8 34)],
 op (.v 10) .mv [.t 65]]
def a67r41 : List AOper := [
 op (.t 66) (.bin .eql) [.v 9,.c (.int .u8 47)],
 op (.v 10) .mv [.t 66]]
def a67r42 : List AOper := [
 op (.t 67) (.bin .eql) [.v 9,.c (.int .u8 92)],
 op (.v 10) .mv [.t 67]]
def a67s43 : ACode := .reg [] a67r42
def a67s44 : ACode := .test [] a67r41 (.v 10) .skip a67s43
def a67s45 : ACode := .test [] a67r40 (.v 10) .skip a67s44
def a67r46 : List AOper := [
 op (.t 68) .mv [.v 6],
 op (.t 69) .mv [.v 0],
 op (.t 70) .mv [.v 7],
 op (.t 71) .mv [.v 7],
 op (.t 72) (.bin .add) [.t 71,.c (.int .i64 1)],
 op (.t 73) (.slS true true) [.t 69,.t 70,.t 72],
 op (.t 74) (.bin .add) [.t 68,.t 73],
 op (.v 6) .mv [.t 74]]
def a67s47 : ACode := .reg [] a67r46
def a67r48 : List AOper := [
 op (.t 54) (.build [.int .u8 0,.str [],.int .i64 0,.int .i64 0] []) [],
 op (.t 55) .mv [.v 7],
 ⟨.none,.stLc 2 4,[.l 2,.t 54],some 2,none⟩,
 op (.v 3) .mv [.c (.int .i64 0)],
 op (.v 4) .mv [.t 55],
 op (.v 5) .mv [.c (.int .i64 4)]]
def a67s49 : ACode := .reg [] a67r48
def a67s50 : ACode := .seq a67s49 .ret
def a67s51 : ACode := .test [] [] (.v 10) a67s47 a67s50
def a67s52 : ACode := .seq a67s45 a67s51
def a67s53 : ACode := .test [] a67r37 (.t 60) a67s39 a67s52
def a67s54 : ACode := .test [] a67r34 (.t 56) a67s36 a67s53
def a67s55 : ACode := .blk 3 a67s54
def a67s56 : ACode := .seq a67s33 a67s55
def a67s57 : ACode := .seq a67s31 a67s56
def a67s58 : ACode := .seq a67s26 a67s57
def a67r59 : List AOper := [
 op (.t 19) .mv [.v 6],
 op (.t 20) .mv [.v 0],
 op (.t 21) .mv [.v 7],
 op (.t 22) .mv [.v 7],
 op (.t 23) (.bin .add) [.t 22,.c (.int .i64 1)],
 op (.t 24) (.slS true true) [.t 20,.t 21,.t 23],
 op (.t 25) (.bin .add) [.t 19,.t 24],
 op (.v 6) .mv [.t 25]]
def a67s60 : ACode := .reg [] a67r59
def a67s61 : ACode := .test [] a67r24 (.t 41) a67s58 a67s60
def a67s62 : ACode := .test [] a67r20 (.t 37) a67s23 a67s61
def a67s63 : ACode := .test [] a67r10 (.t 26) a67s19 a67s62
def a67s64 : ACode := .blk 2 a67s63
def a67s65 : ACode := .seq a67s9 a67s64
def a67r66 : List AOper := [
 op (.t 75) .mv [.v 7],
 op (.t 76) (.bin .add) [.t 75,.c (.int .i64 1)],
 op (.v 7) .mv [.t 76]]
def a67s67 : ACode := .reg [] a67r66
def a67s68 : ACode := .seq a67s65 a67s67
def a67s69 : ACode := .blk 1 a67s68
def a67s70 : ACode := .seq a67s7 a67s69
def a67s71 : ACode := .loop a67s70
def a67s72 : ACode := .blk 0 a67s71
def a67r73 : List AOper := [
 op (.t 77) (.build [.int .u8 0,.str [],.int .i64 0,.int .i64 0] []) [],
 op (.t 78) .mv [.v 7],
 ⟨.none,.stLc 2 4,[.l 2,.t 77],some 2,none⟩,
 op (.v 3) .mv [.c (.int .i64 0)],
 op (.v 4) .mv [.t 78],
 op (.v 5) .mv [.c (.int .i64 4)]]
def a67s74 : ACode := .reg [] a67r73
def a67s75 : ACode := .seq a67s74 .ret
def a67s76 : ACode := .seq a67s72 a67s75
def a67s77 : ACode := .seq a67s5 a67s76
def a67s78 : ACode := .seq a67s3 a67s77
def a67s79 : ACode := .seq a67s1 a67s78
def a67c : ACode :=
  a67s79
def a67 : AFn := { np := 2,nv := 11,results := [.bx 2 true 4,.v 3,.v 4,.v 5],code := a67c }
def a67v : List Nat := [0,1,4,5,6,7,8,9,18,53,64]
def a67b : List Nat := [2]

def a68r0 : List AOper := [
 op (.v 1) .mv [.c (.list true [])]]
def a68s1 : ACode := .reg [] a68r0
def a68r2 : List AOper := [
 op (.v 2) .mv [.c (.list true [])]]
def a68s3 : ACode := .reg [] a68r2
def a68r4 : List AOper := [
 op (.t 6) .mv [.v 0],
 op (.t 7) (.call 25) [.t 6,.c (.str [40])],
 op (.t 8) (.un .not) [.t 7]]
def a68r5 : List AOper := [
 op (.v 1) .mv [.c (.list true [])]]
def a68s6 : ACode := .reg [] a68r5
def a68s7 : ACode := .seq a68s6 .ret
def a68s8 : ACode := .test [] a68r4 (.t 8) a68s7 .skip
def a68r9 : List AOper := [
 op (.v 3) .mv [.c (.bool true)]]
def a68s10 : ACode := .reg [] a68r9
def a68r11 : List AOper := [
 op (.t 9) .mv [.v 0],
 op (.t 10) .nilchk [.t 9],
 op (.t 11) (.fad 4) [.t 10],
 op (.t 12) (.ldSt false 1) [.t 11],
 op (.t 13) (.bin .eql) [.t 12,.c (.int .i64 0)],
 op (.t 14) .mv [.t 13],
 ⟨.t 15,.mv,[.v 3],none,some (.t 14,true)⟩,
 ⟨.t 16,.mv,[.t 15],none,some (.t 14,true)⟩,
 ⟨.t 17,.mv,[.v 0],none,some (.t 16,false)⟩,
 ⟨.t 18,.call 25,[.t 17,.c (.str [41])],none,some (.t 16,false)⟩,
 ⟨.t 19,.un .not,[.t 18],none,some (.t 16,false)⟩,
 ⟨.t 20,.pick,[.t 16,.c (.bool true),.t 19],none,some (.t 14,true)⟩,
 op (.t 21) .pick [.t 14,.t 20,.c (.bool false)]]
def a68s12 : ACode := .test [] a68r11 (.t 21) .skip (.exit 0)
def a68r13 : List AOper := [
 op (.t 22) .mv [.v 0],
 op (.t 23) (.call 21) [.t 22],
 op (.t 24) (.build [.str [],.int .u8 0,.int .i64 0,.str [],.list true [],.list true []] [(0,1)]) [.t 23],
 ⟨.bx,.alloc [.str [],.int .u8 0,.int .i64 0,.str [],.list true [],.list true []],[],some 4,none⟩,
 ⟨.none,.stLc 4 6,[.l 4,.ts 24],some 4,none⟩]
def a68s14 : ACode := .reg [4] a68r13
def a68r15 : List AOper := [
 op (.t 25) .mv [.v 0],
 op (.t 26) (.call 22) [.t 25,.c (.str [58])]]
def a68s16 : ACode := .reg [] a68r15
def a68r17 : List AOper := [
 op (.t 27) .mv [.v 0],
 op (.t 28) (.call 42) [.t 27,.c (.bool false)],
 op (.t 29) (.fad 1) [.l 4],
 ⟨.none,.stLc 4 5,[.t 29,.ts 28],some 4,none⟩]
def a68s18 : ACode := .reg [] a68r17
def a68r19 : List AOper := [
 op (.t 30) .mv [.vs 2],
 ⟨.t 31,.ldLc 4 true 6,[.l 4],some 4,none⟩,
 op (.t 32) (.bslice 6 [[.str [],.int .u8 0,.int .i64 0,.str [],.list true [],.list true []]] [0]) [.t 31],
 op (.t 33) (.app 6 96) [.ts 30,.t 32],
 op (.v 2) .mv [.ts 33]]
def a68s20 : ACode := .reg [] a68r19
def a68s21 : ACode := .seq a68s18 a68s20
def a68s22 : ACode := .seq a68s16 a68s21
def a68s23 : ACode := .seq a68s14 a68s22
def a68s24 : ACode := .blk 1 a68s23
def a68r25 : List AOper := [
 op (.v 3) .mv [.c (.bool false)]]
def a68s26 : ACode := .reg [] a68r25
def a68s27 : ACode := .seq a68s24 a68s26
def a68s28 : ACode := .seq a68s12 a68s27
def a68s29 : ACode := .loop a68s28
def a68s30 : ACode := .blk 0 a68s29
def a68s31 : ACode := .seq a68s10 a68s30
def a68r32 : List AOper := [
 op (.t 34) .mv [.v 2],
 op (.v 1) .mv [.ts 34]]
def a68s33 : ACode := .reg [] a68r32
def a68s34 : ACode := .seq a68s33 .ret
def a68s35 : ACode := .seq a68s31 a68s34
def a68s36 : ACode := .seq a68s8 a68s35
def a68s37 : ACode := .seq a68s3 a68s36
def a68s38 : ACode := .seq a68s1 a68s37
def a68c : ACode :=
  a68s38
def a68 : AFn := { np := 1,nv := 5,results := [.v 1],code := a68c }
def a68v : List Nat := [0,2,3,4,5]
def a68b : List Nat := [4]

def a69r0 : List AOper := [
 op (.v 1) .mv [.c (.list true [])]]
def a69s1 : ACode := .reg [] a69r0
def a69r2 : List AOper := [
 op (.v 2) .mv [.c (.list true [])]]
def a69s3 : ACode := .reg [] a69r2
def a69r4 : List AOper := [
 op (.t 5) .mv [.v 0],
 op (.t 6) (.call 25) [.t 5,.c (.str [64])]]
def a69s5 : ACode := .test [] a69r4 (.t 6) .skip (.exit 0)
def a69r6 : List AOper := [
 op (.t 7) .mv [.v 0],
 op (.t 8) (.call 21) [.t 7],
 op (.t 9) (.build [.str [],.list true []] [(0,1)]) [.t 8],
 ⟨.bx,.alloc [.str [],.list true []],[],some 3,none⟩,
 ⟨.none,.stLc 3 2,[.l 3,.ts 9],some 3,none⟩]
def a69s7 : ACode := .reg [3] a69r6
def a69r8 : List AOper := [
 op (.t 10) .mv [.v 0],
 op (.t 11) (.call 68) [.t 10],
 op (.t 12) (.fad 1) [.l 3],
 ⟨.none,.stLc 3 1,[.t 12,.ts 11],some 3,none⟩]
def a69s9 : ACode := .reg [] a69r8
def a69r10 : List AOper := [
 op (.t 13) .mv [.vs 2],
 ⟨.t 14,.ldLc 3 true 2,[.l 3],some 3,none⟩,
 op (.t 15) (.bslice 2 [[.str [],.list true []]] [0]) [.t 14],
 op (.t 16) (.app 2 40) [.ts 13,.t 15],
 op (.v 2) .mv [.ts 16]]
def a69s11 : ACode := .reg [] a69r10
def a69s12 : ACode := .seq a69s9 a69s11
def a69s13 : ACode := .seq a69s7 a69s12
def a69s14 : ACode := .blk 1 a69s13
def a69s15 : ACode := .seq a69s5 a69s14
def a69s16 : ACode := .loop a69s15
def a69s17 : ACode := .blk 0 a69s16
def a69r18 : List AOper := [
 op (.t 17) .mv [.v 2],
 op (.v 1) .mv [.ts 17]]
def a69s19 : ACode := .reg [] a69r18
def a69s20 : ACode := .seq a69s19 .ret
def a69s21 : ACode := .seq a69s17 a69s20
def a69s22 : ACode := .seq a69s3 a69s21
def a69s23 : ACode := .seq a69s1 a69s22
def a69c : ACode :=
  a69s23
def a69 : AFn := { np := 1,nv := 4,results := [.v 1],code := a69c }
def a69v : List Nat := [0,2,3,4]
def a69b : List Nat := [3]

def a70r0 : List AOper := [
 ⟨.bx,.alloc [.int .u8 0,.int .i64 0,.str [],.list true [],.list true []],[],some 2,none⟩]
def a70s1 : ACode := .reg [2] a70r0
def a70r2 : List AOper := [
 op (.t 10) .mv [.v 0],
 op (.t 11) .nilchk [.t 10],
 op (.t 12) (.fad 0) [.t 11],
 op (.t 13) (.ldSt false 1) [.t 12],
 op (.t 14) .mv [.v 0],
 op (.t 15) .nilchk [.t 14],
 op (.t 16) (.fad 1) [.t 15],
 op (.t 17) (.ldSt false 1) [.t 16],
 op (.t 18) (.iad 4) [.t 13,.t 17],
 op (.t 19) (.ldRo true 4) [.t 18],
 ⟨.bx,.alloc [.int .u8 0,.str [],.int .i64 0,.int .i64 0],[],some 3,none⟩,
 ⟨.none,.stLc 3 4,[.l 3,.t 19],some 3,none⟩]
def a70s3 : ACode := .reg [3] a70r2
def a70r4 : List AOper := [
 op (.t 21) (.fad 0) [.l 3],
 ⟨.t 22,.ldLc 3 false 1,[.t 21],some 3,none⟩,
 op (.t 23) (.bin .eql) [.t 22,.c (.int .u8 2)],
 op (.t 20) .mv [.t 23]]
def a70r5 : List AOper := [
 op (.t 24) .mv [.v 0],
 op (.t 25) .nilchk [.t 24],
 op (.t 26) (.fad 1) [.t 25],
 op (.t 27) (.ldSt false 1) [.t 26],
 op (.t 28) (.bin .add) [.t 27,.c (.int .i64 1)],
 op (.t 29) .nilchk [.t 24],
 op (.t 30) (.fad 1) [.t 29],
 op .none (.stSt 1) [.t 30,.t 28]]
def a70s6 : ACode := .reg [] a70r5
def a70r7 : List AOper := [
 op (.t 31) (.fad 2) [.l 3],
 ⟨.t 32,.ldLc 3 false 1,[.t 31],some 3,none⟩,
 op (.t 33) (.build [.int .u8 0,.int .i64 0,.str [],.list true [],.list true []] [(0,1),(1,1)]) [.c (.int .u8 1),.t 32],
 ⟨.none,.stLc 2 5,[.l 2,.ts 33],some 2,none⟩]
def a70s8 : ACode := .reg [] a70r7
def a70s9 : ACode := .seq a70s8 .ret
def a70s10 : ACode := .seq a70s6 a70s9
def a70r11 : List AOper := [
 op (.t 35) (.fad 0) [.l 3],
 ⟨.t 36,.ldLc 3 false 1,[.t 35],some 3,none⟩,
 op (.t 37) (.bin .eql) [.t 36,.c (.int .u8 3)],
 op (.t 34) .mv [.t 37]]
def a70r12 : List AOper := [
 op (.t 38) .mv [.v 0],
 op (.t 39) .nilchk [.t 38],
 op (.t 40) (.fad 1) [.t 39],
 op (.t 41) (.ldSt false 1) [.t 40],
 op (.t 42) (.bin .add) [.t 41,.c (.int .i64 1)],
 op (.t 43) .nilchk [.t 38],
 op (.t 44) (.fad 1) [.t 43],
 op .none (.stSt 1) [.t 44,.t 42]]
def a70s13 : ACode := .reg [] a70r12
def a70r14 : List AOper := [
 op (.t 45) (.fad 1) [.l 3],
 ⟨.t 46,.ldLc 3 false 1,[.t 45],some 3,none⟩,
 op (.t 47) (.build [.int .u8 0,.int .i64 0,.str [],.list true [],.list true []] [(0,1),(2,1)]) [.c (.int .u8 2),.t 46],
 ⟨.none,.stLc 2 5,[.l 2,.ts 47],some 2,none⟩]
def a70s15 : ACode := .reg [] a70r14
def a70s16 : ACode := .seq a70s15 .ret
def a70s17 : ACode := .seq a70s13 a70s16
def a70r18 : List AOper := [
 op (.t 49) .mv [.v 0],
 op (.t 50) (.call 25) [.t 49,.c (.str [116,114,117,101])],
 op (.t 48) .mv [.t 50]]
def a70r19 : List AOper := [
 op (.t 51) (.build [.int .u8 0,.int .i64 0,.str [],.list true [],.list true []] [(0,1),(1,1)]) [.c (.int .u8 3),.c (.int .i64 1)],
 ⟨.none,.stLc 2 5,[.l 2,.ts 51],some 2,none⟩]
def a70s20 : ACode := .reg [] a70r19
def a70s21 : ACode := .seq a70s20 .ret
def a70r22 : List AOper := [
 op (.t 53) .mv [.v 0],
 op (.t 54) (.call 25) [.t 53,.c (.str [102,97,108,115,101])],
 op (.t 52) .mv [.t 54]]
def a70r23 : List AOper := [
 op (.t 55) (.build [.int .u8 0,.int .i64 0,.str [],.list true [],.list true []] [(0,1)]) [.c (.int .u8 3)],
 ⟨.none,.stLc 2 5,[.l 2,.ts 55],some 2,none⟩]
def a70s24 : ACode := .reg [] a70r23
def a70s25 : ACode := .seq a70s24 .ret
def a70r26 : List AOper := [
 op (.t 57) .mv [.v 0],
 op (.t 58) (.call 25) [.t 57,.c (.str [110,117,108,108])],
 op (.t 56) .mv [.t 58]]
def a70r27 : List AOper := [
 op (.t 59) (.build [.int .u8 0,.int .i64 0,.str [],.list true [],.list true []] []) [],
 ⟨.none,.stLc 2 5,[.l 2,.ts 59],some 2,none⟩]
def a70s28 : ACode := .reg [] a70r27
def a70s29 : ACode := .seq a70s28 .ret
def a70r30 : List AOper := [
 op (.t 61) (.fad 0) [.l 3],
 ⟨.t 62,.ldLc 3 false 1,[.t 61],some 3,none⟩,
 op (.t 63) (.bin .eql) [.t 62,.c (.int .u8 1)],
 op (.t 60) .mv [.t 63]]
def a70r31 : List AOper := [
 op (.t 64) .mv [.v 0],
 op (.t 65) .nilchk [.t 64],
 op (.t 66) (.fad 1) [.t 65],
 op (.t 67) (.ldSt false 1) [.t 66],
 op (.t 68) (.bin .add) [.t 67,.c (.int .i64 1)],
 op (.t 69) .nilchk [.t 64],
 op (.t 70) (.fad 1) [.t 69],
 op .none (.stSt 1) [.t 70,.t 68]]
def a70s32 : ACode := .reg [] a70r31
def a70r33 : List AOper := [
 op (.t 71) (.fad 1) [.l 3],
 ⟨.t 72,.ldLc 3 false 1,[.t 71],some 3,none⟩,
 op (.t 73) (.build [.int .u8 0,.int .i64 0,.str [],.list true [],.list true []] [(0,1),(2,1)]) [.c (.int .u8 4),.t 72],
 ⟨.none,.stLc 2 5,[.l 2,.ts 73],some 2,none⟩]
def a70s34 : ACode := .reg [] a70r33
def a70s35 : ACode := .seq a70s34 .ret
def a70s36 : ACode := .seq a70s32 a70s35
def a70r37 : List AOper := [
 op (.t 75) .mv [.v 0],
 op (.t 76) (.call 24) [.t 75,.c (.str [36])],
 op (.t 77) .mv [.t 76],
 ⟨.t 78,.mv,[.v 1],none,some (.t 77,true)⟩,
 ⟨.t 79,.un .not,[.t 78],none,some (.t 77,true)⟩,
 op (.t 80) .pick [.t 77,.t 79,.c (.bool false)],
 op (.t 74) .mv [.t 80]]
def a70r38 : List AOper := [
 op (.t 81) .mv [.v 0],
 op (.t 82) .nilchk [.t 81],
 op (.t 83) (.fad 1) [.t 82],
 op (.t 84) (.ldSt false 1) [.t 83],
 op (.t 85) (.bin .add) [.t 84,.c (.int .i64 1)],
 op (.t 86) .nilchk [.t 81],
 op (.t 87) (.fad 1) [.t 86],
 op .none (.stSt 1) [.t 87,.t 85]]
def a70s39 : ACode := .reg [] a70r38
def a70r40 : List AOper := [
 op (.t 88) .mv [.v 0],
 op (.t 89) (.call 21) [.t 88],
 op (.t 90) (.build [.int .u8 0,.int .i64 0,.str [],.list true [],.list true []] [(0,1),(2,1)]) [.c (.int .u8 7),.t 89],
 ⟨.none,.stLc 2 5,[.l 2,.ts 90],some 2,none⟩]
def a70s41 : ACode := .reg [] a70r40
def a70s42 : ACode := .seq a70s41 .ret
def a70s43 : ACode := .seq a70s39 a70s42
def a70r44 : List AOper := [
 op (.t 92) .mv [.v 0],
 op (.t 93) (.call 25) [.t 92,.c (.str [91])],
 op (.t 91) .mv [.t 93]]
def a70r45 : List AOper := [
 op (.t 94) (.build [.int .u8 0,.int .i64 0,.str [],.list true [],.list true []] [(0,1)]) [.c (.int .u8 5)],
 ⟨.bx,.alloc [.int .u8 0,.int .i64 0,.str [],.list true [],.list true []],[],some 4,none⟩,
 ⟨.none,.stLc 4 5,[.l 4,.ts 94],some 4,none⟩]
def a70s46 : ACode := .reg [4] a70r45
def a70r47 : List AOper := [
 op (.t 95) .mv [.v 0],
 op (.t 96) .nilchk [.t 95],
 op (.t 97) (.fad 4) [.t 96],
 op (.t 98) (.ldSt false 1) [.t 97],
 op (.t 99) (.bin .eql) [.t 98,.c (.int .i64 0)],
 op (.t 100) .mv [.t 99],
 ⟨.t 101,.mv,[.v 0],none,some (.t 100,true)⟩,
 ⟨.t 102,.call 25,[.t 101,.c (.str [93])],none,some (.t 100,true)⟩,
 ⟨.t 103,.un .not,[.t 102],none,some (.t 100,true)⟩,
 op (.t 104) .pick [.t 100,.t 103,.c (.bool false)]]
def a70s48 : ACode := .test [] a70r47 (.t 104) .skip (.exit 1)
def a70r49 : List AOper := [
 op (.t 105) .mv [.v 0],
 op (.t 106) .mv [.v 1],
 op (.t 107) (.call 42) [.t 105,.t 106],
 ⟨.bx,.alloc [.int .u8 0,.int .i64 0,.str [],.list true [],.list true []],[],some 5,none⟩,
 ⟨.none,.stLc 5 5,[.l 5,.ts 107],some 5,none⟩]
def a70s50 : ACode := .reg [5] a70r49
def a70r51 : List AOper := [
 op (.t 108) (.fad 4) [.l 4],
 ⟨.t 109,.ldLcS 4,[.t 108],some 4,none⟩,
 ⟨.t 110,.ldLc 5 true 5,[.l 5],some 5,none⟩,
 op (.t 111) (.bslice 5 [[.int .u8 0,.int .i64 0,.str [],.list true [],.list true []]] [0]) [.t 110],
 op (.t 112) (.app 5 80) [.ts 109,.t 111],
 op (.t 113) (.fad 4) [.l 4],
 ⟨.none,.stLc 4 1,[.t 113,.ts 112],some 4,none⟩]
def a70s52 : ACode := .reg [] a70r51
def a70s53 : ACode := .seq a70s50 a70s52
def a70s54 : ACode := .blk 2 a70s53
def a70s55 : ACode := .seq a70s48 a70s54
def a70s56 : ACode := .loop a70s55
def a70s57 : ACode := .blk 1 a70s56
def a70r58 : List AOper := [
 ⟨.t 114,.ldLc 4 true 5,[.l 4],some 4,none⟩,
 ⟨.none,.stLc 2 5,[.l 2,.ts 114],some 2,none⟩]
def a70s59 : ACode := .reg [] a70r58
def a70s60 : ACode := .seq a70s59 .ret
def a70s61 : ACode := .seq a70s57 a70s60
def a70s62 : ACode := .seq a70s46 a70s61
def a70r63 : List AOper := [
 op (.t 116) .mv [.v 0],
 op (.t 117) (.call 25) [.t 116,.c (.str [123])],
 op (.t 115) .mv [.t 117]]
def a70r64 : List AOper := [
 op (.t 118) (.build [.int .u8 0,.int .i64 0,.str [],.list true [],.list true []] [(0,1)]) [.c (.int .u8 6)],
 ⟨.bx,.alloc [.int .u8 0,.int .i64 0,.str [],.list true [],.list true []],[],some 6,none⟩,
 ⟨.none,.stLc 6 5,[.l 6,.ts 118],some 6,none⟩]
def a70s65 : ACode := .reg [6] a70r64
def a70r66 : List AOper := [
 op (.t 119) .mv [.v 0],
 op (.t 120) .nilchk [.t 119],
 op (.t 121) (.fad 4) [.t 120],
 op (.t 122) (.ldSt false 1) [.t 121],
 op (.t 123) (.bin .eql) [.t 122,.c (.int .i64 0)],
 op (.t 124) .mv [.t 123],
 ⟨.t 125,.mv,[.v 0],none,some (.t 124,true)⟩,
 ⟨.t 126,.call 25,[.t 125,.c (.str [125])],none,some (.t 124,true)⟩,
 ⟨.t 127,.un .not,[.t 126],none,some (.t 124,true)⟩,
 op (.t 128) .pick [.t 124,.t 127,.c (.bool false)]]
def a70s67 : ACode := .test [] a70r66 (.t 128) .skip (.exit 3)
def a70r68 : List AOper := [
 op (.t 129) (.fad 3) [.l 6],
 ⟨.t 130,.ldLcS 6,[.t 129],some 6,none⟩,
 op (.t 131) .mv [.v 0],
 op (.t 132) (.call 21) [.t 131],
 op (.t 133) (.bslice 1 [[.str []]] [0]) [.t 132],
 op (.t 134) (.app 1 16) [.ts 130,.t 133],
 op (.t 135) (.fad 3) [.l 6],
 ⟨.none,.stLc 6 1,[.t 135,.ts 134],some 6,none⟩]
def a70s69 : ACode := .reg [] a70r68
def a70r70 : List AOper := [
 op (.t 136) .mv [.v 0],
 op (.t 137) (.call 22) [.t 136,.c (.str [58])]]
def a70s71 : ACode := .reg [] a70r70
def a70r72 : List AOper := [
 op (.t 138) .mv [.v 0],
 op (.t 139) .mv [.v 1],
 op (.t 140) (.call 42) [.t 138,.t 139],
 ⟨.bx,.alloc [.int .u8 0,.int .i64 0,.str [],.list true [],.list true []],[],some 7,none⟩,
 ⟨.none,.stLc 7 5,[.l 7,.ts 140],some 7,none⟩]
def a70s73 : ACode := .reg [7] a70r72
def a70r74 : List AOper := [
 op (.t 141) (.fad 4) [.l 6],
 ⟨.t 142,.ldLcS 6,[.t 141],some 6,none⟩,
 ⟨.t 143,.ldLc 7 true 5,[.l 7],some 7,none⟩,
 op (.t 144) (.bslice 5 [[.int .u8 0,.int .i64 0,.str [],.list true [],.list true []]] [0]) [.t 143],
 op (.t 145) (.app 5 80) [.ts 142,.t 144],
 op (.t 146) (.fad 4) [.l 6],
 ⟨.none,.stLc 6 1,[.t 146,.ts 145],some 6,none⟩]
def a70s75 : ACode := .reg [] a70r74
def a70s76 : ACode := .seq a70s73 a70s75
def a70s77 : ACode := .seq a70s71 a70s76
def a70s78 : ACode := .seq a70s69 a70s77
def a70s79 : ACode := .blk 4 a70s78
def a70s80 : ACode := .seq a70s67 a70s79
def a70s81 : ACode := .loop a70s80
def a70s82 : ACode := .blk 3 a70s81
def a70r83 : List AOper := [
 ⟨.t 147,.ldLc 6 true 5,[.l 6],some 6,none⟩,
 ⟨.none,.stLc 2 5,[.l 2,.ts 147],some 2,none⟩]
def a70s84 : ACode := .reg [] a70r83
def a70s85 : ACode := .seq a70s84 .ret
def a70s86 : ACode := .seq a70s82 a70s85
def a70s87 : ACode := .seq a70s65 a70s86
def a70s88 : ACode := .test [] a70r63 (.t 115) a70s87 .skip
def a70s89 : ACode := .test [] a70r44 (.t 91) a70s62 a70s88
def a70s90 : ACode := .test [] a70r37 (.t 74) a70s43 a70s89
def a70s91 : ACode := .test [] a70r30 (.t 60) a70s36 a70s90
def a70s92 : ACode := .test [] a70r26 (.t 56) a70s29 a70s91
def a70s93 : ACode := .test [] a70r22 (.t 52) a70s25 a70s92
def a70s94 : ACode := .test [] a70r18 (.t 48) a70s21 a70s93
def a70s95 : ACode := .test [] a70r11 (.t 34) a70s17 a70s94
def a70s96 : ACode := .test [] a70r4 (.t 20) a70s10 a70s95
def a70s97 : ACode := .blk 0 a70s96
def a70r98 : List AOper := [
 op (.t 148) .mv [.v 0],
 op (.t 149) (.call 20) [.t 148,.c (.int .i64 4)]]
def a70s99 : ACode := .reg [] a70r98
def a70r100 : List AOper := [
 op (.t 150) (.build [.int .u8 0,.int .i64 0,.str [],.list true [],.list true []] []) [],
 ⟨.none,.stLc 2 5,[.l 2,.ts 150],some 2,none⟩]
def a70s101 : ACode := .reg [] a70r100
def a70s102 : ACode := .seq a70s101 .ret
def a70s103 : ACode := .seq a70s99 a70s102
def a70s104 : ACode := .seq a70s97 a70s103
def a70s105 : ACode := .seq a70s3 a70s104
def a70s106 : ACode := .seq a70s1 a70s105
def a70c : ACode :=
  a70s106
def a70 : AFn := { np := 2,nv := 8,results := [.bx 2 true 5],code := a70c }
def a70v : List Nat := [0,1,4,5,6,7,8,9]
def a70b : List Nat := [2,3,4,5,6,7]

def a71r0 : List AOper := [
 op (.v 2) .mv [.c (.list true [])]]
def a71s1 : ACode := .reg [] a71r0
def a71r2 : List AOper := [
 op (.t 6) .mv [.v 0],
 op (.t 7) .mv [.v 1],
 op (.t 8) (.call 25) [.t 6,.t 7]]
def a71s3 : ACode := .reg [] a71r2
def a71r4 : List AOper := [
 op (.t 9) .mv [.v 0],
 op (.t 10) (.call 21) [.t 9],
 op (.t 11) (.bslice 1 [[.str []]] [0]) [.t 10],
 op (.v 3) .mv [.ts 11]]
def a71s5 : ACode := .reg [] a71r4
def a71r6 : List AOper := [
 op (.t 12) .mv [.v 0],
 op (.t 13) .mv [.v 1],
 op (.t 14) (.call 25) [.t 12,.t 13]]
def a71s7 : ACode := .test [] a71r6 (.t 14) .skip (.exit 0)
def a71r8 : List AOper := [
 op (.t 15) .mv [.vs 3],
 op (.t 16) .mv [.v 0],
 op (.t 17) (.call 21) [.t 16],
 op (.t 18) (.bslice 1 [[.str []]] [0]) [.t 17],
 op (.t 19) (.app 1 16) [.ts 15,.t 18],
 op (.v 3) .mv [.ts 19]]
def a71s9 : ACode := .reg [] a71r8
def a71s10 : ACode := .blk 1 a71s9
def a71s11 : ACode := .seq a71s7 a71s10
def a71s12 : ACode := .loop a71s11
def a71s13 : ACode := .blk 0 a71s12
def a71r14 : List AOper := [
 op (.t 20) .mv [.v 3],
 op (.v 2) .mv [.ts 20]]
def a71s15 : ACode := .reg [] a71r14
def a71s16 : ACode := .seq a71s15 .ret
def a71s17 : ACode := .seq a71s13 a71s16
def a71s18 : ACode := .seq a71s5 a71s17
def a71s19 : ACode := .seq a71s3 a71s18
def a71s20 : ACode := .seq a71s1 a71s19
def a71c : ACode :=
  a71s20
def a71 : AFn := { np := 2,nv := 4,results := [.v 2],code := a71c }
def a71v : List Nat := [0,1,4,5]
def a71b : List Nat := []

def a72r0 : List AOper := [
 op (.v 2) .mv [.c (.list true [])]]
def a72s1 : ACode := .reg [] a72r0
def a72r2 : List AOper := [
 op (.v 3) .mv [.c (.list true [])]]
def a72s3 : ACode := .reg [] a72r2
def a72r4 : List AOper := [
 op (.v 4) .mv [.c (.bool true)]]
def a72s5 : ACode := .reg [] a72r4
def a72r6 : List AOper := [
 op (.t 8) .mv [.v 0],
 op (.t 9) .nilchk [.t 8],
 op (.t 10) (.fad 4) [.t 9],
 op (.t 11) (.ldSt false 1) [.t 10],
 op (.t 12) (.bin .eql) [.t 11,.c (.int .i64 0)],
 op (.t 13) .mv [.t 12],
 ⟨.t 14,.mv,[.v 4],none,some (.t 13,true)⟩,
 ⟨.t 15,.mv,[.t 14],none,some (.t 13,true)⟩,
 ⟨.t 16,.mv,[.v 0],none,some (.t 15,false)⟩,
 ⟨.t 17,.mv,[.v 1],none,some (.t 15,false)⟩,
 ⟨.t 18,.call 25,[.t 16,.t 17],none,some (.t 15,false)⟩,
 ⟨.t 19,.un .not,[.t 18],none,some (.t 15,false)⟩,
 ⟨.t 20,.pick,[.t 15,.c (.bool true),.t 19],none,some (.t 13,true)⟩,
 op (.t 21) .pick [.t 13,.t 20,.c (.bool false)]]
def a72s7 : ACode := .test [] a72r6 (.t 21) .skip (.exit 0)
def a72r8 : List AOper := [
 op (.t 22) .mv [.v 0],
 op (.t 23) (.call 21) [.t 22],
 op (.t 24) (.build [.str [],.list true [],.str [],.list true [],.bool false,.bool false,.int .u8 0,.int .i64 0,.str [],.list true [],.list true []] [(0,1)]) [.t 23],
 ⟨.bx,.alloc [.str [],.list true [],.str [],.list true [],.bool false,.bool false,.int .u8 0,.int .i64 0,.str [],.list true [],.list true []],[],some 5,none⟩,
 ⟨.none,.stLc 5 11,[.l 5,.ts 24],some 5,none⟩]
def a72s9 : ACode := .reg [5] a72r8
def a72r10 : List AOper := [
 op (.t 25) .mv [.v 0],
 op (.t 26) (.call 22) [.t 25,.c (.str [58])]]
def a72s11 : ACode := .reg [] a72r10
def a72r12 : List AOper := [
 op (.t 27) .mv [.v 0],
 op (.t 28) (.call 41) [.t 27],
 op (.t 29) (.fad 2) [.l 5],
 ⟨.none,.stLc 5 3,[.t 29,.ts 28],some 5,none⟩]
def a72s13 : ACode := .reg [] a72r12
def a72r14 : List AOper := [
 op (.t 30) .mv [.v 0],
 op (.t 31) (.call 25) [.t 30,.c (.str [61])]]
def a72r15 : List AOper := [
 op (.t 32) (.fad 5) [.l 5],
 ⟨.none,.stLc 5 1,[.t 32,.c (.bool true)],some 5,none⟩]
def a72s16 : ACode := .reg [] a72r15
def a72r17 : List AOper := [
 op (.t 33) .mv [.v 0],
 op (.t 34) (.call 42) [.t 33,.c (.bool true)],
 op (.t 35) (.fad 6) [.l 5],
 ⟨.none,.stLc 5 5,[.t 35,.ts 34],some 5,none⟩]
def a72s18 : ACode := .reg [] a72r17
def a72s19 : ACode := .seq a72s16 a72s18
def a72s20 : ACode := .test [] a72r14 (.t 31) a72s19 .skip
def a72r21 : List AOper := [
 op (.t 36) .mv [.vs 3],
 ⟨.t 37,.ldLc 5 true 11,[.l 5],some 5,none⟩,
 op (.t 38) (.bslice 11 [[.str [],.list true [],.str [],.list true [],.bool false,.bool false,.int .u8 0,.int .i64 0,.str [],.list true [],.list true []]] [0]) [.t 37],
 op (.t 39) (.app 11 176) [.ts 36,.t 38],
 op (.v 3) .mv [.ts 39]]
def a72s22 : ACode := .reg [] a72r21
def a72s23 : ACode := .seq a72s20 a72s22
def a72s24 : ACode := .seq a72s13 a72s23
def a72s25 : ACode := .seq a72s11 a72s24
def a72s26 : ACode := .seq a72s9 a72s25
def a72s27 : ACode := .blk 1 a72s26
def a72r28 : List AOper := [
 op (.v 4) .mv [.c (.bool false)]]
def a72s29 : ACode := .reg [] a72r28
def a72s30 : ACode := .seq a72s27 a72s29
def a72s31 : ACode := .seq a72s7 a72s30
def a72s32 : ACode := .loop a72s31
def a72s33 : ACode := .blk 0 a72s32
def a72s34 : ACode := .seq a72s5 a72s33
def a72r35 : List AOper := [
 op (.t 40) .mv [.v 3],
 op (.v 2) .mv [.ts 40]]
def a72s36 : ACode := .reg [] a72r35
def a72s37 : ACode := .seq a72s36 .ret
def a72s38 : ACode := .seq a72s34 a72s37
def a72s39 : ACode := .seq a72s3 a72s38
def a72s40 : ACode := .seq a72s1 a72s39
def a72c : ACode :=
  a72s40
def a72 : AFn := { np := 2,nv := 6,results := [.v 2],code := a72c }
def a72v : List Nat := [0,1,4,5,6,7]
def a72b : List Nat := [5]

def a73r0 : List AOper := [
 op (.v 2) .mv [.c (.int .i64 0)]]
def a73s1 : ACode := .reg [] a73r0
def a73r2 : List AOper := [
 op (.t 6) .mv [.v 0],
 op (.v 4) .lenL [.t 6],
 op (.v 5) .mv [.c (.int .i64 0)]]
def a73s3 : ACode := .reg [] a73r2
def a73r4 : List AOper := [
 op (.t 9) (.bin .lss) [.v 5,.v 4]]
def a73s5 : ACode := .test [] a73r4 (.t 9) .skip (.exit 0)
def a73r6 : List AOper := [
 op (.t 10) .mv [.v 5],
 op (.v 3) .mv [.t 10]]
def a73s7 : ACode := .reg [] a73r6
def a73r8 : List AOper := [
 op (.t 11) .mv [.v 1],
 op (.t 12) .mv [.v 0],
 op (.t 13) .mv [.v 3],
 op (.t 14) (.iad 1) [.t 12,.t 13],
 op (.t 15) (.ldRo false 1) [.t 14],
 op (.t 16) (.bin .eql) [.t 11,.t 15]]
def a73r9 : List AOper := [
 op (.t 17) .mv [.v 3],
 op (.v 2) .mv [.t 17]]
def a73s10 : ACode := .reg [] a73r9
def a73s11 : ACode := .seq a73s10 .ret
def a73s12 : ACode := .test [] a73r8 (.t 16) a73s11 .skip
def a73s13 : ACode := .seq a73s7 a73s12
def a73s14 : ACode := .blk 1 a73s13
def a73r15 : List AOper := [
 op (.t 18) (.bin .add) [.v 5,.c (.int .i64 1)],
 op (.v 5) .mv [.t 18]]
def a73s16 : ACode := .reg [] a73r15
def a73s17 : ACode := .seq a73s14 a73s16
def a73s18 : ACode := .seq a73s5 a73s17
def a73s19 : ACode := .loop a73s18
def a73s20 : ACode := .blk 0 a73s19
def a73s21 : ACode := .seq a73s3 a73s20
def a73r22 : List AOper := [
 op (.v 2) .mv [.c (.int .i64 (-1))]]
def a73s23 : ACode := .reg [] a73r22
def a73s24 : ACode := .seq a73s23 .ret
def a73s25 : ACode := .seq a73s21 a73s24
def a73s26 : ACode := .seq a73s1 a73s25
def a73c : ACode :=
  a73s26
def a73 : AFn := { np := 2,nv := 6,results := [.v 2],code := a73c }
def a73v : List Nat := [0,1,4,5,7,8]
def a73b : List Nat := []

def a74r0 : List AOper := [
 op (.v 2) .mv [.c (.bool false)]]
def a74s1 : ACode := .reg [] a74r0
def a74r2 : List AOper := [
 op (.t 5) .mv [.v 0],
 op (.t 6) .lenS [.t 5],
 op (.t 7) .mv [.v 1],
 op (.t 8) .lenS [.t 7],
 op (.t 9) (.bin .geq) [.t 6,.t 8],
 op (.t 10) .mv [.t 9],
 ⟨.t 11,.mv,[.v 0],none,some (.t 10,true)⟩,
 ⟨.t 12,.mv,[.v 1],none,some (.t 10,true)⟩,
 ⟨.t 13,.lenS,[.t 12],none,some (.t 10,true)⟩,
 ⟨.t 14,.slS false true,[.t 11,.t 13],none,some (.t 10,true)⟩,
 ⟨.t 15,.mv,[.v 1],none,some (.t 10,true)⟩,
 ⟨.t 16,.bin .eql,[.t 14,.t 15],none,some (.t 10,true)⟩,
 op (.t 17) .pick [.t 10,.t 16,.c (.bool false)],
 op (.v 2) .mv [.t 17]]
def a74s3 : ACode := .reg [] a74r2
def a74s4 : ACode := .seq a74s3 .ret
def a74s5 : ACode := .seq a74s1 a74s4
def a74c : ACode :=
  a74s5
def a74 : AFn := { np := 2,nv := 3,results := [.v 2],code := a74c }
def a74v : List Nat := [0,1,4]
def a74b : List Nat := []

def a75r0 : List AOper := [
 ⟨.bx,.alloc [.int .i64 0,.str []],[],some 1,none⟩]
def a75s1 : ACode := .reg [1] a75r0
def a75r2 : List AOper := [
 op (.v 4) .mv [.v 0],
 op (.v 5) .lenL [.v 4],
 op (.v 6) .mv [.c (.int .i64 0)]]
def a75s3 : ACode := .reg [] a75r2
def a75r4 : List AOper := [
 op (.t 8) (.bin .lss) [.v 6,.v 5]]
def a75s5 : ACode := .test [] a75r4 (.t 8) .skip (.exit 0)
def a75r6 : List AOper := [
 op (.t 9) .mv [.v 6],
 op (.t 10) (.iad 1) [.v 4,.v 6],
 op (.t 11) (.ldRo false 1) [.t 10],
 op (.v 2) .mv [.t 9],
 op (.v 3) .mv [.t 11]]
def a75s7 : ACode := .reg [] a75r6
def a75r8 : List AOper := [
 op (.t 12) .mv [.v 0],
 op (.t 13) .mv [.v 2],
 op (.t 14) (.slL 1 false true) [.t 12,.t 13],
 op (.t 15) .mv [.v 3],
 op (.t 16) (.call 45) [.t 14,.t 15]]
def a75r9 : List AOper := [
 op (.t 17) .mv [.v 3],
 op (.t 18) (.build [.int .i64 0,.str []] [(0,1),(1,1)]) [.c (.int .i64 7),.t 17],
 ⟨.none,.stLc 1 2,[.l 1,.t 18],some 1,none⟩]
def a75s10 : ACode := .reg [] a75r9
def a75s11 : ACode := .seq a75s10 .ret
def a75s12 : ACode := .test [] a75r8 (.t 16) a75s11 .skip
def a75r13 : List AOper := [
 op (.t 19) .mv [.v 3],
 op (.t 20) (.call 46) [.t 19,.c (.str [95,95])]]
def a75r14 : List AOper := [
 op (.t 21) .mv [.v 3],
 op (.t 22) (.build [.int .i64 0,.str []] [(0,1),(1,1)]) [.c (.int .i64 1),.t 21],
 ⟨.none,.stLc 1 2,[.l 1,.t 22],some 1,none⟩]
def a75s15 : ACode := .reg [] a75r14
def a75s16 : ACode := .seq a75s15 .ret
def a75s17 : ACode := .test [] a75r13 (.t 20) a75s16 .skip
def a75s18 : ACode := .seq a75s12 a75s17
def a75s19 : ACode := .seq a75s7 a75s18
def a75s20 : ACode := .blk 1 a75s19
def a75r21 : List AOper := [
 op (.t 23) (.bin .add) [.v 6,.c (.int .i64 1)],
 op (.v 6) .mv [.t 23]]
def a75s22 : ACode := .reg [] a75r21
def a75s23 : ACode := .seq a75s20 a75s22
def a75s24 : ACode := .seq a75s5 a75s23
def a75s25 : ACode := .loop a75s24
def a75s26 : ACode := .blk 0 a75s25
def a75s27 : ACode := .seq a75s3 a75s26
def a75r28 : List AOper := [
 op (.t 24) (.build [.int .i64 0,.str []] []) [],
 ⟨.none,.stLc 1 2,[.l 1,.t 24],some 1,none⟩]
def a75s29 : ACode := .reg [] a75r28
def a75s30 : ACode := .seq a75s29 .ret
def a75s31 : ACode := .seq a75s27 a75s30
def a75s32 : ACode := .seq a75s1 a75s31
def a75c : ACode :=
  a75s32
def a75 : AFn := { np := 1,nv := 7,results := [.bx 1 true 2],code := a75c }
def a75v : List Nat := [0,2,3,4,5,6,7]
def a75b : List Nat := [1]

def a76r0 : List AOper := [
 op (.v 1) .mv [.c (.list true [])]]
def a76s1 : ACode := .reg [] a76r0
def a76r2 : List AOper := [
 op (.v 2) .mv [.c (.list true [])]]
def a76s3 : ACode := .reg [] a76r2
def a76r4 : List AOper := [
 op (.v 4) .mv [.v 0],
 op (.v 5) .lenL [.v 4],
 op (.v 6) .mv [.c (.int .i64 0)]]
def a76s5 : ACode := .reg [] a76r4
def a76r6 : List AOper := [
 op (.t 9) (.bin .lss) [.v 6,.v 5]]
def a76s7 : ACode := .test [] a76r6 (.t 9) .skip (.exit 0)
def a76r8 : List AOper := [
 op (.t 10) (.iad 11) [.v 4,.v 6],
 op (.t 11) (.ldRo true 11) [.t 10],
 ⟨.bx,.alloc [.str [],.list true [],.str [],.list true [],.bool false,.bool false,.int .u8 0,.int .i64 0,.str [],.list true [],.list true []],[],some 3,none⟩,
 ⟨.none,.stLc 3 11,[.l 3,.ts 11],some 3,none⟩]
def a76s9 : ACode := .reg [3] a76r8
def a76r10 : List AOper := [
 op (.t 12) .mv [.vs 2],
 op (.t 13) (.fad 0) [.l 3],
 ⟨.t 14,.ldLc 3 false 1,[.t 13],some 3,none⟩,
 op (.t 15) (.bslice 1 [[.str []]] [0]) [.t 14],
 op (.t 16) (.app 1 16) [.ts 12,.t 15],
 op (.v 2) .mv [.ts 16]]
def a76s11 : ACode := .reg [] a76r10
def a76s12 : ACode := .seq a76s9 a76s11
def a76s13 : ACode := .blk 1 a76s12
def a76r14 : List AOper := [
 op (.t 17) (.bin .add) [.v 6,.c (.int .i64 1)],
 op (.v 6) .mv [.t 17]]
def a76s15 : ACode := .reg [] a76r14
def a76s16 : ACode := .seq a76s13 a76s15
def a76s17 : ACode := .seq a76s7 a76s16
def a76s18 : ACode := .loop a76s17
def a76s19 : ACode := .blk 0 a76s18
def a76s20 : ACode := .seq a76s5 a76s19
def a76r21 : List AOper := [
 op (.t 18) .mv [.vs 2],
 op (.v 1) .mv [.ts 18]]
def a76s22 : ACode := .reg [] a76r21
def a76s23 : ACode := .seq a76s22 .ret
def a76s24 : ACode := .seq a76s20 a76s23
def a76s25 : ACode := .seq a76s3 a76s24
def a76s26 : ACode := .seq a76s1 a76s25
def a76c : ACode :=
  a76s26
def a76 : AFn := { np := 1,nv := 7,results := [.vs 1],code := a76c }
def a76v : List Nat := [0,2,3,5,6,7,8]
def a76b : List Nat := [3]

def a77r0 : List AOper := [
 ⟨.bx,.boxV,[.v 1],some 3,none⟩,
 ⟨.bx,.alloc [.int .i64 0,.str []],[],some 4,none⟩]
def a77s1 : ACode := .reg [3,4] a77r0
def a77r2 : List AOper := [
 op (.t 15) (.fad 2) [.l 3],
 ⟨.t 16,.ldLc 3 true 3,[.t 15],some 3,none⟩,
 op (.t 17) (.call 102) [.t 16],
 op (.v 5) .mv [.t 17]]
def a77s3 : ACode := .reg [] a77r2
def a77r4 : List AOper := [
 op (.t 19) .mv [.v 0],
 op (.t 20) .mv [.v 5],
 op (.t 21) (.call 48) [.t 19,.t 20],
 op (.t 18) .mv [.t 21],
 op (.t 22) (.ext 0) [.t 18],
 op (.t 23) (.ext 1) [.t 18],
 ⟨.bx,.alloc [.int .u8 0,.str [],.list true [],.list true []],[],some 6,none⟩,
 ⟨.none,.stLc 6 4,[.l 6,.ts 22],some 6,none⟩,
 op (.v 7) .mv [.t 23]]
def a77s5 : ACode := .reg [6] a77r4
def a77r6 : List AOper := [
 op (.t 25) .mv [.v 7],
 op (.t 26) (.un .not) [.t 25],
 op (.t 27) .mv [.t 26],
 ⟨.t 28,.mv,[.v 0],none,some (.t 27,true)⟩,
 ⟨.t 29,.mv,[.v 5],none,some (.t 27,true)⟩,
 ⟨.t 30,.call 103,[.t 28,.t 29],none,some (.t 27,true)⟩,
 ⟨.t 31,.un .not,[.t 30],none,some (.t 27,true)⟩,
 op (.t 32) .pick [.t 27,.t 31,.c (.bool false)],
 op (.t 24) .mv [.t 32]]
def a77r7 : List AOper := [
 op (.t 33) .mv [.v 5],
 op (.t 34) (.build [.int .i64 0,.str []] [(0,1),(1,1)]) [.c (.int .i64 6),.t 33],
 ⟨.none,.stLc 4 2,[.l 4,.t 34],some 4,none⟩]
def a77s8 : ACode := .reg [] a77r7
def a77s9 : ACode := .seq a77s8 .ret
def a77r10 : List AOper := [
 op (.t 36) .mv [.v 2],
 op (.t 37) .mv [.t 36],
 ⟨.t 38,.mv,[.v 0],none,some (.t 37,true)⟩,
 ⟨.t 39,.mv,[.v 5],none,some (.t 37,true)⟩,
 ⟨.t 40,.call 103,[.t 38,.t 39],none,some (.t 37,true)⟩,
 ⟨.t 41,.un .not,[.t 40],none,some (.t 37,true)⟩,
 op (.t 42) .pick [.t 37,.t 41,.c (.bool false)],
 op (.t 43) .mv [.t 42],
 ⟨.t 44,.mv,[.v 0],none,some (.t 43,true)⟩,
 ⟨.t 45,.mv,[.v 5],none,some (.t 43,true)⟩,
 ⟨.t 46,.call 104,[.t 44,.t 45],none,some (.t 43,true)⟩,
 ⟨.t 47,.un .not,[.t 46],none,some (.t 43,true)⟩,
 op (.t 48) .pick [.t 43,.t 47,.c (.bool false)],
 op (.v 12) .mv [.t 48]]
def a77r11 : List AOper := [
 op (.t 49) .mv [.v 2],
 op (.t 50) (.un .not) [.t 49],
 op (.t 51) .mv [.t 50],
 ⟨.t 52,.mv,[.v 0],none,some (.t 51,true)⟩,
 ⟨.t 53,.mv,[.v 5],none,some (.t 51,true)⟩,
 ⟨.t 54,.call 105,[.t 52,.t 53],none,some (.t 51,true)⟩,
 op (.t 55) .pick [.t 51,.t 54,.c (.bool false)],
 op (.v 12) .mv [.t 55]]
def a77r12 : List AOper := [
 op (.t 56) .mv [.v 5],
 op (.t 57) (.call 78) [.t 56],
 op (.v 12) .mv [.t 57]]
def a77s13 : ACode := .reg [] a77r12
def a77s14 : ACode := .test [] a77r11 (.v 12) .skip a77s13
def a77s15 : ACode := .test [] a77r10 (.v 12) .skip a77s14
def a77r16 : List AOper := [
 op (.t 58) .mv [.v 5],
 op (.t 59) (.build [.int .i64 0,.str []] [(0,1),(1,1)]) [.c (.int .i64 8),.t 58],
 ⟨.none,.stLc 4 2,[.l 4,.t 59],some 4,none⟩]
def a77s17 : ACode := .reg [] a77r16
def a77s18 : ACode := .seq a77s17 .ret
def a77r19 : List AOper := [
 op (.t 61) (.fad 5) [.l 3],
 ⟨.t 62,.ldLc 3 false 1,[.t 61],some 3,none⟩,
 op (.t 63) .mv [.t 62],
 ⟨.t 64,.mv,[.v 0],none,some (.t 63,true)⟩,
 ⟨.t 65,.fad 2,[.l 3],none,some (.t 63,true)⟩,
 ⟨.t 66,.ldLc 3 true 3,[.t 65],some 3,some (.t 63,true)⟩,
 ⟨.t 67,.fad 6,[.l 3],none,some (.t 63,true)⟩,
 ⟨.t 68,.ldLc 3 true 5,[.t 67],some 3,some (.t 63,true)⟩,
 ⟨.t 69,.call 106,[.t 64,.t 66,.t 68],none,some (.t 63,true)⟩,
 ⟨.t 70,.un .not,[.t 69],none,some (.t 63,true)⟩,
 op (.t 71) .pick [.t 63,.t 70,.c (.bool false)],
 op (.t 60) .mv [.t 71]]
def a77r20 : List AOper := [
 op (.t 72) (.fad 0) [.l 3],
 ⟨.t 73,.ldLc 3 false 1,[.t 72],some 3,none⟩,
 op (.t 74) (.build [.int .i64 0,.str []] [(0,1),(1,1)]) [.c (.int .i64 8),.t 73],
 ⟨.none,.stLc 4 2,[.l 4,.t 74],some 4,none⟩]
def a77s21 : ACode := .reg [] a77r20
def a77s22 : ACode := .seq a77s21 .ret
def a77s23 : ACode := .test [] a77r19 (.t 60) a77s22 .skip
def a77s24 : ACode := .test [] [] (.v 12) a77s18 a77s23
def a77s25 : ACode := .seq a77s15 a77s24
def a77s26 : ACode := .test [] a77r6 (.t 24) a77s9 a77s25
def a77s27 : ACode := .blk 0 a77s26
def a77r28 : List AOper := [
 op (.t 75) (.fad 1) [.l 3],
 ⟨.t 76,.ldLc 3 false 1,[.t 75],some 3,none⟩,
 op (.t 77) (.call 76) [.t 76],
 op (.t 78) (.call 75) [.t 77],
 ⟨.bx,.alloc [.int .i64 0,.str []],[],some 8,none⟩,
 ⟨.none,.stLc 8 2,[.l 8,.t 78],some 8,none⟩]
def a77s29 : ACode := .reg [8] a77r28
def a77r30 : List AOper := [
 op (.t 79) (.fad 0) [.l 8],
 ⟨.t 80,.ldLc 8 false 1,[.t 79],some 8,none⟩,
 op (.t 81) (.bin .neq) [.t 80,.c (.int .i64 0)]]
def a77r31 : List AOper := [
 ⟨.t 82,.ldLc 8 true 2,[.l 8],some 8,none⟩,
 ⟨.none,.stLc 4 2,[.l 4,.t 82],some 4,none⟩]
def a77s32 : ACode := .reg [] a77r31
def a77s33 : ACode := .seq a77s32 .ret
def a77s34 : ACode := .test [] a77r30 (.t 81) a77s33 .skip
def a77s35 : ACode := .seq a77s29 a77s34
def a77r36 : List AOper := [
 op (.t 83) (.fad 1) [.l 3],
 ⟨.v 13,.ldLc 3 false 1,[.t 83],some 3,none⟩,
 op (.v 14) .lenL [.v 13],
 op (.v 15) .mv [.c (.int .i64 0)]]
def a77s37 : ACode := .reg [] a77r36
def a77r38 : List AOper := [
 op (.t 87) (.bin .lss) [.v 15,.v 14]]
def a77s39 : ACode := .test [] a77r38 (.t 87) .skip (.exit 1)
def a77r40 : List AOper := [
 op (.t 88) (.iad 11) [.v 13,.v 15],
 op (.t 89) (.ldRo true 11) [.t 88],
 ⟨.bx,.alloc [.str [],.list true [],.str [],.list true [],.bool false,.bool false,.int .u8 0,.int .i64 0,.str [],.list true [],.list true []],[],some 9,none⟩,
 ⟨.none,.stLc 9 11,[.l 9,.ts 89],some 9,none⟩]
def a77s41 : ACode := .reg [9] a77r40
def a77r42 : List AOper := [
 op (.t 90) (.fad 2) [.l 9],
 ⟨.t 91,.ldLc 9 true 3,[.t 90],some 9,none⟩,
 op (.t 92) (.call 102) [.t 91],
 op (.v 10) .mv [.t 92]]
def a77s43 : ACode := .reg [] a77r42
def a77r44 : List AOper := [
 op (.t 101) .mv [.v 0],
 op (.t 102) .mv [.v 10],
 op (.t 103) (.call 105) [.t 101,.t 102],
 op (.t 100) .mv [.t 103]]
def a77r45 : List AOper := [
 op (.t 104) (.fad 5) [.l 9],
 ⟨.t 105,.ldLc 9 false 1,[.t 104],some 9,none⟩]
def a77r46 : List AOper := [
 op (.t 106) (.fad 0) [.l 9],
 ⟨.t 107,.ldLc 9 false 1,[.t 106],some 9,none⟩,
 op (.t 108) (.build [.int .i64 0,.str []] [(0,1),(1,1)]) [.c (.int .i64 8),.t 107],
 ⟨.none,.stLc 4 2,[.l 4,.t 108],some 4,none⟩]
def a77s47 : ACode := .reg [] a77r46
def a77s48 : ACode := .seq a77s47 .ret
def a77s49 : ACode := .test [] a77r45 (.t 105) a77s48 .skip
def a77r50 : List AOper := [
 op (.t 93) .mv [.v 0],
 ⟨.t 94,.ldLc 9 true 11,[.l 9],some 9,none⟩,
 op (.t 95) (.call 77) [.t 93,.t 94,.c (.bool true)],
 ⟨.bx,.alloc [.int .i64 0,.str []],[],some 11,none⟩,
 ⟨.none,.stLc 11 2,[.l 11,.t 95],some 11,none⟩]
def a77s51 : ACode := .reg [11] a77r50
def a77r52 : List AOper := [
 op (.t 96) (.fad 0) [.l 11],
 ⟨.t 97,.ldLc 11 false 1,[.t 96],some 11,none⟩,
 op (.t 98) (.bin .neq) [.t 97,.c (.int .i64 0)]]
def a77r53 : List AOper := [
 ⟨.t 99,.ldLc 11 true 2,[.l 11],some 11,none⟩,
 ⟨.none,.stLc 4 2,[.l 4,.t 99],some 4,none⟩]
def a77s54 : ACode := .reg [] a77r53
def a77s55 : ACode := .seq a77s54 .ret
def a77s56 : ACode := .test [] a77r52 (.t 98) a77s55 .skip
def a77s57 : ACode := .seq a77s51 a77s56
def a77s58 : ACode := .test [] a77r44 (.t 100) a77s49 a77s57
def a77s59 : ACode := .blk 3 a77s58
def a77s60 : ACode := .seq a77s43 a77s59
def a77s61 : ACode := .seq a77s41 a77s60
def a77s62 : ACode := .blk 2 a77s61
def a77r63 : List AOper := [
 op (.t 109) (.bin .add) [.v 15,.c (.int .i64 1)],
 op (.v 15) .mv [.t 109]]
def a77s64 : ACode := .reg [] a77r63
def a77s65 : ACode := .seq a77s62 a77s64
def a77s66 : ACode := .seq a77s39 a77s65
def a77s67 : ACode := .loop a77s66
def a77s68 : ACode := .blk 1 a77s67
def a77s69 : ACode := .seq a77s37 a77s68
def a77r70 : List AOper := [
 op (.t 110) (.build [.int .i64 0,.str []] []) [],
 ⟨.none,.stLc 4 2,[.l 4,.t 110],some 4,none⟩]
def a77s71 : ACode := .reg [] a77r70
def a77s72 : ACode := .seq a77s71 .ret
def a77s73 : ACode := .seq a77s69 a77s72
def a77s74 : ACode := .seq a77s35 a77s73
def a77s75 : ACode := .seq a77s27 a77s74
def a77s76 : ACode := .seq a77s5 a77s75
def a77s77 : ACode := .seq a77s3 a77s76
def a77s78 : ACode := .seq a77s1 a77s77
def a77c : ACode :=
  a77s78
def a77 : AFn := { np := 3,nv := 16,results := [.bx 4 true 2],code := a77c }
def a77v : List Nat := [0,1,2,4,6,7,8,9,10,12,13,14,35,84,85,86]
def a77b : List Nat := [3,4,6,8,9,11]

def a78r0 : List AOper := [
 op (.v 1) .mv [.c (.bool false)]]
def a78s1 : ACode := .reg [] a78r0
def a78r2 : List AOper := [
 op (.t 3) .mv [.v 0],
 op (.t 4) (.bin .eql) [.t 3,.c (.str [81,117,101,114,121])],
 op (.t 5) .mv [.t 4],
 ⟨.t 6,.mv,[.v 0],none,some (.t 5,false)⟩,
 ⟨.t 7,.bin .eql,[.t 6,.c (.str [77,117,116,97,116,105,111,110])],none,some (.t 5,false)⟩,
 op (.t 8) .pick [.t 5,.c (.bool true),.t 7],
 op (.v 1) .mv [.t 8]]
def a78s3 : ACode := .reg [] a78r2
def a78s4 : ACode := .seq a78s3 .ret
def a78s5 : ACode := .seq a78s1 a78s4
def a78c : ACode :=
  a78s5
def a78 : AFn := { np := 1,nv := 2,results := [.v 1],code := a78c }
def a78v : List Nat := [0,2]
def a78b : List Nat := []

def a79r0 : List AOper := [
 op (.v 3) .boxO [.v 1],
 ⟨.bx,.boxV,[.v 2],some 4,none⟩,
 op (.v 5) .mv [.c (.bool false)]]
def a79s1 : ACode := .reg [4] a79r0
def a79r2 : List AOper := [
 op (.t 7) (.fad 2) [.l 4],
 ⟨.t 8,.ldLc 4 false 1,[.t 7],some 4,none⟩,
 op (.t 9) (.mkF 108 0) [.v 3],
 op (.t 10) (.call 107) [.t 8,.t 9],
 op (.t 11) (.un .not) [.t 10],
 op (.v 5) .mv [.t 11]]
def a79s3 : ACode := .reg [] a79r2
def a79s4 : ACode := .seq a79s3 .ret
def a79s5 : ACode := .seq a79s1 a79s4
def a79c : ACode :=
  a79s5
def a79 : AFn := { np := 3,nv := 6,results := [.v 5],code := a79c }
def a79v : List Nat := [0,1,2,4,5,6]
def a79b : List Nat := [4]

def a80r0 : List AOper := [
 ⟨.bx,.boxV,[.v 1],some 2,none⟩,
 op (.v 3) .mv [.c (.bool false)]]
def a80s1 : ACode := .reg [2] a80r0
def a80r2 : List AOper := [
 op (.t 5) (.fad 1) [.l 2],
 ⟨.t 6,.ldLc 2 false 1,[.t 5],some 2,none⟩,
 op (.t 7) .lenL [.t 6],
 op (.t 8) (.bin .eql) [.t 7,.c (.int .i64 1)],
 op (.t 9) .mv [.t 8],
 ⟨.t 10,.fad 1,[.l 2],none,some (.t 9,true)⟩,
 ⟨.t 11,.ldLc 2 false 1,[.t 10],some 2,some (.t 9,true)⟩,
 ⟨.t 12,.iad 11,[.t 11,.c (.int .i64 0)],none,some (.t 9,true)⟩,
 ⟨.t 13,.ldRo true 11,[.t 12],none,some (.t 9,true)⟩,
 ⟨.t 14,.call 110,[.t 13],none,some (.t 9,true)⟩,
 op (.t 15) .pick [.t 9,.t 14,.c (.bool false)],
 op (.t 16) .mv [.t 15],
 ⟨.t 17,.fad 2,[.l 2],none,some (.t 16,true)⟩,
 ⟨.t 18,.fad 1,[.t 17],none,some (.t 16,true)⟩,
 ⟨.t 19,.ldLc 2 false 1,[.t 18],some 2,some (.t 16,true)⟩,
 ⟨.t 20,.lenL,[.t 19],none,some (.t 16,true)⟩,
 ⟨.t 21,.bin .eql,[.t 20,.c (.int .i64 0)],none,some (.t 16,true)⟩,
 op (.t 22) .pick [.t 16,.t 21,.c (.bool false)],
 op (.t 23) .mv [.t 22],
 ⟨.t 24,.fad 2,[.l 2],none,some (.t 23,true)⟩,
 ⟨.t 25,.fad 2,[.t 24],none,some (.t 23,true)⟩,
 ⟨.t 26,.ldLc 2 false 1,[.t 25],some 2,some (.t 23,true)⟩,
 ⟨.t 27,.un .not,[.t 26],none,some (.t 23,true)⟩,
 op (.t 28) .pick [.t 23,.t 27,.c (.bool false)],
 op (.t 29) .mv [.t 28],
 ⟨.t 30,.mv,[.v 0],none,some (.t 29,true)⟩,
 ⟨.t 31,.fad 2,[.l 2],none,some (.t 29,true)⟩,
 ⟨.t 32,.fad 0,[.t 31],none,some (.t 29,true)⟩,
 ⟨.t 33,.ldLc 2 false 1,[.t 32],some 2,some (.t 29,true)⟩,
 ⟨.t 34,.call 111,[.t 30,.t 33],none,some (.t 29,true)⟩,
 op (.t 35) .pick [.t 29,.t 34,.c (.bool false)],
 op (.v 3) .mv [.t 35]]
def a80s3 : ACode := .reg [] a80r2
def a80s4 : ACode := .seq a80s3 .ret
def a80s5 : ACode := .seq a80s1 a80s4
def a80c : ACode :=
  a80s5
def a80 : AFn := { np := 2,nv := 4,results := [.v 3],code := a80c }
def a80v : List Nat := [0,1,3,4]
def a80b : List Nat := [2]

def a81r0 : List AOper := [
 ⟨.bx,.boxV,[.v 1],some 2,none⟩,
 op (.v 3) .mv [.c (.bool false)]]
def a81s1 : ACode := .reg [2] a81r0
def a81r2 : List AOper := [
 op (.t 5) (.fad 1) [.l 2],
 ⟨.t 6,.ldLc 2 false 1,[.t 5],some 2,none⟩,
 op (.t 7) .lenL [.t 6],
 op (.t 8) (.bin .eql) [.t 7,.c (.int .i64 0)],
 op (.t 9) .mv [.t 8],
 ⟨.t 10,.mv,[.v 0],none,some (.t 9,true)⟩,
 ⟨.t 11,.fad 2,[.l 2],none,some (.t 9,true)⟩,
 ⟨.t 12,.ldLc 2 true 3,[.t 11],some 2,some (.t 9,true)⟩,
 ⟨.t 13,.call 102,[.t 12],none,some (.t 9,true)⟩,
 ⟨.t 14,.call 111,[.t 10,.t 13],none,some (.t 9,true)⟩,
 op (.t 15) .pick [.t 9,.t 14,.c (.bool false)],
 op (.t 16) .mv [.t 15],
 ⟨.t 17,.fad 2,[.l 2],none,some (.t 16,true)⟩,
 ⟨.t 18,.ldLc 2 true 3,[.t 17],some 2,some (.t 16,true)⟩,
 ⟨.t 19,.fad 2,[.l 2],none,some (.t 16,true)⟩,
 ⟨.t 20,.ldLc 2 true 3,[.t 19],some 2,some (.t 16,true)⟩,
 ⟨.t 21,.call 102,[.t 20],none,some (.t 16,true)⟩,
 ⟨.t 22,(.build [.str [],.list true [],.bool false] [(0,1),(2,1)]),[.t 21,.c (.bool true)],none,some (.t 16,true)⟩,
 ⟨.t 23,.bslice 3 [[.str [],.list true [],.bool false]] [0],[.t 22],none,some (.t 16,true)⟩,
 ⟨.t 24,(.build [.str [],.list true [],.bool false] [(1,1),(2,1)]),[.t 23,.c (.bool true)],none,some (.t 16,true)⟩,
 ⟨.t 25,.call 109,[.t 18,.t 24],none,some (.t 16,true)⟩,
 op (.t 26) .pick [.t 16,.t 25,.c (.bool false)],
 op (.v 3) .mv [.t 26]]
def a81s3 : ACode := .reg [] a81r2
def a81s4 : ACode := .seq a81s3 .ret
def a81s5 : ACode := .seq a81s1 a81s4
def a81c : ACode :=
  a81s5
def a81 : AFn := { np := 2,nv := 4,results := [.v 3],code := a81c }
def a81v : List Nat := [0,1,3,4]
def a81b : List Nat := [2]

def a82r0 : List AOper := [
 op (.v 2) .boxO [.v 0],
 ⟨.bx,.boxV,[.v 1],some 3,none⟩,
 op (.v 4) .mv [.c (.bool false)]]
def a82s1 : ACode := .reg [3] a82r0
def a82r2 : List AOper := [
 op (.t 11) (.fad 0) [.l 3],
 ⟨.t 12,.ldLc 3 false 1,[.t 11],some 3,none⟩,
 op (.t 13) (.call 112) [.t 12],
 op (.t 10) .mv [.t 13],
 op (.t 14) (.ext 0) [.t 10],
 op (.t 15) (.ext 1) [.t 10],
 op (.v 5) .mv [.t 14],
 op (.v 6) .mv [.t 15]]
def a82s3 : ACode := .reg [] a82r2
def a82r4 : List AOper := [
 op (.t 17) (.ldSt false 1) [.v 2],
 op (.t 18) .mv [.v 6],
 op (.t 19) (.call 48) [.t 17,.t 18],
 op (.t 16) .mv [.t 19],
 op (.t 20) (.ext 0) [.t 16],
 op (.t 21) (.ext 1) [.t 16],
 op (.v 7) (.allocO [.int .u8 0,.str [],.list true [],.list true []]) [],
 op .none (.stSt 4) [.v 7,.ts 20],
 op (.v 8) .mv [.t 21]]
def a82s5 : ACode := .reg [] a82r4
def a82r6 : List AOper := [
 op (.t 22) .mv [.v 8],
 op (.t 23) (.un .not) [.t 22],
 op (.t 24) .mv [.t 23],
 ⟨.t 25,.fad 0,[.v 7],none,some (.t 24,false)⟩,
 ⟨.t 26,.ldSt false 1,[.t 25],none,some (.t 24,false)⟩,
 ⟨.t 27,.bin .neq,[.t 26,.c (.int .u8 1)],none,some (.t 24,false)⟩,
 op (.t 28) .pick [.t 24,.c (.bool true),.t 27],
 op (.t 29) .mv [.t 28],
 ⟨.t 30,.mv,[.v 6],none,some (.t 29,false)⟩,
 ⟨.t 31,.call 78,[.t 30],none,some (.t 29,false)⟩,
 op (.t 32) .pick [.t 29,.c (.bool true),.t 31],
 op (.t 33) .mv [.t 32],
 ⟨.t 34,.fad 2,[.l 3],none,some (.t 33,false)⟩,
 ⟨.t 35,.ldLc 3 true 3,[.t 34],some 3,some (.t 33,false)⟩,
 ⟨.t 36,.mv,[.v 6],none,some (.t 33,false)⟩,
 ⟨.t 37,(.build [.str [],.list true [],.bool false] [(0,1)]),[.t 36],none,some (.t 33,false)⟩,
 ⟨.t 38,.call 109,[.t 35,.t 37],none,some (.t 33,false)⟩,
 ⟨.t 39,.un .not,[.t 38],none,some (.t 33,false)⟩,
 op (.t 40) .pick [.t 33,.c (.bool true),.t 39]]
def a82r7 : List AOper := [
 op (.v 4) .mv [.c (.bool false)]]
def a82s8 : ACode := .reg [] a82r7
def a82s9 : ACode := .seq a82s8 .ret
def a82s10 : ACode := .test [] a82r6 (.t 40) a82s9 .skip
def a82r11 : List AOper := [
 op (.t 41) .mv [.v 5],
 op (.t 42) (.bin .eql) [.t 41,.c (.str [100,101,108,101,116,101])]]
def a82r12 : List AOper := [
 op (.t 43) (.fad 1) [.l 3],
 ⟨.t 44,.ldLc 3 false 1,[.t 43],some 3,none⟩,
 op (.t 45) .lenL [.t 44],
 op (.t 46) (.bin .eql) [.t 45,.c (.int .i64 1)],
 op (.t 47) .mv [.t 46],
 ⟨.t 48,.fad 1,[.l 3],none,some (.t 47,true)⟩,
 ⟨.t 49,.ldLc 3 false 1,[.t 48],some 3,some (.t 47,true)⟩,
 ⟨.t 50,.iad 11,[.t 49,.c (.int .i64 0)],none,some (.t 47,true)⟩,
 ⟨.t 51,.ldRo true 11,[.t 50],none,some (.t 47,true)⟩,
 ⟨.t 52,.call 110,[.t 51],none,some (.t 47,true)⟩,
 op (.t 53) .pick [.t 47,.t 52,.c (.bool false)],
 op (.v 4) .mv [.t 53]]
def a82s13 : ACode := .reg [] a82r12
def a82s14 : ACode := .seq a82s13 .ret
def a82s15 : ACode := .test [] a82r11 (.t 42) a82s14 .skip
def a82r16 : List AOper := [
 op (.t 54) (.fad 1) [.l 3],
 ⟨.t 55,.ldLc 3 false 1,[.t 54],some 3,none⟩,
 op (.t 56) .lenL [.t 55],
 op (.t 57) (.bin .neq) [.t 56,.c (.int .i64 2)],
 op (.t 58) .mv [.t 57],
 ⟨.t 59,.fad 1,[.l 3],none,some (.t 58,false)⟩,
 ⟨.t 60,.ldLc 3 false 1,[.t 59],some 3,some (.t 58,false)⟩,
 ⟨.t 61,.iad 11,[.t 60,.c (.int .i64 0)],none,some (.t 58,false)⟩,
 ⟨.t 62,.ldRo true 11,[.t 61],none,some (.t 58,false)⟩,
 ⟨.t 63,.call 110,[.t 62],none,some (.t 58,false)⟩,
 ⟨.t 64,.un .not,[.t 63],none,some (.t 58,false)⟩,
 op (.t 65) .pick [.t 58,.c (.bool true),.t 64],
 op (.t 66) .mv [.t 65],
 ⟨.t 67,.fad 1,[.l 3],none,some (.t 66,false)⟩,
 ⟨.t 68,.ldLc 3 false 1,[.t 67],some 3,some (.t 66,false)⟩,
 ⟨.t 69,.iad 11,[.t 68,.c (.int .i64 1)],none,some (.t 66,false)⟩,
 ⟨.t 70,.fad 0,[.t 69],none,some (.t 66,false)⟩,
 ⟨.t 71,.ldRo false 1,[.t 70],none,some (.t 66,false)⟩,
 ⟨.t 72,.bin .neq,[.t 71,.c (.str [105,110,112,117,116])],none,some (.t 66,false)⟩,
 op (.t 73) .pick [.t 66,.c (.bool true),.t 72],
 op (.t 74) .mv [.t 73],
 ⟨.t 75,.fad 1,[.l 3],none,some (.t 74,false)⟩,
 ⟨.t 76,.ldLc 3 false 1,[.t 75],some 3,some (.t 74,false)⟩,
 ⟨.t 77,.iad 11,[.t 76,.c (.int .i64 1)],none,some (.t 74,false)⟩,
 ⟨.t 78,.fad 2,[.t 77],none,some (.t 74,false)⟩,
 ⟨.t 79,.fad 2,[.t 78],none,some (.t 74,false)⟩,
 ⟨.t 80,.ldRo false 1,[.t 79],none,some (.t 74,false)⟩,
 ⟨.t 81,.un .not,[.t 80],none,some (.t 74,false)⟩,
 op (.t 82) .pick [.t 74,.c (.bool true),.t 81],
 op (.t 83) .mv [.t 82],
 ⟨.t 84,.fad 1,[.l 3],none,some (.t 83,false)⟩,
 ⟨.t 85,.ldLc 3 false 1,[.t 84],some 3,some (.t 83,false)⟩,
 ⟨.t 86,.iad 11,[.t 85,.c (.int .i64 1)],none,some (.t 83,false)⟩,
 ⟨.t 87,.fad 2,[.t 86],none,some (.t 83,false)⟩,
 ⟨.t 88,.fad 1,[.t 87],none,some (.t 83,false)⟩,
 ⟨.t 89,.ldRo false 1,[.t 88],none,some (.t 83,false)⟩,
 ⟨.t 90,.lenL,[.t 89],none,some (.t 83,false)⟩,
 ⟨.t 91,.bin .gtr,[.t 90,.c (.int .i64 0)],none,some (.t 83,false)⟩,
 op (.t 92) .pick [.t 83,.c (.bool true),.t 91]]
def a82r17 : List AOper := [
 op (.v 4) .mv [.c (.bool false)]]
def a82s18 : ACode := .reg [] a82r17
def a82s19 : ACode := .seq a82s18 .ret
def a82s20 : ACode := .test [] a82r16 (.t 92) a82s19 .skip
def a82r21 : List AOper := [
 op (.t 94) (.ldSt false 1) [.v 2],
 op (.t 95) (.fad 1) [.l 3],
 ⟨.t 96,.ldLc 3 false 1,[.t 95],some 3,none⟩,
 op (.t 97) (.iad 11) [.t 96,.c (.int .i64 1)],
 op (.t 98) (.fad 2) [.t 97],
 op (.t 99) (.fad 0) [.t 98],
 op (.t 100) (.ldRo false 1) [.t 99],
 op (.t 101) (.call 48) [.t 94,.t 100],
 op (.t 93) .mv [.t 101],
 op (.t 102) (.ext 0) [.t 93],
 op (.t 103) (.ext 1) [.t 93],
 ⟨.bx,.alloc [.int .u8 0,.str [],.list true [],.list true []],[],some 9,none⟩,
 ⟨.none,.stLc 9 4,[.l 9,.ts 102],some 9,none⟩,
 op (.v 8) .mv [.t 103]]
def a82s22 : ACode := .reg [9] a82r21
def a82r23 : List AOper := [
 op (.t 104) .mv [.v 8],
 op (.t 105) (.un .not) [.t 104],
 op (.t 106) .mv [.t 105],
 ⟨.t 107,.fad 0,[.l 9],none,some (.t 106,false)⟩,
 ⟨.t 108,.ldLc 9 false 1,[.t 107],some 9,some (.t 106,false)⟩,
 ⟨.t 109,.bin .neq,[.t 108,.c (.int .u8 5)],none,some (.t 106,false)⟩,
 op (.t 110) .pick [.t 106,.c (.bool true),.t 109]]
def a82r24 : List AOper := [
 op (.v 4) .mv [.c (.bool false)]]
def a82s25 : ACode := .reg [] a82r24
def a82s26 : ACode := .seq a82s25 .ret
def a82s27 : ACode := .test [] a82r23 (.t 110) a82s26 .skip
def a82r28 : List AOper := [
 op (.t 111) (.fad 2) [.l 9],
 ⟨.t 112,.ldLc 9 false 1,[.t 111],some 9,none⟩,
 op (.t 113) (.mkF 113 0) [.v 7,.v 2],
 op (.t 114) (.call 107) [.t 112,.t 113],
 op (.t 115) (.un .not) [.t 114],
 op (.v 4) .mv [.t 115]]
def a82s29 : ACode := .reg [] a82r28
def a82s30 : ACode := .seq a82s29 .ret
def a82s31 : ACode := .seq a82s27 a82s30
def a82s32 : ACode := .seq a82s22 a82s31
def a82s33 : ACode := .seq a82s20 a82s32
def a82s34 : ACode := .seq a82s15 a82s33
def a82s35 : ACode := .seq a82s10 a82s34
def a82s36 : ACode := .seq a82s5 a82s35
def a82s37 : ACode := .seq a82s3 a82s36
def a82s38 : ACode := .seq a82s1 a82s37
def a82c : ACode :=
  a82s38
def a82 : AFn := { np := 2,nv := 10,results := [.v 4],code := a82c }
def a82v : List Nat := [0,1,2,3,4,5,6,7,8,9]
def a82b : List Nat := [3,9]

def a83r0 : List AOper := [
 op (.v 1) .mv [.c (.str [])],
 op (.v 2) .mv [.c (.int .i64 0)]]
def a83s1 : ACode := .reg [] a83r0
def a83r2 : List AOper := [
 op (.v 3) .mv [.c (.int .i64 0)]]
def a83s3 : ACode := .reg [] a83r2
def a83r4 : List AOper := [
 op (.t 5) .mv [.v 3],
 op (.t 6) .mv [.v 0],
 op (.t 7) .lenL [.t 6],
 op (.t 8) (.bin .lss) [.t 5,.t 7]]
def a83s5 : ACode := .test [] a83r4 (.t 8) .skip (.exit 0)
def a83r6 : List AOper := [
 op (.t 11) .mv [.v 0],
 op (.t 12) .mv [.v 3],
 op (.t 13) (.slL 1 false true) [.t 11,.t 12],
 op (.t 14) .mv [.v 0],
 op (.t 15) .mv [.v 3],
 op (.t 16) (.iad 1) [.t 14,.t 15],
 op (.t 17) (.ldRo false 1) [.t 16],
 op (.t 18) (.call 51) [.t 13,.t 17]]
def a83r7 : List AOper := [
 op (.t 19) .mv [.v 0],
 op (.t 20) .mv [.v 3],
 op (.t 21) (.iad 1) [.t 19,.t 20],
 op (.t 22) (.ldRo false 1) [.t 21],
 op (.v 1) .mv [.t 22],
 op (.v 2) .mv [.c (.int .i64 7)]]
def a83s8 : ACode := .reg [] a83r7
def a83s9 : ACode := .seq a83s8 .ret
def a83s10 : ACode := .test [] a83r6 (.t 18) a83s9 .skip
def a83r11 : List AOper := [
 op (.t 23) .mv [.v 0],
 op (.t 24) .mv [.v 3],
 op (.t 25) (.iad 1) [.t 23,.t 24],
 op (.t 26) (.ldRo false 1) [.t 25],
 op (.t 27) (.call 52) [.t 26,.c (.str [95,95])]]
def a83r12 : List AOper := [
 op (.t 28) .mv [.v 0],
 op (.t 29) .mv [.v 3],
 op (.t 30) (.iad 1) [.t 28,.t 29],
 op (.t 31) (.ldRo false 1) [.t 30],
 op (.v 1) .mv [.t 31],
 op (.v 2) .mv [.c (.int .i64 1)]]
def a83s13 : ACode := .reg [] a83r12
def a83s14 : ACode := .seq a83s13 .ret
def a83s15 : ACode := .test [] a83r11 (.t 27) a83s14 .skip
def a83s16 : ACode := .seq a83s10 a83s15
def a83s17 : ACode := .blk 1 a83s16
def a83r18 : List AOper := [
 op (.t 9) .mv [.v 3],
 op (.t 10) (.bin .add) [.t 9,.c (.int .i64 1)],
 op (.v 3) .mv [.t 10]]
def a83s19 : ACode := .reg [] a83r18
def a83s20 : ACode := .seq a83s17 a83s19
def a83s21 : ACode := .seq a83s5 a83s20
def a83s22 : ACode := .loop a83s21
def a83s23 : ACode := .blk 0 a83s22
def a83s24 : ACode := .seq a83s3 a83s23
def a83r25 : List AOper := [
 op (.v 1) .mv [.c (.str [])],
 op (.v 2) .mv [.c (.int .i64 0)]]
def a83s26 : ACode := .reg [] a83r25
def a83s27 : ACode := .seq a83s26 .ret
def a83s28 : ACode := .seq a83s24 a83s27
def a83s29 : ACode := .seq a83s1 a83s28
def a83c : ACode :=
  a83s29
def a83 : AFn := { np := 1,nv := 4,results := [.v 1,.v 2],code := a83c }
def a83v : List Nat := [0,2,3,4]
def a83b : List Nat := []

def a84r0 : List AOper := [
 op (.v 1) .mv [.c (.list true [])]]
def a84s1 : ACode := .reg [] a84r0
def a84r2 : List AOper := [
 op (.v 2) .mv [.c (.list true [])]]
def a84s3 : ACode := .reg [] a84r2
def a84r4 : List AOper := [
 op (.v 3) .mv [.c (.int .i64 0)]]
def a84s5 : ACode := .reg [] a84r4
def a84r6 : List AOper := [
 op (.t 5) .mv [.v 3],
 op (.t 6) .mv [.v 0],
 op (.t 7) .lenL [.t 6],
 op (.t 8) (.bin .lss) [.t 5,.t 7]]
def a84s7 : ACode := .test [] a84r6 (.t 8) .skip (.exit 0)
def a84r8 : List AOper := [
 op (.t 11) .mv [.vs 2],
 op (.t 12) .mv [.v 0],
 op (.t 13) .mv [.v 3],
 op (.t 14) (.iad 11) [.t 12,.t 13],
 op (.t 15) (.fad 0) [.t 14],
 op (.t 16) (.ldRo false 1) [.t 15],
 op (.t 17) (.bslice 1 [[.str []]] [0]) [.t 16],
 op (.t 18) (.app 1 16) [.ts 11,.t 17],
 op (.v 2) .mv [.ts 18]]
def a84s9 : ACode := .reg [] a84r8
def a84s10 : ACode := .blk 1 a84s9
def a84r11 : List AOper := [
 op (.t 9) .mv [.v 3],
 op (.t 10) (.bin .add) [.t 9,.c (.int .i64 1)],
 op (.v 3) .mv [.t 10]]
def a84s12 : ACode := .reg [] a84r11
def a84s13 : ACode := .seq a84s10 a84s12
def a84s14 : ACode := .seq a84s7 a84s13
def a84s15 : ACode := .loop a84s14
def a84s16 : ACode := .blk 0 a84s15
def a84s17 : ACode := .seq a84s5 a84s16
def a84r18 : List AOper := [
 op (.t 19) .mv [.v 2],
 op (.v 1) .mv [.ts 19]]
def a84s19 : ACode := .reg [] a84r18
def a84s20 : ACode := .seq a84s19 .ret
def a84s21 : ACode := .seq a84s17 a84s20
def a84s22 : ACode := .seq a84s3 a84s21
def a84s23 : ACode := .seq a84s1 a84s22
def a84c : ACode :=
  a84s23
def a84 : AFn := { np := 1,nv := 4,results := [.v 1],code := a84c }
def a84v : List Nat := [0,2,3,4]
def a84b : List Nat := []

def a85r0 : List AOper := [
 ⟨.bx,.boxV,[.v 1],some 3,none⟩,
 op (.v 4) .mv [.c (.str [])],
 op (.v 5) .mv [.c (.int .i64 0)]]
def a85s1 : ACode := .reg [3] a85r0
def a85r2 : List AOper := [
 op (.t 14) (.fad 2) [.l 3],
 ⟨.t 15,.ldLc 3 true 3,[.t 14],some 3,none⟩,
 op (.t 16) (.call 89) [.t 15],
 op (.v 6) .mv [.t 16]]
def a85s3 : ACode := .reg [] a85r2
def a85r4 : List AOper := [
 op (.t 17) .mv [.v 0],
 op (.t 18) .mv [.v 6],
 op (.t 19) (.call 54) [.t 17,.t 18],
 op (.t 20) (.fld 0 1 false) [.t 19],
 op (.v 7) .mv [.t 20]]
def a85s5 : ACode := .reg [] a85r4
def a85r6 : List AOper := [
 op (.t 21) .mv [.v 6],
 op (.t 22) (.call 50) [.t 21],
 op (.t 23) (.un .not) [.t 22],
 op (.t 24) .mv [.t 23],
 ⟨.t 25,.mv,[.v 7],none,some (.t 24,true)⟩,
 ⟨.t 26,.bin .eql,[.t 25,.c (.int .u8 0)],none,some (.t 24,true)⟩,
 op (.t 27) .pick [.t 24,.t 26,.c (.bool false)]]
def a85r7 : List AOper := [
 op (.t 28) .mv [.v 6],
 op (.v 4) .mv [.t 28],
 op (.v 5) .mv [.c (.int .i64 6)]]
def a85s8 : ACode := .reg [] a85r7
def a85s9 : ACode := .seq a85s8 .ret
def a85s10 : ACode := .test [] a85r6 (.t 27) a85s9 .skip
def a85r11 : List AOper := [
 op (.t 29) .mv [.v 2],
 op (.t 30) .mv [.t 29],
 ⟨.t 31,.mv,[.v 0],none,some (.t 30,true)⟩,
 ⟨.t 32,.mv,[.v 6],none,some (.t 30,true)⟩,
 ⟨.t 33,.call 115,[.t 31,.t 32],none,some (.t 30,true)⟩,
 ⟨.t 34,.un .not,[.t 33],none,some (.t 30,true)⟩,
 op (.t 35) .pick [.t 30,.t 34,.c (.bool false)],
 op (.t 36) .mv [.t 35],
 ⟨.t 37,.mv,[.v 2],none,some (.t 36,false)⟩,
 ⟨.t 38,.un .not,[.t 37],none,some (.t 36,false)⟩,
 ⟨.t 39,.mv,[.t 38],none,some (.t 36,false)⟩,
 ⟨.t 40,.mv,[.v 7],none,some (.t 39,true)⟩,
 ⟨.t 41,.bin .eql,[.t 40,.c (.int .u8 5)],none,some (.t 39,true)⟩,
 ⟨.t 42,.pick,[.t 39,.t 41,.c (.bool false)],none,some (.t 36,false)⟩,
 op (.t 43) .pick [.t 36,.c (.bool true),.t 42],
 op (.t 44) .mv [.t 43],
 ⟨.t 45,.mv,[.v 6],none,some (.t 44,false)⟩,
 ⟨.t 46,.call 86,[.t 45],none,some (.t 44,false)⟩,
 op (.t 47) .pick [.t 44,.c (.bool true),.t 46]]
def a85r12 : List AOper := [
 op (.t 48) .mv [.v 6],
 op (.v 4) .mv [.t 48],
 op (.v 5) .mv [.c (.int .i64 8)]]
def a85s13 : ACode := .reg [] a85r12
def a85s14 : ACode := .seq a85s13 .ret
def a85s15 : ACode := .test [] a85r11 (.t 47) a85s14 .skip
def a85r16 : List AOper := [
 op (.t 49) (.fad 5) [.l 3],
 ⟨.t 50,.ldLc 3 false 1,[.t 49],some 3,none⟩,
 op (.t 51) .mv [.t 50],
 ⟨.t 52,.mv,[.v 0],none,some (.t 51,true)⟩,
 ⟨.t 53,.fad 2,[.l 3],none,some (.t 51,true)⟩,
 ⟨.t 54,.ldLc 3 true 3,[.t 53],some 3,some (.t 51,true)⟩,
 ⟨.t 55,.fad 6,[.l 3],none,some (.t 51,true)⟩,
 ⟨.t 56,.ldLc 3 true 5,[.t 55],some 3,some (.t 51,true)⟩,
 ⟨.t 57,.call 116,[.t 52,.t 54,.t 56,.c (.bool false)],none,some (.t 51,true)⟩,
 ⟨.t 58,.un .not,[.t 57],none,some (.t 51,true)⟩,
 op (.t 59) .pick [.t 51,.t 58,.c (.bool false)]]
def a85r17 : List AOper := [
 op (.t 60) (.fad 0) [.l 3],
 ⟨.t 61,.ldLc 3 false 1,[.t 60],some 3,none⟩,
 op (.v 4) .mv [.t 61],
 op (.v 5) .mv [.c (.int .i64 8)]]
def a85s18 : ACode := .reg [] a85r17
def a85s19 : ACode := .seq a85s18 .ret
def a85s20 : ACode := .test [] a85r16 (.t 59) a85s19 .skip
def a85r21 : List AOper := [
 op (.t 63) (.fad 1) [.l 3],
 ⟨.t 64,.ldLc 3 false 1,[.t 63],some 3,none⟩,
 op (.t 65) (.call 84) [.t 64],
 op (.t 66) (.call 83) [.t 65],
 op (.t 62) .mv [.t 66],
 op (.t 67) (.ext 0) [.t 62],
 op (.t 68) (.ext 1) [.t 62],
 op (.v 8) .mv [.t 67],
 op (.v 9) .mv [.t 68]]
def a85s22 : ACode := .reg [] a85r21
def a85r23 : List AOper := [
 op (.t 69) .mv [.v 9],
 op (.t 70) (.bin .neq) [.t 69,.c (.int .i64 0)]]
def a85r24 : List AOper := [
 op (.t 71) .mv [.v 8],
 op (.t 72) .mv [.v 9],
 op (.v 4) .mv [.t 71],
 op (.v 5) .mv [.t 72]]
def a85s25 : ACode := .reg [] a85r24
def a85s26 : ACode := .seq a85s25 .ret
def a85s27 : ACode := .test [] a85r23 (.t 70) a85s26 .skip
def a85r28 : List AOper := [
 op (.v 10) .mv [.c (.int .i64 0)]]
def a85s29 : ACode := .reg [] a85r28
def a85r30 : List AOper := [
 op (.t 73) .mv [.v 10],
 op (.t 74) (.fad 1) [.l 3],
 ⟨.t 75,.ldLc 3 false 1,[.t 74],some 3,none⟩,
 op (.t 76) .lenL [.t 75],
 op (.t 77) (.bin .lss) [.t 73,.t 76]]
def a85s31 : ACode := .test [] a85r30 (.t 77) .skip (.exit 0)
def a85r32 : List AOper := [
 op (.t 80) (.fad 1) [.l 3],
 ⟨.t 81,.ldLc 3 false 1,[.t 80],some 3,none⟩,
 op (.t 82) .mv [.v 10],
 op (.t 83) (.iad 11) [.t 81,.t 82],
 op (.t 84) (.ldRo true 11) [.t 83],
 ⟨.bx,.alloc [.str [],.list true [],.str [],.list true [],.bool false,.bool false,.int .u8 0,.int .i64 0,.str [],.list true [],.list true []],[],some 11,none⟩,
 ⟨.none,.stLc 11 11,[.l 11,.ts 84],some 11,none⟩]
def a85s33 : ACode := .reg [11] a85r32
def a85r34 : List AOper := [
 op (.t 85) .mv [.v 0],
 op (.t 86) (.fad 2) [.l 11],
 ⟨.t 87,.ldLc 11 true 3,[.t 86],some 11,none⟩,
 op (.t 88) (.call 89) [.t 87],
 op (.t 89) (.call 54) [.t 85,.t 88],
 op (.t 90) (.fld 0 1 false) [.t 89],
 op (.t 91) (.bin .eql) [.t 90,.c (.int .u8 5)]]
def a85r35 : List AOper := [
 op (.t 92) (.fad 5) [.l 11],
 ⟨.t 93,.ldLc 11 false 1,[.t 92],some 11,none⟩]
def a85r36 : List AOper := [
 op (.t 94) (.fad 0) [.l 11],
 ⟨.t 95,.ldLc 11 false 1,[.t 94],some 11,none⟩,
 op (.v 4) .mv [.t 95],
 op (.v 5) .mv [.c (.int .i64 8)]]
def a85s37 : ACode := .reg [] a85r36
def a85s38 : ACode := .seq a85s37 .ret
def a85s39 : ACode := .test [] a85r35 (.t 93) a85s38 .skip
def a85s40 : ACode := .seq a85s39 (.exit 1)
def a85s41 : ACode := .test [] a85r34 (.t 91) a85s40 .skip
def a85r42 : List AOper := [
 op (.t 97) .mv [.v 0],
 ⟨.t 98,.ldLc 11 true 11,[.l 11],some 11,none⟩,
 op (.t 99) (.call 85) [.t 97,.t 98,.c (.bool true)],
 op (.t 96) .mv [.t 99],
 op (.t 100) (.ext 0) [.t 96],
 op (.t 101) (.ext 1) [.t 96],
 op (.v 8) .mv [.t 100],
 op (.v 9) .mv [.t 101]]
def a85s43 : ACode := .reg [] a85r42
def a85r44 : List AOper := [
 op (.t 102) .mv [.v 9],
 op (.t 103) (.bin .neq) [.t 102,.c (.int .i64 0)]]
def a85r45 : List AOper := [
 op (.t 104) .mv [.v 8],
 op (.t 105) .mv [.v 9],
 op (.v 4) .mv [.t 104],
 op (.v 5) .mv [.t 105]]
def a85s46 : ACode := .reg [] a85r45
def a85s47 : ACode := .seq a85s46 .ret
def a85s48 : ACode := .test [] a85r44 (.t 103) a85s47 .skip
def a85s49 : ACode := .seq a85s43 a85s48
def a85s50 : ACode := .seq a85s41 a85s49
def a85s51 : ACode := .seq a85s33 a85s50
def a85s52 : ACode := .blk 1 a85s51
def a85r53 : List AOper := [
 op (.t 78) .mv [.v 10],
 op (.t 79) (.bin .add) [.t 78,.c (.int .i64 1)],
 op (.v 10) .mv [.t 79]]
def a85s54 : ACode := .reg [] a85r53
def a85s55 : ACode := .seq a85s52 a85s54
def a85s56 : ACode := .seq a85s31 a85s55
def a85s57 : ACode := .loop a85s56
def a85s58 : ACode := .blk 0 a85s57
def a85s59 : ACode := .seq a85s29 a85s58
def a85r60 : List AOper := [
 op (.v 4) .mv [.c (.str [])],
 op (.v 5) .mv [.c (.int .i64 0)]]
def a85s61 : ACode := .reg [] a85r60
def a85s62 : ACode := .seq a85s61 .ret
def a85s63 : ACode := .seq a85s59 a85s62
def a85s64 : ACode := .seq a85s27 a85s63
def a85s65 : ACode := .seq a85s22 a85s64
def a85s66 : ACode := .seq a85s20 a85s65
def a85s67 : ACode := .seq a85s15 a85s66
def a85s68 : ACode := .seq a85s10 a85s67
def a85s69 : ACode := .seq a85s5 a85s68
def a85s70 : ACode := .seq a85s3 a85s69
def a85s71 : ACode := .seq a85s1 a85s70
def a85c : ACode :=
  a85s71
def a85 : AFn := { np := 3,nv := 12,results := [.v 4,.v 5],code := a85c }
def a85v : List Nat := [0,1,2,4,6,7,8,9,10,11,12,13]
def a85b : List Nat := [3,11]

def a86r0 : List AOper := [
 op (.v 1) .mv [.c (.bool false)]]
def a86s1 : ACode := .reg [] a86r0
def a86r2 : List AOper := [
 op (.t 3) .mv [.v 0],
 op (.t 4) (.bin .eql) [.t 3,.c (.str [81,117,101,114,121])],
 op (.t 5) .mv [.t 4],
 ⟨.t 6,.mv,[.v 0],none,some (.t 5,false)⟩,
 ⟨.t 7,.bin .eql,[.t 6,.c (.str [77,117,116,97,116,105,111,110])],none,some (.t 5,false)⟩,
 op (.t 8) .pick [.t 5,.c (.bool true),.t 7],
 op (.v 1) .mv [.t 8]]
def a86s3 : ACode := .reg [] a86r2
def a86s4 : ACode := .seq a86s3 .ret
def a86s5 : ACode := .seq a86s1 a86s4
def a86c : ACode :=
  a86s5
def a86 : AFn := { np := 1,nv := 2,results := [.v 1],code := a86c }
def a86v : List Nat := [0,2]
def a86b : List Nat := []

def a87r0 : List AOper := [
 op (.v 2) .mv [.c (.int .i64 0)]]
def a87s1 : ACode := .reg [] a87r0
def a87r2 : List AOper := [
 op (.v 3) .mv [.c (.int .i64 0)]]
def a87s3 : ACode := .reg [] a87r2
def a87r4 : List AOper := [
 op (.t 6) .mv [.v 3],
 op (.t 7) .mv [.v 0],
 op (.t 8) .lenL [.t 7],
 op (.t 9) (.bin .lss) [.t 6,.t 8]]
def a87s5 : ACode := .test [] a87r4 (.t 9) .skip (.exit 0)
def a87r6 : List AOper := [
 op (.t 12) .mv [.v 0],
 op (.t 13) .mv [.v 3],
 op (.t 14) (.iad 11) [.t 12,.t 13],
 op (.t 15) (.fad 0) [.t 14],
 op (.t 16) (.ldRo false 1) [.t 15],
 op (.t 17) .mv [.v 1],
 op (.t 18) (.bin .eql) [.t 16,.t 17]]
def a87r7 : List AOper := [
 op (.t 19) .mv [.v 3],
 op (.v 2) .mv [.t 19]]
def a87s8 : ACode := .reg [] a87r7
def a87s9 : ACode := .seq a87s8 .ret
def a87s10 : ACode := .test [] a87r6 (.t 18) a87s9 .skip
def a87s11 : ACode := .blk 1 a87s10
def a87r12 : List AOper := [
 op (.t 10) .mv [.v 3],
 op (.t 11) (.bin .add) [.t 10,.c (.int .i64 1)],
 op (.v 3) .mv [.t 11]]
def a87s13 : ACode := .reg [] a87r12
def a87s14 : ACode := .seq a87s11 a87s13
def a87s15 : ACode := .seq a87s5 a87s14
def a87s16 : ACode := .loop a87s15
def a87s17 : ACode := .blk 0 a87s16
def a87s18 : ACode := .seq a87s3 a87s17
def a87r19 : List AOper := [
 op (.v 2) .mv [.c (.int .i64 (-1))]]
def a87s20 : ACode := .reg [] a87r19
def a87s21 : ACode := .seq a87s20 .ret
def a87s22 : ACode := .seq a87s18 a87s21
def a87s23 : ACode := .seq a87s1 a87s22
def a87c : ACode :=
  a87s23
def a87 : AFn := { np := 2,nv := 4,results := [.v 2],code := a87c }
def a87v : List Nat := [0,1,4,5]
def a87b : List Nat := []

def a88r0 : List AOper := [
 ⟨.bx,.boxV,[.v 0],some 2,none⟩,
 ⟨.bx,.boxV,[.v 1],some 3,none⟩,
 op (.v 4) .mv [.c (.bool false)]]
def a88s1 : ACode := .reg [2,3] a88r0
def a88r2 : List AOper := [
 op (.t 5) (.fad 0) [.l 2],
 ⟨.t 6,.ldLc 2 false 1,[.t 5],some 2,none⟩,
 op (.t 7) (.fad 0) [.l 3],
 ⟨.t 8,.ldLc 3 false 1,[.t 7],some 3,none⟩,
 op (.t 9) (.bin .neq) [.t 6,.t 8],
 op (.t 10) .mv [.t 9],
 ⟨.t 11,.fad 2,[.l 2],none,some (.t 10,false)⟩,
 ⟨.t 12,.ldLc 2 false 1,[.t 11],some 2,some (.t 10,false)⟩,
 ⟨.t 13,.fad 2,[.l 3],none,some (.t 10,false)⟩,
 ⟨.t 14,.ldLc 3 false 1,[.t 13],some 3,some (.t 10,false)⟩,
 ⟨.t 15,.binB .neq,[.t 12,.t 14],none,some (.t 10,false)⟩,
 op (.t 16) .pick [.t 10,.c (.bool true),.t 15],
 op (.t 17) .mv [.t 16],
 ⟨.t 18,.fad 1,[.l 2],none,some (.t 17,false)⟩,
 ⟨.t 19,.ldLc 2 false 1,[.t 18],some 2,some (.t 17,false)⟩,
 ⟨.t 20,.lenL,[.t 19],none,some (.t 17,false)⟩,
 ⟨.t 21,.fad 1,[.l 3],none,some (.t 17,false)⟩,
 ⟨.t 22,.ldLc 3 false 1,[.t 21],some 3,some (.t 17,false)⟩,
 ⟨.t 23,.lenL,[.t 22],none,some (.t 17,false)⟩,
 ⟨.t 24,.bin .neq,[.t 20,.t 23],none,some (.t 17,false)⟩,
 op (.t 25) .pick [.t 17,.c (.bool true),.t 24]]
def a88r3 : List AOper := [
 op (.v 4) .mv [.c (.bool false)]]
def a88s4 : ACode := .reg [] a88r3
def a88s5 : ACode := .seq a88s4 .ret
def a88s6 : ACode := .test [] a88r2 (.t 25) a88s5 .skip
def a88r7 : List AOper := [
 op (.t 26) (.fad 1) [.l 2],
 ⟨.t 27,.ldLc 2 false 1,[.t 26],some 2,none⟩,
 op (.t 28) .lenL [.t 27],
 op (.t 29) (.bin .eql) [.t 28,.c (.int .i64 0)],
 op (.t 30) .mv [.t 29],
 ⟨.t 31,.fad 1,[.l 2],none,some (.t 30,false)⟩,
 ⟨.t 32,.ldLc 2 false 1,[.t 31],some 2,some (.t 30,false)⟩,
 ⟨.t 33,.iad 3,[.t 32,.c (.int .i64 0)],none,some (.t 30,false)⟩,
 ⟨.t 34,.ldRo true 3,[.t 33],none,some (.t 30,false)⟩,
 ⟨.t 35,.fad 1,[.l 3],none,some (.t 30,false)⟩,
 ⟨.t 36,.ldLc 3 false 1,[.t 35],some 3,some (.t 30,false)⟩,
 ⟨.t 37,.iad 3,[.t 36,.c (.int .i64 0)],none,some (.t 30,false)⟩,
 ⟨.t 38,.ldRo true 3,[.t 37],none,some (.t 30,false)⟩,
 ⟨.t 39,.call 88,[.t 34,.t 38],none,some (.t 30,false)⟩,
 op (.t 40) .pick [.t 30,.c (.bool true),.t 39],
 op (.v 4) .mv [.t 40]]
def a88s8 : ACode := .reg [] a88r7
def a88s9 : ACode := .seq a88s8 .ret
def a88s10 : ACode := .seq a88s6 a88s9
def a88s11 : ACode := .seq a88s1 a88s10
def a88c : ACode :=
  a88s11
def a88 : AFn := { np := 2,nv := 5,results := [.v 4],code := a88c }
def a88v : List Nat := [0,1,2,3,4]
def a88b : List Nat := [2,3]

def a89r0 : List AOper := [
 ⟨.bx,.boxV,[.v 0],some 1,none⟩,
 op (.v 2) .mv [.c (.str [])]]
def a89s1 : ACode := .reg [1] a89r0
def a89r2 : List AOper := [
 op (.t 3) (.fad 1) [.l 1],
 ⟨.t 4,.ldLc 1 false 1,[.t 3],some 1,none⟩,
 op (.t 5) .lenL [.t 4],
 op (.t 6) (.bin .gtr) [.t 5,.c (.int .i64 0)]]
def a89r3 : List AOper := [
 op (.t 7) (.fad 1) [.l 1],
 ⟨.t 8,.ldLc 1 false 1,[.t 7],some 1,none⟩,
 op (.t 9) (.iad 3) [.t 8,.c (.int .i64 0)],
 op (.t 10) (.ldRo true 3) [.t 9],
 op (.t 11) (.call 89) [.t 10],
 op (.v 2) .mv [.t 11]]
def a89s4 : ACode := .reg [] a89r3
def a89s5 : ACode := .seq a89s4 .ret
def a89s6 : ACode := .test [] a89r2 (.t 6) a89s5 .skip
def a89r7 : List AOper := [
 op (.t 12) (.fad 0) [.l 1],
 ⟨.t 13,.ldLc 1 false 1,[.t 12],some 1,none⟩,
 op (.v 2) .mv [.t 13]]
def a89s8 : ACode := .reg [] a89r7
def a89s9 : ACode := .seq a89s8 .ret
def a89s10 : ACode := .seq a89s6 a89s9
def a89s11 : ACode := .seq a89s1 a89s10
def a89c : ACode :=
  a89s11
def a89 : AFn := { np := 1,nv := 3,results := [.v 2],code := a89c }
def a89v : List Nat := [0,1,2]
def a89b : List Nat := [1]

def a90r0 : List AOper := [
 op (.v 2) .mv [.c (.bool false)]]
def a90s1 : ACode := .reg [] a90r0
def a90r2 : List AOper := [
 op (.t 6) .mv [.v 0],
 op (.t 7) .mv [.v 1],
 op (.t 8) (.call 54) [.t 6,.t 7],
 op (.t 9) (.fld 0 1 false) [.t 8],
 op (.v 3) .mv [.t 9]]
def a90s3 : ACode := .reg [] a90r2
def a90r4 : List AOper := [
 op (.t 10) .mv [.v 1],
 op (.t 11) (.call 86) [.t 10],
 op (.t 12) (.un .not) [.t 11],
 op (.t 13) .mv [.t 12],
 ⟨.t 14,.mv,[.v 3],none,some (.t 13,true)⟩,
 ⟨.t 15,.bin .eql,[.t 14,.c (.int .u8 1)],none,some (.t 13,true)⟩,
 ⟨.t 16,.mv,[.t 15],none,some (.t 13,true)⟩,
 ⟨.t 17,.mv,[.v 3],none,some (.t 16,false)⟩,
 ⟨.t 18,.bin .eql,[.t 17,.c (.int .u8 2)],none,some (.t 16,false)⟩,
 ⟨.t 19,.pick,[.t 16,.c (.bool true),.t 18],none,some (.t 13,true)⟩,
 ⟨.t 20,.mv,[.t 19],none,some (.t 13,true)⟩,
 ⟨.t 21,.mv,[.v 3],none,some (.t 20,false)⟩,
 ⟨.t 22,.bin .eql,[.t 21,.c (.int .u8 3)],none,some (.t 20,false)⟩,
 ⟨.t 23,.pick,[.t 20,.c (.bool true),.t 22],none,some (.t 13,true)⟩,
 op (.t 24) .pick [.t 13,.t 23,.c (.bool false)],
 op (.v 2) .mv [.t 24]]
def a90s5 : ACode := .reg [] a90r4
def a90s6 : ACode := .seq a90s5 .ret
def a90s7 : ACode := .seq a90s3 a90s6
def a90s8 : ACode := .seq a90s1 a90s7
def a90c : ACode :=
  a90s8
def a90 : AFn := { np := 2,nv := 4,results := [.v 2],code := a90c }
def a90v : List Nat := [0,1,4,5]
def a90b : List Nat := []

def a91r0 : List AOper := [
 ⟨.bx,.boxV,[.v 0],some 1,none⟩,
 op (.v 2) .mv [.c (.bool false)]]
def a91s1 : ACode := .reg [1] a91r0
def a91r2 : List AOper := [
 op (.t 3) (.fad 0) [.l 1],
 ⟨.t 4,.ldLc 1 false 1,[.t 3],some 1,none⟩,
 op (.t 5) (.bin .eql) [.t 4,.c (.str [105,100])],
 op (.t 6) .mv [.t 5],
 ⟨.t 7,.fad 2,[.l 1],none,some (.t 6,true)⟩,
 ⟨.t 8,.fad 0,[.t 7],none,some (.t 6,true)⟩,
 ⟨.t 9,.ldLc 1 false 1,[.t 8],some 1,some (.t 6,true)⟩,
 ⟨.t 10,.bin .eql,[.t 9,.c (.str [73,68])],none,some (.t 6,true)⟩,
 op (.t 11) .pick [.t 6,.t 10,.c (.bool false)],
 op (.t 12) .mv [.t 11],
 ⟨.t 13,.fad 2,[.l 1],none,some (.t 12,true)⟩,
 ⟨.t 14,.fad 2,[.t 13],none,some (.t 12,true)⟩,
 ⟨.t 15,.ldLc 1 false 1,[.t 14],some 1,some (.t 12,true)⟩,
 op (.t 16) .pick [.t 12,.t 15,.c (.bool false)],
 op (.t 17) .mv [.t 16],
 ⟨.t 18,.fad 2,[.l 1],none,some (.t 17,true)⟩,
 ⟨.t 19,.fad 1,[.t 18],none,some (.t 17,true)⟩,
 ⟨.t 20,.ldLc 1 false 1,[.t 19],some 1,some (.t 17,true)⟩,
 ⟨.t 21,.lenL,[.t 20],none,some (.t 17,true)⟩,
 ⟨.t 22,.bin .eql,[.t 21,.c (.int .i64 0)],none,some (.t 17,true)⟩,
 op (.t 23) .pick [.t 17,.t 22,.c (.bool false)],
 op (.t 24) .mv [.t 23],
 ⟨.t 25,.fad 5,[.l 1],none,some (.t 24,true)⟩,
 ⟨.t 26,.ldLc 1 false 1,[.t 25],some 1,some (.t 24,true)⟩,
 ⟨.t 27,.un .not,[.t 26],none,some (.t 24,true)⟩,
 op (.t 28) .pick [.t 24,.t 27,.c (.bool false)],
 op (.v 2) .mv [.t 28]]
def a91s3 : ACode := .reg [] a91r2
def a91s4 : ACode := .seq a91s3 .ret
def a91s5 : ACode := .seq a91s1 a91s4
def a91c : ACode :=
  a91s5
def a91 : AFn := { np := 1,nv := 3,results := [.v 2],code := a91c }
def a91v : List Nat := [0,1,2]
def a91b : List Nat := [1]

def a92r0 : List AOper := [
 ⟨.bx,.boxV,[.v 1],some 2,none⟩,
 op (.v 3) .mv [.c (.bool false)]]
def a92s1 : ACode := .reg [2] a92r0
def a92r2 : List AOper := [
 op (.t 12) (.fad 0) [.l 2],
 ⟨.t 13,.ldLc 2 false 1,[.t 12],some 2,none⟩,
 op (.t 14) (.call 117) [.t 13],
 op (.t 11) .mv [.t 14],
 op (.t 15) (.ext 0) [.t 11],
 op (.t 16) (.ext 1) [.t 11],
 op (.v 4) .mv [.t 15],
 op (.v 5) .mv [.t 16]]
def a92s3 : ACode := .reg [] a92r2
def a92r4 : List AOper := [
 op (.t 17) .mv [.v 0],
 op (.t 18) .mv [.v 5],
 op (.t 19) (.call 54) [.t 17,.t 18],
 ⟨.bx,.alloc [.int .u8 0,.str [],.list true [],.list true []],[],some 6,none⟩,
 ⟨.none,.stLc 6 4,[.l 6,.ts 19],some 6,none⟩]
def a92s5 : ACode := .reg [6] a92r4
def a92r6 : List AOper := [
 op (.t 20) .mv [.v 4],
 op (.t 21) (.bin .eql) [.t 20,.c (.str [])],
 op (.t 22) .mv [.t 21],
 ⟨.t 23,.fad 0,[.l 6],none,some (.t 22,false)⟩,
 ⟨.t 24,.ldLc 6 false 1,[.t 23],some 6,some (.t 22,false)⟩,
 ⟨.t 25,.bin .neq,[.t 24,.c (.int .u8 1)],none,some (.t 22,false)⟩,
 op (.t 26) .pick [.t 22,.c (.bool true),.t 25],
 op (.t 27) .mv [.t 26],
 ⟨.t 28,.mv,[.v 5],none,some (.t 27,false)⟩,
 ⟨.t 29,.call 86,[.t 28],none,some (.t 27,false)⟩,
 op (.t 30) .pick [.t 27,.c (.bool true),.t 29],
 op (.t 31) .mv [.t 30],
 ⟨.t 32,.fad 2,[.l 2],none,some (.t 31,false)⟩,
 ⟨.t 33,.fad 1,[.t 32],none,some (.t 31,false)⟩,
 ⟨.t 34,.ldLc 2 false 1,[.t 33],some 2,some (.t 31,false)⟩,
 ⟨.t 35,.lenL,[.t 34],none,some (.t 31,false)⟩,
 ⟨.t 36,.bin .gtr,[.t 35,.c (.int .i64 0)],none,some (.t 31,false)⟩,
 op (.t 37) .pick [.t 31,.c (.bool true),.t 36],
 op (.t 38) .mv [.t 37],
 ⟨.t 39,.fad 2,[.l 2],none,some (.t 38,false)⟩,
 ⟨.t 40,.fad 2,[.t 39],none,some (.t 38,false)⟩,
 ⟨.t 41,.ldLc 2 false 1,[.t 40],some 2,some (.t 38,false)⟩,
 op (.t 42) .pick [.t 38,.c (.bool true),.t 41],
 op (.t 43) .mv [.t 42],
 ⟨.t 44,.fad 2,[.l 2],none,some (.t 43,false)⟩,
 ⟨.t 45,.fad 0,[.t 44],none,some (.t 43,false)⟩,
 ⟨.t 46,.ldLc 2 false 1,[.t 45],some 2,some (.t 43,false)⟩,
 ⟨.t 47,.mv,[.v 5],none,some (.t 43,false)⟩,
 ⟨.t 48,.bin .neq,[.t 46,.t 47],none,some (.t 43,false)⟩,
 op (.t 49) .pick [.t 43,.c (.bool true),.t 48],
 op (.t 50) .mv [.t 49],
 ⟨.t 51,.fad 1,[.l 2],none,some (.t 50,false)⟩,
 ⟨.t 52,.ldLc 2 false 1,[.t 51],some 2,some (.t 50,false)⟩,
 ⟨.t 53,.lenL,[.t 52],none,some (.t 50,false)⟩,
 ⟨.t 54,.bin .eql,[.t 53,.c (.int .i64 0)],none,some (.t 50,false)⟩,
 op (.t 55) .pick [.t 50,.c (.bool true),.t 54],
 op (.t 56) .mv [.t 55],
 ⟨.t 57,.fad 1,[.l 2],none,some (.t 56,false)⟩,
 ⟨.t 58,.ldLc 2 false 1,[.t 57],some 2,some (.t 56,false)⟩,
 ⟨.t 59,.iad 11,[.t 58,.c (.int .i64 0)],none,some (.t 56,false)⟩,
 ⟨.t 60,.ldRo true 11,[.t 59],none,some (.t 56,false)⟩,
 ⟨.t 61,.call 91,[.t 60],none,some (.t 56,false)⟩,
 ⟨.t 62,.un .not,[.t 61],none,some (.t 56,false)⟩,
 op (.t 63) .pick [.t 56,.c (.bool true),.t 62]]
def a92r7 : List AOper := [
 op (.v 3) .mv [.c (.bool false)]]
def a92s8 : ACode := .reg [] a92r7
def a92s9 : ACode := .seq a92s8 .ret
def a92s10 : ACode := .test [] a92r6 (.t 63) a92s9 .skip
def a92r11 : List AOper := [
 op (.t 64) .mv [.v 4],
 op (.t 65) (.bin .eql) [.t 64,.c (.str [100,101,108,101,116,101])]]
def a92r12 : List AOper := [
 op (.t 66) (.fad 1) [.l 2],
 ⟨.t 67,.ldLc 2 false 1,[.t 66],some 2,none⟩,
 op (.t 68) .lenL [.t 67],
 op (.t 69) (.bin .eql) [.t 68,.c (.int .i64 1)],
 op (.v 3) .mv [.t 69]]
def a92s13 : ACode := .reg [] a92r12
def a92s14 : ACode := .seq a92s13 .ret
def a92s15 : ACode := .test [] a92r11 (.t 65) a92s14 .skip
def a92r16 : List AOper := [
 op (.t 70) (.fad 1) [.l 2],
 ⟨.t 71,.ldLc 2 false 1,[.t 70],some 2,none⟩,
 op (.t 72) .lenL [.t 71],
 op (.t 73) (.bin .neq) [.t 72,.c (.int .i64 2)],
 op (.t 74) .mv [.t 73],
 ⟨.t 75,.fad 1,[.l 2],none,some (.t 74,false)⟩,
 ⟨.t 76,.ldLc 2 false 1,[.t 75],some 2,some (.t 74,false)⟩,
 ⟨.t 77,.iad 11,[.t 76,.c (.int .i64 1)],none,some (.t 74,false)⟩,
 ⟨.t 78,.fad 0,[.t 77],none,some (.t 74,false)⟩,
 ⟨.t 79,.ldRo false 1,[.t 78],none,some (.t 74,false)⟩,
 ⟨.t 80,.bin .neq,[.t 79,.c (.str [105,110,112,117,116])],none,some (.t 74,false)⟩,
 op (.t 81) .pick [.t 74,.c (.bool true),.t 80],
 op (.t 82) .mv [.t 81],
 ⟨.t 83,.fad 1,[.l 2],none,some (.t 82,false)⟩,
 ⟨.t 84,.ldLc 2 false 1,[.t 83],some 2,some (.t 82,false)⟩,
 ⟨.t 85,.iad 11,[.t 84,.c (.int .i64 1)],none,some (.t 82,false)⟩,
 ⟨.t 86,.fad 2,[.t 85],none,some (.t 82,false)⟩,
 ⟨.t 87,.fad 2,[.t 86],none,some (.t 82,false)⟩,
 ⟨.t 88,.ldRo false 1,[.t 87],none,some (.t 82,false)⟩,
 ⟨.t 89,.un .not,[.t 88],none,some (.t 82,false)⟩,
 op (.t 90) .pick [.t 82,.c (.bool true),.t 89],
 op (.t 91) .mv [.t 90],
 ⟨.t 92,.fad 1,[.l 2],none,some (.t 91,false)⟩,
 ⟨.t 93,.ldLc 2 false 1,[.t 92],some 2,some (.t 91,false)⟩,
 ⟨.t 94,.iad 11,[.t 93,.c (.int .i64 1)],none,some (.t 91,false)⟩,
 ⟨.t 95,.fad 2,[.t 94],none,some (.t 91,false)⟩,
 ⟨.t 96,.fad 1,[.t 95],none,some (.t 91,false)⟩,
 ⟨.t 97,.ldRo false 1,[.t 96],none,some (.t 91,false)⟩,
 ⟨.t 98,.lenL,[.t 97],none,some (.t 91,false)⟩,
 ⟨.t 99,.bin .gtr,[.t 98,.c (.int .i64 0)],none,some (.t 91,false)⟩,
 op (.t 100) .pick [.t 91,.c (.bool true),.t 99]]
def a92r17 : List AOper := [
 op (.v 3) .mv [.c (.bool false)]]
def a92s18 : ACode := .reg [] a92r17
def a92s19 : ACode := .seq a92s18 .ret
def a92s20 : ACode := .test [] a92r16 (.t 100) a92s19 .skip
def a92r21 : List AOper := [
 op (.t 101) .mv [.v 0],
 op (.t 102) (.fad 1) [.l 2],
 ⟨.t 103,.ldLc 2 false 1,[.t 102],some 2,none⟩,
 op (.t 104) (.iad 11) [.t 103,.c (.int .i64 1)],
 op (.t 105) (.fad 2) [.t 104],
 op (.t 106) (.fad 0) [.t 105],
 op (.t 107) (.ldRo false 1) [.t 106],
 op (.t 108) (.call 54) [.t 101,.t 107],
 ⟨.bx,.alloc [.int .u8 0,.str [],.list true [],.list true []],[],some 7,none⟩,
 ⟨.none,.stLc 7 4,[.l 7,.ts 108],some 7,none⟩]
def a92s22 : ACode := .reg [7] a92r21
def a92r23 : List AOper := [
 op (.t 109) (.fad 0) [.l 7],
 ⟨.t 110,.ldLc 7 false 1,[.t 109],some 7,none⟩,
 op (.t 111) (.bin .neq) [.t 110,.c (.int .u8 5)]]
def a92r24 : List AOper := [
 op (.v 3) .mv [.c (.bool false)]]
def a92s25 : ACode := .reg [] a92r24
def a92s26 : ACode := .seq a92s25 .ret
def a92s27 : ACode := .test [] a92r23 (.t 111) a92s26 .skip
def a92r28 : List AOper := [
 op (.v 8) .mv [.c (.int .i64 0)]]
def a92s29 : ACode := .reg [] a92r28
def a92r30 : List AOper := [
 op (.t 112) .mv [.v 8],
 op (.t 113) (.fad 2) [.l 7],
 ⟨.t 114,.ldLc 7 false 1,[.t 113],some 7,none⟩,
 op (.t 115) .lenL [.t 114],
 op (.t 116) (.bin .lss) [.t 112,.t 115]]
def a92s31 : ACode := .test [] a92r30 (.t 116) .skip (.exit 0)
def a92r32 : List AOper := [
 op (.t 119) (.fad 2) [.l 6],
 ⟨.t 120,.ldLc 6 false 1,[.t 119],some 6,none⟩,
 op (.t 121) (.fad 2) [.l 7],
 ⟨.t 122,.ldLc 7 false 1,[.t 121],some 7,none⟩,
 op (.t 123) .mv [.v 8],
 op (.t 124) (.iad 11) [.t 122,.t 123],
 op (.t 125) (.fad 0) [.t 124],
 op (.t 126) (.ldRo false 1) [.t 125],
 op (.t 127) (.call 87) [.t 120,.t 126],
 op (.v 9) .mv [.t 127]]
def a92s33 : ACode := .reg [] a92r32
def a92r34 : List AOper := [
 op (.t 128) .mv [.v 9],
 op (.t 129) (.bin .lss) [.t 128,.c (.int .i64 0)],
 op (.t 130) .mv [.t 129],
 ⟨.t 131,.mv,[.v 0],none,some (.t 130,false)⟩,
 ⟨.t 132,.fad 2,[.l 6],none,some (.t 130,false)⟩,
 ⟨.t 133,.ldLc 6 false 1,[.t 132],some 6,some (.t 130,false)⟩,
 ⟨.t 134,.mv,[.v 9],none,some (.t 130,false)⟩,
 ⟨.t 135,.iad 11,[.t 133,.t 134],none,some (.t 130,false)⟩,
 ⟨.t 136,.fad 2,[.t 135],none,some (.t 130,false)⟩,
 ⟨.t 137,.ldRo true 3,[.t 136],none,some (.t 130,false)⟩,
 ⟨.t 138,.fad 2,[.l 7],none,some (.t 130,false)⟩,
 ⟨.t 139,.ldLc 7 false 1,[.t 138],some 7,some (.t 130,false)⟩,
 ⟨.t 140,.mv,[.v 8],none,some (.t 130,false)⟩,
 ⟨.t 141,.iad 11,[.t 139,.t 140],none,some (.t 130,false)⟩,
 ⟨.t 142,.fad 2,[.t 141],none,some (.t 130,false)⟩,
 ⟨.t 143,.ldRo true 3,[.t 142],none,some (.t 130,false)⟩,
 ⟨.t 144,.call 118,[.t 131,.t 137,.t 143],none,some (.t 130,false)⟩,
 ⟨.t 145,.un .not,[.t 144],none,some (.t 130,false)⟩,
 op (.t 146) .pick [.t 130,.c (.bool true),.t 145]]
def a92r35 : List AOper := [
 op (.v 3) .mv [.c (.bool false)]]
def a92s36 : ACode := .reg [] a92r35
def a92s37 : ACode := .seq a92s36 .ret
def a92s38 : ACode := .test [] a92r34 (.t 146) a92s37 .skip
def a92s39 : ACode := .seq a92s33 a92s38
def a92s40 : ACode := .blk 1 a92s39
def a92r41 : List AOper := [
 op (.t 117) .mv [.v 8],
 op (.t 118) (.bin .add) [.t 117,.c (.int .i64 1)],
 op (.v 8) .mv [.t 118]]
def a92s42 : ACode := .reg [] a92r41
def a92s43 : ACode := .seq a92s40 a92s42
def a92s44 : ACode := .seq a92s31 a92s43
def a92s45 : ACode := .loop a92s44
def a92s46 : ACode := .blk 0 a92s45
def a92s47 : ACode := .seq a92s29 a92s46
def a92r48 : List AOper := [
 op (.v 3) .mv [.c (.bool true)]]
def a92s49 : ACode := .reg [] a92r48
def a92s50 : ACode := .seq a92s49 .ret
def a92s51 : ACode := .seq a92s47 a92s50
def a92s52 : ACode := .seq a92s27 a92s51
def a92s53 : ACode := .seq a92s22 a92s52
def a92s54 : ACode := .seq a92s20 a92s53
def a92s55 : ACode := .seq a92s15 a92s54
def a92s56 : ACode := .seq a92s10 a92s55
def a92s57 : ACode := .seq a92s5 a92s56
def a92s58 : ACode := .seq a92s3 a92s57
def a92s59 : ACode := .seq a92s1 a92s58
def a92c : ACode :=
  a92s59
def a92 : AFn := { np := 2,nv := 10,results := [.v 3],code := a92c }
def a92v : List Nat := [0,1,3,4,5,6,7,8,9,10]
def a92b : List Nat := [2,6,7]

def a93r0 : List AOper := [
 op (.v 2) .mv [.c (.bool false)]]
def a93s1 : ACode := .reg [] a93r0
def a93r2 : List AOper := [
 op (.t 5) .mv [.v 0],
 op (.t 6) .mv [.v 1],
 op (.t 7) (.call 119) [.t 5,.t 6],
 op (.t 8) (.bin .geq) [.t 7,.c (.int .i64 0)],
 op (.v 2) .mv [.t 8]]
def a93s3 : ACode := .reg [] a93r2
def a93s4 : ACode := .seq a93s3 .ret
def a93s5 : ACode := .seq a93s1 a93s4
def a93c : ACode :=
  a93s5
def a93 : AFn := { np := 2,nv := 3,results := [.v 2],code := a93c }
def a93v : List Nat := [0,1,4]
def a93b : List Nat := []

def a94r0 : List AOper := [
 ⟨.bx,.boxV,[.v 0],some 2,none⟩,
 op (.v 3) .mv [.c (.bool false)]]
def a94s1 : ACode := .reg [2] a94r0
def a94r2 : List AOper := [
 op (.t 4) (.fad 0) [.l 2],
 ⟨.t 5,.ldLc 2 false 1,[.t 4],some 2,none⟩,
 op (.t 6) (.bin .eql) [.t 5,.c (.str [115,107,105,112])],
 op (.t 7) .mv [.t 6],
 ⟨.t 8,.ldSt false 1,[.v 1],none,some (.t 7,true)⟩,
 ⟨.t 9,.ldLc 2 true 2,[.l 2],some 2,some (.t 7,true)⟩,
 ⟨.t 10,.call 95,[.t 8,.t 9],none,some (.t 7,true)⟩,
 op (.t 11) .pick [.t 7,.t 10,.c (.bool false)],
 op (.t 12) .mv [.t 11],
 ⟨.t 13,.fad 0,[.l 2],none,some (.t 12,false)⟩,
 ⟨.t 14,.ldLc 2 false 1,[.t 13],some 2,some (.t 12,false)⟩,
 ⟨.t 15,.bin .eql,[.t 14,.c (.str [105,110,99,108,117,100,101])],none,some (.t 12,false)⟩,
 ⟨.t 16,.mv,[.t 15],none,some (.t 12,false)⟩,
 ⟨.t 17,.ldSt false 1,[.v 1],none,some (.t 16,true)⟩,
 ⟨.t 18,.ldLc 2 true 2,[.l 2],some 2,some (.t 16,true)⟩,
 ⟨.t 19,.call 95,[.t 17,.t 18],none,some (.t 16,true)⟩,
 ⟨.t 20,.un .not,[.t 19],none,some (.t 16,true)⟩,
 ⟨.t 21,.pick,[.t 16,.t 20,.c (.bool false)],none,some (.t 12,false)⟩,
 op (.t 22) .pick [.t 12,.c (.bool true),.t 21],
 op (.v 3) .mv [.t 22]]
def a94s3 : ACode := .reg [] a94r2
def a94s4 : ACode := .seq a94s3 .ret
def a94s5 : ACode := .seq a94s1 a94s4
def a94c : ACode :=
  a94s5
def a94 : AFn := { np := 2,nv := 4,results := [.v 3],code := a94c }
def a94v : List Nat := [0,1,2,3]
def a94b : List Nat := [2]

def a95r0 : List AOper := [
 ⟨.bx,.boxV,[.v 1],some 2,none⟩,
 op (.v 3) .mv [.c (.bool false)]]
def a95s1 : ACode := .reg [2] a95r0
def a95r2 : List AOper := [
 op (.t 8) (.fad 1) [.l 2],
 ⟨.v 6,.ldLc 2 false 1,[.t 8],some 2,none⟩,
 op (.v 7) .lenL [.v 6],
 op (.v 8) .mv [.c (.int .i64 0)]]
def a95s3 : ACode := .reg [] a95r2
def a95r4 : List AOper := [
 op (.t 12) (.bin .lss) [.v 8,.v 7]]
def a95s5 : ACode := .test [] a95r4 (.t 12) .skip (.exit 0)
def a95r6 : List AOper := [
 op (.t 13) (.iad 6) [.v 6,.v 8],
 op (.t 14) (.ldRo true 6) [.t 13],
 ⟨.bx,.alloc [.str [],.int .u8 0,.int .i64 0,.str [],.list true [],.list true []],[],some 4,none⟩,
 ⟨.none,.stLc 4 6,[.l 4,.ts 14],some 4,none⟩]
def a95s7 : ACode := .reg [4] a95r6
def a95r8 : List AOper := [
 op (.t 15) (.fad 1) [.l 4],
 ⟨.t 16,.ldLc 4 true 5,[.t 15],some 4,none⟩,
 ⟨.bx,.alloc [.int .u8 0,.int .i64 0,.str [],.list true [],.list true []],[],some 5,none⟩,
 ⟨.none,.stLc 5 5,[.l 5,.ts 16],some 5,none⟩]
def a95s9 : ACode := .reg [5] a95r8
def a95r10 : List AOper := [
 op (.t 17) (.fad 0) [.l 5],
 ⟨.t 18,.ldLc 5 false 1,[.t 17],some 5,none⟩,
 op (.t 19) (.bin .eql) [.t 18,.c (.int .u8 7)]]
def a95r11 : List AOper := [
 op (.t 21) .mv [.v 0],
 op (.t 22) .nilchk [.t 21],
 op (.t 23) (.fad 4) [.t 22],
 op (.t 24) (.ldSt true 5) [.t 23],
 op (.t 25) (.fad 2) [.l 5],
 ⟨.t 26,.ldLc 5 false 1,[.t 25],some 5,none⟩,
 op (.t 27) (.call 120) [.t 24,.t 26],
 op (.t 20) .mv [.t 27],
 op (.t 28) (.ext 0) [.t 20],
 op (.t 29) (.ext 1) [.t 20],
 ⟨.none,.stLc 5 5,[.l 5,.ts 28],some 5,none⟩]
def a95s12 : ACode := .reg [] a95r11
def a95s13 : ACode := .test [] a95r10 (.t 19) a95s12 .skip
def a95r14 : List AOper := [
 op (.t 30) (.fad 0) [.l 4],
 ⟨.t 31,.ldLc 4 false 1,[.t 30],some 4,none⟩,
 op (.t 32) (.bin .eql) [.t 31,.c (.str [105,102])]]
def a95r15 : List AOper := [
 op (.t 33) (.fad 0) [.l 5],
 ⟨.t 34,.ldLc 5 false 1,[.t 33],some 5,none⟩,
 op (.t 35) (.bin .eql) [.t 34,.c (.int .u8 3)],
 op (.t 36) .mv [.t 35],
 ⟨.t 37,.fad 1,[.l 5],none,some (.t 36,true)⟩,
 ⟨.t 38,.ldLc 5 false 1,[.t 37],some 5,some (.t 36,true)⟩,
 ⟨.t 39,.bin .eql,[.t 38,.c (.int .i64 1)],none,some (.t 36,true)⟩,
 op (.t 40) .pick [.t 36,.t 39,.c (.bool false)],
 op (.v 3) .mv [.t 40]]
def a95s16 : ACode := .reg [] a95r15
def a95s17 : ACode := .seq a95s16 .ret
def a95s18 : ACode := .test [] a95r14 (.t 32) a95s17 .skip
def a95s19 : ACode := .seq a95s13 a95s18
def a95s20 : ACode := .seq a95s9 a95s19
def a95s21 : ACode := .seq a95s7 a95s20
def a95s22 : ACode := .blk 1 a95s21
def a95r23 : List AOper := [
 op (.t 41) (.bin .add) [.v 8,.c (.int .i64 1)],
 op (.v 8) .mv [.t 41]]
def a95s24 : ACode := .reg [] a95r23
def a95s25 : ACode := .seq a95s22 a95s24
def a95s26 : ACode := .seq a95s5 a95s25
def a95s27 : ACode := .loop a95s26
def a95s28 : ACode := .blk 0 a95s27
def a95s29 : ACode := .seq a95s3 a95s28
def a95r30 : List AOper := [
 op (.v 3) .mv [.c (.bool false)]]
def a95s31 : ACode := .reg [] a95r30
def a95s32 : ACode := .seq a95s31 .ret
def a95s33 : ACode := .seq a95s29 a95s32
def a95s34 : ACode := .seq a95s1 a95s33
def a95c : ACode :=
  a95s34
def a95 : AFn := { np := 2,nv := 9,results := [.v 3],code := a95c }
def a95v : List Nat := [0,1,3,4,6,7,9,10,11]
def a95b : List Nat := [2,4,5]

def a96r0 : List AOper := [
 op (.v 2) .mv [.c (.int .i64 0)]]
def a96s1 : ACode := .reg [] a96r0
def a96r2 : List AOper := [
 op (.t 6) .mv [.v 0],
 op (.v 4) .lenL [.t 6],
 op (.v 5) .mv [.c (.int .i64 0)]]
def a96s3 : ACode := .reg [] a96r2
def a96r4 : List AOper := [
 op (.t 9) (.bin .lss) [.v 5,.v 4]]
def a96s5 : ACode := .test [] a96r4 (.t 9) .skip (.exit 0)
def a96r6 : List AOper := [
 op (.t 10) .mv [.v 5],
 op (.v 3) .mv [.t 10]]
def a96s7 : ACode := .reg [] a96r6
def a96r8 : List AOper := [
 op (.t 11) .mv [.v 1],
 op (.t 12) .mv [.v 0],
 op (.t 13) .mv [.v 3],
 op (.t 14) (.iad 2) [.t 12,.t 13],
 op (.t 15) (.ldSt true 2) [.t 14],
 op (.t 16) .callV [.t 11,.t 15]]
def a96r9 : List AOper := [
 op (.t 17) .mv [.v 3],
 op (.v 2) .mv [.t 17]]
def a96s10 : ACode := .reg [] a96r9
def a96s11 : ACode := .seq a96s10 .ret
def a96s12 : ACode := .test [] a96r8 (.t 16) a96s11 .skip
def a96s13 : ACode := .seq a96s7 a96s12
def a96s14 : ACode := .blk 1 a96s13
def a96r15 : List AOper := [
 op (.t 18) (.bin .add) [.v 5,.c (.int .i64 1)],
 op (.v 5) .mv [.t 18]]
def a96s16 : ACode := .reg [] a96r15
def a96s17 : ACode := .seq a96s14 a96s16
def a96s18 : ACode := .seq a96s5 a96s17
def a96s19 : ACode := .loop a96s18
def a96s20 : ACode := .blk 0 a96s19
def a96s21 : ACode := .seq a96s3 a96s20
def a96r22 : List AOper := [
 op (.v 2) .mv [.c (.int .i64 (-1))]]
def a96s23 : ACode := .reg [] a96r22
def a96s24 : ACode := .seq a96s23 .ret
def a96s25 : ACode := .seq a96s21 a96s24
def a96s26 : ACode := .seq a96s1 a96s25
def a96c : ACode :=
  a96s26
def a96 : AFn := { np := 2,nv := 6,results := [.v 2],code := a96c }
def a96v : List Nat := [0,1,4,5,7,8]
def a96b : List Nat := []

def a97r0 : List AOper := [
 ⟨.bx,.boxV,[.v 0],some 2,none⟩,
 op (.v 3) .mv [.c (.bool false)]]
def a97s1 : ACode := .reg [2] a97r0
def a97r2 : List AOper := [
 op (.t 4) (.fad 0) [.l 2],
 ⟨.t 5,.ldLc 2 false 1,[.t 4],some 2,none⟩,
 op (.t 6) (.ldSt false 1) [.v 1],
 op (.t 7) (.bin .eql) [.t 5,.t 6],
 op (.v 3) .mv [.t 7]]
def a97s3 : ACode := .reg [] a97r2
def a97s4 : ACode := .seq a97s3 .ret
def a97s5 : ACode := .seq a97s1 a97s4
def a97c : ACode :=
  a97s5
def a97 : AFn := { np := 2,nv := 4,results := [.v 3],code := a97c }
def a97v : List Nat := [0,1,2,3]
def a97b : List Nat := [2]

def a98r0 : List AOper := [
 op (.v 2) .mv [.c (.list true [])]]
def a98s1 : ACode := .reg [] a98r0
def a98r2 : List AOper := [
 op (.t 11) .mv [.v 0],
 op (.t 12) .mv [.v 1],
 op (.t 13) (.call 48) [.t 11,.t 12],
 op (.t 10) .mv [.t 13],
 op (.t 14) (.ext 0) [.t 10],
 op (.t 15) (.ext 1) [.t 10],
 ⟨.bx,.alloc [.int .u8 0,.str [],.list true [],.list true []],[],some 3,none⟩,
 ⟨.none,.stLc 3 4,[.l 3,.ts 14],some 3,none⟩,
 op (.v 4) .mv [.t 15]]
def a98s3 : ACode := .reg [3] a98r2
def a98r4 : List AOper := [
 op (.t 17) .mv [.v 4],
 op (.t 18) (.un .not) [.t 17],
 op (.t 16) .mv [.t 18]]
def a98r5 : List AOper := [
 op (.v 2) .mv [.c (.list true [])]]
def a98s6 : ACode := .reg [] a98r5
def a98s7 : ACode := .seq a98s6 .ret
def a98r8 : List AOper := [
 op (.t 20) (.fad 0) [.l 3],
 ⟨.t 21,.ldLc 3 false 1,[.t 20],some 3,none⟩,
 op (.t 22) (.bin .eql) [.t 21,.c (.int .u8 1)],
 op (.t 19) .mv [.t 22]]
def a98r9 : List AOper := [
 op (.t 23) .mv [.v 1],
 op (.t 24) (.bslice 1 [[.str []]] [0]) [.t 23],
 op (.v 2) .mv [.ts 24]]
def a98s10 : ACode := .reg [] a98r9
def a98s11 : ACode := .seq a98s10 .ret
def a98r12 : List AOper := [
 op (.t 26) (.fad 0) [.l 3],
 ⟨.t 27,.ldLc 3 false 1,[.t 26],some 3,none⟩,
 op (.t 28) (.bin .eql) [.t 27,.c (.int .u8 3)],
 op (.t 25) .mv [.t 28]]
def a98r13 : List AOper := [
 op (.t 29) (.fad 3) [.l 3],
 ⟨.t 30,.ldLc 3 false 1,[.t 29],some 3,none⟩,
 op (.t 31) (.call 121) [.t 30],
 op (.v 2) .mv [.ts 31]]
def a98s14 : ACode := .reg [] a98r13
def a98s15 : ACode := .seq a98s14 .ret
def a98r16 : List AOper := [
 op (.t 33) (.fad 0) [.l 3],
 ⟨.t 34,.ldLc 3 false 1,[.t 33],some 3,none⟩,
 op (.t 35) (.bin .neq) [.t 34,.c (.int .u8 2)],
 op (.t 32) .mv [.t 35]]
def a98r17 : List AOper := [
 op (.v 2) .mv [.c (.list true [])]]
def a98s18 : ACode := .reg [] a98r17
def a98s19 : ACode := .seq a98s18 .ret
def a98s20 : ACode := .test [] a98r16 (.t 32) a98s19 .skip
def a98s21 : ACode := .test [] a98r12 (.t 25) a98s15 a98s20
def a98s22 : ACode := .test [] a98r8 (.t 19) a98s11 a98s21
def a98s23 : ACode := .test [] a98r4 (.t 16) a98s7 a98s22
def a98s24 : ACode := .blk 0 a98s23
def a98r25 : List AOper := [
 op (.v 5) .mv [.c (.list true [])]]
def a98s26 : ACode := .reg [] a98r25
def a98r27 : List AOper := [
 op (.t 36) .mv [.v 0],
 op (.t 37) .nilchk [.t 36],
 op (.t 38) (.fad 0) [.t 37],
 op (.v 7) (.ldSt false 1) [.t 38],
 op (.v 8) .lenL [.v 7],
 op (.v 9) .mv [.c (.int .i64 0)]]
def a98s28 : ACode := .reg [] a98r27
def a98r29 : List AOper := [
 op (.t 42) (.bin .lss) [.v 9,.v 8]]
def a98s30 : ACode := .test [] a98r29 (.t 42) .skip (.exit 1)
def a98r31 : List AOper := [
 op (.t 43) (.iad 4) [.v 7,.v 9],
 op (.t 44) (.ldRo true 4) [.t 43],
 ⟨.bx,.alloc [.int .u8 0,.str [],.list true [],.list true []],[],some 6,none⟩,
 ⟨.none,.stLc 6 4,[.l 6,.ts 44],some 6,none⟩]
def a98s32 : ACode := .reg [6] a98r31
def a98r33 : List AOper := [
 op (.t 45) (.fad 0) [.l 6],
 ⟨.t 46,.ldLc 6 false 1,[.t 45],some 6,none⟩,
 op (.t 47) (.bin .eql) [.t 46,.c (.int .u8 1)],
 op (.t 48) .mv [.t 47],
 ⟨.t 49,.fad 3,[.l 6],none,some (.t 48,true)⟩,
 ⟨.t 50,.ldLc 6 false 1,[.t 49],some 6,some (.t 48,true)⟩,
 ⟨.t 51,.mv,[.v 1],none,some (.t 48,true)⟩,
 ⟨.t 52,.call 45,[.t 50,.t 51],none,some (.t 48,true)⟩,
 op (.t 53) .pick [.t 48,.t 52,.c (.bool false)]]
def a98r34 : List AOper := [
 op (.t 54) .mv [.vs 5],
 op (.t 55) (.fad 1) [.l 6],
 ⟨.t 56,.ldLc 6 false 1,[.t 55],some 6,none⟩,
 op (.t 57) (.bslice 1 [[.str []]] [0]) [.t 56],
 op (.t 58) (.app 1 16) [.ts 54,.t 57],
 op (.v 5) .mv [.ts 58]]
def a98s35 : ACode := .reg [] a98r34
def a98s36 : ACode := .test [] a98r33 (.t 53) a98s35 .skip
def a98s37 : ACode := .seq a98s32 a98s36
def a98s38 : ACode := .blk 2 a98s37
def a98r39 : List AOper := [
 op (.t 59) (.bin .add) [.v 9,.c (.int .i64 1)],
 op (.v 9) .mv [.t 59]]
def a98s40 : ACode := .reg [] a98r39
def a98s41 : ACode := .seq a98s38 a98s40
def a98s42 : ACode := .seq a98s30 a98s41
def a98s43 : ACode := .loop a98s42
def a98s44 : ACode := .blk 1 a98s43
def a98s45 : ACode := .seq a98s28 a98s44
def a98r46 : List AOper := [
 op (.t 60) .mv [.v 5],
 op (.v 2) .mv [.ts 60]]
def a98s47 : ACode := .reg [] a98r46
def a98s48 : ACode := .seq a98s47 .ret
def a98s49 : ACode := .seq a98s45 a98s48
def a98s50 : ACode := .seq a98s26 a98s49
def a98s51 : ACode := .seq a98s24 a98s50
def a98s52 : ACode := .seq a98s3 a98s51
def a98s53 : ACode := .seq a98s1 a98s52
def a98c : ACode :=
  a98s53
def a98 : AFn := { np := 2,nv := 10,results := [.v 2],code := a98c }
def a98v : List Nat := [0,1,4,5,6,7,9,39,40,41]
def a98b : List Nat := [3,6]

def a102r0 : List AOper := [
 ⟨.bx,.boxV,[.v 0],some 1,none⟩,
 op (.v 2) .mv [.c (.str [])]]
def a102s1 : ACode := .reg [1] a102r0
def a102r2 : List AOper := [
 op (.t 3) (.fad 1) [.l 1],
 ⟨.t 4,.ldLc 1 false 1,[.t 3],some 1,none⟩,
 op (.t 5) .lenL [.t 4],
 op (.t 6) (.bin .gtr) [.t 5,.c (.int .i64 0)]]
def a102s3 : ACode := .test [] a102r2 (.t 6) .skip (.exit 0)
def a102r4 : List AOper := [
 op (.t 7) (.fad 1) [.l 1],
 ⟨.t 8,.ldLc 1 false 1,[.t 7],some 1,none⟩,
 op (.t 9) (.iad 3) [.t 8,.c (.int .i64 0)],
 op (.t 10) (.ldRo true 3) [.t 9],
 ⟨.none,.stLc 1 3,[.l 1,.ts 10],some 1,none⟩]
def a102s5 : ACode := .reg [] a102r4
def a102s6 : ACode := .blk 1 a102s5
def a102s7 : ACode := .seq a102s3 a102s6
def a102s8 : ACode := .loop a102s7
def a102s9 : ACode := .blk 0 a102s8
def a102r10 : List AOper := [
 op (.t 11) (.fad 0) [.l 1],
 ⟨.t 12,.ldLc 1 false 1,[.t 11],some 1,none⟩,
 op (.v 2) .mv [.t 12]]
def a102s11 : ACode := .reg [] a102r10
def a102s12 : ACode := .seq a102s11 .ret
def a102s13 : ACode := .seq a102s9 a102s12
def a102s14 : ACode := .seq a102s1 a102s13
def a102c : ACode :=
  a102s14
def a102 : AFn := { np := 1,nv := 3,results := [.v 2],code := a102c }
def a102v : List Nat := [0,1,2]
def a102b : List Nat := [1]

def a103r0 : List AOper := [
 op (.v 2) .mv [.c (.bool false)]]
def a103s1 : ACode := .reg [] a103r0
def a103r2 : List AOper := [
 op (.t 5) .mv [.v 0],
 op (.t 6) (.binP .neq) [.t 5,.c (.nilp)],
 op (.t 7) .mv [.t 6],
 ⟨.t 8,.slA 4 1 false false,[.c (.ro [.str [66,111,111,108,101,97,110],.str [73,68],.str [73,110,116],.str [83,116,114,105,110,103]])],none,some (.t 7,true)⟩,
 ⟨.t 9,.mv,[.v 1],none,some (.t 7,true)⟩,
 ⟨.t 10,.call 45,[.t 8,.t 9],none,some (.t 7,true)⟩,
 op (.t 11) .pick [.t 7,.t 10,.c (.bool false)],
 op (.v 2) .mv [.t 11]]
def a103s3 : ACode := .reg [] a103r2
def a103s4 : ACode := .seq a103s3 .ret
def a103s5 : ACode := .seq a103s1 a103s4
def a103c : ACode :=
  a103s5
def a103 : AFn := { np := 2,nv := 3,results := [.v 2],code := a103c }
def a103v : List Nat := [0,1,4]
def a103b : List Nat := []

def a104r0 : List AOper := [
 op (.v 2) .mv [.c (.bool false)]]
def a104s1 : ACode := .reg [] a104r0
def a104r2 : List AOper := [
 op (.t 5) .mv [.v 0],
 op (.t 6) .mv [.v 1],
 op (.t 7) (.call 123) [.t 5,.t 6,.c (.int .u8 4)],
 op (.v 2) .mv [.t 7]]
def a104s3 : ACode := .reg [] a104r2
def a104s4 : ACode := .seq a104s3 .ret
def a104s5 : ACode := .seq a104s1 a104s4
def a104c : ACode :=
  a104s5
def a104 : AFn := { np := 2,nv := 3,results := [.v 2],code := a104c }
def a104v : List Nat := [0,1,4]
def a104b : List Nat := []

def a105r0 : List AOper := [
 op (.v 2) .mv [.c (.bool false)]]
def a105s1 : ACode := .reg [] a105r0
def a105r2 : List AOper := [
 op (.t 5) .mv [.v 0],
 op (.t 6) .mv [.v 1],
 op (.t 7) (.call 123) [.t 5,.t 6,.c (.int .u8 5)],
 op (.v 2) .mv [.t 7]]
def a105s3 : ACode := .reg [] a105r2
def a105s4 : ACode := .seq a105s3 .ret
def a105s5 : ACode := .seq a105s1 a105s4
def a105c : ACode :=
  a105s5
def a105 : AFn := { np := 2,nv := 3,results := [.v 2],code := a105c }
def a105v : List Nat := [0,1,4]
def a105b : List Nat := []

def a106r0 : List AOper := [
 op (.v 3) .boxO [.v 0],
 op (.v 4) .boxO [.v 1],
 ⟨.bx,.boxV,[.v 2],some 5,none⟩,
 op (.v 6) .mv [.c (.bool false)]]
def a106s1 : ACode := .reg [5] a106r0
def a106r2 : List AOper := [
 op (.t 9) (.fad 0) [.l 5],
 ⟨.t 10,.ldLc 5 false 1,[.t 9],some 5,none⟩,
 op (.t 11) (.bin .eql) [.t 10,.c (.int .u8 0)]]
def a106r3 : List AOper := [
 op (.t 12) (.fad 2) [.v 4],
 op (.t 13) (.ldSt false 1) [.t 12],
 op (.t 14) (.un .not) [.t 13],
 op (.v 6) .mv [.t 14]]
def a106s4 : ACode := .reg [] a106r3
def a106s5 : ACode := .seq a106s4 .ret
def a106s6 : ACode := .test [] a106r2 (.t 11) a106s5 .skip
def a106r7 : List AOper := [
 op (.t 15) (.fad 1) [.v 4],
 op (.t 16) (.ldSt false 1) [.t 15],
 op (.t 17) .lenL [.t 16],
 op (.t 18) (.bin .gtr) [.t 17,.c (.int .i64 0)]]
def a106r8 : List AOper := [
 op (.t 19) (.fad 0) [.l 5],
 ⟨.t 20,.ldLc 5 false 1,[.t 19],some 5,none⟩,
 op (.t 21) (.bin .neq) [.t 20,.c (.int .u8 5)]]
def a106r9 : List AOper := [
 op (.t 22) (.ldSt false 1) [.v 3],
 op (.t 23) (.fad 1) [.v 4],
 op (.t 24) (.ldSt false 1) [.t 23],
 op (.t 25) (.iad 3) [.t 24,.c (.int .i64 0)],
 op (.t 26) (.ldRo true 3) [.t 25],
 ⟨.t 27,.ldLc 5 true 5,[.l 5],some 5,none⟩,
 op (.t 28) (.call 106) [.t 22,.t 26,.t 27],
 op (.v 6) .mv [.t 28]]
def a106s10 : ACode := .reg [] a106r9
def a106s11 : ACode := .seq a106s10 .ret
def a106s12 : ACode := .test [] a106r8 (.t 21) a106s11 .skip
def a106r13 : List AOper := [
 op (.t 29) (.fad 4) [.l 5],
 ⟨.t 30,.ldLc 5 false 1,[.t 29],some 5,none⟩,
 op (.t 31) (.mkF 125 0) [.v 3,.v 4],
 op (.t 32) (.call 124) [.t 30,.t 31],
 op (.t 33) (.un .not) [.t 32],
 op (.v 6) .mv [.t 33]]
def a106s14 : ACode := .reg [] a106r13
def a106s15 : ACode := .seq a106s14 .ret
def a106s16 : ACode := .seq a106s12 a106s15
def a106s17 : ACode := .test [] a106r7 (.t 18) a106s16 .skip
def a106r18 : List AOper := [
 op (.t 34) (.fad 0) [.v 4],
 op (.v 8) (.ldSt false 1) [.t 34]]
def a106s19 : ACode := .reg [] a106r18
def a106r20 : List AOper := [
 op (.t 37) (.bin .eql) [.v 8,.c (.str [73,110,116])],
 op (.t 36) .mv [.t 37]]
def a106r21 : List AOper := [
 op (.t 38) (.fad 0) [.l 5],
 ⟨.t 39,.ldLc 5 false 1,[.t 38],some 5,none⟩,
 op (.t 40) (.bin .eql) [.t 39,.c (.int .u8 1)],
 op (.t 41) .mv [.t 40],
 ⟨.t 42,.fad 1,[.l 5],none,some (.t 41,true)⟩,
 ⟨.t 43,.ldLc 5 false 1,[.t 42],some 5,some (.t 41,true)⟩,
 ⟨.t 44,.fad 1,[.l 5],none,some (.t 41,true)⟩,
 ⟨.t 45,.ldLc 5 false 1,[.t 44],some 5,some (.t 41,true)⟩,
 ⟨.t 46,.conv .i32,[.t 45],none,some (.t 41,true)⟩,
 ⟨.t 47,.conv .i64,[.t 46],none,some (.t 41,true)⟩,
 ⟨.t 48,.bin .eql,[.t 43,.t 47],none,some (.t 41,true)⟩,
 op (.t 49) .pick [.t 41,.t 48,.c (.bool false)],
 op (.v 6) .mv [.t 49]]
def a106s22 : ACode := .reg [] a106r21
def a106s23 : ACode := .seq a106s22 .ret
def a106r24 : List AOper := [
 op (.t 51) (.bin .eql) [.v 8,.c (.str [83,116,114,105,110,103])],
 op (.t 50) .mv [.t 51]]
def a106r25 : List AOper := [
 op (.t 52) (.fad 0) [.l 5],
 ⟨.t 53,.ldLc 5 false 1,[.t 52],some 5,none⟩,
 op (.t 54) (.bin .eql) [.t 53,.c (.int .u8 2)],
 op (.v 6) .mv [.t 54]]
def a106s26 : ACode := .reg [] a106r25
def a106s27 : ACode := .seq a106s26 .ret
def a106r28 : List AOper := [
 op (.t 56) (.bin .eql) [.v 8,.c (.str [66,111,111,108,101,97,110])],
 op (.t 55) .mv [.t 56]]
def a106r29 : List AOper := [
 op (.t 57) (.fad 0) [.l 5],
 ⟨.t 58,.ldLc 5 false 1,[.t 57],some 5,none⟩,
 op (.t 59) (.bin .eql) [.t 58,.c (.int .u8 3)],
 op (.v 6) .mv [.t 59]]
def a106s30 : ACode := .reg [] a106r29
def a106s31 : ACode := .seq a106s30 .ret
def a106r32 : List AOper := [
 op (.t 61) (.bin .eql) [.v 8,.c (.str [73,68])],
 op (.t 60) .mv [.t 61]]
def a106r33 : List AOper := [
 op (.t 62) (.fad 0) [.l 5],
 ⟨.t 63,.ldLc 5 false 1,[.t 62],some 5,none⟩,
 op (.t 64) (.bin .eql) [.t 63,.c (.int .u8 2)],
 op (.t 65) .mv [.t 64],
 ⟨.t 66,.fad 0,[.l 5],none,some (.t 65,false)⟩,
 ⟨.t 67,.ldLc 5 false 1,[.t 66],some 5,some (.t 65,false)⟩,
 ⟨.t 68,.bin .eql,[.t 67,.c (.int .u8 1)],none,some (.t 65,false)⟩,
 op (.t 69) .pick [.t 65,.c (.bool true),.t 68],
 op (.v 6) .mv [.t 69]]
def a106s34 : ACode := .reg [] a106r33
def a106s35 : ACode := .seq a106s34 .ret
def a106s36 : ACode := .test [] a106r32 (.t 60) a106s35 .skip
def a106s37 : ACode := .test [] a106r28 (.t 55) a106s31 a106s36
def a106s38 : ACode := .test [] a106r24 (.t 50) a106s27 a106s37
def a106s39 : ACode := .test [] a106r20 (.t 36) a106s23 a106s38
def a106s40 : ACode := .blk 0 a106s39
def a106s41 : ACode := .seq a106s19 a106s40
def a106r42 : List AOper := [
 op (.t 71) (.ldSt false 1) [.v 3],
 op (.t 72) (.fad 0) [.v 4],
 op (.t 73) (.ldSt false 1) [.t 72],
 op (.t 74) (.call 48) [.t 71,.t 73],
 op (.t 70) .mv [.t 74],
 op (.t 75) (.ext 0) [.t 70],
 op (.t 76) (.ext 1) [.t 70],
 ⟨.bx,.alloc [.int .u8 0,.str [],.list true [],.list true []],[],some 7,none⟩,
 ⟨.none,.stLc 7 4,[.l 7,.ts 75],some 7,none⟩,
 op (.t 8) .mv [.t 76]]
def a106s43 : ACode := .reg [7] a106r42
def a106r44 : List AOper := [
 op (.t 77) (.fad 0) [.l 7],
 ⟨.v 9,.ldLc 7 false 1,[.t 77],some 7,none⟩]
def a106s45 : ACode := .reg [] a106r44
def a106r46 : List AOper := [
 op (.t 80) (.bin .eql) [.v 9,.c (.int .u8 4)],
 op (.t 79) .mv [.t 80]]
def a106r47 : List AOper := [
 op (.t 81) (.fad 0) [.l 5],
 ⟨.t 82,.ldLc 5 false 1,[.t 81],some 5,none⟩,
 op (.t 83) (.bin .eql) [.t 82,.c (.int .u8 4)],
 op (.t 84) .mv [.t 83],
 ⟨.t 85,.fad 3,[.l 7],none,some (.t 84,true)⟩,
 ⟨.t 86,.ldLc 7 false 1,[.t 85],some 7,some (.t 84,true)⟩,
 ⟨.t 87,.fad 2,[.l 5],none,some (.t 84,true)⟩,
 ⟨.t 88,.ldLc 5 false 1,[.t 87],some 5,some (.t 84,true)⟩,
 ⟨.t 89,.call 45,[.t 86,.t 88],none,some (.t 84,true)⟩,
 op (.t 90) .pick [.t 84,.t 89,.c (.bool false)],
 op (.v 6) .mv [.t 90]]
def a106s48 : ACode := .reg [] a106r47
def a106s49 : ACode := .seq a106s48 .ret
def a106r50 : List AOper := [
 op (.t 92) (.bin .eql) [.v 9,.c (.int .u8 5)],
 op (.t 91) .mv [.t 92]]
def a106r51 : List AOper := [
 op (.t 93) (.fad 0) [.l 5],
 ⟨.t 94,.ldLc 5 false 1,[.t 93],some 5,none⟩,
 op (.t 95) (.bin .eql) [.t 94,.c (.int .u8 6)],
 op (.t 96) .mv [.t 95],
 ⟨.t 97,.ldSt false 1,[.v 3],none,some (.t 96,true)⟩,
 ⟨.t 98,.ldLc 7 true 4,[.l 7],some 7,some (.t 96,true)⟩,
 ⟨.t 99,.ldLc 5 true 5,[.l 5],some 5,some (.t 96,true)⟩,
 ⟨.t 100,.call 126,[.t 97,.t 98,.t 99],none,some (.t 96,true)⟩,
 op (.t 101) .pick [.t 96,.t 100,.c (.bool false)],
 op (.v 6) .mv [.t 101]]
def a106s52 : ACode := .reg [] a106r51
def a106s53 : ACode := .seq a106s52 .ret
def a106s54 : ACode := .test [] a106r50 (.t 91) a106s53 .skip
def a106s55 : ACode := .test [] a106r46 (.t 79) a106s49 a106s54
def a106s56 : ACode := .blk 1 a106s55
def a106s57 : ACode := .seq a106s45 a106s56
def a106r58 : List AOper := [
 op (.v 6) .mv [.c (.bool false)]]
def a106s59 : ACode := .reg [] a106r58
def a106s60 : ACode := .seq a106s59 .ret
def a106s61 : ACode := .seq a106s57 a106s60
def a106s62 : ACode := .seq a106s43 a106s61
def a106s63 : ACode := .seq a106s41 a106s62
def a106s64 : ACode := .seq a106s17 a106s63
def a106s65 : ACode := .seq a106s6 a106s64
def a106s66 : ACode := .seq a106s1 a106s65
def a106c : ACode :=
  a106s66
def a106 : AFn := { np := 3,nv := 10,results := [.v 6],code := a106c }
def a106v : List Nat := [0,1,2,3,4,5,6,7,35,78]
def a106b : List Nat := [5,7]

def a107r0 : List AOper := [
 op (.v 2) .mv [.c (.bool false)]]
def a107s1 : ACode := .reg [] a107r0
def a107r2 : List AOper := [
 op (.t 5) .mv [.v 0],
 op (.t 6) .mv [.v 1],
 op (.t 7) (.call 127) [.t 5,.t 6],
 op (.t 8) (.bin .geq) [.t 7,.c (.int .i64 0)],
 op (.v 2) .mv [.t 8]]
def a107s3 : ACode := .reg [] a107r2
def a107s4 : ACode := .seq a107s3 .ret
def a107s5 : ACode := .seq a107s1 a107s4
def a107c : ACode :=
  a107s5
def a107 : AFn := { np := 2,nv := 3,results := [.v 2],code := a107c }
def a107v : List Nat := [0,1,4]
def a107b : List Nat := []

def a108r0 : List AOper := [
 ⟨.bx,.boxV,[.v 0],some 2,none⟩,
 op (.v 3) .mv [.c (.bool false)]]
def a108s1 : ACode := .reg [2] a108r0
def a108r2 : List AOper := [
 op (.t 5) (.fad 2) [.v 1],
 op (.t 6) (.ldSt false 1) [.t 5],
 op (.t 7) (.call 76) [.t 6],
 op (.t 8) (.fad 0) [.l 2],
 ⟨.t 9,.ldLc 2 false 1,[.t 8],some 2,none⟩,
 op (.t 10) (.call 73) [.t 7,.t 9],
 op (.v 4) .mv [.t 10]]
def a108s3 : ACode := .reg [] a108r2
def a108r4 : List AOper := [
 op (.t 11) .mv [.v 4],
 op (.t 12) (.bin .lss) [.t 11,.c (.int .i64 0)],
 op (.t 13) .mv [.t 12],
 ⟨.t 14,.fad 2,[.v 1],none,some (.t 13,false)⟩,
 ⟨.t 15,.ldSt false 1,[.t 14],none,some (.t 13,false)⟩,
 ⟨.t 16,.mv,[.v 4],none,some (.t 13,false)⟩,
 ⟨.t 17,.iad 11,[.t 15,.t 16],none,some (.t 13,false)⟩,
 ⟨.t 18,.fad 2,[.t 17],none,some (.t 13,false)⟩,
 ⟨.t 19,.ldRo true 3,[.t 18],none,some (.t 13,false)⟩,
 ⟨.t 20,.fad 2,[.l 2],none,some (.t 13,false)⟩,
 ⟨.t 21,.ldLc 2 true 3,[.t 20],some 2,some (.t 13,false)⟩,
 ⟨.t 22,.call 109,[.t 19,.t 21],none,some (.t 13,false)⟩,
 ⟨.t 23,.un .not,[.t 22],none,some (.t 13,false)⟩,
 op (.t 24) .pick [.t 13,.c (.bool true),.t 23],
 op (.v 3) .mv [.t 24]]
def a108s5 : ACode := .reg [] a108r4
def a108s6 : ACode := .seq a108s5 .ret
def a108s7 : ACode := .seq a108s3 a108s6
def a108s8 : ACode := .seq a108s1 a108s7
def a108c : ACode :=
  a108s8
def a108 : AFn := { np := 2,nv := 5,results := [.v 3],code := a108c }
def a108v : List Nat := [0,1,2,3,4]
def a108b : List Nat := [2]

def a109r0 : List AOper := [
 ⟨.bx,.boxV,[.v 0],some 2,none⟩,
 ⟨.bx,.boxV,[.v 1],some 3,none⟩,
 op (.v 4) .mv [.c (.bool false)]]
def a109s1 : ACode := .reg [2,3] a109r0
def a109r2 : List AOper := [
 op (.t 5) (.fad 0) [.l 2],
 ⟨.t 6,.ldLc 2 false 1,[.t 5],some 2,none⟩,
 op (.t 7) (.fad 0) [.l 3],
 ⟨.t 8,.ldLc 3 false 1,[.t 7],some 3,none⟩,
 op (.t 9) (.bin .eql) [.t 6,.t 8],
 op (.t 10) .mv [.t 9],
 ⟨.t 11,.fad 2,[.l 2],none,some (.t 10,true)⟩,
 ⟨.t 12,.ldLc 2 false 1,[.t 11],some 2,some (.t 10,true)⟩,
 ⟨.t 13,.fad 2,[.l 3],none,some (.t 10,true)⟩,
 ⟨.t 14,.ldLc 3 false 1,[.t 13],some 3,some (.t 10,true)⟩,
 ⟨.t 15,.binB .eql,[.t 12,.t 14],none,some (.t 10,true)⟩,
 op (.t 16) .pick [.t 10,.t 15,.c (.bool false)],
 op (.t 17) .mv [.t 16],
 ⟨.t 18,.fad 1,[.l 2],none,some (.t 17,true)⟩,
 ⟨.t 19,.ldLc 2 false 1,[.t 18],some 2,some (.t 17,true)⟩,
 ⟨.t 20,.fad 1,[.l 3],none,some (.t 17,true)⟩,
 ⟨.t 21,.ldLc 3 false 1,[.t 20],some 3,some (.t 17,true)⟩,
 ⟨.t 22,.call 128,[.t 19,.t 21,.c (.func 109 [] [])],none,some (.t 17,true)⟩,
 op (.t 23) .pick [.t 17,.t 22,.c (.bool false)],
 op (.v 4) .mv [.t 23]]
def a109s3 : ACode := .reg [] a109r2
def a109s4 : ACode := .seq a109s3 .ret
def a109s5 : ACode := .seq a109s1 a109s4
def a109c : ACode :=
  a109s5
def a109 : AFn := { np := 2,nv := 5,results := [.v 4],code := a109c }
def a109v : List Nat := [0,1,2,3,4]
def a109b : List Nat := [2,3]

def a110r0 : List AOper := [
 ⟨.bx,.boxV,[.v 0],some 1,none⟩,
 op (.v 2) .mv [.c (.bool false)]]
def a110s1 : ACode := .reg [1] a110r0
def a110r2 : List AOper := [
 op (.t 3) (.fad 0) [.l 1],
 ⟨.t 4,.ldLc 1 false 1,[.t 3],some 1,none⟩,
 op (.t 5) (.bin .eql) [.t 4,.c (.str [105,100])],
 op (.t 6) .mv [.t 5],
 ⟨.t 7,.fad 5,[.l 1],none,some (.t 6,true)⟩,
 ⟨.t 8,.ldLc 1 false 1,[.t 7],some 1,some (.t 6,true)⟩,
 ⟨.t 9,.un .not,[.t 8],none,some (.t 6,true)⟩,
 op (.t 10) .pick [.t 6,.t 9,.c (.bool false)],
 op (.t 11) .mv [.t 10],
 ⟨.t 12,.fad 2,[.l 1],none,some (.t 11,true)⟩,
 ⟨.t 13,.ldLc 1 true 3,[.t 12],some 1,some (.t 11,true)⟩,
 ⟨.t 14,(.build [.str [],.list true [],.bool false] [(0,1),(2,1)]),[.c (.str [73,68]),.c (.bool true)],none,some (.t 11,true)⟩,
 ⟨.t 15,.call 109,[.t 13,.t 14],none,some (.t 11,true)⟩,
 op (.t 16) .pick [.t 11,.t 15,.c (.bool false)],
 op (.v 2) .mv [.t 16]]
def a110s3 : ACode := .reg [] a110r2
def a110s4 : ACode := .seq a110s3 .ret
def a110s5 : ACode := .seq a110s1 a110s4
def a110c : ACode :=
  a110s5
def a110 : AFn := { np := 1,nv := 3,results := [.v 2],code := a110c }
def a110v : List Nat := [0,1,2]
def a110b : List Nat := [1]

def a111r0 : List AOper := [
 op (.v 2) .mv [.c (.bool false)]]
def a111s1 : ACode := .reg [] a111r0
def a111r2 : List AOper := [
 op (.t 5) .mv [.v 1],
 op (.t 6) (.call 78) [.t 5],
 op (.t 7) (.un .not) [.t 6],
 op (.t 8) .mv [.t 7],
 ⟨.t 9,.mv,[.v 0],none,some (.t 8,true)⟩,
 ⟨.t 10,.mv,[.v 1],none,some (.t 8,true)⟩,
 ⟨.t 11,.call 123,[.t 9,.t 10,.c (.int .u8 1)],none,some (.t 8,true)⟩,
 ⟨.t 12,.mv,[.t 11],none,some (.t 8,true)⟩,
 ⟨.t 13,.mv,[.v 0],none,some (.t 12,false)⟩,
 ⟨.t 14,.mv,[.v 1],none,some (.t 12,false)⟩,
 ⟨.t 15,.call 123,[.t 13,.t 14,.c (.int .u8 2)],none,some (.t 12,false)⟩,
 ⟨.t 16,.pick,[.t 12,.c (.bool true),.t 15],none,some (.t 8,true)⟩,
 ⟨.t 17,.mv,[.t 16],none,some (.t 8,true)⟩,
 ⟨.t 18,.mv,[.v 0],none,some (.t 17,false)⟩,
 ⟨.t 19,.mv,[.v 1],none,some (.t 17,false)⟩,
 ⟨.t 20,.call 123,[.t 18,.t 19,.c (.int .u8 3)],none,some (.t 17,false)⟩,
 ⟨.t 21,.pick,[.t 17,.c (.bool true),.t 20],none,some (.t 8,true)⟩,
 op (.t 22) .pick [.t 8,.t 21,.c (.bool false)],
 op (.v 2) .mv [.t 22]]
def a111s3 : ACode := .reg [] a111r2
def a111s4 : ACode := .seq a111s3 .ret
def a111s5 : ACode := .seq a111s1 a111s4
def a111c : ACode :=
  a111s5
def a111 : AFn := { np := 2,nv := 3,results := [.v 2],code := a111c }
def a111v : List Nat := [0,1,4]
def a111b : List Nat := []

def a112r0 : List AOper := [
 op (.v 1) .mv [.c (.str [])],
 op (.v 2) .mv [.c (.str [])]]
def a112s1 : ACode := .reg [] a112r0
def a112r2 : List AOper := [
 op (.v 6) (.bslice 1 [[.str []],[.str []],[.str []]] [0,1,2]) [.c (.str [99,114,101,97,116,101]),.c (.str [117,112,100,97,116,101]),.c (.str [100,101,108,101,116,101])],
 op (.v 7) .lenL [.v 6],
 op (.v 8) .mv [.c (.int .i64 0)]]
def a112s3 : ACode := .reg [] a112r2
def a112r4 : List AOper := [
 op (.t 11) (.bin .lss) [.v 8,.v 7]]
def a112s5 : ACode := .test [] a112r4 (.t 11) .skip (.exit 0)
def a112r6 : List AOper := [
 op (.t 12) (.iad 1) [.v 6,.v 8],
 op (.t 13) (.ldRo false 1) [.t 12],
 op (.v 3) .mv [.t 13]]
def a112s7 : ACode := .reg [] a112r6
def a112r8 : List AOper := [
 op (.t 15) .mv [.v 0],
 op (.t 16) .mv [.v 3],
 op (.t 17) (.call 129) [.t 15,.t 16],
 op (.t 14) .mv [.t 17],
 op (.t 18) (.ext 0) [.t 14],
 op (.t 19) (.ext 1) [.t 14],
 op (.v 4) .mv [.t 18],
 op (.v 5) .mv [.t 19]]
def a112s9 : ACode := .reg [] a112r8
def a112r10 : List AOper := [
 op (.t 20) .mv [.v 5]]
def a112r11 : List AOper := [
 op (.t 21) .mv [.v 3],
 op (.t 22) .mv [.v 4],
 op (.v 1) .mv [.t 21],
 op (.v 2) .mv [.t 22]]
def a112s12 : ACode := .reg [] a112r11
def a112s13 : ACode := .seq a112s12 .ret
def a112s14 : ACode := .test [] a112r10 (.t 20) a112s13 .skip
def a112s15 : ACode := .seq a112s9 a112s14
def a112s16 : ACode := .seq a112s7 a112s15
def a112s17 : ACode := .blk 1 a112s16
def a112r18 : List AOper := [
 op (.t 23) (.bin .add) [.v 8,.c (.int .i64 1)],
 op (.v 8) .mv [.t 23]]
def a112s19 : ACode := .reg [] a112r18
def a112s20 : ACode := .seq a112s17 a112s19
def a112s21 : ACode := .seq a112s5 a112s20
def a112s22 : ACode := .loop a112s21
def a112s23 : ACode := .blk 0 a112s22
def a112s24 : ACode := .seq a112s3 a112s23
def a112r25 : List AOper := [
 op (.v 1) .mv [.c (.str [])],
 op (.v 2) .mv [.c (.str [])]]
def a112s26 : ACode := .reg [] a112r25
def a112s27 : ACode := .seq a112s26 .ret
def a112s28 : ACode := .seq a112s24 a112s27
def a112s29 : ACode := .seq a112s1 a112s28
def a112c : ACode :=
  a112s29
def a112 : AFn := { np := 1,nv := 9,results := [.v 1,.v 2],code := a112c }
def a112v : List Nat := [0,2,3,5,6,7,8,9,10]
def a112b : List Nat := []

def a113r0 : List AOper := [
 ⟨.bx,.boxV,[.v 0],some 3,none⟩,
 op (.v 4) .mv [.c (.bool false)]]
def a113s1 : ACode := .reg [3] a113r0
def a113r2 : List AOper := [
 op (.t 6) (.fad 2) [.v 1],
 op (.t 7) (.ldSt false 1) [.t 6],
 op (.t 8) (.call 76) [.t 7],
 op (.t 9) (.fad 0) [.l 3],
 ⟨.t 10,.ldLc 3 false 1,[.t 9],some 3,none⟩,
 op (.t 11) (.call 73) [.t 8,.t 10],
 op (.v 5) .mv [.t 11]]
def a113s3 : ACode := .reg [] a113r2
def a113r4 : List AOper := [
 op (.t 12) .mv [.v 5],
 op (.t 13) (.bin .lss) [.t 12,.c (.int .i64 0)],
 op (.t 14) .mv [.t 13],
 ⟨.t 15,.ldSt false 1,[.v 2],none,some (.t 14,false)⟩,
 ⟨.t 16,.fad 2,[.v 1],none,some (.t 14,false)⟩,
 ⟨.t 17,.ldSt false 1,[.t 16],none,some (.t 14,false)⟩,
 ⟨.t 18,.mv,[.v 5],none,some (.t 14,false)⟩,
 ⟨.t 19,.iad 11,[.t 17,.t 18],none,some (.t 14,false)⟩,
 ⟨.t 20,.fad 2,[.t 19],none,some (.t 14,false)⟩,
 ⟨.t 21,.ldRo true 3,[.t 20],none,some (.t 14,false)⟩,
 ⟨.t 22,.fad 2,[.l 3],none,some (.t 14,false)⟩,
 ⟨.t 23,.ldLc 3 true 3,[.t 22],some 3,some (.t 14,false)⟩,
 ⟨.t 24,.call 114,[.t 15,.t 21,.t 23],none,some (.t 14,false)⟩,
 ⟨.t 25,.un .not,[.t 24],none,some (.t 14,false)⟩,
 op (.t 26) .pick [.t 14,.c (.bool true),.t 25],
 op (.v 4) .mv [.t 26]]
def a113s5 : ACode := .reg [] a113r4
def a113s6 : ACode := .seq a113s5 .ret
def a113s7 : ACode := .seq a113s3 a113s6
def a113s8 : ACode := .seq a113s1 a113s7
def a113c : ACode :=
  a113s8
def a113 : AFn := { np := 3,nv := 6,results := [.v 4],code := a113c }
def a113v : List Nat := [0,1,2,3,4,5]
def a113b : List Nat := [3]

def a114r0 : List AOper := [
 ⟨.bx,.boxV,[.v 1],some 3,none⟩,
 ⟨.bx,.boxV,[.v 2],some 4,none⟩,
 op (.v 5) .mv [.c (.bool false)]]
def a114s1 : ACode := .reg [3,4] a114r0
def a114r2 : List AOper := [
 op (.t 7) (.fad 1) [.l 3],
 ⟨.t 8,.ldLc 3 false 1,[.t 7],some 3,none⟩,
 op (.t 9) .lenL [.t 8],
 op (.t 10) (.fad 1) [.l 4],
 ⟨.t 11,.ldLc 4 false 1,[.t 10],some 4,none⟩,
 op (.t 12) .lenL [.t 11],
 op (.t 13) (.bin .neq) [.t 9,.t 12]]
def a114r3 : List AOper := [
 op (.v 5) .mv [.c (.bool false)]]
def a114s4 : ACode := .reg [] a114r3
def a114s5 : ACode := .seq a114s4 .ret
def a114s6 : ACode := .test [] a114r2 (.t 13) a114s5 .skip
def a114r7 : List AOper := [
 op (.t 14) (.fad 1) [.l 3],
 ⟨.t 15,.ldLc 3 false 1,[.t 14],some 3,none⟩,
 op (.t 16) .lenL [.t 15],
 op (.t 17) (.bin .gtr) [.t 16,.c (.int .i64 0)]]
def a114r8 : List AOper := [
 op (.t 18) .mv [.v 0],
 op (.t 19) (.fad 1) [.l 3],
 ⟨.t 20,.ldLc 3 false 1,[.t 19],some 3,none⟩,
 op (.t 21) (.iad 3) [.t 20,.c (.int .i64 0)],
 op (.t 22) (.ldRo true 3) [.t 21],
 op (.t 23) (.fad 1) [.l 4],
 ⟨.t 24,.ldLc 4 false 1,[.t 23],some 4,none⟩,
 op (.t 25) (.iad 3) [.t 24,.c (.int .i64 0)],
 op (.t 26) (.ldRo true 3) [.t 25],
 op (.t 27) (.call 114) [.t 18,.t 22,.t 26],
 op (.v 5) .mv [.t 27]]
def a114s9 : ACode := .reg [] a114r8
def a114s10 : ACode := .seq a114s9 .ret
def a114s11 : ACode := .test [] a114r7 (.t 17) a114s10 .skip
def a114r12 : List AOper := [
 op (.t 28) (.fad 0) [.l 3],
 ⟨.t 29,.ldLc 3 false 1,[.t 28],some 3,none⟩,
 op (.t 30) (.fad 0) [.l 4],
 ⟨.t 31,.ldLc 4 false 1,[.t 30],some 4,none⟩,
 op (.t 32) (.bin .eql) [.t 29,.t 31],
 op (.t 33) .mv [.t 32],
 ⟨.t 34,.mv,[.v 0],none,some (.t 33,false)⟩,
 ⟨.t 35,.fad 0,[.l 3],none,some (.t 33,false)⟩,
 ⟨.t 36,.ldLc 3 false 1,[.t 35],some 3,some (.t 33,false)⟩,
 ⟨.t 37,.call 111,[.t 34,.t 36],none,some (.t 33,false)⟩,
 ⟨.t 38,.mv,[.t 37],none,some (.t 33,false)⟩,
 ⟨.t 39,.fad 0,[.l 4],none,some (.t 38,true)⟩,
 ⟨.t 40,.ldLc 4 false 1,[.t 39],some 4,some (.t 38,true)⟩,
 ⟨.t 41,.bin .eql,[.t 40,.c (.str [73,68])],none,some (.t 38,true)⟩,
 ⟨.t 42,.pick,[.t 38,.t 41,.c (.bool false)],none,some (.t 33,false)⟩,
 op (.t 43) .pick [.t 33,.c (.bool true),.t 42],
 op (.v 5) .mv [.t 43]]
def a114s13 : ACode := .reg [] a114r12
def a114s14 : ACode := .seq a114s13 .ret
def a114s15 : ACode := .seq a114s11 a114s14
def a114s16 : ACode := .seq a114s6 a114s15
def a114s17 : ACode := .seq a114s1 a114s16
def a114c : ACode :=
  a114s17
def a114 : AFn := { np := 3,nv := 6,results := [.v 5],code := a114c }
def a114v : List Nat := [0,1,2,4,5,6]
def a114b : List Nat := [3,4]

def a115r0 : List AOper := [
 op (.v 2) .mv [.c (.bool false)]]
def a115s1 : ACode := .reg [] a115r0
def a115r2 : List AOper := [
 op (.t 5) .mv [.v 1],
 op (.t 6) (.call 50) [.t 5],
 op (.t 7) .mv [.t 6],
 ⟨.t 8,.mv,[.v 0],none,some (.t 7,false)⟩,
 ⟨.t 9,.mv,[.v 1],none,some (.t 7,false)⟩,
 ⟨.t 10,.call 54,[.t 8,.t 9],none,some (.t 7,false)⟩,
 ⟨.t 11,.fld 0 1 false,[.t 10],none,some (.t 7,false)⟩,
 ⟨.t 12,.bin .eql,[.t 11,.c (.int .u8 4)],none,some (.t 7,false)⟩,
 op (.t 13) .pick [.t 7,.c (.bool true),.t 12],
 op (.v 2) .mv [.t 13]]
def a115s3 : ACode := .reg [] a115r2
def a115s4 : ACode := .seq a115s3 .ret
def a115s5 : ACode := .seq a115s1 a115s4
def a115c : ACode :=
  a115s5
def a115 : AFn := { np := 2,nv := 3,results := [.v 2],code := a115c }
def a115v : List Nat := [0,1,4]
def a115b : List Nat := []

def a116r0 : List AOper := [
 ⟨.bx,.boxV,[.v 1],some 4,none⟩,
 ⟨.bx,.boxV,[.v 2],some 5,none⟩,
 op (.v 6) .mv [.c (.bool false)]]
def a116s1 : ACode := .reg [4,5] a116r0
def a116r2 : List AOper := [
 op (.t 14) (.fad 0) [.l 5],
 ⟨.t 15,.ldLc 5 false 1,[.t 14],some 5,none⟩,
 op (.t 16) (.bin .eql) [.t 15,.c (.int .u8 7)],
 op (.t 17) .mv [.t 16],
 ⟨.t 18,.mv,[.v 3],none,some (.t 17,true)⟩,
 op (.t 19) .pick [.t 17,.t 18,.c (.bool false)]]
def a116r3 : List AOper := [
 op (.v 6) .mv [.c (.bool true)]]
def a116s4 : ACode := .reg [] a116r3
def a116s5 : ACode := .seq a116s4 .ret
def a116s6 : ACode := .test [] a116r2 (.t 19) a116s5 .skip
def a116r7 : List AOper := [
 op (.t 20) (.fad 0) [.l 5],
 ⟨.t 21,.ldLc 5 false 1,[.t 20],some 5,none⟩,
 op (.t 22) (.bin .eql) [.t 21,.c (.int .u8 0)]]
def a116r8 : List AOper := [
 op (.t 23) (.fad 2) [.l 4],
 ⟨.t 24,.ldLc 4 false 1,[.t 23],some 4,none⟩,
 op (.t 25) (.un .not) [.t 24],
 op (.v 6) .mv [.t 25]]
def a116s9 : ACode := .reg [] a116r8
def a116s10 : ACode := .seq a116s9 .ret
def a116s11 : ACode := .test [] a116r7 (.t 22) a116s10 .skip
def a116r12 : List AOper := [
 op (.t 26) (.fad 1) [.l 4],
 ⟨.t 27,.ldLc 4 false 1,[.t 26],some 4,none⟩,
 op (.t 28) .lenL [.t 27],
 op (.t 29) (.bin .gtr) [.t 28,.c (.int .i64 0)]]
def a116r13 : List AOper := [
 op (.t 30) (.fad 0) [.l 5],
 ⟨.t 31,.ldLc 5 false 1,[.t 30],some 5,none⟩,
 op (.t 32) (.bin .neq) [.t 31,.c (.int .u8 5)]]
def a116r14 : List AOper := [
 op (.t 33) .mv [.v 0],
 op (.t 34) (.fad 1) [.l 4],
 ⟨.t 35,.ldLc 4 false 1,[.t 34],some 4,none⟩,
 op (.t 36) (.iad 3) [.t 35,.c (.int .i64 0)],
 op (.t 37) (.ldRo true 3) [.t 36],
 ⟨.t 38,.ldLc 5 true 5,[.l 5],some 5,none⟩,
 op (.t 39) .mv [.v 3],
 op (.t 40) (.call 116) [.t 33,.t 37,.t 38,.t 39],
 op (.v 6) .mv [.t 40]]
def a116s15 : ACode := .reg [] a116r14
def a116s16 : ACode := .seq a116s15 .ret
def a116s17 : ACode := .test [] a116r13 (.t 32) a116s16 .skip
def a116r18 : List AOper := [
 op (.v 7) .mv [.c (.int .i64 0)]]
def a116s19 : ACode := .reg [] a116r18
def a116r20 : List AOper := [
 op (.t 41) .mv [.v 7],
 op (.t 42) (.fad 4) [.l 5],
 ⟨.t 43,.ldLc 5 false 1,[.t 42],some 5,none⟩,
 op (.t 44) .lenL [.t 43],
 op (.t 45) (.bin .lss) [.t 41,.t 44]]
def a116s21 : ACode := .test [] a116r20 (.t 45) .skip (.exit 0)
def a116r22 : List AOper := [
 op (.t 48) .mv [.v 0],
 op (.t 49) (.fad 1) [.l 4],
 ⟨.t 50,.ldLc 4 false 1,[.t 49],some 4,none⟩,
 op (.t 51) (.iad 3) [.t 50,.c (.int .i64 0)],
 op (.t 52) (.ldRo true 3) [.t 51],
 op (.t 53) (.fad 4) [.l 5],
 ⟨.t 54,.ldLc 5 false 1,[.t 53],some 5,none⟩,
 op (.t 55) .mv [.v 7],
 op (.t 56) (.iad 5) [.t 54,.t 55],
 op (.t 57) (.ldRo true 5) [.t 56],
 op (.t 58) .mv [.v 3],
 op (.t 59) (.call 116) [.t 48,.t 52,.t 57,.t 58],
 op (.t 60) (.un .not) [.t 59]]
def a116r23 : List AOper := [
 op (.v 6) .mv [.c (.bool false)]]
def a116s24 : ACode := .reg [] a116r23
def a116s25 : ACode := .seq a116s24 .ret
def a116s26 : ACode := .test [] a116r22 (.t 60) a116s25 .skip
def a116s27 : ACode := .blk 1 a116s26
def a116r28 : List AOper := [
 op (.t 46) .mv [.v 7],
 op (.t 47) (.bin .add) [.t 46,.c (.int .i64 1)],
 op (.v 7) .mv [.t 47]]
def a116s29 : ACode := .reg [] a116r28
def a116s30 : ACode := .seq a116s27 a116s29
def a116s31 : ACode := .seq a116s21 a116s30
def a116s32 : ACode := .loop a116s31
def a116s33 : ACode := .blk 0 a116s32
def a116s34 : ACode := .seq a116s19 a116s33
def a116r35 : List AOper := [
 op (.v 6) .mv [.c (.bool true)]]
def a116s36 : ACode := .reg [] a116r35
def a116s37 : ACode := .seq a116s36 .ret
def a116s38 : ACode := .seq a116s34 a116s37
def a116s39 : ACode := .seq a116s17 a116s38
def a116s40 : ACode := .test [] a116r12 (.t 29) a116s39 .skip
def a116r41 : List AOper := [
 op (.t 61) (.fad 0) [.l 4],
 ⟨.v 12,.ldLc 4 false 1,[.t 61],some 4,none⟩]
def a116s42 : ACode := .reg [] a116r41
def a116r43 : List AOper := [
 op (.t 64) (.bin .eql) [.v 12,.c (.str [73,110,116])],
 op (.t 63) .mv [.t 64]]
def a116r44 : List AOper := [
 op (.t 65) (.fad 0) [.l 5],
 ⟨.t 66,.ldLc 5 false 1,[.t 65],some 5,none⟩,
 op (.t 67) (.bin .eql) [.t 66,.c (.int .u8 1)],
 op (.t 68) .mv [.t 67],
 ⟨.t 69,.fad 1,[.l 5],none,some (.t 68,true)⟩,
 ⟨.t 70,.ldLc 5 false 1,[.t 69],some 5,some (.t 68,true)⟩,
 ⟨.t 71,.bin .geq,[.t 70,.c (.int .i64 (-2147483648))],none,some (.t 68,true)⟩,
 op (.t 72) .pick [.t 68,.t 71,.c (.bool false)],
 op (.t 73) .mv [.t 72],
 ⟨.t 74,.fad 1,[.l 5],none,some (.t 73,true)⟩,
 ⟨.t 75,.ldLc 5 false 1,[.t 74],some 5,some (.t 73,true)⟩,
 ⟨.t 76,.bin .leq,[.t 75,.c (.int .i64 2147483647)],none,some (.t 73,true)⟩,
 op (.t 77) .pick [.t 73,.t 76,.c (.bool false)],
 op (.v 6) .mv [.t 77]]
def a116s45 : ACode := .reg [] a116r44
def a116s46 : ACode := .seq a116s45 .ret
def a116r47 : List AOper := [
 op (.t 79) (.bin .eql) [.v 12,.c (.str [83,116,114,105,110,103])],
 op (.t 78) .mv [.t 79]]
def a116r48 : List AOper := [
 op (.t 80) (.fad 0) [.l 5],
 ⟨.t 81,.ldLc 5 false 1,[.t 80],some 5,none⟩,
 op (.t 82) (.bin .eql) [.t 81,.c (.int .u8 2)],
 op (.v 6) .mv [.t 82]]
def a116s49 : ACode := .reg [] a116r48
def a116s50 : ACode := .seq a116s49 .ret
def a116r51 : List AOper := [
 op (.t 84) (.bin .eql) [.v 12,.c (.str [66,111,111,108,101,97,110])],
 op (.t 83) .mv [.t 84]]
def a116r52 : List AOper := [
 op (.t 85) (.fad 0) [.l 5],
 ⟨.t 86,.ldLc 5 false 1,[.t 85],some 5,none⟩,
 op (.t 87) (.bin .eql) [.t 86,.c (.int .u8 3)],
 op (.v 6) .mv [.t 87]]
def a116s53 : ACode := .reg [] a116r52
def a116s54 : ACode := .seq a116s53 .ret
def a116r55 : List AOper := [
 op (.t 89) (.bin .eql) [.v 12,.c (.str [73,68])],
 op (.t 88) .mv [.t 89]]
def a116r56 : List AOper := [
 op (.t 90) (.fad 0) [.l 5],
 ⟨.t 91,.ldLc 5 false 1,[.t 90],some 5,none⟩,
 op (.t 92) (.bin .eql) [.t 91,.c (.int .u8 2)],
 op (.t 93) .mv [.t 92],
 ⟨.t 94,.fad 0,[.l 5],none,some (.t 93,false)⟩,
 ⟨.t 95,.ldLc 5 false 1,[.t 94],some 5,some (.t 93,false)⟩,
 ⟨.t 96,.bin .eql,[.t 95,.c (.int .u8 1)],none,some (.t 93,false)⟩,
 op (.t 97) .pick [.t 93,.c (.bool true),.t 96],
 op (.v 6) .mv [.t 97]]
def a116s57 : ACode := .reg [] a116r56
def a116s58 : ACode := .seq a116s57 .ret
def a116s59 : ACode := .test [] a116r55 (.t 88) a116s58 .skip
def a116s60 : ACode := .test [] a116r51 (.t 83) a116s54 a116s59
def a116s61 : ACode := .test [] a116r47 (.t 78) a116s50 a116s60
def a116s62 : ACode := .test [] a116r43 (.t 63) a116s46 a116s61
def a116s63 : ACode := .blk 2 a116s62
def a116s64 : ACode := .seq a116s42 a116s63
def a116r65 : List AOper := [
 op (.t 98) .mv [.v 0],
 op (.t 99) (.fad 0) [.l 4],
 ⟨.t 100,.ldLc 4 false 1,[.t 99],some 4,none⟩,
 op (.t 101) (.call 54) [.t 98,.t 100],
 ⟨.bx,.alloc [.int .u8 0,.str [],.list true [],.list true []],[],some 8,none⟩,
 ⟨.none,.stLc 8 4,[.l 8,.ts 101],some 8,none⟩]
def a116s66 : ACode := .reg [8] a116r65
def a116r67 : List AOper := [
 op (.t 102) (.fad 0) [.l 8],
 ⟨.t 103,.ldLc 8 false 1,[.t 102],some 8,none⟩,
 op (.t 104) (.bin .eql) [.t 103,.c (.int .u8 4)]]
def a116r68 : List AOper := [
 op (.t 105) (.fad 0) [.l 5],
 ⟨.t 106,.ldLc 5 false 1,[.t 105],some 5,none⟩,
 op (.t 107) (.bin .eql) [.t 106,.c (.int .u8 4)],
 op (.t 108) .mv [.t 107],
 ⟨.t 109,.fad 3,[.l 8],none,some (.t 108,true)⟩,
 ⟨.t 110,.ldLc 8 false 1,[.t 109],some 8,some (.t 108,true)⟩,
 ⟨.t 111,.fad 2,[.l 5],none,some (.t 108,true)⟩,
 ⟨.t 112,.ldLc 5 false 1,[.t 111],some 5,some (.t 108,true)⟩,
 ⟨.t 113,.call 51,[.t 110,.t 112],none,some (.t 108,true)⟩,
 op (.t 114) .pick [.t 108,.t 113,.c (.bool false)],
 op (.v 6) .mv [.t 114]]
def a116s69 : ACode := .reg [] a116r68
def a116s70 : ACode := .seq a116s69 .ret
def a116s71 : ACode := .test [] a116r67 (.t 104) a116s70 .skip
def a116r72 : List AOper := [
 op (.t 115) (.fad 0) [.l 8],
 ⟨.t 116,.ldLc 8 false 1,[.t 115],some 8,none⟩,
 op (.t 117) (.bin .neq) [.t 116,.c (.int .u8 5)],
 op (.t 118) .mv [.t 117],
 ⟨.t 119,.fad 0,[.l 5],none,some (.t 118,false)⟩,
 ⟨.t 120,.ldLc 5 false 1,[.t 119],some 5,some (.t 118,false)⟩,
 ⟨.t 121,.bin .neq,[.t 120,.c (.int .u8 6)],none,some (.t 118,false)⟩,
 op (.t 122) .pick [.t 118,.c (.bool true),.t 121]]
def a116r73 : List AOper := [
 op (.v 6) .mv [.c (.bool false)]]
def a116s74 : ACode := .reg [] a116r73
def a116s75 : ACode := .seq a116s74 .ret
def a116s76 : ACode := .test [] a116r72 (.t 122) a116s75 .skip
def a116r77 : List AOper := [
 op (.v 9) .mv [.c (.int .i64 0)]]
def a116s78 : ACode := .reg [] a116r77
def a116r79 : List AOper := [
 op (.t 123) .mv [.v 9],
 op (.t 124) (.fad 3) [.l 5],
 ⟨.t 125,.ldLc 5 false 1,[.t 124],some 5,none⟩,
 op (.t 126) .lenL [.t 125],
 op (.t 127) (.bin .lss) [.t 123,.t 126]]
def a116s80 : ACode := .test [] a116r79 (.t 127) .skip (.exit 3)
def a116r81 : List AOper := [
 op (.t 130) (.fad 2) [.l 8],
 ⟨.t 131,.ldLc 8 false 1,[.t 130],some 8,none⟩,
 op (.t 132) (.fad 3) [.l 5],
 ⟨.t 133,.ldLc 5 false 1,[.t 132],some 5,none⟩,
 op (.t 134) .mv [.v 9],
 op (.t 135) (.iad 1) [.t 133,.t 134],
 op (.t 136) (.ldRo false 1) [.t 135],
 op (.t 137) (.call 87) [.t 131,.t 136],
 op (.v 10) .mv [.t 137]]
def a116s82 : ACode := .reg [] a116r81
def a116r83 : List AOper := [
 op (.t 138) .mv [.v 10],
 op (.t 139) (.bin .lss) [.t 138,.c (.int .i64 0)],
 op (.t 140) .mv [.t 139],
 ⟨.t 141,.fad 3,[.l 5],none,some (.t 140,false)⟩,
 ⟨.t 142,.ldLc 5 false 1,[.t 141],some 5,some (.t 140,false)⟩,
 ⟨.t 143,.mv,[.v 9],none,some (.t 140,false)⟩,
 ⟨.t 144,.slL 1 false true,[.t 142,.t 143],none,some (.t 140,false)⟩,
 ⟨.t 145,.fad 3,[.l 5],none,some (.t 140,false)⟩,
 ⟨.t 146,.ldLc 5 false 1,[.t 145],some 5,some (.t 140,false)⟩,
 ⟨.t 147,.mv,[.v 9],none,some (.t 140,false)⟩,
 ⟨.t 148,.iad 1,[.t 146,.t 147],none,some (.t 140,false)⟩,
 ⟨.t 149,.ldRo false 1,[.t 148],none,some (.t 140,false)⟩,
 ⟨.t 150,.call 51,[.t 144,.t 149],none,some (.t 140,false)⟩,
 op (.t 151) .pick [.t 140,.c (.bool true),.t 150],
 op (.t 152) .mv [.t 151],
 ⟨.t 153,.mv,[.v 0],none,some (.t 152,false)⟩,
 ⟨.t 154,.fad 2,[.l 8],none,some (.t 152,false)⟩,
 ⟨.t 155,.ldLc 8 false 1,[.t 154],some 8,some (.t 152,false)⟩,
 ⟨.t 156,.mv,[.v 10],none,some (.t 152,false)⟩,
 ⟨.t 157,.iad 11,[.t 155,.t 156],none,some (.t 152,false)⟩,
 ⟨.t 158,.fad 2,[.t 157],none,some (.t 152,false)⟩,
 ⟨.t 159,.ldRo true 3,[.t 158],none,some (.t 152,false)⟩,
 ⟨.t 160,.fad 4,[.l 5],none,some (.t 152,false)⟩,
 ⟨.t 161,.ldLc 5 false 1,[.t 160],some 5,some (.t 152,false)⟩,
 ⟨.t 162,.mv,[.v 9],none,some (.t 152,false)⟩,
 ⟨.t 163,.iad 5,[.t 161,.t 162],none,some (.t 152,false)⟩,
 ⟨.t 164,.ldRo true 5,[.t 163],none,some (.t 152,false)⟩,
 ⟨.t 165,.mv,[.v 3],none,some (.t 152,false)⟩,
 ⟨.t 166,.call 116,[.t 153,.t 159,.t 164,.t 165],none,some (.t 152,false)⟩,
 ⟨.t 167,.un .not,[.t 166],none,some (.t 152,false)⟩,
 op (.t 168) .pick [.t 152,.c (.bool true),.t 167]]
def a116r84 : List AOper := [
 op (.v 6) .mv [.c (.bool false)]]
def a116s85 : ACode := .reg [] a116r84
def a116s86 : ACode := .seq a116s85 .ret
def a116s87 : ACode := .test [] a116r83 (.t 168) a116s86 .skip
def a116s88 : ACode := .seq a116s82 a116s87
def a116s89 : ACode := .blk 4 a116s88
def a116r90 : List AOper := [
 op (.t 128) .mv [.v 9],
 op (.t 129) (.bin .add) [.t 128,.c (.int .i64 1)],
 op (.v 9) .mv [.t 129]]
def a116s91 : ACode := .reg [] a116r90
def a116s92 : ACode := .seq a116s89 a116s91
def a116s93 : ACode := .seq a116s80 a116s92
def a116s94 : ACode := .loop a116s93
def a116s95 : ACode := .blk 3 a116s94
def a116s96 : ACode := .seq a116s78 a116s95
def a116r97 : List AOper := [
 op (.v 11) .mv [.c (.int .i64 0)]]
def a116s98 : ACode := .reg [] a116r97
def a116r99 : List AOper := [
 op (.t 169) .mv [.v 11],
 op (.t 170) (.fad 2) [.l 8],
 ⟨.t 171,.ldLc 8 false 1,[.t 170],some 8,none⟩,
 op (.t 172) .lenL [.t 171],
 op (.t 173) (.bin .lss) [.t 169,.t 172]]
def a116s100 : ACode := .test [] a116r99 (.t 173) .skip (.exit 5)
def a116r101 : List AOper := [
 op (.t 176) (.fad 2) [.l 8],
 ⟨.t 177,.ldLc 8 false 1,[.t 176],some 8,none⟩,
 op (.t 178) .mv [.v 11],
 op (.t 179) (.iad 11) [.t 177,.t 178],
 op (.t 180) (.fad 2) [.t 179],
 op (.t 181) (.fad 2) [.t 180],
 op (.t 182) (.ldRo false 1) [.t 181],
 op (.t 183) .mv [.t 182],
 ⟨.t 184,.fad 2,[.l 8],none,some (.t 183,true)⟩,
 ⟨.t 185,.ldLc 8 false 1,[.t 184],some 8,some (.t 183,true)⟩,
 ⟨.t 186,.mv,[.v 11],none,some (.t 183,true)⟩,
 ⟨.t 187,.iad 11,[.t 185,.t 186],none,some (.t 183,true)⟩,
 ⟨.t 188,.fad 5,[.t 187],none,some (.t 183,true)⟩,
 ⟨.t 189,.ldRo false 1,[.t 188],none,some (.t 183,true)⟩,
 ⟨.t 190,.un .not,[.t 189],none,some (.t 183,true)⟩,
 op (.t 191) .pick [.t 183,.t 190,.c (.bool false)],
 op (.t 192) .mv [.t 191],
 ⟨.t 193,.fad 3,[.l 5],none,some (.t 192,true)⟩,
 ⟨.t 194,.ldLc 5 false 1,[.t 193],some 5,some (.t 192,true)⟩,
 ⟨.t 195,.fad 2,[.l 8],none,some (.t 192,true)⟩,
 ⟨.t 196,.ldLc 8 false 1,[.t 195],some 8,some (.t 192,true)⟩,
 ⟨.t 197,.mv,[.v 11],none,some (.t 192,true)⟩,
 ⟨.t 198,.iad 11,[.t 196,.t 197],none,some (.t 192,true)⟩,
 ⟨.t 199,.fad 0,[.t 198],none,some (.t 192,true)⟩,
 ⟨.t 200,.ldRo false 1,[.t 199],none,some (.t 192,true)⟩,
 ⟨.t 201,.call 51,[.t 194,.t 200],none,some (.t 192,true)⟩,
 ⟨.t 202,.un .not,[.t 201],none,some (.t 192,true)⟩,
 op (.t 203) .pick [.t 192,.t 202,.c (.bool false)]]
def a116r102 : List AOper := [
 op (.v 6) .mv [.c (.bool false)]]
def a116s103 : ACode := .reg [] a116r102
def a116s104 : ACode := .seq a116s103 .ret
def a116s105 : ACode := .test [] a116r101 (.t 203) a116s104 .skip
def a116s106 : ACode := .blk 6 a116s105
def a116r107 : List AOper := [
 op (.t 174) .mv [.v 11],
 op (.t 175) (.bin .add) [.t 174,.c (.int .i64 1)],
 op (.v 11) .mv [.t 175]]
def a116s108 : ACode := .reg [] a116r107
def a116s109 : ACode := .seq a116s106 a116s108
def a116s110 : ACode := .seq a116s100 a116s109
def a116s111 : ACode := .loop a116s110
def a116s112 : ACode := .blk 5 a116s111
def a116s113 : ACode := .seq a116s98 a116s112
def a116r114 : List AOper := [
 op (.v 6) .mv [.c (.bool true)]]
def a116s115 : ACode := .reg [] a116r114
def a116s116 : ACode := .seq a116s115 .ret
def a116s117 : ACode := .seq a116s113 a116s116
def a116s118 : ACode := .seq a116s96 a116s117
def a116s119 : ACode := .seq a116s76 a116s118
def a116s120 : ACode := .seq a116s71 a116s119
def a116s121 : ACode := .seq a116s66 a116s120
def a116s122 : ACode := .seq a116s64 a116s121
def a116s123 : ACode := .seq a116s40 a116s122
def a116s124 : ACode := .seq a116s11 a116s123
def a116s125 : ACode := .seq a116s6 a116s124
def a116s126 : ACode := .seq a116s1 a116s125
def a116c : ACode :=
  a116s126
def a116 : AFn := { np := 4,nv := 13,results := [.v 6],code := a116c }
def a116v : List Nat := [0,1,2,3,5,6,8,9,10,11,12,13,62]
def a116b : List Nat := [4,5,8]

def a117r0 : List AOper := [
 op (.v 1) .mv [.c (.str [])],
 op (.v 2) .mv [.c (.str [])]]
def a117s1 : ACode := .reg [] a117r0
def a117r2 : List AOper := [
 op (.t 6) (.bslice 1 [[.str []],[.str []],[.str []]] [0,1,2]) [.c (.str [99,114,101,97,116,101]),.c (.str [117,112,100,97,116,101]),.c (.str [100,101,108,101,116,101])],
 op (.v 3) .mv [.ts 6]]
def a117s3 : ACode := .reg [] a117r2
def a117r4 : List AOper := [
 op (.v 4) .mv [.c (.int .i64 0)]]
def a117s5 : ACode := .reg [] a117r4
def a117r6 : List AOper := [
 op (.t 7) .mv [.v 4],
 op (.t 8) (.bin .lss) [.t 7,.c (.int .i64 3)]]
def a117s7 : ACode := .test [] a117r6 (.t 8) .skip (.exit 0)
def a117r8 : List AOper := [
 op (.t 11) .mv [.v 0],
 op (.t 12) .mv [.v 3],
 op (.t 13) .mv [.v 4],
 op (.t 14) (.iad 1) [.t 12,.t 13],
 op (.t 15) (.ldRo false 1) [.t 14],
 op (.t 16) (.call 52) [.t 11,.t 15]]
def a117r9 : List AOper := [
 op (.t 17) .mv [.v 3],
 op (.t 18) .mv [.v 4],
 op (.t 19) (.iad 1) [.t 17,.t 18],
 op (.t 20) (.ldRo false 1) [.t 19],
 op (.t 21) .mv [.v 0],
 op (.t 22) (.slS true false) [.t 21,.c (.int .i64 6)],
 op (.v 1) .mv [.t 20],
 op (.v 2) .mv [.t 22]]
def a117s10 : ACode := .reg [] a117r9
def a117s11 : ACode := .seq a117s10 .ret
def a117s12 : ACode := .test [] a117r8 (.t 16) a117s11 .skip
def a117s13 : ACode := .blk 1 a117s12
def a117r14 : List AOper := [
 op (.t 9) .mv [.v 4],
 op (.t 10) (.bin .add) [.t 9,.c (.int .i64 1)],
 op (.v 4) .mv [.t 10]]
def a117s15 : ACode := .reg [] a117r14
def a117s16 : ACode := .seq a117s13 a117s15
def a117s17 : ACode := .seq a117s7 a117s16
def a117s18 : ACode := .loop a117s17
def a117s19 : ACode := .blk 0 a117s18
def a117s20 : ACode := .seq a117s5 a117s19
def a117r21 : List AOper := [
 op (.v 1) .mv [.c (.str [])],
 op (.v 2) .mv [.c (.str [])]]
def a117s22 : ACode := .reg [] a117r21
def a117s23 : ACode := .seq a117s22 .ret
def a117s24 : ACode := .seq a117s20 a117s23
def a117s25 : ACode := .seq a117s3 a117s24
def a117s26 : ACode := .seq a117s1 a117s25
def a117c : ACode :=
  a117s26
def a117 : AFn := { np := 1,nv := 5,results := [.v 1,.v 2],code := a117c }
def a117v : List Nat := [0,2,3,4,5]
def a117b : List Nat := []

def a118r0 : List AOper := [
 ⟨.bx,.boxV,[.v 1],some 3,none⟩,
 ⟨.bx,.boxV,[.v 2],some 4,none⟩,
 op (.v 5) .mv [.c (.bool false)]]
def a118s1 : ACode := .reg [3,4] a118r0
def a118r2 : List AOper := [
 op (.t 7) (.fad 1) [.l 3],
 ⟨.t 8,.ldLc 3 false 1,[.t 7],some 3,none⟩,
 op (.t 9) .lenL [.t 8],
 op (.t 10) (.bin .gtr) [.t 9,.c (.int .i64 0)],
 op (.t 11) .mv [.t 10],
 ⟨.t 12,.fad 1,[.l 4],none,some (.t 11,false)⟩,
 ⟨.t 13,.ldLc 4 false 1,[.t 12],some 4,some (.t 11,false)⟩,
 ⟨.t 14,.lenL,[.t 13],none,some (.t 11,false)⟩,
 ⟨.t 15,.bin .gtr,[.t 14,.c (.int .i64 0)],none,some (.t 11,false)⟩,
 op (.t 16) .pick [.t 11,.c (.bool true),.t 15]]
def a118r3 : List AOper := [
 op (.t 17) (.fad 1) [.l 3],
 ⟨.t 18,.ldLc 3 false 1,[.t 17],some 3,none⟩,
 op (.t 19) .lenL [.t 18],
 op (.t 20) (.bin .gtr) [.t 19,.c (.int .i64 0)],
 op (.t 21) .mv [.t 20],
 ⟨.t 22,.fad 1,[.l 4],none,some (.t 21,true)⟩,
 ⟨.t 23,.ldLc 4 false 1,[.t 22],some 4,some (.t 21,true)⟩,
 ⟨.t 24,.lenL,[.t 23],none,some (.t 21,true)⟩,
 ⟨.t 25,.bin .gtr,[.t 24,.c (.int .i64 0)],none,some (.t 21,true)⟩,
 op (.t 26) .pick [.t 21,.t 25,.c (.bool false)],
 op (.t 27) .mv [.t 26],
 ⟨.t 28,.mv,[.v 0],none,some (.t 27,true)⟩,
 ⟨.t 29,.fad 1,[.l 3],none,some (.t 27,true)⟩,
 ⟨.t 30,.ldLc 3 false 1,[.t 29],some 3,some (.t 27,true)⟩,
 ⟨.t 31,.iad 3,[.t 30,.c (.int .i64 0)],none,some (.t 27,true)⟩,
 ⟨.t 32,.ldRo true 3,[.t 31],none,some (.t 27,true)⟩,
 ⟨.t 33,.fad 1,[.l 4],none,some (.t 27,true)⟩,
 ⟨.t 34,.ldLc 4 false 1,[.t 33],some 4,some (.t 27,true)⟩,
 ⟨.t 35,.iad 3,[.t 34,.c (.int .i64 0)],none,some (.t 27,true)⟩,
 ⟨.t 36,.ldRo true 3,[.t 35],none,some (.t 27,true)⟩,
 ⟨.t 37,.call 118,[.t 28,.t 32,.t 36],none,some (.t 27,true)⟩,
 op (.t 38) .pick [.t 27,.t 37,.c (.bool false)],
 op (.v 5) .mv [.t 38]]
def a118s4 : ACode := .reg [] a118r3
def a118s5 : ACode := .seq a118s4 .ret
def a118s6 : ACode := .test [] a118r2 (.t 16) a118s5 .skip
def a118r7 : List AOper := [
 op (.t 39) (.fad 0) [.l 3],
 ⟨.t 40,.ldLc 3 false 1,[.t 39],some 3,none⟩,
 op (.t 41) (.fad 0) [.l 4],
 ⟨.t 42,.ldLc 4 false 1,[.t 41],some 4,none⟩,
 op (.t 43) (.bin .eql) [.t 40,.t 42],
 op (.t 44) .mv [.t 43],
 ⟨.t 45,.fad 0,[.l 4],none,some (.t 44,false)⟩,
 ⟨.t 46,.ldLc 4 false 1,[.t 45],some 4,some (.t 44,false)⟩,
 ⟨.t 47,.bin .eql,[.t 46,.c (.str [73,68])],none,some (.t 44,false)⟩,
 ⟨.t 48,.mv,[.t 47],none,some (.t 44,false)⟩,
 ⟨.t 49,.mv,[.v 0],none,some (.t 48,true)⟩,
 ⟨.t 50,.fad 0,[.l 3],none,some (.t 48,true)⟩,
 ⟨.t 51,.ldLc 3 false 1,[.t 50],some 3,some (.t 48,true)⟩,
 ⟨.t 52,.call 90,[.t 49,.t 51],none,some (.t 48,true)⟩,
 ⟨.t 53,.pick,[.t 48,.t 52,.c (.bool false)],none,some (.t 44,false)⟩,
 op (.t 54) .pick [.t 44,.c (.bool true),.t 53],
 op (.v 5) .mv [.t 54]]
def a118s8 : ACode := .reg [] a118r7
def a118s9 : ACode := .seq a118s8 .ret
def a118s10 : ACode := .seq a118s6 a118s9
def a118s11 : ACode := .seq a118s1 a118s10
def a118c : ACode :=
  a118s11
def a118 : AFn := { np := 3,nv := 6,results := [.v 5],code := a118c }
def a118v : List Nat := [0,1,2,4,5,6]
def a118b : List Nat := [3,4]

def a119r0 : List AOper := [
 op (.v 2) .mv [.c (.int .i64 0)]]
def a119s1 : ACode := .reg [] a119r0
def a119r2 : List AOper := [
 op (.t 6) .mv [.v 0],
 op (.v 4) .lenL [.t 6],
 op (.v 5) .mv [.c (.int .i64 0)]]
def a119s3 : ACode := .reg [] a119r2
def a119r4 : List AOper := [
 op (.t 9) (.bin .lss) [.v 5,.v 4]]
def a119s5 : ACode := .test [] a119r4 (.t 9) .skip (.exit 0)
def a119r6 : List AOper := [
 op (.t 10) .mv [.v 5],
 op (.v 3) .mv [.t 10]]
def a119s7 : ACode := .reg [] a119r6
def a119r8 : List AOper := [
 op (.t 11) .mv [.v 1],
 op (.t 12) .mv [.v 0],
 op (.t 13) .mv [.v 3],
 op (.t 14) (.iad 2) [.t 12,.t 13],
 op (.t 15) (.ldRo true 2) [.t 14],
 op (.t 16) .callV [.t 11,.t 15]]
def a119r9 : List AOper := [
 op (.t 17) .mv [.v 3],
 op (.v 2) .mv [.t 17]]
def a119s10 : ACode := .reg [] a119r9
def a119s11 : ACode := .seq a119s10 .ret
def a119s12 : ACode := .test [] a119r8 (.t 16) a119s11 .skip
def a119s13 : ACode := .seq a119s7 a119s12
def a119s14 : ACode := .blk 1 a119s13
def a119r15 : List AOper := [
 op (.t 18) (.bin .add) [.v 5,.c (.int .i64 1)],
 op (.v 5) .mv [.t 18]]
def a119s16 : ACode := .reg [] a119r15
def a119s17 : ACode := .seq a119s14 a119s16
def a119s18 : ACode := .seq a119s5 a119s17
def a119s19 : ACode := .loop a119s18
def a119s20 : ACode := .blk 0 a119s19
def a119s21 : ACode := .seq a119s3 a119s20
def a119r22 : List AOper := [
 op (.v 2) .mv [.c (.int .i64 (-1))]]
def a119s23 : ACode := .reg [] a119r22
def a119s24 : ACode := .seq a119s23 .ret
def a119s25 : ACode := .seq a119s21 a119s24
def a119s26 : ACode := .seq a119s1 a119s25
def a119c : ACode :=
  a119s26
def a119 : AFn := { np := 2,nv := 6,results := [.v 2],code := a119c }
def a119v : List Nat := [0,1,4,5,7,8]
def a119b : List Nat := []

def a120r0 : List AOper := [
 ⟨.bx,.boxV,[.v 0],some 2,none⟩,
 ⟨.bx,.alloc [.int .u8 0,.int .i64 0,.str [],.list true [],.list true []],[],some 3,none⟩,
 op (.v 4) .mv [.c (.bool false)]]
def a120s1 : ACode := .reg [2,3] a120r0
def a120r2 : List AOper := [
 op (.t 7) (.fad 3) [.l 2],
 ⟨.t 8,.ldLc 2 false 1,[.t 7],some 2,none⟩,
 op (.t 9) .mv [.v 1],
 op (.t 10) (.call 73) [.t 8,.t 9],
 op (.v 5) .mv [.t 10]]
def a120s3 : ACode := .reg [] a120r2
def a120r4 : List AOper := [
 op (.t 11) .mv [.v 5],
 op (.t 12) (.bin .lss) [.t 11,.c (.int .i64 0)],
 op (.t 13) .mv [.t 12],
 ⟨.t 14,.fad 0,[.l 2],none,some (.t 13,false)⟩,
 ⟨.t 15,.ldLc 2 false 1,[.t 14],some 2,some (.t 13,false)⟩,
 ⟨.t 16,.bin .neq,[.t 15,.c (.int .u8 6)],none,some (.t 13,false)⟩,
 op (.t 17) .pick [.t 13,.c (.bool true),.t 16]]
def a120r5 : List AOper := [
 op (.t 18) (.build [.int .u8 0,.int .i64 0,.str [],.list true [],.list true []] []) [],
 ⟨.none,.stLc 3 5,[.l 3,.ts 18],some 3,none⟩,
 op (.v 4) .mv [.c (.bool false)]]
def a120s6 : ACode := .reg [] a120r5
def a120s7 : ACode := .seq a120s6 .ret
def a120s8 : ACode := .test [] a120r4 (.t 17) a120s7 .skip
def a120r9 : List AOper := [
 op (.t 19) (.fad 4) [.l 2],
 ⟨.t 20,.ldLc 2 false 1,[.t 19],some 2,none⟩,
 op (.t 21) .mv [.v 5],
 op (.t 22) (.iad 5) [.t 20,.t 21],
 op (.t 23) (.ldRo true 5) [.t 22],
 ⟨.none,.stLc 3 5,[.l 3,.ts 23],some 3,none⟩,
 op (.v 4) .mv [.c (.bool true)]]
def a120s10 : ACode := .reg [] a120r9
def a120s11 : ACode := .seq a120s10 .ret
def a120s12 : ACode := .seq a120s8 a120s11
def a120s13 : ACode := .seq a120s3 a120s12
def a120s14 : ACode := .seq a120s1 a120s13
def a120c : ACode :=
  a120s14
def a120 : AFn := { np := 2,nv := 6,results := [.bx 3 true 5,.v 4],code := a120c }
def a120v : List Nat := [0,1,2,4,5,6]
def a120b : List Nat := [2,3]

def a121 : AFn := { np := 1,nv := 0,results := [],code := .skip,ext := some (cloneX 1 16) }
def a123r0 : List AOper := [
 op (.v 3) .mv [.c (.bool false)]]
def a123s1 : ACode := .reg [] a123r0
def a123r2 : List AOper := [
 op (.t 10) .mv [.v 0],
 op (.t 11) .mv [.v 1],
 op (.t 12) (.call 48) [.t 10,.t 11],
 op (.t 9) .mv [.t 12],
 op (.t 13) (.ext 0) [.t 9],
 op (.t 14) (.ext 1) [.t 9],
 ⟨.bx,.alloc [.int .u8 0,.str [],.list true [],.list true []],[],some 4,none⟩,
 ⟨.none,.stLc 4 4,[.l 4,.ts 13],some 4,none⟩,
 op (.v 5) .mv [.t 14]]
def a123s3 : ACode := .reg [4] a123r2
def a123r4 : List AOper := [
 op (.t 15) .mv [.v 5],
 op (.t 16) .mv [.t 15],
 ⟨.t 17,.fad 0,[.l 4],none,some (.t 16,true)⟩,
 ⟨.t 18,.ldLc 4 false 1,[.t 17],some 4,some (.t 16,true)⟩,
 ⟨.t 19,.mv,[.v 2],none,some (.t 16,true)⟩,
 ⟨.t 20,.bin .eql,[.t 18,.t 19],none,some (.t 16,true)⟩,
 op (.t 21) .pick [.t 16,.t 20,.c (.bool false)],
 op (.v 3) .mv [.t 21]]
def a123s5 : ACode := .reg [] a123r4
def a123s6 : ACode := .seq a123s5 .ret
def a123s7 : ACode := .seq a123s3 a123s6
def a123s8 : ACode := .seq a123s1 a123s7
def a123c : ACode :=
  a123s8
def a123 : AFn := { np := 3,nv := 6,results := [.v 3],code := a123c }
def a123v : List Nat := [0,1,2,6,7,8]
def a123b : List Nat := [4]

def a124r0 : List AOper := [
 op (.v 2) .mv [.c (.bool false)]]
def a124s1 : ACode := .reg [] a124r0
def a124r2 : List AOper := [
 op (.t 5) .mv [.v 0],
 op (.t 6) .mv [.v 1],
 op (.t 7) (.call 132) [.t 5,.t 6],
 op (.t 8) (.bin .geq) [.t 7,.c (.int .i64 0)],
 op (.v 2) .mv [.t 8]]
def a124s3 : ACode := .reg [] a124r2
def a124s4 : ACode := .seq a124s3 .ret
def a124s5 : ACode := .seq a124s1 a124s4
def a124c : ACode :=
  a124s5
def a124 : AFn := { np := 2,nv := 3,results := [.v 2],code := a124c }
def a124v : List Nat := [0,1,4]
def a124b : List Nat := []

def a125r0 : List AOper := [
 ⟨.bx,.boxV,[.v 0],some 3,none⟩,
 op (.v 4) .mv [.c (.bool false)]]
def a125s1 : ACode := .reg [3] a125r0
def a125r2 : List AOper := [
 op (.t 5) (.ldSt false 1) [.v 1],
 op (.t 6) (.fad 1) [.v 2],
 op (.t 7) (.ldSt false 1) [.t 6],
 op (.t 8) (.iad 3) [.t 7,.c (.int .i64 0)],
 op (.t 9) (.ldRo true 3) [.t 8],
 ⟨.t 10,.ldLc 3 true 5,[.l 3],some 3,none⟩,
 op (.t 11) (.call 106) [.t 5,.t 9,.t 10],
 op (.t 12) (.un .not) [.t 11],
 op (.v 4) .mv [.t 12]]
def a125s3 : ACode := .reg [] a125r2
def a125s4 : ACode := .seq a125s3 .ret
def a125s5 : ACode := .seq a125s1 a125s4
def a125c : ACode :=
  a125s5
def a125 : AFn := { np := 3,nv := 5,results := [.v 4],code := a125c }
def a125v : List Nat := [0,1,2,3,4]
def a125b : List Nat := [3]

def a126r0 : List AOper := [
 ⟨.bx,.boxV,[.v 1],some 3,none⟩,
 op (.v 4) .boxO [.v 2],
 op (.v 5) .mv [.c (.bool false)]]
def a126s1 : ACode := .reg [3] a126r0
def a126r2 : List AOper := [
 op (.t 10) (.fad 3) [.v 4],
 op (.v 9) (.ldSt false 1) [.t 10],
 op (.v 10) .lenL [.v 9],
 op (.v 11) .mv [.c (.int .i64 0)]]
def a126s3 : ACode := .reg [] a126r2
def a126r4 : List AOper := [
 op (.t 14) (.bin .lss) [.v 11,.v 10]]
def a126s5 : ACode := .test [] a126r4 (.t 14) .skip (.exit 0)
def a126r6 : List AOper := [
 op (.t 15) .mv [.v 11],
 op (.t 16) (.iad 1) [.v 9,.v 11],
 op (.t 17) (.ldRo false 1) [.t 16],
 op (.v 6) .mv [.t 15],
 op (.v 7) .mv [.t 17]]
def a126s7 : ACode := .reg [] a126r6
def a126r8 : List AOper := [
 op (.t 18) (.fad 2) [.l 3],
 ⟨.t 19,.ldLc 3 false 1,[.t 18],some 3,none⟩,
 op (.t 20) (.call 76) [.t 19],
 op (.t 21) .mv [.v 7],
 op (.t 22) (.call 73) [.t 20,.t 21],
 op (.v 8) .mv [.t 22]]
def a126s9 : ACode := .reg [] a126r8
def a126r10 : List AOper := [
 op (.t 23) .mv [.v 8],
 op (.t 24) (.bin .lss) [.t 23,.c (.int .i64 0)],
 op (.t 25) .mv [.t 24],
 ⟨.t 26,.fad 3,[.v 4],none,some (.t 25,false)⟩,
 ⟨.t 27,.ldSt false 1,[.t 26],none,some (.t 25,false)⟩,
 ⟨.t 28,.mv,[.v 6],none,some (.t 25,false)⟩,
 ⟨.t 29,.slL 1 false true,[.t 27,.t 28],none,some (.t 25,false)⟩,
 ⟨.t 30,.mv,[.v 7],none,some (.t 25,false)⟩,
 ⟨.t 31,.call 45,[.t 29,.t 30],none,some (.t 25,false)⟩,
 op (.t 32) .pick [.t 25,.c (.bool true),.t 31],
 op (.t 33) .mv [.t 32],
 ⟨.t 34,.mv,[.v 0],none,some (.t 33,false)⟩,
 ⟨.t 35,.fad 2,[.l 3],none,some (.t 33,false)⟩,
 ⟨.t 36,.ldLc 3 false 1,[.t 35],some 3,some (.t 33,false)⟩,
 ⟨.t 37,.mv,[.v 8],none,some (.t 33,false)⟩,
 ⟨.t 38,.iad 11,[.t 36,.t 37],none,some (.t 33,false)⟩,
 ⟨.t 39,.fad 2,[.t 38],none,some (.t 33,false)⟩,
 ⟨.t 40,.ldRo true 3,[.t 39],none,some (.t 33,false)⟩,
 ⟨.t 41,.fad 4,[.v 4],none,some (.t 33,false)⟩,
 ⟨.t 42,.ldSt false 1,[.t 41],none,some (.t 33,false)⟩,
 ⟨.t 43,.mv,[.v 6],none,some (.t 33,false)⟩,
 ⟨.t 44,.iad 5,[.t 42,.t 43],none,some (.t 33,false)⟩,
 ⟨.t 45,.ldRo true 5,[.t 44],none,some (.t 33,false)⟩,
 ⟨.t 46,.call 106,[.t 34,.t 40,.t 45],none,some (.t 33,false)⟩,
 ⟨.t 47,.un .not,[.t 46],none,some (.t 33,false)⟩,
 op (.t 48) .pick [.t 33,.c (.bool true),.t 47]]
def a126r11 : List AOper := [
 op (.v 5) .mv [.c (.bool false)]]
def a126s12 : ACode := .reg [] a126r11
def a126s13 : ACode := .seq a126s12 .ret
def a126s14 : ACode := .test [] a126r10 (.t 48) a126s13 .skip
def a126s15 : ACode := .seq a126s9 a126s14
def a126s16 : ACode := .seq a126s7 a126s15
def a126s17 : ACode := .blk 1 a126s16
def a126r18 : List AOper := [
 op (.t 49) (.bin .add) [.v 11,.c (.int .i64 1)],
 op (.v 11) .mv [.t 49]]
def a126s19 : ACode := .reg [] a126r18
def a126s20 : ACode := .seq a126s17 a126s19
def a126s21 : ACode := .seq a126s5 a126s20
def a126s22 : ACode := .loop a126s21
def a126s23 : ACode := .blk 0 a126s22
def a126s24 : ACode := .seq a126s3 a126s23
def a126r25 : List AOper := [
 op (.t 50) (.fad 2) [.l 3],
 ⟨.t 51,.ldLc 3 false 1,[.t 50],some 3,none⟩,
 op (.t 52) (.mkF 133 0) [.v 4],
 op (.t 53) (.call 107) [.t 51,.t 52],
 op (.t 54) (.un .not) [.t 53],
 op (.v 5) .mv [.t 54]]
def a126s26 : ACode := .reg [] a126r25
def a126s27 : ACode := .seq a126s26 .ret
def a126s28 : ACode := .seq a126s24 a126s27
def a126s29 : ACode := .seq a126s1 a126s28
def a126c : ACode :=
  a126s29
def a126 : AFn := { np := 3,nv := 12,results := [.v 5],code := a126c }
def a126v : List Nat := [0,1,2,4,5,6,7,8,9,11,12,13]
def a126b : List Nat := [3]

def a127r0 : List AOper := [
 op (.v 2) .mv [.c (.int .i64 0)]]
def a127s1 : ACode := .reg [] a127r0
def a127r2 : List AOper := [
 op (.t 6) .mv [.v 0],
 op (.v 4) .lenL [.t 6],
 op (.v 5) .mv [.c (.int .i64 0)]]
def a127s3 : ACode := .reg [] a127r2
def a127r4 : List AOper := [
 op (.t 9) (.bin .lss) [.v 5,.v 4]]
def a127s5 : ACode := .test [] a127r4 (.t 9) .skip (.exit 0)
def a127r6 : List AOper := [
 op (.t 10) .mv [.v 5],
 op (.v 3) .mv [.t 10]]
def a127s7 : ACode := .reg [] a127r6
def a127r8 : List AOper := [
 op (.t 11) .mv [.v 1],
 op (.t 12) .mv [.v 0],
 op (.t 13) .mv [.v 3],
 op (.t 14) (.iad 11) [.t 12,.t 13],
 op (.t 15) (.ldRo true 11) [.t 14],
 op (.t 16) .callV [.t 11,.t 15]]
def a127r9 : List AOper := [
 op (.t 17) .mv [.v 3],
 op (.v 2) .mv [.t 17]]
def a127s10 : ACode := .reg [] a127r9
def a127s11 : ACode := .seq a127s10 .ret
def a127s12 : ACode := .test [] a127r8 (.t 16) a127s11 .skip
def a127s13 : ACode := .seq a127s7 a127s12
def a127s14 : ACode := .blk 1 a127s13
def a127r15 : List AOper := [
 op (.t 18) (.bin .add) [.v 5,.c (.int .i64 1)],
 op (.v 5) .mv [.t 18]]
def a127s16 : ACode := .reg [] a127r15
def a127s17 : ACode := .seq a127s14 a127s16
def a127s18 : ACode := .seq a127s5 a127s17
def a127s19 : ACode := .loop a127s18
def a127s20 : ACode := .blk 0 a127s19
def a127s21 : ACode := .seq a127s3 a127s20
def a127r22 : List AOper := [
 op (.v 2) .mv [.c (.int .i64 (-1))]]
def a127s23 : ACode := .reg [] a127r22
def a127s24 : ACode := .seq a127s23 .ret
def a127s25 : ACode := .seq a127s21 a127s24
def a127s26 : ACode := .seq a127s1 a127s25
def a127c : ACode :=
  a127s26
def a127 : AFn := { np := 2,nv := 6,results := [.v 2],code := a127c }
def a127v : List Nat := [0,1,4,5,7,8]
def a127b : List Nat := []

def a128r0 : List AOper := [
 op (.v 3) .mv [.c (.bool false)]]
def a128s1 : ACode := .reg [] a128r0
def a128r2 : List AOper := [
 op (.t 10) .mv [.v 0],
 op (.t 11) .lenL [.t 10],
 op (.t 12) .mv [.v 1],
 op (.t 13) .lenL [.t 12],
 op (.t 14) (.bin .neq) [.t 11,.t 13]]
def a128r3 : List AOper := [
 op (.v 3) .mv [.c (.bool false)]]
def a128s4 : ACode := .reg [] a128r3
def a128s5 : ACode := .seq a128s4 .ret
def a128s6 : ACode := .test [] a128r2 (.t 14) a128s5 .skip
def a128r7 : List AOper := [
 op (.v 7) .mv [.v 0],
 op (.v 8) .lenL [.v 7],
 op (.v 9) .mv [.c (.int .i64 0)]]
def a128s8 : ACode := .reg [] a128r7
def a128r9 : List AOper := [
 op (.t 18) (.bin .lss) [.v 9,.v 8]]
def a128s10 : ACode := .test [] a128r9 (.t 18) .skip (.exit 0)
def a128r11 : List AOper := [
 op (.t 19) .mv [.v 9],
 op (.t 20) (.iad 3) [.v 7,.v 9],
 op (.t 21) (.ldRo true 3) [.t 20],
 ⟨.bx,.alloc [.str [],.list true [],.bool false],[],some 5,none⟩,
 op (.v 4) .mv [.t 19],
 ⟨.none,.stLc 5 3,[.l 5,.ts 21],some 5,none⟩]
def a128s12 : ACode := .reg [5] a128r11
def a128r13 : List AOper := [
 op (.t 22) .mv [.v 1],
 op (.t 23) .mv [.v 4],
 op (.t 24) (.iad 3) [.t 22,.t 23],
 op (.t 25) (.ldRo true 3) [.t 24],
 ⟨.bx,.alloc [.str [],.list true [],.bool false],[],some 6,none⟩,
 ⟨.none,.stLc 6 3,[.l 6,.ts 25],some 6,none⟩]
def a128s14 : ACode := .reg [6] a128r13
def a128r15 : List AOper := [
 op (.t 26) .mv [.v 2],
 ⟨.t 27,.ldLc 5 true 3,[.l 5],some 5,none⟩,
 ⟨.t 28,.ldLc 6 true 3,[.l 6],some 6,none⟩,
 op (.t 29) .callV [.t 26,.t 27,.t 28],
 op (.t 30) (.un .not) [.t 29]]
def a128r16 : List AOper := [
 op (.v 3) .mv [.c (.bool false)]]
def a128s17 : ACode := .reg [] a128r16
def a128s18 : ACode := .seq a128s17 .ret
def a128s19 : ACode := .test [] a128r15 (.t 30) a128s18 .skip
def a128s20 : ACode := .seq a128s14 a128s19
def a128s21 : ACode := .seq a128s12 a128s20
def a128s22 : ACode := .blk 1 a128s21
def a128r23 : List AOper := [
 op (.t 31) (.bin .add) [.v 9,.c (.int .i64 1)],
 op (.v 9) .mv [.t 31]]
def a128s24 : ACode := .reg [] a128r23
def a128s25 : ACode := .seq a128s22 a128s24
def a128s26 : ACode := .seq a128s10 a128s25
def a128s27 : ACode := .loop a128s26
def a128s28 : ACode := .blk 0 a128s27
def a128s29 : ACode := .seq a128s8 a128s28
def a128r30 : List AOper := [
 op (.v 3) .mv [.c (.bool true)]]
def a128s31 : ACode := .reg [] a128r30
def a128s32 : ACode := .seq a128s31 .ret
def a128s33 : ACode := .seq a128s29 a128s32
def a128s34 : ACode := .seq a128s6 a128s33
def a128s35 : ACode := .seq a128s1 a128s34
def a128c : ACode :=
  a128s35
def a128 : AFn := { np := 3,nv := 10,results := [.v 3],code := a128c }
def a128v : List Nat := [0,1,2,6,7,8,9,15,16,17]
def a128b : List Nat := [5,6]

def a129r0 : List AOper := [
 op (.v 2) .mv [.c (.str [])],
 op (.v 3) .mv [.c (.bool false)]]
def a129s1 : ACode := .reg [] a129r0
def a129r2 : List AOper := [
 op (.t 6) .mv [.v 0],
 op (.t 7) .mv [.v 1],
 op (.t 8) (.call 134) [.t 6,.t 7],
 op (.t 9) (.ext 0) [.t 8],
 op (.t 10) (.ext 1) [.t 8],
 op (.v 2) .mv [.t 9],
 op (.v 3) .mv [.t 10]]
def a129s3 : ACode := .reg [] a129r2
def a129s4 : ACode := .seq a129s3 .ret
def a129s5 : ACode := .seq a129s1 a129s4
def a129c : ACode :=
  a129s5
def a129 : AFn := { np := 2,nv := 4,results := [.v 2,.v 3],code := a129c }
def a129v : List Nat := [0,1,4,5]
def a129b : List Nat := []

def a132r0 : List AOper := [
 op (.v 2) .mv [.c (.int .i64 0)]]
def a132s1 : ACode := .reg [] a132r0
def a132r2 : List AOper := [
 op (.t 6) .mv [.v 0],
 op (.v 4) .lenL [.t 6],
 op (.v 5) .mv [.c (.int .i64 0)]]
def a132s3 : ACode := .reg [] a132r2
def a132r4 : List AOper := [
 op (.t 9) (.bin .lss) [.v 5,.v 4]]
def a132s5 : ACode := .test [] a132r4 (.t 9) .skip (.exit 0)
def a132r6 : List AOper := [
 op (.t 10) .mv [.v 5],
 op (.v 3) .mv [.t 10]]
def a132s7 : ACode := .reg [] a132r6
def a132r8 : List AOper := [
 op (.t 11) .mv [.v 1],
 op (.t 12) .mv [.v 0],
 op (.t 13) .mv [.v 3],
 op (.t 14) (.iad 5) [.t 12,.t 13],
 op (.t 15) (.ldRo true 5) [.t 14],
 op (.t 16) .callV [.t 11,.t 15]]
def a132r9 : List AOper := [
 op (.t 17) .mv [.v 3],
 op (.v 2) .mv [.t 17]]
def a132s10 : ACode := .reg [] a132r9
def a132s11 : ACode := .seq a132s10 .ret
def a132s12 : ACode := .test [] a132r8 (.t 16) a132s11 .skip
def a132s13 : ACode := .seq a132s7 a132s12
def a132s14 : ACode := .blk 1 a132s13
def a132r15 : List AOper := [
 op (.t 18) (.bin .add) [.v 5,.c (.int .i64 1)],
 op (.v 5) .mv [.t 18]]
def a132s16 : ACode := .reg [] a132r15
def a132s17 : ACode := .seq a132s14 a132s16
def a132s18 : ACode := .seq a132s5 a132s17
def a132s19 : ACode := .loop a132s18
def a132s20 : ACode := .blk 0 a132s19
def a132s21 : ACode := .seq a132s3 a132s20
def a132r22 : List AOper := [
 op (.v 2) .mv [.c (.int .i64 (-1))]]
def a132s23 : ACode := .reg [] a132r22
def a132s24 : ACode := .seq a132s23 .ret
def a132s25 : ACode := .seq a132s21 a132s24
def a132s26 : ACode := .seq a132s1 a132s25
def a132c : ACode :=
  a132s26
def a132 : AFn := { np := 2,nv := 6,results := [.v 2],code := a132c }
def a132v : List Nat := [0,1,4,5,7,8]
def a132b : List Nat := []

def a133r0 : List AOper := [
 ⟨.bx,.boxV,[.v 0],some 2,none⟩,
 op (.v 3) .mv [.c (.bool false)]]
def a133s1 : ACode := .reg [2] a133r0
def a133r2 : List AOper := [
 op (.t 4) (.fad 2) [.l 2],
 op (.t 5) (.fad 2) [.t 4],
 ⟨.t 6,.ldLc 2 false 1,[.t 5],some 2,none⟩,
 op (.t 7) .mv [.t 6],
 ⟨.t 8,.fad 5,[.l 2],none,some (.t 7,true)⟩,
 ⟨.t 9,.ldLc 2 false 1,[.t 8],some 2,some (.t 7,true)⟩,
 ⟨.t 10,.un .not,[.t 9],none,some (.t 7,true)⟩,
 op (.t 11) .pick [.t 7,.t 10,.c (.bool false)],
 op (.t 12) .mv [.t 11],
 ⟨.t 13,.fad 3,[.v 1],none,some (.t 12,true)⟩,
 ⟨.t 14,.ldSt false 1,[.t 13],none,some (.t 12,true)⟩,
 ⟨.t 15,.fad 0,[.l 2],none,some (.t 12,true)⟩,
 ⟨.t 16,.ldLc 2 false 1,[.t 15],some 2,some (.t 12,true)⟩,
 ⟨.t 17,.call 45,[.t 14,.t 16],none,some (.t 12,true)⟩,
 ⟨.t 18,.un .not,[.t 17],none,some (.t 12,true)⟩,
 op (.t 19) .pick [.t 12,.t 18,.c (.bool false)],
 op (.v 3) .mv [.t 19]]
def a133s3 : ACode := .reg [] a133r2
def a133s4 : ACode := .seq a133s3 .ret
def a133s5 : ACode := .seq a133s1 a133s4
def a133c : ACode :=
  a133s5
def a133 : AFn := { np := 2,nv := 4,results := [.v 3],code := a133c }
def a133v : List Nat := [0,1,2,3]
def a133b : List Nat := [2]

def a134r0 : List AOper := [
 op (.v 2) .mv [.c (.str [])],
 op (.v 3) .mv [.c (.bool false)]]
def a134s1 : ACode := .reg [] a134r0
def a134r2 : List AOper := [
 op (.t 6) .mv [.v 0],
 op (.t 7) .mv [.v 1],
 op (.t 8) (.call 74) [.t 6,.t 7],
 op (.t 9) (.un .not) [.t 8]]
def a134r3 : List AOper := [
 op (.t 10) .mv [.v 0],
 op (.v 2) .mv [.t 10],
 op (.v 3) .mv [.c (.bool false)]]
def a134s4 : ACode := .reg [] a134r3
def a134s5 : ACode := .seq a134s4 .ret
def a134s6 : ACode := .test [] a134r2 (.t 9) a134s5 .skip
def a134r7 : List AOper := [
 op (.t 11) .mv [.v 0],
 op (.t 12) .mv [.v 1],
 op (.t 13) .lenS [.t 12],
 op (.t 14) (.slS true false) [.t 11,.t 13],
 op (.v 2) .mv [.t 14],
 op (.v 3) .mv [.c (.bool true)]]
def a134s8 : ACode := .reg [] a134r7
def a134s9 : ACode := .seq a134s8 .ret
def a134s10 : ACode := .seq a134s6 a134s9
def a134s11 : ACode := .seq a134s1 a134s10
def a134c : ACode :=
  a134s11
def a134 : AFn := { np := 2,nv := 4,results := [.v 2,.v 3],code := a134c }
def a134v : List Nat := [0,1,4,5]
def a134b : List Nat := []

def tblL : List (List (Option AFn)) := [
  [none,none,none,none,none,none,none,some a7,none,some a9],
  [some a10,some a11,some a12,none,none,none,none,some a17,some a18,some a19],
  [some a20,some a21,some a22,some a23,some a24,some a25,some a26,some a27,some a28,some a29],
  [some a30,some a31,none,none,none,none,none,none,some a38,some a39],
  [some a40,some a41,some a42,some a43,some a44,some a45,some a46,some a47,some a48,some a49],
  [some a50,some a51,some a52,some a53,some a54,some a55,some a56,some a57,some a58,some a59],
  [some a60,none,none,none,some a64,some a65,some a66,some a67,some a68,some a69],
  [some a70,some a71,some a72,some a73,some a74,some a75,some a76,some a77,some a78,some a79],
  [some a80,some a81,some a82,some a83,some a84,some a85,some a86,some a87,some a88,some a89],
  [some a90,some a91,some a92,some a93,some a94,some a95,some a96,some a97,some a98,none],
  [none,none,some a102,some a103,some a104,some a105,some a106,some a107,some a108,some a109],
  [some a110,some a111,some a112,some a113,some a114,some a115,some a116,some a117,some a118,some a119],
  [some a120,some a121,none,some a123,some a124,some a125,some a126,some a127,some a128,some a129],
  [none,none,some a132,some a133,some a134,none,none,none,none,none],
  [none,none,none,none,none,none,none,none,none,none],
  [none,none,none,none,none,none,none,none,none,none]]
def tbl : Nat → Option AFn := nth2 tblL
def gts : List (Nat × List AV) := [(0,[.str [66,111,111,108,101,97,110],.str [73,68],.str [73,110,116],.str [83,116,114,105,110,103]])]
end Go.Cb.CodeA
