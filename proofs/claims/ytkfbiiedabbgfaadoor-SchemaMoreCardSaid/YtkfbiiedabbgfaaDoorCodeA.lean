/- The functions of the seat, told as code of the abstract machine. No conditions. -/
import Derived.Test.YtkfbiiedabbgfaaDoorXAm1
namespace Go.Cb.CodeA
open Go Go.Cb

abbrev op (d : Dst) (k : Kind) (a : List Opd) : AOper := ⟨d,k,a,none,none⟩
def a5r0 : List AOper := [
 op (.v 1) .mv [.c (.bool false)]]
def a5s1 : ACode := .reg [] a5r0
def a5r2 : List AOper := [
 op (.t 15) (.call 8) [],
 op (.t 16) (.un .not) [.t 15],
 op (.t 17) .mv [.t 16],
 ⟨.t 18,.mv,[.v 0],none,some (.t 17,false)⟩,
 ⟨.t 19,.lenS,[.t 18],none,some (.t 17,false)⟩,
 ⟨.t 20,.bin .gtr,[.t 19,.c (.int .i64 1800)],none,some (.t 17,false)⟩,
 op (.t 21) .pick [.t 17,.c (.bool true),.t 20]]
def a5r3 : List AOper := [
 op (.t 22) (.call 8) [],
 op (.v 1) .mv [.t 22]]
def a5s4 : ACode := .reg [] a5r3
def a5s5 : ACode := .seq a5s4 .ret
def a5s6 : ACode := .test [] a5r2 (.t 21) a5s5 .skip
def a5r7 : List AOper := [
 op (.t 24) .mv [.v 0],
 op (.t 25) (.call 14) [.t 24],
 op (.t 23) .mv [.t 25],
 op (.t 26) (.ext 0) [.t 23],
 op (.t 27) (.ext 1) [.t 23],
 op (.t 28) (.ext 2) [.t 23],
 op (.v 2) .mv [.t 26],
 op (.t 4) .mv [.t 27],
 op (.v 3) .mv [.t 28]]
def a5s8 : ACode := .reg [] a5r7
def a5r9 : List AOper := [
 op (.t 29) .mv [.v 3],
 op (.t 30) (.bin .neq) [.t 29,.c (.int .i64 0)]]
def a5r10 : List AOper := [
 op (.v 1) .mv [.c (.bool true)]]
def a5s11 : ACode := .reg [] a5r10
def a5s12 : ACode := .seq a5s11 .ret
def a5s13 : ACode := .test [] a5r9 (.t 30) a5s12 .skip
def a5r14 : List AOper := [
 op (.t 32) .mv [.v 2],
 op (.t 33) (.call 15) [.t 32,.c (.str [90,122,57])],
 op (.t 31) .mv [.t 33],
 op (.t 34) (.ext 0) [.t 31],
 op (.t 35) (.ext 1) [.t 31],
 ⟨.bx,.alloc [.int .u8 0,.str [],.list true [],.list true []],[],some 4,none⟩,
 ⟨.none,.stLc 4 4,[.l 4,.ts 34],some 4,none⟩,
 op (.v 5) .mv [.t 35]]
def a5s15 : ACode := .reg [4] a5r14
def a5r16 : List AOper := [
 op (.t 37) .mv [.v 0],
 op (.t 38) (.bin .add) [.t 37,.c (.str [10,116,121,112,101,32,90,122,57,32,123,32,122,122,58,32,73,110,116,32,125])],
 op (.t 39) (.call 14) [.t 38],
 op (.t 36) .mv [.t 39],
 op (.t 40) (.ext 0) [.t 36],
 op (.t 41) (.ext 1) [.t 36],
 op (.t 42) (.ext 2) [.t 36],
 op (.v 6) .mv [.t 40],
 op (.t 9) .mv [.t 41],
 op (.v 7) .mv [.t 42]]
def a5s17 : ACode := .reg [] a5r16
def a5r18 : List AOper := [
 op (.t 43) .mv [.v 5]]
def a5r19 : List AOper := [
 op (.t 44) .mv [.v 7],
 op (.t 45) (.bin .eql) [.t 44,.c (.int .i64 7)],
 op (.v 1) .mv [.t 45]]
def a5s20 : ACode := .reg [] a5r19
def a5s21 : ACode := .seq a5s20 .ret
def a5s22 : ACode := .test [] a5r18 (.t 43) a5s21 .skip
def a5r23 : List AOper := [
 op (.t 46) .mv [.v 7],
 op (.t 47) (.bin .neq) [.t 46,.c (.int .i64 0)]]
def a5r24 : List AOper := [
 op (.v 1) .mv [.c (.bool false)]]
def a5s25 : ACode := .reg [] a5r24
def a5s26 : ACode := .seq a5s25 .ret
def a5s27 : ACode := .test [] a5r23 (.t 47) a5s26 .skip
def a5r28 : List AOper := [
 op (.t 48) .mv [.v 2],
 op (.t 49) (.call 16) [.t 48],
 op (.v 8) .mv [.ts 49]]
def a5s29 : ACode := .reg [] a5r28
def a5r30 : List AOper := [
 op (.v 9) .mv [.c (.int .i64 0)]]
def a5s31 : ACode := .reg [] a5r30
def a5r32 : List AOper := [
 op (.t 50) .mv [.v 9],
 op (.t 51) .mv [.v 8],
 op (.t 52) .lenL [.t 51],
 op (.t 53) (.bin .lss) [.t 50,.t 52]]
def a5s33 : ACode := .test [] a5r32 (.t 53) .skip (.exit 0)
def a5r34 : List AOper := [
 op (.t 57) .mv [.v 6],
 op (.t 58) .mv [.v 8],
 op (.t 59) .mv [.v 9],
 op (.t 60) (.iad 4) [.t 58,.t 59],
 op (.t 61) (.fad 1) [.t 60],
 op (.t 62) (.ldRo false 1) [.t 61],
 op (.t 63) (.call 15) [.t 57,.t 62],
 op (.t 56) .mv [.t 63],
 op (.t 64) (.ext 0) [.t 56],
 op (.t 65) (.ext 1) [.t 56],
 ⟨.bx,.alloc [.int .u8 0,.str [],.list true [],.list true []],[],some 10,none⟩,
 ⟨.none,.stLc 10 4,[.l 10,.ts 64],some 10,none⟩,
 op (.v 11) .mv [.t 65]]
def a5s35 : ACode := .reg [10] a5r34
def a5r36 : List AOper := [
 op (.t 66) .mv [.v 11],
 op (.t 67) (.un .not) [.t 66],
 op (.t 68) .mv [.t 67],
 ⟨.t 69,.fad 0,[.l 10],none,some (.t 68,false)⟩,
 ⟨.t 70,.ldLc 10 false 1,[.t 69],some 10,some (.t 68,false)⟩,
 ⟨.t 71,.mv,[.v 8],none,some (.t 68,false)⟩,
 ⟨.t 72,.mv,[.v 9],none,some (.t 68,false)⟩,
 ⟨.t 73,.iad 4,[.t 71,.t 72],none,some (.t 68,false)⟩,
 ⟨.t 74,.fad 0,[.t 73],none,some (.t 68,false)⟩,
 ⟨.t 75,.ldRo false 1,[.t 74],none,some (.t 68,false)⟩,
 ⟨.t 76,.bin .neq,[.t 70,.t 75],none,some (.t 68,false)⟩,
 op (.t 77) .pick [.t 68,.c (.bool true),.t 76],
 op (.t 78) .mv [.t 77],
 ⟨.t 79,.mv,[.v 6],none,some (.t 78,false)⟩,
 ⟨.t 80,.mv,[.v 8],none,some (.t 78,false)⟩,
 ⟨.t 81,.mv,[.v 9],none,some (.t 78,false)⟩,
 ⟨.t 82,.iad 4,[.t 80,.t 81],none,some (.t 78,false)⟩,
 ⟨.t 83,.fad 1,[.t 82],none,some (.t 78,false)⟩,
 ⟨.t 84,.ldRo false 1,[.t 83],none,some (.t 78,false)⟩,
 ⟨.t 85,.call 11,[.t 79,.t 84],none,some (.t 78,false)⟩,
 ⟨.t 86,.lenL,[.t 85],none,some (.t 78,false)⟩,
 ⟨.t 87,.mv,[.v 2],none,some (.t 78,false)⟩,
 ⟨.t 88,.mv,[.v 8],none,some (.t 78,false)⟩,
 ⟨.t 89,.mv,[.v 9],none,some (.t 78,false)⟩,
 ⟨.t 90,.iad 4,[.t 88,.t 89],none,some (.t 78,false)⟩,
 ⟨.t 91,.fad 1,[.t 90],none,some (.t 78,false)⟩,
 ⟨.t 92,.ldRo false 1,[.t 91],none,some (.t 78,false)⟩,
 ⟨.t 93,.call 11,[.t 87,.t 92],none,some (.t 78,false)⟩,
 ⟨.t 94,.lenL,[.t 93],none,some (.t 78,false)⟩,
 ⟨.t 95,.bin .neq,[.t 86,.t 94],none,some (.t 78,false)⟩,
 op (.t 96) .pick [.t 78,.c (.bool true),.t 95]]
def a5r37 : List AOper := [
 op (.v 1) .mv [.c (.bool false)]]
def a5s38 : ACode := .reg [] a5r37
def a5s39 : ACode := .seq a5s38 .ret
def a5s40 : ACode := .test [] a5r36 (.t 96) a5s39 .skip
def a5s41 : ACode := .seq a5s35 a5s40
def a5s42 : ACode := .blk 1 a5s41
def a5r43 : List AOper := [
 op (.t 54) .mv [.v 9],
 op (.t 55) (.bin .add) [.t 54,.c (.int .i64 1)],
 op (.v 9) .mv [.t 55]]
def a5s44 : ACode := .reg [] a5r43
def a5s45 : ACode := .seq a5s42 a5s44
def a5s46 : ACode := .seq a5s33 a5s45
def a5s47 : ACode := .loop a5s46
def a5s48 : ACode := .blk 0 a5s47
def a5s49 : ACode := .seq a5s31 a5s48
def a5r50 : List AOper := [
 op (.t 97) .mv [.v 6],
 op (.t 98) (.call 16) [.t 97],
 op (.t 99) .lenL [.t 98],
 op (.t 100) .mv [.v 8],
 op (.t 101) .lenL [.t 100],
 op (.t 102) (.bin .add) [.t 101,.c (.int .i64 1)],
 op (.t 103) (.bin .eql) [.t 99,.t 102],
 op (.v 1) .mv [.t 103]]
def a5s51 : ACode := .reg [] a5r50
def a5s52 : ACode := .seq a5s51 .ret
def a5s53 : ACode := .seq a5s49 a5s52
def a5s54 : ACode := .seq a5s29 a5s53
def a5s55 : ACode := .seq a5s27 a5s54
def a5s56 : ACode := .seq a5s22 a5s55
def a5s57 : ACode := .seq a5s17 a5s56
def a5s58 : ACode := .seq a5s15 a5s57
def a5s59 : ACode := .seq a5s13 a5s58
def a5s60 : ACode := .seq a5s8 a5s59
def a5s61 : ACode := .seq a5s6 a5s60
def a5s62 : ACode := .seq a5s1 a5s61
def a5c : ACode :=
  a5s62
def a5 : AFn := { np := 1,nv := 12,results := [.v 1],code := a5c }
def a5v : List Nat := [0,2,3,5,6,7,8,10,11,12,13,14]
def a5b : List Nat := [4,10]

def a8r0 : List AOper := [
 op (.v 0) .mv [.c (.bool false)]]
def a8s1 : ACode := .reg [] a8r0
def a8r2 : List AOper := [
 op (.t 5) (.call 14) [.c (.str [116,121,112,101,32,65,32,123,32,98,58,32,73,110,116,32,125,32,116,121,112,101,32,81,117,101,114,121,32,123,32,97,40,105,100,58,32,73,68,33,41,58,32,65,32,97,108,108,58,32,91,65,33,93,33,32,125])],
 op (.t 4) .mv [.t 5],
 op (.t 6) (.ext 0) [.t 4],
 op (.t 7) (.ext 1) [.t 4],
 op (.t 8) (.ext 2) [.t 4],
 op (.v 1) .mv [.t 6],
 op (.t 2) .mv [.t 7],
 op (.v 2) .mv [.t 8]]
def a8s3 : ACode := .reg [] a8r2
def a8r4 : List AOper := [
 op (.t 9) .mv [.v 2],
 op (.t 10) (.bin .eql) [.t 9,.c (.int .i64 0)],
 op (.t 11) .mv [.t 10],
 ⟨.t 12,.mv,[.v 1],none,some (.t 11,true)⟩,
 ⟨.t 13,.binP .neq,[.t 12,.c (.nilp)],none,some (.t 11,true)⟩,
 op (.t 14) .pick [.t 11,.t 13,.c (.bool false)],
 op (.t 15) .mv [.t 14],
 ⟨.t 16,.mv,[.v 1],none,some (.t 15,true)⟩,
 ⟨.t 17,.call 12,[.t 16,.c (.str [65])],none,some (.t 15,true)⟩,
 op (.t 18) .pick [.t 15,.t 17,.c (.bool false)],
 op (.t 19) .mv [.t 18],
 ⟨.t 20,.mv,[.v 1],none,some (.t 19,true)⟩,
 ⟨.t 21,.call 12,[.t 20,.c (.str [81,117,101,114,121])],none,some (.t 19,true)⟩,
 ⟨.t 22,.un .not,[.t 21],none,some (.t 19,true)⟩,
 op (.t 23) .pick [.t 19,.t 22,.c (.bool false)],
 op (.v 0) .mv [.t 23]]
def a8s5 : ACode := .reg [] a8r4
def a8s6 : ACode := .seq a8s5 .ret
def a8s7 : ACode := .seq a8s3 a8s6
def a8s8 : ACode := .seq a8s1 a8s7
def a8c : ACode :=
  a8s8
def a8 : AFn := { np := 0,nv := 3,results := [.v 0],code := a8c }
def a8v : List Nat := [0,1,3]
def a8b : List Nat := []

def a9r0 : List AOper := [
 op (.v 1) .mv [.c (.list true [])],
 op (.v 2) .mv [.c (.int .i64 0)],
 op (.v 3) .mv [.c (.int .i64 0)]]
def a9s1 : ACode := .reg [] a9r0
def a9r2 : List AOper := [
 op (.t 13) .mv [.v 0],
 op (.t 14) (.call 25) [.t 13],
 op (.t 12) .mv [.t 14],
 op (.t 15) (.ext 0) [.t 12],
 op (.t 16) (.ext 1) [.t 12],
 op (.t 17) (.ext 2) [.t 12],
 op (.v 4) .mv [.ts 15],
 op (.v 5) .mv [.t 16],
 op (.v 6) .mv [.t 17]]
def a9s3 : ACode := .reg [] a9r2
def a9r4 : List AOper := [
 op (.t 18) .mv [.v 6],
 op (.t 19) (.bin .neq) [.t 18,.c (.int .i64 0)]]
def a9r5 : List AOper := [
 op (.t 20) .mv [.v 5],
 op (.t 21) .mv [.v 6],
 op (.v 1) .mv [.c (.list true [])],
 op (.v 2) .mv [.t 20],
 op (.v 3) .mv [.t 21]]
def a9s6 : ACode := .reg [] a9r5
def a9s7 : ACode := .seq a9s6 .ret
def a9s8 : ACode := .test [] a9r4 (.t 19) a9s7 .skip
def a9r9 : List AOper := [
 op (.t 22) .mv [.v 4],
 op (.t 23) (.build [.list true [],.int .i64 0,.int .i64 0,.int .i64 0,.int .i64 0] [(0,1)]) [.t 22],
 op (.t 24) .boxO [.ts 23],
 op (.v 7) .mv [.t 24]]
def a9s10 : ACode := .reg [] a9r9
def a9r11 : List AOper := [
 op (.v 8) .mv [.c (.list true [])]]
def a9s12 : ACode := .reg [] a9r11
def a9r13 : List AOper := [
 op (.v 9) .mv [.c (.bool true)]]
def a9s14 : ACode := .reg [] a9r13
def a9r15 : List AOper := [
 op (.t 25) .mv [.v 9],
 op (.t 26) .mv [.t 25],
 ⟨.t 27,.mv,[.v 7],none,some (.t 26,false)⟩,
 ⟨.t 28,.nilchk,[.t 27],none,some (.t 26,false)⟩,
 ⟨.t 29,.fad 4,[.t 28],none,some (.t 26,false)⟩,
 ⟨.t 30,.ldSt false 1,[.t 29],none,some (.t 26,false)⟩,
 ⟨.t 31,.bin .eql,[.t 30,.c (.int .i64 0)],none,some (.t 26,false)⟩,
 ⟨.t 32,.mv,[.t 31],none,some (.t 26,false)⟩,
 ⟨.t 33,.mv,[.v 7],none,some (.t 32,true)⟩,
 ⟨.t 34,.call 26,[.t 33,.c (.int .u8 0)],none,some (.t 32,true)⟩,
 ⟨.t 35,.un .not,[.t 34],none,some (.t 32,true)⟩,
 ⟨.t 36,.pick,[.t 32,.t 35,.c (.bool false)],none,some (.t 26,false)⟩,
 op (.t 37) .pick [.t 26,.c (.bool true),.t 36]]
def a9s16 : ACode := .test [] a9r15 (.t 37) .skip (.exit 0)
def a9r17 : List AOper := [
 op (.t 38) .mv [.v 7],
 op (.t 39) (.call 27) [.t 38],
 ⟨.bx,.alloc [.int .u8 0,.str [],.list true [],.list true []],[],some 10,none⟩,
 ⟨.none,.stLc 10 4,[.l 10,.ts 39],some 10,none⟩]
def a9s18 : ACode := .reg [10] a9r17
def a9r19 : List AOper := [
 op (.t 40) .mv [.vs 8],
 ⟨.t 41,.ldLc 10 true 4,[.l 10],some 10,none⟩,
 op (.t 42) (.bslice 4 [[.int .u8 0,.str [],.list true [],.list true []]] [0]) [.t 41],
 op (.t 43) (.app 4 72) [.ts 40,.t 42],
 op (.v 8) .mv [.ts 43]]
def a9s20 : ACode := .reg [] a9r19
def a9s21 : ACode := .seq a9s18 a9s20
def a9s22 : ACode := .blk 1 a9s21
def a9r23 : List AOper := [
 op (.v 9) .mv [.c (.bool false)]]
def a9s24 : ACode := .reg [] a9r23
def a9s25 : ACode := .seq a9s22 a9s24
def a9s26 : ACode := .seq a9s16 a9s25
def a9s27 : ACode := .loop a9s26
def a9s28 : ACode := .blk 0 a9s27
def a9s29 : ACode := .seq a9s14 a9s28
def a9r30 : List AOper := [
 op (.t 44) .mv [.v 7],
 op (.t 45) .nilchk [.t 44],
 op (.t 46) (.fad 4) [.t 45],
 op (.t 47) (.ldSt false 1) [.t 46],
 op (.t 48) (.bin .neq) [.t 47,.c (.int .i64 0)]]
def a9r31 : List AOper := [
 op (.t 49) .mv [.v 7],
 op (.t 50) .nilchk [.t 49],
 op (.t 51) (.fad 3) [.t 50],
 op (.t 52) (.ldSt false 1) [.t 51],
 op (.t 53) .mv [.v 7],
 op (.t 54) .nilchk [.t 53],
 op (.t 55) (.fad 4) [.t 54],
 op (.t 56) (.ldSt false 1) [.t 55],
 op (.v 1) .mv [.c (.list true [])],
 op (.v 2) .mv [.t 52],
 op (.v 3) .mv [.t 56]]
def a9s32 : ACode := .reg [] a9r31
def a9s33 : ACode := .seq a9s32 .ret
def a9s34 : ACode := .test [] a9r30 (.t 48) a9s33 .skip
def a9r35 : List AOper := [
 op (.t 57) .mv [.v 8],
 op (.v 1) .mv [.ts 57],
 op (.v 2) .mv [.c (.int .i64 0)],
 op (.v 3) .mv [.c (.int .i64 0)]]
def a9s36 : ACode := .reg [] a9r35
def a9s37 : ACode := .seq a9s36 .ret
def a9s38 : ACode := .seq a9s34 a9s37
def a9s39 : ACode := .seq a9s29 a9s38
def a9s40 : ACode := .seq a9s12 a9s39
def a9s41 : ACode := .seq a9s10 a9s40
def a9s42 : ACode := .seq a9s8 a9s41
def a9s43 : ACode := .seq a9s3 a9s42
def a9s44 : ACode := .seq a9s1 a9s43
def a9c : ACode :=
  a9s44
def a9 : AFn := { np := 1,nv := 11,results := [.v 1,.v 2,.v 3],code := a9c }
def a9v : List Nat := [0,2,3,4,5,6,7,8,9,10,11]
def a9b : List Nat := [10]

def a10r0 : List AOper := [
 op (.v 1) .mv [.c (.nilp)],
 op (.v 2) .mv [.c (.str [])],
 op (.v 3) .mv [.c (.int .i64 0)]]
def a10s1 : ACode := .reg [] a10r0
def a10r2 : List AOper := [
 op (.t 18) .mv [.v 0],
 op (.t 19) (.call 28) [.t 18],
 op (.t 20) .mkM [],
 op (.t 21) (.build [.list true [],.nilm] [(0,1),(1,1)]) [.t 19,.t 20],
 op (.t 22) .boxO [.ts 21],
 op (.v 4) .mv [.t 22]]
def a10s3 : ACode := .reg [] a10r2
def a10r4 : List AOper := [
 op (.v 14) .mv [.v 0],
 op (.v 15) .lenL [.v 14],
 op (.v 16) .mv [.c (.int .i64 0)]]
def a10s5 : ACode := .reg [] a10r4
def a10r6 : List AOper := [
 op (.t 26) (.bin .lss) [.v 16,.v 15]]
def a10s7 : ACode := .test [] a10r6 (.t 26) .skip (.exit 0)
def a10r8 : List AOper := [
 op (.t 27) .mv [.v 16],
 op (.t 28) (.iad 4) [.v 14,.v 16],
 op (.t 29) (.ldRo true 4) [.t 28],
 ⟨.bx,.alloc [.int .u8 0,.str [],.list true [],.list true []],[],some 6,none⟩,
 op (.v 5) .mv [.t 27],
 ⟨.none,.stLc 6 4,[.l 6,.ts 29],some 6,none⟩]
def a10s9 : ACode := .reg [6] a10r8
def a10r10 : List AOper := [
 op (.t 31) .mv [.v 4],
 op (.t 32) .nilchk [.t 31],
 op (.t 33) (.fad 1) [.t 32],
 op (.t 34) (.ldSt false 1) [.t 33],
 op (.t 35) (.fad 1) [.l 6],
 ⟨.t 36,.ldLc 6 false 1,[.t 35],some 6,none⟩,
 op (.t 37) (.mget 1 [.int .i64 0] false true) [.t 34,.t 36],
 op (.t 30) .mv [.t 37],
 op (.t 38) (.ext 0) [.t 30],
 op (.t 39) (.ext 1) [.t 30],
 op (.t 8) .mv [.t 38],
 op (.v 7) .mv [.t 39]]
def a10s11 : ACode := .reg [] a10r10
def a10r12 : List AOper := [
 op (.t 40) .mv [.v 7],
 op (.t 41) .mv [.t 40],
 ⟨.t 42,.slA 4 1 false false,[.c (.ro [.str [66,111,111,108,101,97,110],.str [73,68],.str [73,110,116],.str [83,116,114,105,110,103]])],none,some (.t 41,false)⟩,
 ⟨.t 43,.fad 1,[.l 6],none,some (.t 41,false)⟩,
 ⟨.t 44,.ldLc 6 false 1,[.t 43],some 6,some (.t 41,false)⟩,
 ⟨.t 45,.call 29,[.t 42,.t 44],none,some (.t 41,false)⟩,
 op (.t 46) .pick [.t 41,.c (.bool true),.t 45]]
def a10r13 : List AOper := [
 op (.t 47) (.fad 1) [.l 6],
 ⟨.t 48,.ldLc 6 false 1,[.t 47],some 6,none⟩,
 op (.v 1) .mv [.c (.nilp)],
 op (.v 2) .mv [.t 48],
 op (.v 3) .mv [.c (.int .i64 7)]]
def a10s14 : ACode := .reg [] a10r13
def a10s15 : ACode := .seq a10s14 .ret
def a10s16 : ACode := .test [] a10r12 (.t 46) a10s15 .skip
def a10s17 : ACode := .seq a10s11 a10s16
def a10r18 : List AOper := [
 op (.t 49) (.fad 1) [.l 6],
 ⟨.t 50,.ldLc 6 false 1,[.t 49],some 6,none⟩,
 op (.t 51) (.call 30) [.t 50,.c (.str [95,95])]]
def a10r19 : List AOper := [
 op (.t 52) (.fad 1) [.l 6],
 ⟨.t 53,.ldLc 6 false 1,[.t 52],some 6,none⟩,
 op (.v 1) .mv [.c (.nilp)],
 op (.v 2) .mv [.t 53],
 op (.v 3) .mv [.c (.int .i64 1)]]
def a10s20 : ACode := .reg [] a10r19
def a10s21 : ACode := .seq a10s20 .ret
def a10s22 : ACode := .test [] a10r18 (.t 51) a10s21 .skip
def a10r23 : List AOper := [
 op (.t 54) .mv [.v 4],
 op (.t 55) .nilchk [.t 54],
 op (.t 56) (.fad 1) [.t 55],
 op (.t 57) (.ldSt false 1) [.t 56],
 op (.t 58) (.fad 1) [.l 6],
 ⟨.t 59,.ldLc 6 false 1,[.t 58],some 6,none⟩,
 op (.t 60) .mv [.v 5],
 op .none (.mset 1) [.t 57,.t 59,.t 60]]
def a10s24 : ACode := .reg [] a10r23
def a10s25 : ACode := .seq a10s22 a10s24
def a10s26 : ACode := .seq a10s17 a10s25
def a10s27 : ACode := .seq a10s9 a10s26
def a10s28 : ACode := .blk 1 a10s27
def a10r29 : List AOper := [
 op (.t 61) (.bin .add) [.v 16,.c (.int .i64 1)],
 op (.v 16) .mv [.t 61]]
def a10s30 : ACode := .reg [] a10r29
def a10s31 : ACode := .seq a10s28 a10s30
def a10s32 : ACode := .seq a10s7 a10s31
def a10s33 : ACode := .loop a10s32
def a10s34 : ACode := .blk 0 a10s33
def a10s35 : ACode := .seq a10s5 a10s34
def a10r36 : List AOper := [
 op (.v 17) .mv [.v 0],
 op (.v 18) .lenL [.v 17],
 op (.v 19) .mv [.c (.int .i64 0)]]
def a10s37 : ACode := .reg [] a10r36
def a10r38 : List AOper := [
 op (.t 65) (.bin .lss) [.v 19,.v 18]]
def a10s39 : ACode := .test [] a10r38 (.t 65) .skip (.exit 2)
def a10r40 : List AOper := [
 op (.t 66) (.iad 4) [.v 17,.v 19],
 op (.t 67) (.ldRo true 4) [.t 66],
 ⟨.bx,.alloc [.int .u8 0,.str [],.list true [],.list true []],[],some 8,none⟩,
 ⟨.none,.stLc 8 4,[.l 8,.ts 67],some 8,none⟩]
def a10s41 : ACode := .reg [8] a10r40
def a10r42 : List AOper := [
 op (.t 68) .mv [.v 4],
 ⟨.t 69,.ldLc 8 true 4,[.l 8],some 8,none⟩,
 op (.t 70) (.call 31) [.t 68,.t 69],
 ⟨.bx,.alloc [.int .i64 0,.str []],[],some 9,none⟩,
 ⟨.none,.stLc 9 2,[.l 9,.t 70],some 9,none⟩]
def a10s43 : ACode := .reg [9] a10r42
def a10r44 : List AOper := [
 op (.t 71) (.fad 0) [.l 9],
 ⟨.t 72,.ldLc 9 false 1,[.t 71],some 9,none⟩,
 op (.t 73) (.bin .neq) [.t 72,.c (.int .i64 0)]]
def a10r45 : List AOper := [
 op (.t 74) (.fad 1) [.l 9],
 ⟨.t 75,.ldLc 9 false 1,[.t 74],some 9,none⟩,
 op (.t 76) (.fad 0) [.l 9],
 ⟨.t 77,.ldLc 9 false 1,[.t 76],some 9,none⟩,
 op (.v 1) .mv [.c (.nilp)],
 op (.v 2) .mv [.t 75],
 op (.v 3) .mv [.t 77]]
def a10s46 : ACode := .reg [] a10r45
def a10s47 : ACode := .seq a10s46 .ret
def a10s48 : ACode := .test [] a10r44 (.t 73) a10s47 .skip
def a10s49 : ACode := .seq a10s43 a10s48
def a10s50 : ACode := .seq a10s41 a10s49
def a10s51 : ACode := .blk 3 a10s50
def a10r52 : List AOper := [
 op (.t 78) (.bin .add) [.v 19,.c (.int .i64 1)],
 op (.v 19) .mv [.t 78]]
def a10s53 : ACode := .reg [] a10r52
def a10s54 : ACode := .seq a10s51 a10s53
def a10s55 : ACode := .seq a10s39 a10s54
def a10s56 : ACode := .loop a10s55
def a10s57 : ACode := .blk 2 a10s56
def a10s58 : ACode := .seq a10s37 a10s57
def a10r59 : List AOper := [
 op (.t 80) .mv [.v 4],
 op (.t 81) (.call 15) [.t 80,.c (.str [81,117,101,114,121])],
 op (.t 79) .mv [.t 81],
 op (.t 82) (.ext 0) [.t 79],
 op (.t 83) (.ext 1) [.t 79],
 ⟨.bx,.alloc [.int .u8 0,.str [],.list true [],.list true []],[],some 10,none⟩,
 ⟨.none,.stLc 10 4,[.l 10,.ts 82],some 10,none⟩,
 op (.v 11) .mv [.t 83]]
def a10s60 : ACode := .reg [10] a10r59
def a10r61 : List AOper := [
 op (.t 84) .mv [.v 11],
 op (.t 85) (.un .not) [.t 84],
 op (.t 86) .mv [.t 85],
 ⟨.t 87,.fad 0,[.l 10],none,some (.t 86,false)⟩,
 ⟨.t 88,.ldLc 10 false 1,[.t 87],some 10,some (.t 86,false)⟩,
 ⟨.t 89,.bin .neq,[.t 88,.c (.int .u8 1)],none,some (.t 86,false)⟩,
 op (.t 90) .pick [.t 86,.c (.bool true),.t 89]]
def a10r62 : List AOper := [
 op (.v 1) .mv [.c (.nilp)],
 op (.v 2) .mv [.c (.str [81,117,101,114,121])],
 op (.v 3) .mv [.c (.int .i64 6)]]
def a10s63 : ACode := .reg [] a10r62
def a10s64 : ACode := .seq a10s63 .ret
def a10s65 : ACode := .test [] a10r61 (.t 90) a10s64 .skip
def a10s66 : ACode := .seq a10s60 a10s65
def a10r67 : List AOper := [
 op (.v 20) .mv [.v 0],
 op (.v 21) .lenL [.v 20],
 op (.v 22) .mv [.c (.int .i64 0)]]
def a10s68 : ACode := .reg [] a10r67
def a10r69 : List AOper := [
 op (.t 94) (.bin .lss) [.v 22,.v 21]]
def a10s70 : ACode := .test [] a10r69 (.t 94) .skip (.exit 4)
def a10r71 : List AOper := [
 op (.t 95) (.iad 4) [.v 20,.v 22],
 op (.t 96) (.ldRo true 4) [.t 95],
 ⟨.bx,.alloc [.int .u8 0,.str [],.list true [],.list true []],[],some 12,none⟩,
 ⟨.none,.stLc 12 4,[.l 12,.ts 96],some 12,none⟩]
def a10s72 : ACode := .reg [12] a10r71
def a10r73 : List AOper := [
 op (.t 97) .mv [.v 4],
 ⟨.t 98,.ldLc 12 true 4,[.l 12],some 12,none⟩,
 op (.t 99) (.call 32) [.t 97,.t 98],
 ⟨.bx,.alloc [.int .i64 0,.str []],[],some 13,none⟩,
 ⟨.none,.stLc 13 2,[.l 13,.t 99],some 13,none⟩]
def a10s74 : ACode := .reg [13] a10r73
def a10r75 : List AOper := [
 op (.t 100) (.fad 0) [.l 13],
 ⟨.t 101,.ldLc 13 false 1,[.t 100],some 13,none⟩,
 op (.t 102) (.bin .neq) [.t 101,.c (.int .i64 0)]]
def a10r76 : List AOper := [
 op (.t 103) (.fad 1) [.l 13],
 ⟨.t 104,.ldLc 13 false 1,[.t 103],some 13,none⟩,
 op (.t 105) (.fad 0) [.l 13],
 ⟨.t 106,.ldLc 13 false 1,[.t 105],some 13,none⟩,
 op (.v 1) .mv [.c (.nilp)],
 op (.v 2) .mv [.t 104],
 op (.v 3) .mv [.t 106]]
def a10s77 : ACode := .reg [] a10r76
def a10s78 : ACode := .seq a10s77 .ret
def a10s79 : ACode := .test [] a10r75 (.t 102) a10s78 .skip
def a10s80 : ACode := .seq a10s74 a10s79
def a10s81 : ACode := .seq a10s72 a10s80
def a10s82 : ACode := .blk 5 a10s81
def a10r83 : List AOper := [
 op (.t 107) (.bin .add) [.v 22,.c (.int .i64 1)],
 op (.v 22) .mv [.t 107]]
def a10s84 : ACode := .reg [] a10r83
def a10s85 : ACode := .seq a10s82 a10s84
def a10s86 : ACode := .seq a10s70 a10s85
def a10s87 : ACode := .loop a10s86
def a10s88 : ACode := .blk 4 a10s87
def a10s89 : ACode := .seq a10s68 a10s88
def a10r90 : List AOper := [
 op (.t 108) .mv [.v 4],
 op (.v 1) .mv [.t 108],
 op (.v 2) .mv [.c (.str [])],
 op (.v 3) .mv [.c (.int .i64 0)]]
def a10s91 : ACode := .reg [] a10r90
def a10s92 : ACode := .seq a10s91 .ret
def a10s93 : ACode := .seq a10s89 a10s92
def a10s94 : ACode := .seq a10s66 a10s93
def a10s95 : ACode := .seq a10s58 a10s94
def a10s96 : ACode := .seq a10s35 a10s95
def a10s97 : ACode := .seq a10s3 a10s96
def a10s98 : ACode := .seq a10s1 a10s97
def a10c : ACode :=
  a10s98
def a10 : AFn := { np := 1,nv := 23,results := [.v 1,.v 2,.v 3],code := a10c }
def a10v : List Nat := [0,2,3,4,5,6,7,9,11,12,13,14,16,17,23,24,25,62,63,64,91,92,93]
def a10b : List Nat := [6,8,9,10,12,13]

def a11r0 : List AOper := [
 op (.v 2) .mv [.c (.list true [])]]
def a11s1 : ACode := .reg [] a11r0
def a11r2 : List AOper := [
 op (.t 11) .mv [.v 0],
 op (.t 12) .mv [.v 1],
 op (.t 13) (.call 15) [.t 11,.t 12],
 op (.t 10) .mv [.t 13],
 op (.t 14) (.ext 0) [.t 10],
 op (.t 15) (.ext 1) [.t 10],
 ⟨.bx,.alloc [.int .u8 0,.str [],.list true [],.list true []],[],some 3,none⟩,
 ⟨.none,.stLc 3 4,[.l 3,.ts 14],some 3,none⟩,
 op (.v 4) .mv [.t 15]]
def a11s3 : ACode := .reg [3] a11r2
def a11r4 : List AOper := [
 op (.t 17) .mv [.v 4],
 op (.t 18) (.un .not) [.t 17],
 op (.t 16) .mv [.t 18]]
def a11r5 : List AOper := [
 op (.v 2) .mv [.c (.list true [])]]
def a11s6 : ACode := .reg [] a11r5
def a11s7 : ACode := .seq a11s6 .ret
def a11r8 : List AOper := [
 op (.t 20) (.fad 0) [.l 3],
 ⟨.t 21,.ldLc 3 false 1,[.t 20],some 3,none⟩,
 op (.t 22) (.bin .eql) [.t 21,.c (.int .u8 1)],
 op (.t 19) .mv [.t 22]]
def a11r9 : List AOper := [
 op (.t 23) .mv [.v 1],
 op (.t 24) (.bslice 1 [[.str []]] [0]) [.t 23],
 op (.v 2) .mv [.ts 24]]
def a11s10 : ACode := .reg [] a11r9
def a11s11 : ACode := .seq a11s10 .ret
def a11r12 : List AOper := [
 op (.t 26) (.fad 0) [.l 3],
 ⟨.t 27,.ldLc 3 false 1,[.t 26],some 3,none⟩,
 op (.t 28) (.bin .eql) [.t 27,.c (.int .u8 3)],
 op (.t 25) .mv [.t 28]]
def a11r13 : List AOper := [
 op (.t 29) (.fad 3) [.l 3],
 ⟨.t 30,.ldLc 3 false 1,[.t 29],some 3,none⟩,
 op (.t 31) (.call 33) [.t 30],
 op (.v 2) .mv [.ts 31]]
def a11s14 : ACode := .reg [] a11r13
def a11s15 : ACode := .seq a11s14 .ret
def a11r16 : List AOper := [
 op (.t 33) (.fad 0) [.l 3],
 ⟨.t 34,.ldLc 3 false 1,[.t 33],some 3,none⟩,
 op (.t 35) (.bin .neq) [.t 34,.c (.int .u8 2)],
 op (.t 32) .mv [.t 35]]
def a11r17 : List AOper := [
 op (.v 2) .mv [.c (.list true [])]]
def a11s18 : ACode := .reg [] a11r17
def a11s19 : ACode := .seq a11s18 .ret
def a11s20 : ACode := .test [] a11r16 (.t 32) a11s19 .skip
def a11s21 : ACode := .test [] a11r12 (.t 25) a11s15 a11s20
def a11s22 : ACode := .test [] a11r8 (.t 19) a11s11 a11s21
def a11s23 : ACode := .test [] a11r4 (.t 16) a11s7 a11s22
def a11s24 : ACode := .blk 0 a11s23
def a11r25 : List AOper := [
 op (.v 5) .mv [.c (.list true [])]]
def a11s26 : ACode := .reg [] a11r25
def a11r27 : List AOper := [
 op (.t 36) .mv [.v 0],
 op (.t 37) .nilchk [.t 36],
 op (.t 38) (.fad 0) [.t 37],
 op (.v 7) (.ldSt false 1) [.t 38],
 op (.v 8) .lenL [.v 7],
 op (.v 9) .mv [.c (.int .i64 0)]]
def a11s28 : ACode := .reg [] a11r27
def a11r29 : List AOper := [
 op (.t 42) (.bin .lss) [.v 9,.v 8]]
def a11s30 : ACode := .test [] a11r29 (.t 42) .skip (.exit 1)
def a11r31 : List AOper := [
 op (.t 43) (.iad 4) [.v 7,.v 9],
 op (.t 44) (.ldRo true 4) [.t 43],
 ⟨.bx,.alloc [.int .u8 0,.str [],.list true [],.list true []],[],some 6,none⟩,
 ⟨.none,.stLc 6 4,[.l 6,.ts 44],some 6,none⟩]
def a11s32 : ACode := .reg [6] a11r31
def a11r33 : List AOper := [
 op (.t 45) (.fad 0) [.l 6],
 ⟨.t 46,.ldLc 6 false 1,[.t 45],some 6,none⟩,
 op (.t 47) (.bin .eql) [.t 46,.c (.int .u8 1)],
 op (.t 48) .mv [.t 47],
 ⟨.t 49,.fad 3,[.l 6],none,some (.t 48,true)⟩,
 ⟨.t 50,.ldLc 6 false 1,[.t 49],some 6,some (.t 48,true)⟩,
 ⟨.t 51,.mv,[.v 1],none,some (.t 48,true)⟩,
 ⟨.t 52,.call 29,[.t 50,.t 51],none,some (.t 48,true)⟩,
 op (.t 53) .pick [.t 48,.t 52,.c (.bool false)]]
def a11r34 : List AOper := [
 op (.t 54) .mv [.vs 5],
 op (.t 55) (.fad 1) [.l 6],
 ⟨.t 56,.ldLc 6 false 1,[.t 55],some 6,none⟩,
 op (.t 57) (.bslice 1 [[.str []]] [0]) [.t 56],
 op (.t 58) (.app 1 16) [.ts 54,.t 57],
 op (.v 5) .mv [.ts 58]]
def a11s35 : ACode := .reg [] a11r34
def a11s36 : ACode := .test [] a11r33 (.t 53) a11s35 .skip
def a11s37 : ACode := .seq a11s32 a11s36
def a11s38 : ACode := .blk 2 a11s37
def a11r39 : List AOper := [
 op (.t 59) (.bin .add) [.v 9,.c (.int .i64 1)],
 op (.v 9) .mv [.t 59]]
def a11s40 : ACode := .reg [] a11r39
def a11s41 : ACode := .seq a11s38 a11s40
def a11s42 : ACode := .seq a11s30 a11s41
def a11s43 : ACode := .loop a11s42
def a11s44 : ACode := .blk 1 a11s43
def a11s45 : ACode := .seq a11s28 a11s44
def a11r46 : List AOper := [
 op (.t 60) .mv [.v 5],
 op (.v 2) .mv [.ts 60]]
def a11s47 : ACode := .reg [] a11r46
def a11s48 : ACode := .seq a11s47 .ret
def a11s49 : ACode := .seq a11s45 a11s48
def a11s50 : ACode := .seq a11s26 a11s49
def a11s51 : ACode := .seq a11s24 a11s50
def a11s52 : ACode := .seq a11s3 a11s51
def a11s53 : ACode := .seq a11s1 a11s52
def a11c : ACode :=
  a11s53
def a11 : AFn := { np := 2,nv := 10,results := [.v 2],code := a11c }
def a11v : List Nat := [0,1,4,5,6,7,9,39,40,41]
def a11b : List Nat := [3,6]

def a12r0 : List AOper := [
 op (.v 2) .mv [.c (.bool false)]]
def a12s1 : ACode := .reg [] a12r0
def a12r2 : List AOper := [
 op (.t 5) .mv [.v 1],
 op (.t 6) (.call 34) [.t 5],
 op (.t 7) (.un .not) [.t 6],
 op (.t 8) .mv [.t 7],
 ⟨.t 9,.mv,[.v 0],none,some (.t 8,true)⟩,
 ⟨.t 10,.mv,[.v 1],none,some (.t 8,true)⟩,
 ⟨.t 11,.call 35,[.t 9,.t 10,.c (.int .u8 1)],none,some (.t 8,true)⟩,
 ⟨.t 12,.mv,[.t 11],none,some (.t 8,true)⟩,
 ⟨.t 13,.mv,[.v 0],none,some (.t 12,false)⟩,
 ⟨.t 14,.mv,[.v 1],none,some (.t 12,false)⟩,
 ⟨.t 15,.call 35,[.t 13,.t 14,.c (.int .u8 2)],none,some (.t 12,false)⟩,
 ⟨.t 16,.pick,[.t 12,.c (.bool true),.t 15],none,some (.t 8,true)⟩,
 ⟨.t 17,.mv,[.t 16],none,some (.t 8,true)⟩,
 ⟨.t 18,.mv,[.v 0],none,some (.t 17,false)⟩,
 ⟨.t 19,.mv,[.v 1],none,some (.t 17,false)⟩,
 ⟨.t 20,.call 35,[.t 18,.t 19,.c (.int .u8 3)],none,some (.t 17,false)⟩,
 ⟨.t 21,.pick,[.t 17,.c (.bool true),.t 20],none,some (.t 8,true)⟩,
 op (.t 22) .pick [.t 8,.t 21,.c (.bool false)],
 op (.v 2) .mv [.t 22]]
def a12s3 : ACode := .reg [] a12r2
def a12s4 : ACode := .seq a12s3 .ret
def a12s5 : ACode := .seq a12s1 a12s4
def a12c : ACode :=
  a12s5
def a12 : AFn := { np := 2,nv := 3,results := [.v 2],code := a12c }
def a12v : List Nat := [0,1,4]
def a12b : List Nat := []

def a14r0 : List AOper := [
 op (.v 1) .mv [.c (.nilp)],
 op (.v 2) .mv [.c (.str [])],
 op (.v 3) .mv [.c (.int .i64 0)]]
def a14s1 : ACode := .reg [] a14r0
def a14r2 : List AOper := [
 op (.t 9) .mv [.v 0],
 op (.t 10) (.call 9) [.t 9],
 op (.t 8) .mv [.t 10],
 op (.t 11) (.ext 0) [.t 8],
 op (.t 12) (.ext 1) [.t 8],
 op (.t 13) (.ext 2) [.t 8],
 op (.v 4) .mv [.ts 11],
 op (.t 6) .mv [.t 12],
 op (.v 5) .mv [.t 13]]
def a14s3 : ACode := .reg [] a14r2
def a14r4 : List AOper := [
 op (.t 14) .mv [.v 5],
 op (.t 15) (.bin .neq) [.t 14,.c (.int .i64 0)]]
def a14r5 : List AOper := [
 op (.v 1) .mv [.c (.nilp)],
 op (.v 2) .mv [.c (.str [])],
 op (.v 3) .mv [.c (.int .i64 4)]]
def a14s6 : ACode := .reg [] a14r5
def a14s7 : ACode := .seq a14s6 .ret
def a14s8 : ACode := .test [] a14r4 (.t 15) a14s7 .skip
def a14r9 : List AOper := [
 op (.t 16) .mv [.v 4],
 op (.t 17) (.call 10) [.t 16],
 op (.t 18) (.ext 0) [.t 17],
 op (.t 19) (.ext 1) [.t 17],
 op (.t 20) (.ext 2) [.t 17],
 op (.v 1) .mv [.t 18],
 op (.v 2) .mv [.t 19],
 op (.v 3) .mv [.t 20]]
def a14s10 : ACode := .reg [] a14r9
def a14s11 : ACode := .seq a14s10 .ret
def a14s12 : ACode := .seq a14s8 a14s11
def a14s13 : ACode := .seq a14s3 a14s12
def a14s14 : ACode := .seq a14s1 a14s13
def a14c : ACode :=
  a14s14
def a14 : AFn := { np := 1,nv := 6,results := [.v 1,.v 2,.v 3],code := a14c }
def a14v : List Nat := [0,2,3,4,5,7]
def a14b : List Nat := []

def a15r0 : List AOper := [
 ⟨.bx,.alloc [.int .u8 0,.str [],.list true [],.list true []],[],some 2,none⟩,
 op (.v 3) .mv [.c (.bool false)]]
def a15s1 : ACode := .reg [2] a15r0
def a15r2 : List AOper := [
 op (.t 8) .mv [.v 0],
 op (.t 9) (.binP .eql) [.t 8,.c (.nilp)]]
def a15r3 : List AOper := [
 op (.t 10) (.build [.int .u8 0,.str [],.list true [],.list true []] []) [],
 ⟨.none,.stLc 2 4,[.l 2,.ts 10],some 2,none⟩,
 op (.v 3) .mv [.c (.bool false)]]
def a15s4 : ACode := .reg [] a15r3
def a15s5 : ACode := .seq a15s4 .ret
def a15s6 : ACode := .test [] a15r2 (.t 9) a15s5 .skip
def a15r7 : List AOper := [
 op (.t 12) .mv [.v 0],
 op (.t 13) .nilchk [.t 12],
 op (.t 14) (.fad 1) [.t 13],
 op (.t 15) (.ldSt false 1) [.t 14],
 op (.t 16) .mv [.v 1],
 op (.t 17) (.mget 1 [.int .i64 0] false true) [.t 15,.t 16],
 op (.t 11) .mv [.t 17],
 op (.t 18) (.ext 0) [.t 11],
 op (.t 19) (.ext 1) [.t 11],
 op (.v 4) .mv [.t 18],
 op (.v 5) .mv [.t 19]]
def a15s8 : ACode := .reg [] a15r7
def a15r9 : List AOper := [
 op (.t 20) .mv [.v 5],
 op (.t 21) (.un .not) [.t 20]]
def a15r10 : List AOper := [
 op (.t 22) (.build [.int .u8 0,.str [],.list true [],.list true []] []) [],
 ⟨.none,.stLc 2 4,[.l 2,.ts 22],some 2,none⟩,
 op (.v 3) .mv [.c (.bool false)]]
def a15s11 : ACode := .reg [] a15r10
def a15s12 : ACode := .seq a15s11 .ret
def a15s13 : ACode := .test [] a15r9 (.t 21) a15s12 .skip
def a15r14 : List AOper := [
 op (.t 23) .mv [.v 0],
 op (.t 24) .nilchk [.t 23],
 op (.t 25) (.fad 0) [.t 24],
 op (.t 26) (.ldSt false 1) [.t 25],
 op (.t 27) .mv [.v 4],
 op (.t 28) (.iad 4) [.t 26,.t 27],
 op (.t 29) (.ldRo true 4) [.t 28],
 ⟨.none,.stLc 2 4,[.l 2,.ts 29],some 2,none⟩,
 op (.v 3) .mv [.c (.bool true)]]
def a15s15 : ACode := .reg [] a15r14
def a15s16 : ACode := .seq a15s15 .ret
def a15s17 : ACode := .seq a15s13 a15s16
def a15s18 : ACode := .seq a15s8 a15s17
def a15s19 : ACode := .seq a15s6 a15s18
def a15s20 : ACode := .seq a15s1 a15s19
def a15c : ACode :=
  a15s20
def a15 : AFn := { np := 2,nv := 6,results := [.bx 2 true 4,.v 3],code := a15c }
def a15v : List Nat := [0,1,4,5,6,7]
def a15b : List Nat := [2]

def a16r0 : List AOper := [
 op (.v 1) .mv [.c (.list true [])]]
def a16s1 : ACode := .reg [] a16r0
def a16r2 : List AOper := [
 op (.t 3) .mv [.v 0],
 op (.t 4) (.binP .eql) [.t 3,.c (.nilp)]]
def a16r3 : List AOper := [
 op (.v 1) .mv [.c (.list true [])]]
def a16s4 : ACode := .reg [] a16r3
def a16s5 : ACode := .seq a16s4 .ret
def a16s6 : ACode := .test [] a16r2 (.t 4) a16s5 .skip
def a16r7 : List AOper := [
 op (.t 5) .mv [.v 0],
 op (.t 6) .nilchk [.t 5],
 op (.t 7) (.fad 0) [.t 6],
 op (.t 8) (.ldSt false 1) [.t 7],
 op (.t 9) (.call 28) [.t 8],
 op (.v 1) .mv [.ts 9]]
def a16s8 : ACode := .reg [] a16r7
def a16s9 : ACode := .seq a16s8 .ret
def a16s10 : ACode := .seq a16s6 a16s9
def a16s11 : ACode := .seq a16s1 a16s10
def a16c : ACode :=
  a16s11
def a16 : AFn := { np := 1,nv := 2,results := [.v 1],code := a16c }
def a16v : List Nat := [0,2]
def a16b : List Nat := []

def a18r0 : List AOper := [
 ⟨.bx,.boxV,[.v 0],some 2,none⟩,
 ⟨.bx,.boxV,[.v 1],some 3,none⟩,
 op (.v 4) .mv [.c (.bool false)]]
def a18s1 : ACode := .reg [2,3] a18r0
def a18r2 : List AOper := [
 op (.t 5) (.fad 0) [.l 2],
 ⟨.t 6,.ldLc 2 false 1,[.t 5],some 2,none⟩,
 op (.t 7) (.fad 0) [.l 3],
 ⟨.t 8,.ldLc 3 false 1,[.t 7],some 3,none⟩,
 op (.t 9) (.bin .eql) [.t 6,.t 8],
 op (.t 10) .mv [.t 9],
 ⟨.t 11,.fad 2,[.l 2],none,some (.t 10,true)⟩,
 ⟨.t 12,.ldLc 2 false 1,[.t 11],some 2,some (.t 10,true)⟩,
 ⟨.t 13,.fad 2,[.l 3],none,some (.t 10,true)⟩,
 ⟨.t 14,.ldLc 3 false 1,[.t 13],some 3,some (.t 10,true)⟩,
 ⟨.t 15,.binB .eql,[.t 12,.t 14],none,some (.t 10,true)⟩,
 op (.t 16) .pick [.t 10,.t 15,.c (.bool false)],
 op (.t 17) .mv [.t 16],
 ⟨.t 18,.fad 1,[.l 2],none,some (.t 17,true)⟩,
 ⟨.t 19,.ldLc 2 false 1,[.t 18],some 2,some (.t 17,true)⟩,
 ⟨.t 20,.fad 1,[.l 3],none,some (.t 17,true)⟩,
 ⟨.t 21,.ldLc 3 false 1,[.t 20],some 3,some (.t 17,true)⟩,
 ⟨.t 22,.call 38,[.t 19,.t 21,.c (.func 18 [] [])],none,some (.t 17,true)⟩,
 op (.t 23) .pick [.t 17,.t 22,.c (.bool false)],
 op (.v 4) .mv [.t 23]]
def a18s3 : ACode := .reg [] a18r2
def a18s4 : ACode := .seq a18s3 .ret
def a18s5 : ACode := .seq a18s1 a18s4
def a18c : ACode :=
  a18s5
def a18 : AFn := { np := 2,nv := 5,results := [.v 4],code := a18c }
def a18v : List Nat := [0,1,2,3,4]
def a18b : List Nat := [2,3]

def a21r0 : List AOper := [
 op (.v 2) .mv [.c (.bool false)]]
def a21s1 : ACode := .reg [] a21r0
def a21r2 : List AOper := [
 op (.t 5) .mv [.v 0],
 op (.t 6) (.binP .neq) [.t 5,.c (.nilp)],
 op (.t 7) .mv [.t 6],
 ⟨.t 8,.slA 4 1 false false,[.c (.ro [.str [66,111,111,108,101,97,110],.str [73,68],.str [73,110,116],.str [83,116,114,105,110,103]])],none,some (.t 7,true)⟩,
 ⟨.t 9,.mv,[.v 1],none,some (.t 7,true)⟩,
 ⟨.t 10,.call 29,[.t 8,.t 9],none,some (.t 7,true)⟩,
 op (.t 11) .pick [.t 7,.t 10,.c (.bool false)],
 op (.v 2) .mv [.t 11]]
def a21s3 : ACode := .reg [] a21r2
def a21s4 : ACode := .seq a21s3 .ret
def a21s5 : ACode := .seq a21s1 a21s4
def a21c : ACode :=
  a21s5
def a21 : AFn := { np := 2,nv := 3,results := [.v 2],code := a21c }
def a21v : List Nat := [0,1,4]
def a21b : List Nat := []

def a22r0 : List AOper := [
 op (.v 2) .mv [.c (.bool false)]]
def a22s1 : ACode := .reg [] a22r0
def a22r2 : List AOper := [
 op (.t 5) .mv [.v 0],
 op (.t 6) .mv [.v 1],
 op (.t 7) (.call 35) [.t 5,.t 6,.c (.int .u8 4)],
 op (.v 2) .mv [.t 7]]
def a22s3 : ACode := .reg [] a22r2
def a22s4 : ACode := .seq a22s3 .ret
def a22s5 : ACode := .seq a22s1 a22s4
def a22c : ACode :=
  a22s5
def a22 : AFn := { np := 2,nv := 3,results := [.v 2],code := a22c }
def a22v : List Nat := [0,1,4]
def a22b : List Nat := []

def a23r0 : List AOper := [
 op (.v 2) .mv [.c (.bool false)]]
def a23s1 : ACode := .reg [] a23r0
def a23r2 : List AOper := [
 op (.t 5) .mv [.v 0],
 op (.t 6) .mv [.v 1],
 op (.t 7) (.call 35) [.t 5,.t 6,.c (.int .u8 5)],
 op (.v 2) .mv [.t 7]]
def a23s3 : ACode := .reg [] a23r2
def a23s4 : ACode := .seq a23s3 .ret
def a23s5 : ACode := .seq a23s1 a23s4
def a23c : ACode :=
  a23s5
def a23 : AFn := { np := 2,nv := 3,results := [.v 2],code := a23c }
def a23v : List Nat := [0,1,4]
def a23b : List Nat := []

def a25r0 : List AOper := [
 op (.v 1) .mv [.c (.list true [])],
 op (.v 2) .mv [.c (.int .i64 0)],
 op (.v 3) .mv [.c (.int .i64 0)]]
def a25s1 : ACode := .reg [] a25r0
def a25r2 : List AOper := [
 op (.t 12) .mv [.v 0],
 op (.t 13) .lenS [.t 12],
 op (.t 14) (.bin .gtr) [.t 13,.c (.int .i64 2000)]]
def a25r3 : List AOper := [
 op (.v 1) .mv [.c (.list true [])],
 op (.v 2) .mv [.c (.int .i64 0)],
 op (.v 3) .mv [.c (.int .i64 2)]]
def a25s4 : ACode := .reg [] a25r3
def a25s5 : ACode := .seq a25s4 .ret
def a25s6 : ACode := .test [] a25r2 (.t 14) a25s5 .skip
def a25r7 : List AOper := [
 op (.v 4) .mv [.c (.list true [])]]
def a25s8 : ACode := .reg [] a25r7
def a25r9 : List AOper := [
 op (.v 5) .mv [.c (.int .i64 0)]]
def a25s10 : ACode := .reg [] a25r9
def a25r11 : List AOper := [
 op (.t 15) .mv [.v 5],
 op (.t 16) .mv [.v 0],
 op (.t 17) .lenS [.t 16],
 op (.t 18) (.bin .lss) [.t 15,.t 17]]
def a25s12 : ACode := .test [] a25r11 (.t 18) .skip (.exit 0)
def a25r13 : List AOper := [
 op (.t 19) .mv [.v 0],
 op (.t 20) .mv [.v 5],
 op (.t 21) .idxS [.t 19,.t 20],
 op (.v 6) .mv [.t 21]]
def a25s14 : ACode := .reg [] a25r13
def a25r15 : List AOper := [
 op (.t 23) .mv [.v 6],
 op (.t 24) (.bin .eql) [.t 23,.c (.int .u8 32)],
 op (.t 25) .mv [.t 24],
 ⟨.t 26,.mv,[.v 6],none,some (.t 25,false)⟩,
 ⟨.t 27,.bin .eql,[.t 26,.c (.int .u8 10)],none,some (.t 25,false)⟩,
 op (.t 28) .pick [.t 25,.c (.bool true),.t 27],
 op (.t 29) .mv [.t 28],
 ⟨.t 30,.mv,[.v 6],none,some (.t 29,false)⟩,
 ⟨.t 31,.bin .eql,[.t 30,.c (.int .u8 9)],none,some (.t 29,false)⟩,
 op (.t 32) .pick [.t 29,.c (.bool true),.t 31],
 op (.t 33) .mv [.t 32],
 ⟨.t 34,.mv,[.v 6],none,some (.t 33,false)⟩,
 ⟨.t 35,.bin .eql,[.t 34,.c (.int .u8 13)],none,some (.t 33,false)⟩,
 op (.t 36) .pick [.t 33,.c (.bool true),.t 35],
 op (.t 37) .mv [.t 36],
 ⟨.t 38,.mv,[.v 6],none,some (.t 37,false)⟩,
 ⟨.t 39,.bin .eql,[.t 38,.c (.int .u8 44)],none,some (.t 37,false)⟩,
 op (.t 40) .pick [.t 37,.c (.bool true),.t 39],
 op (.t 22) .mv [.t 40]]
def a25r16 : List AOper := [
 op (.t 41) .mv [.v 5],
 op (.t 42) (.bin .add) [.t 41,.c (.int .i64 1)],
 op (.v 5) .mv [.t 42]]
def a25s17 : ACode := .reg [] a25r16
def a25s18 : ACode := .seq a25s17 (.exit 1)
def a25r19 : List AOper := [
 op (.t 44) .mv [.v 6],
 op (.t 45) (.bin .eql) [.t 44,.c (.int .u8 35)],
 op (.t 43) .mv [.t 45]]
def a25r20 : List AOper := [
 op (.t 46) .mv [.v 5],
 op (.t 47) .mv [.v 0],
 op (.t 48) .lenS [.t 47],
 op (.t 49) (.bin .lss) [.t 46,.t 48],
 op (.t 50) .mv [.t 49],
 ⟨.t 51,.mv,[.v 0],none,some (.t 50,true)⟩,
 ⟨.t 52,.mv,[.v 5],none,some (.t 50,true)⟩,
 ⟨.t 53,.idxS,[.t 51,.t 52],none,some (.t 50,true)⟩,
 ⟨.t 54,.bin .neq,[.t 53,.c (.int .u8 10)],none,some (.t 50,true)⟩,
 op (.t 55) .pick [.t 50,.t 54,.c (.bool false)]]
def a25s21 : ACode := .test [] a25r20 (.t 55) .skip (.exit 3)
def a25r22 : List AOper := [
 op (.t 56) .mv [.v 5],
 op (.t 57) (.bin .add) [.t 56,.c (.int .i64 1)],
 op (.v 5) .mv [.t 57]]
def a25s23 : ACode := .reg [] a25r22
def a25s24 : ACode := .blk 4 a25s23
def a25s25 : ACode := .seq a25s21 a25s24
def a25s26 : ACode := .loop a25s25
def a25s27 : ACode := .blk 3 a25s26
def a25s28 : ACode := .seq a25s27 (.exit 1)
def a25s29 : ACode := .test [] a25r19 (.t 43) a25s28 .skip
def a25s30 : ACode := .test [] a25r15 (.t 22) a25s18 a25s29
def a25s31 : ACode := .blk 2 a25s30
def a25r32 : List AOper := [
 op (.t 59) .mv [.v 0],
 op (.t 60) .mv [.v 5],
 op (.t 61) (.call 40) [.t 59,.t 60],
 op (.t 58) .mv [.t 61],
 op (.t 62) (.ext 0) [.t 58],
 op (.t 63) (.ext 1) [.t 58],
 op (.t 64) (.ext 2) [.t 58],
 op (.t 65) (.ext 3) [.t 58],
 ⟨.bx,.alloc [.int .u8 0,.str [],.int .i64 0,.int .i64 0],[],some 7,none⟩,
 ⟨.none,.stLc 7 4,[.l 7,.t 62],some 7,none⟩,
 op (.v 8) .mv [.t 63],
 op (.v 9) .mv [.t 64],
 op (.v 10) .mv [.t 65]]
def a25s33 : ACode := .reg [7] a25r32
def a25r34 : List AOper := [
 op (.t 66) .mv [.v 10],
 op (.t 67) (.bin .neq) [.t 66,.c (.int .i64 0)]]
def a25r35 : List AOper := [
 op (.t 68) .mv [.v 9],
 op (.t 69) .mv [.v 10],
 op (.v 1) .mv [.c (.list true [])],
 op (.v 2) .mv [.t 68],
 op (.v 3) .mv [.t 69]]
def a25s36 : ACode := .reg [] a25r35
def a25s37 : ACode := .seq a25s36 .ret
def a25s38 : ACode := .test [] a25r34 (.t 67) a25s37 .skip
def a25r39 : List AOper := [
 op (.t 70) .mv [.v 5],
 op (.t 71) (.fad 3) [.l 7],
 ⟨.none,.stLc 7 1,[.t 71,.t 70],some 7,none⟩]
def a25s40 : ACode := .reg [] a25r39
def a25r41 : List AOper := [
 op (.t 72) .mv [.vs 4],
 ⟨.t 73,.ldLc 7 true 4,[.l 7],some 7,none⟩,
 op (.t 74) (.bslice 4 [[.int .u8 0,.str [],.int .i64 0,.int .i64 0]] [0]) [.t 73],
 op (.t 75) (.app 4 40) [.ts 72,.t 74],
 op (.v 4) .mv [.ts 75]]
def a25s42 : ACode := .reg [] a25r41
def a25r43 : List AOper := [
 op (.t 76) .mv [.v 8],
 op (.v 5) .mv [.t 76]]
def a25s44 : ACode := .reg [] a25r43
def a25s45 : ACode := .seq a25s42 a25s44
def a25s46 : ACode := .seq a25s40 a25s45
def a25s47 : ACode := .seq a25s38 a25s46
def a25s48 : ACode := .seq a25s33 a25s47
def a25s49 : ACode := .seq a25s31 a25s48
def a25s50 : ACode := .seq a25s14 a25s49
def a25s51 : ACode := .blk 1 a25s50
def a25s52 : ACode := .seq a25s12 a25s51
def a25s53 : ACode := .loop a25s52
def a25s54 : ACode := .blk 0 a25s53
def a25r55 : List AOper := [
 op (.t 77) .mv [.vs 4],
 op (.t 78) .mv [.v 5],
 op (.t 79) (.build [.int .u8 0,.str [],.int .i64 0,.int .i64 0] [(3,1)]) [.t 78],
 op (.t 80) (.bslice 4 [[.int .u8 0,.str [],.int .i64 0,.int .i64 0]] [0]) [.t 79],
 op (.t 81) (.app 4 40) [.ts 77,.t 80],
 op (.v 1) .mv [.ts 81],
 op (.v 2) .mv [.c (.int .i64 0)],
 op (.v 3) .mv [.c (.int .i64 0)]]
def a25s56 : ACode := .reg [] a25r55
def a25s57 : ACode := .seq a25s56 .ret
def a25s58 : ACode := .seq a25s54 a25s57
def a25s59 : ACode := .seq a25s10 a25s58
def a25s60 : ACode := .seq a25s8 a25s59
def a25s61 : ACode := .seq a25s6 a25s60
def a25s62 : ACode := .seq a25s1 a25s61
def a25c : ACode :=
  a25s62
def a25 : AFn := { np := 1,nv := 11,results := [.v 1,.v 2,.v 3],code := a25c }
def a25v : List Nat := [0,2,3,4,5,6,7,8,9,10,11]
def a25b : List Nat := [7]

def a26r0 : List AOper := [
 op (.v 2) .mv [.c (.bool false)]]
def a26s1 : ACode := .reg [] a26r0
def a26r2 : List AOper := [
 op (.t 5) .mv [.v 0],
 op (.t 6) .nilchk [.t 5],
 op (.t 7) (.fad 4) [.t 6],
 op (.t 8) (.ldSt false 1) [.t 7],
 op (.t 9) (.bin .eql) [.t 8,.c (.int .i64 0)],
 op (.t 10) .mv [.t 9],
 ⟨.t 11,.mv,[.v 0],none,some (.t 10,true)⟩,
 ⟨.t 12,.nilchk,[.t 11],none,some (.t 10,true)⟩,
 ⟨.t 13,.fad 0,[.t 12],none,some (.t 10,true)⟩,
 ⟨.t 14,.ldSt false 1,[.t 13],none,some (.t 10,true)⟩,
 ⟨.t 15,.mv,[.v 0],none,some (.t 10,true)⟩,
 ⟨.t 16,.nilchk,[.t 15],none,some (.t 10,true)⟩,
 ⟨.t 17,.fad 1,[.t 16],none,some (.t 10,true)⟩,
 ⟨.t 18,.ldSt false 1,[.t 17],none,some (.t 10,true)⟩,
 ⟨.t 19,.iad 4,[.t 14,.t 18],none,some (.t 10,true)⟩,
 ⟨.t 20,.fad 0,[.t 19],none,some (.t 10,true)⟩,
 ⟨.t 21,.ldRo false 1,[.t 20],none,some (.t 10,true)⟩,
 ⟨.t 22,.mv,[.v 1],none,some (.t 10,true)⟩,
 ⟨.t 23,.bin .eql,[.t 21,.t 22],none,some (.t 10,true)⟩,
 op (.t 24) .pick [.t 10,.t 23,.c (.bool false)],
 op (.v 2) .mv [.t 24]]
def a26s3 : ACode := .reg [] a26r2
def a26s4 : ACode := .seq a26s3 .ret
def a26s5 : ACode := .seq a26s1 a26s4
def a26c : ACode :=
  a26s5
def a26 : AFn := { np := 2,nv := 3,results := [.v 2],code := a26c }
def a26v : List Nat := [0,1,4]
def a26b : List Nat := []

def a27r0 : List AOper := [
 ⟨.bx,.alloc [.int .u8 0,.str [],.list true [],.list true []],[],some 1,none⟩]
def a27s1 : ACode := .reg [1] a27r0
def a27r2 : List AOper := [
 ⟨.bx,.alloc [.int .u8 0,.str [],.list true [],.list true []],[],some 2,none⟩]
def a27s3 : ACode := .reg [2] a27r2
def a27r4 : List AOper := [
 op (.t 11) .mv [.v 0],
 op (.t 12) (.call 41) [.t 11,.c (.str [116,121,112,101])],
 op (.t 10) .mv [.t 12]]
def a27r5 : List AOper := [
 op (.t 13) (.fad 0) [.l 2],
 ⟨.none,.stLc 2 1,[.t 13,.c (.int .u8 1)],some 2,none⟩]
def a27s6 : ACode := .reg [] a27r5
def a27r7 : List AOper := [
 op (.t 15) .mv [.v 0],
 op (.t 16) (.call 41) [.t 15,.c (.str [105,110,116,101,114,102,97,99,101])],
 op (.t 14) .mv [.t 16]]
def a27r8 : List AOper := [
 op (.t 17) (.fad 0) [.l 2],
 ⟨.none,.stLc 2 1,[.t 17,.c (.int .u8 2)],some 2,none⟩]
def a27s9 : ACode := .reg [] a27r8
def a27r10 : List AOper := [
 op (.t 19) .mv [.v 0],
 op (.t 20) (.call 41) [.t 19,.c (.str [117,110,105,111,110])],
 op (.t 18) .mv [.t 20]]
def a27r11 : List AOper := [
 op (.t 21) (.fad 0) [.l 2],
 ⟨.none,.stLc 2 1,[.t 21,.c (.int .u8 3)],some 2,none⟩]
def a27s12 : ACode := .reg [] a27r11
def a27r13 : List AOper := [
 op (.t 23) .mv [.v 0],
 op (.t 24) (.call 41) [.t 23,.c (.str [101,110,117,109])],
 op (.t 22) .mv [.t 24]]
def a27r14 : List AOper := [
 op (.t 25) (.fad 0) [.l 2],
 ⟨.none,.stLc 2 1,[.t 25,.c (.int .u8 4)],some 2,none⟩]
def a27s15 : ACode := .reg [] a27r14
def a27r16 : List AOper := [
 op (.t 27) .mv [.v 0],
 op (.t 28) (.call 41) [.t 27,.c (.str [105,110,112,117,116])],
 op (.t 26) .mv [.t 28]]
def a27r17 : List AOper := [
 op (.t 29) (.fad 0) [.l 2],
 ⟨.none,.stLc 2 1,[.t 29,.c (.int .u8 5)],some 2,none⟩]
def a27s18 : ACode := .reg [] a27r17
def a27r19 : List AOper := [
 op (.t 7) .mv [.v 0],
 op (.t 8) (.call 42) [.t 7,.c (.int .i64 4)]]
def a27s20 : ACode := .reg [] a27r19
def a27r21 : List AOper := [
 ⟨.t 9,.ldLc 2 true 4,[.l 2],some 2,none⟩,
 ⟨.none,.stLc 1 4,[.l 1,.ts 9],some 1,none⟩]
def a27s22 : ACode := .reg [] a27r21
def a27s23 : ACode := .seq a27s22 .ret
def a27s24 : ACode := .seq a27s20 a27s23
def a27s25 : ACode := .test [] a27r16 (.t 26) a27s18 a27s24
def a27s26 : ACode := .test [] a27r13 (.t 22) a27s15 a27s25
def a27s27 : ACode := .test [] a27r10 (.t 18) a27s12 a27s26
def a27s28 : ACode := .test [] a27r7 (.t 14) a27s9 a27s27
def a27s29 : ACode := .test [] a27r4 (.t 10) a27s6 a27s28
def a27s30 : ACode := .blk 0 a27s29
def a27r31 : List AOper := [
 op (.t 30) .mv [.v 0],
 op (.t 31) .nilchk [.t 30],
 op (.t 32) (.fad 1) [.t 31],
 op (.t 33) (.ldSt false 1) [.t 32],
 op (.t 34) (.bin .add) [.t 33,.c (.int .i64 1)],
 op (.t 35) .nilchk [.t 30],
 op (.t 36) (.fad 1) [.t 35],
 op .none (.stSt 1) [.t 36,.t 34]]
def a27s32 : ACode := .reg [] a27r31
def a27r33 : List AOper := [
 op (.t 37) .mv [.v 0],
 op (.t 38) (.call 43) [.t 37],
 op (.t 39) (.fad 1) [.l 2],
 ⟨.none,.stLc 2 1,[.t 39,.t 38],some 2,none⟩]
def a27s34 : ACode := .reg [] a27r33
def a27r35 : List AOper := [
 op (.t 40) (.fad 0) [.l 2],
 ⟨.v 6,.ldLc 2 false 1,[.t 40],some 2,none⟩]
def a27s36 : ACode := .reg [] a27r35
def a27r37 : List AOper := [
 op (.t 87) (.bin .eql) [.v 6,.c (.int .u8 3)],
 op (.t 86) .mv [.t 87]]
def a27r38 : List AOper := [
 op (.t 88) .mv [.v 0],
 op (.t 89) (.call 44) [.t 88,.c (.str [61])]]
def a27s39 : ACode := .reg [] a27r38
def a27r40 : List AOper := [
 op (.t 90) .mv [.v 0],
 op (.t 91) (.call 45) [.t 90,.c (.str [124])],
 op (.t 92) (.fad 3) [.l 2],
 ⟨.none,.stLc 2 1,[.t 92,.ts 91],some 2,none⟩]
def a27s41 : ACode := .reg [] a27r40
def a27s42 : ACode := .seq a27s39 a27s41
def a27r43 : List AOper := [
 op (.t 94) (.bin .eql) [.v 6,.c (.int .u8 4)],
 op (.t 93) .mv [.t 94]]
def a27r44 : List AOper := [
 op (.t 95) .mv [.v 0],
 op (.t 96) (.call 44) [.t 95,.c (.str [123])]]
def a27s45 : ACode := .reg [] a27r44
def a27r46 : List AOper := [
 op (.v 3) .mv [.c (.bool true)]]
def a27s47 : ACode := .reg [] a27r46
def a27r48 : List AOper := [
 op (.t 97) .mv [.v 0],
 op (.t 98) .nilchk [.t 97],
 op (.t 99) (.fad 4) [.t 98],
 op (.t 100) (.ldSt false 1) [.t 99],
 op (.t 101) (.bin .eql) [.t 100,.c (.int .i64 0)],
 op (.t 102) .mv [.t 101],
 ⟨.t 103,.mv,[.v 3],none,some (.t 102,true)⟩,
 ⟨.t 104,.mv,[.t 103],none,some (.t 102,true)⟩,
 ⟨.t 105,.mv,[.v 0],none,some (.t 104,false)⟩,
 ⟨.t 106,.call 46,[.t 105,.c (.str [125])],none,some (.t 104,false)⟩,
 ⟨.t 107,.un .not,[.t 106],none,some (.t 104,false)⟩,
 ⟨.t 108,.pick,[.t 104,.c (.bool true),.t 107],none,some (.t 102,true)⟩,
 op (.t 109) .pick [.t 102,.t 108,.c (.bool false)]]
def a27s49 : ACode := .test [] a27r48 (.t 109) .skip (.exit 4)
def a27r50 : List AOper := [
 op (.t 110) .mv [.v 0],
 op (.t 111) (.call 41) [.t 110,.c (.str [116,114,117,101])],
 op (.t 112) .mv [.t 111],
 ⟨.t 113,.mv,[.v 0],none,some (.t 112,false)⟩,
 ⟨.t 114,.call 41,[.t 113,.c (.str [102,97,108,115,101])],none,some (.t 112,false)⟩,
 op (.t 115) .pick [.t 112,.c (.bool true),.t 114],
 op (.t 116) .mv [.t 115],
 ⟨.t 117,.mv,[.v 0],none,some (.t 116,false)⟩,
 ⟨.t 118,.call 41,[.t 117,.c (.str [110,117,108,108])],none,some (.t 116,false)⟩,
 op (.t 119) .pick [.t 116,.c (.bool true),.t 118]]
def a27r51 : List AOper := [
 op (.t 120) .mv [.v 0],
 op (.t 121) (.call 42) [.t 120,.c (.int .i64 4)]]
def a27s52 : ACode := .reg [] a27r51
def a27s53 : ACode := .test [] a27r50 (.t 119) a27s52 .skip
def a27r54 : List AOper := [
 op (.t 122) (.fad 3) [.l 2],
 ⟨.t 123,.ldLcS 2,[.t 122],some 2,none⟩,
 op (.t 124) .mv [.v 0],
 op (.t 125) (.call 43) [.t 124],
 op (.t 126) (.bslice 1 [[.str []]] [0]) [.t 125],
 op (.t 127) (.app 1 16) [.ts 123,.t 126],
 op (.t 128) (.fad 3) [.l 2],
 ⟨.none,.stLc 2 1,[.t 128,.ts 127],some 2,none⟩]
def a27s55 : ACode := .reg [] a27r54
def a27s56 : ACode := .seq a27s53 a27s55
def a27s57 : ACode := .blk 5 a27s56
def a27r58 : List AOper := [
 op (.v 3) .mv [.c (.bool false)]]
def a27s59 : ACode := .reg [] a27r58
def a27s60 : ACode := .seq a27s57 a27s59
def a27s61 : ACode := .seq a27s49 a27s60
def a27s62 : ACode := .loop a27s61
def a27s63 : ACode := .blk 4 a27s62
def a27s64 : ACode := .seq a27s47 a27s63
def a27s65 : ACode := .seq a27s45 a27s64
def a27r66 : List AOper := [
 op (.t 130) (.bin .eql) [.v 6,.c (.int .u8 5)],
 op (.t 129) .mv [.t 130]]
def a27r67 : List AOper := [
 op (.t 131) .mv [.v 0],
 op (.t 132) (.call 44) [.t 131,.c (.str [123])]]
def a27s68 : ACode := .reg [] a27r67
def a27r69 : List AOper := [
 op (.t 133) .mv [.v 0],
 op (.t 134) (.call 47) [.t 133,.c (.str [125])],
 op (.t 135) (.fad 2) [.l 2],
 ⟨.none,.stLc 2 1,[.t 135,.ts 134],some 2,none⟩]
def a27s70 : ACode := .reg [] a27r69
def a27s71 : ACode := .seq a27s68 a27s70
def a27r72 : List AOper := [
 op (.t 42) (.fad 0) [.l 2],
 ⟨.t 43,.ldLc 2 false 1,[.t 42],some 2,none⟩,
 op (.t 44) (.bin .eql) [.t 43,.c (.int .u8 1)],
 op (.t 45) .mv [.t 44],
 ⟨.t 46,.mv,[.v 0],none,some (.t 45,true)⟩,
 ⟨.t 47,.call 46,[.t 46,.c (.str [105,109,112,108,101,109,101,110,116,115])],none,some (.t 45,true)⟩,
 op (.t 48) .pick [.t 45,.t 47,.c (.bool false)]]
def a27r73 : List AOper := [
 op (.t 49) .mv [.v 0],
 op (.t 50) (.call 45) [.t 49,.c (.str [38])],
 op (.t 51) (.fad 3) [.l 2],
 ⟨.none,.stLc 2 1,[.t 51,.ts 50],some 2,none⟩]
def a27s74 : ACode := .reg [] a27r73
def a27s75 : ACode := .test [] a27r72 (.t 48) a27s74 .skip
def a27r76 : List AOper := [
 op (.t 52) .mv [.v 0],
 op (.t 53) (.call 44) [.t 52,.c (.str [123])]]
def a27s77 : ACode := .reg [] a27r76
def a27r78 : List AOper := [
 op (.v 4) .mv [.c (.bool true)]]
def a27s79 : ACode := .reg [] a27r78
def a27r80 : List AOper := [
 op (.t 54) .mv [.v 0],
 op (.t 55) .nilchk [.t 54],
 op (.t 56) (.fad 4) [.t 55],
 op (.t 57) (.ldSt false 1) [.t 56],
 op (.t 58) (.bin .eql) [.t 57,.c (.int .i64 0)],
 op (.t 59) .mv [.t 58],
 ⟨.t 60,.mv,[.v 4],none,some (.t 59,true)⟩,
 ⟨.t 61,.mv,[.t 60],none,some (.t 59,true)⟩,
 ⟨.t 62,.mv,[.v 0],none,some (.t 61,false)⟩,
 ⟨.t 63,.call 46,[.t 62,.c (.str [125])],none,some (.t 61,false)⟩,
 ⟨.t 64,.un .not,[.t 63],none,some (.t 61,false)⟩,
 ⟨.t 65,.pick,[.t 61,.c (.bool true),.t 64],none,some (.t 59,true)⟩,
 op (.t 66) .pick [.t 59,.t 65,.c (.bool false)]]
def a27s81 : ACode := .test [] a27r80 (.t 66) .skip (.exit 2)
def a27r82 : List AOper := [
 op (.t 67) .mv [.v 0],
 op (.t 68) (.call 43) [.t 67],
 op (.t 69) (.build [.str [],.list true [],.str [],.list true [],.bool false,.bool false,.int .u8 0,.int .i64 0,.str [],.list true [],.list true []] [(0,1)]) [.t 68],
 ⟨.bx,.alloc [.str [],.list true [],.str [],.list true [],.bool false,.bool false,.int .u8 0,.int .i64 0,.str [],.list true [],.list true []],[],some 5,none⟩,
 ⟨.none,.stLc 5 11,[.l 5,.ts 69],some 5,none⟩]
def a27s83 : ACode := .reg [5] a27r82
def a27r84 : List AOper := [
 op (.t 70) .mv [.v 0],
 op (.t 71) (.call 46) [.t 70,.c (.str [40])]]
def a27r85 : List AOper := [
 op (.t 72) .mv [.v 0],
 op (.t 73) (.call 47) [.t 72,.c (.str [41])],
 op (.t 74) (.fad 1) [.l 5],
 ⟨.none,.stLc 5 1,[.t 74,.ts 73],some 5,none⟩]
def a27s86 : ACode := .reg [] a27r85
def a27s87 : ACode := .test [] a27r84 (.t 71) a27s86 .skip
def a27r88 : List AOper := [
 op (.t 75) .mv [.v 0],
 op (.t 76) (.call 44) [.t 75,.c (.str [58])]]
def a27s89 : ACode := .reg [] a27r88
def a27r90 : List AOper := [
 op (.t 77) .mv [.v 0],
 op (.t 78) (.call 48) [.t 77],
 op (.t 79) (.fad 2) [.l 5],
 ⟨.none,.stLc 5 3,[.t 79,.ts 78],some 5,none⟩]
def a27s91 : ACode := .reg [] a27r90
def a27r92 : List AOper := [
 op (.t 80) (.fad 2) [.l 2],
 ⟨.t 81,.ldLcS 2,[.t 80],some 2,none⟩,
 ⟨.t 82,.ldLc 5 true 11,[.l 5],some 5,none⟩,
 op (.t 83) (.bslice 11 [[.str [],.list true [],.str [],.list true [],.bool false,.bool false,.int .u8 0,.int .i64 0,.str [],.list true [],.list true []]] [0]) [.t 82],
 op (.t 84) (.app 11 176) [.ts 81,.t 83],
 op (.t 85) (.fad 2) [.l 2],
 ⟨.none,.stLc 2 1,[.t 85,.ts 84],some 2,none⟩]
def a27s93 : ACode := .reg [] a27r92
def a27s94 : ACode := .seq a27s91 a27s93
def a27s95 : ACode := .seq a27s89 a27s94
def a27s96 : ACode := .seq a27s87 a27s95
def a27s97 : ACode := .seq a27s83 a27s96
def a27s98 : ACode := .blk 3 a27s97
def a27r99 : List AOper := [
 op (.v 4) .mv [.c (.bool false)]]
def a27s100 : ACode := .reg [] a27r99
def a27s101 : ACode := .seq a27s98 a27s100
def a27s102 : ACode := .seq a27s81 a27s101
def a27s103 : ACode := .loop a27s102
def a27s104 : ACode := .blk 2 a27s103
def a27s105 : ACode := .seq a27s79 a27s104
def a27s106 : ACode := .seq a27s77 a27s105
def a27s107 : ACode := .seq a27s75 a27s106
def a27s108 : ACode := .test [] a27r66 (.t 129) a27s71 a27s107
def a27s109 : ACode := .test [] a27r43 (.t 93) a27s65 a27s108
def a27s110 : ACode := .test [] a27r37 (.t 86) a27s42 a27s109
def a27s111 : ACode := .blk 1 a27s110
def a27s112 : ACode := .seq a27s36 a27s111
def a27r113 : List AOper := [
 ⟨.t 136,.ldLc 2 true 4,[.l 2],some 2,none⟩,
 ⟨.none,.stLc 1 4,[.l 1,.ts 136],some 1,none⟩]
def a27s114 : ACode := .reg [] a27r113
def a27s115 : ACode := .seq a27s114 .ret
def a27s116 : ACode := .seq a27s112 a27s115
def a27s117 : ACode := .seq a27s34 a27s116
def a27s118 : ACode := .seq a27s32 a27s117
def a27s119 : ACode := .seq a27s30 a27s118
def a27s120 : ACode := .seq a27s3 a27s119
def a27s121 : ACode := .seq a27s1 a27s120
def a27c : ACode :=
  a27s121
def a27 : AFn := { np := 1,nv := 7,results := [.bx 1 true 4],code := a27c }
def a27v : List Nat := [0,2,3,4,5,6,41]
def a27b : List Nat := [1,2,5]

def a28 : AFn := { np := 1,nv := 0,results := [],code := .skip,ext := some (cloneX 4 72) }
def a29r0 : List AOper := [
 op (.v 2) .mv [.c (.bool false)]]
def a29s1 : ACode := .reg [] a29r0
def a29r2 : List AOper := [
 op (.t 5) .mv [.v 0],
 op (.t 6) .mv [.v 1],
 op (.t 7) (.call 36) [.t 5,.t 6],
 op (.t 8) (.bin .geq) [.t 7,.c (.int .i64 0)],
 op (.v 2) .mv [.t 8]]
def a29s3 : ACode := .reg [] a29r2
def a29s4 : ACode := .seq a29s3 .ret
def a29s5 : ACode := .seq a29s1 a29s4
def a29c : ACode :=
  a29s5
def a29 : AFn := { np := 2,nv := 3,results := [.v 2],code := a29c }
def a29v : List Nat := [0,1,4]
def a29b : List Nat := []

def a30r0 : List AOper := [
 op (.v 2) .mv [.c (.bool false)]]
def a30s1 : ACode := .reg [] a30r0
def a30r2 : List AOper := [
 op (.t 5) .mv [.v 0],
 op (.t 6) .mv [.v 1],
 op (.t 7) (.call 49) [.t 5,.t 6],
 op (.v 2) .mv [.t 7]]
def a30s3 : ACode := .reg [] a30r2
def a30s4 : ACode := .seq a30s3 .ret
def a30s5 : ACode := .seq a30s1 a30s4
def a30c : ACode :=
  a30s5
def a30 : AFn := { np := 2,nv := 3,results := [.v 2],code := a30c }
def a30v : List Nat := [0,1,4]
def a30b : List Nat := []

def a31r0 : List AOper := [
 ⟨.bx,.boxV,[.v 1],some 2,none⟩,
 ⟨.bx,.alloc [.int .i64 0,.str []],[],some 3,none⟩]
def a31s1 : ACode := .reg [2,3] a31r0
def a31r2 : List AOper := [
 op (.t 16) (.fad 2) [.l 2],
 ⟨.t 17,.ldLc 2 false 1,[.t 16],some 2,none⟩,
 op (.t 18) (.call 37) [.t 17],
 op (.t 19) (.fad 3) [.l 2],
 ⟨.t 20,.ldLc 2 false 1,[.t 19],some 2,none⟩,
 op (.t 21) (.app 1 16) [.ts 18,.t 20],
 op (.t 22) (.call 50) [.t 21],
 ⟨.bx,.alloc [.int .i64 0,.str []],[],some 4,none⟩,
 ⟨.none,.stLc 4 2,[.l 4,.t 22],some 4,none⟩]
def a31s3 : ACode := .reg [4] a31r2
def a31r4 : List AOper := [
 op (.t 23) (.fad 0) [.l 4],
 ⟨.t 24,.ldLc 4 false 1,[.t 23],some 4,none⟩,
 op (.t 25) (.bin .neq) [.t 24,.c (.int .i64 0)],
 op (.t 26) .mv [.t 25],
 ⟨.t 27,.fad 0,[.l 2],none,some (.t 26,true)⟩,
 ⟨.t 28,.ldLc 2 false 1,[.t 27],some 2,some (.t 26,true)⟩,
 ⟨.t 29,.bin .neq,[.t 28,.c (.int .u8 1)],none,some (.t 26,true)⟩,
 op (.t 30) .pick [.t 26,.t 29,.c (.bool false)]]
def a31r5 : List AOper := [
 ⟨.t 31,.ldLc 4 true 2,[.l 4],some 4,none⟩,
 ⟨.none,.stLc 3 2,[.l 3,.t 31],some 3,none⟩]
def a31s6 : ACode := .reg [] a31r5
def a31s7 : ACode := .seq a31s6 .ret
def a31s8 : ACode := .test [] a31r4 (.t 30) a31s7 .skip
def a31s9 : ACode := .seq a31s3 a31s8
def a31r10 : List AOper := [
 op (.t 32) (.fad 2) [.l 2],
 ⟨.t 33,.ldLc 2 false 1,[.t 32],some 2,none⟩,
 op (.t 34) (.call 37) [.t 33],
 op (.t 35) (.call 50) [.t 34],
 ⟨.bx,.alloc [.int .i64 0,.str []],[],some 5,none⟩,
 ⟨.none,.stLc 5 2,[.l 5,.t 35],some 5,none⟩]
def a31s11 : ACode := .reg [5] a31r10
def a31r12 : List AOper := [
 op (.t 36) (.fad 0) [.l 5],
 ⟨.t 37,.ldLc 5 false 1,[.t 36],some 5,none⟩,
 op (.t 38) (.bin .neq) [.t 37,.c (.int .i64 0)]]
def a31r13 : List AOper := [
 ⟨.t 39,.ldLc 5 true 2,[.l 5],some 5,none⟩,
 ⟨.none,.stLc 3 2,[.l 3,.t 39],some 3,none⟩]
def a31s14 : ACode := .reg [] a31r13
def a31s15 : ACode := .seq a31s14 .ret
def a31s16 : ACode := .test [] a31r12 (.t 38) a31s15 .skip
def a31s17 : ACode := .seq a31s11 a31s16
def a31r18 : List AOper := [
 op (.t 40) (.fad 3) [.l 2],
 ⟨.t 41,.ldLc 2 false 1,[.t 40],some 2,none⟩,
 op (.t 42) (.call 50) [.t 41],
 ⟨.bx,.alloc [.int .i64 0,.str []],[],some 6,none⟩,
 ⟨.none,.stLc 6 2,[.l 6,.t 42],some 6,none⟩]
def a31s19 : ACode := .reg [6] a31r18
def a31r20 : List AOper := [
 op (.t 43) (.fad 0) [.l 6],
 ⟨.t 44,.ldLc 6 false 1,[.t 43],some 6,none⟩,
 op (.t 45) (.bin .neq) [.t 44,.c (.int .i64 0)]]
def a31r21 : List AOper := [
 ⟨.t 46,.ldLc 6 true 2,[.l 6],some 6,none⟩,
 ⟨.none,.stLc 3 2,[.l 3,.t 46],some 3,none⟩]
def a31s22 : ACode := .reg [] a31r21
def a31s23 : ACode := .seq a31s22 .ret
def a31s24 : ACode := .test [] a31r20 (.t 45) a31s23 .skip
def a31s25 : ACode := .seq a31s19 a31s24
def a31r26 : List AOper := [
 op (.t 47) (.fad 2) [.l 2],
 ⟨.v 13,.ldLc 2 false 1,[.t 47],some 2,none⟩,
 op (.v 14) .lenL [.v 13],
 op (.v 15) .mv [.c (.int .i64 0)]]
def a31s27 : ACode := .reg [] a31r26
def a31r28 : List AOper := [
 op (.t 51) (.bin .lss) [.v 15,.v 14]]
def a31s29 : ACode := .test [] a31r28 (.t 51) .skip (.exit 0)
def a31r30 : List AOper := [
 op (.t 52) (.iad 11) [.v 13,.v 15],
 op (.t 53) (.ldRo true 11) [.t 52],
 ⟨.bx,.alloc [.str [],.list true [],.str [],.list true [],.bool false,.bool false,.int .u8 0,.int .i64 0,.str [],.list true [],.list true []],[],some 7,none⟩,
 ⟨.none,.stLc 7 11,[.l 7,.ts 53],some 7,none⟩]
def a31s31 : ACode := .reg [7] a31r30
def a31r32 : List AOper := [
 op (.t 54) .mv [.v 0],
 ⟨.t 55,.ldLc 7 true 11,[.l 7],some 7,none⟩,
 op (.t 56) (.fad 0) [.l 2],
 ⟨.t 57,.ldLc 2 false 1,[.t 56],some 2,none⟩,
 op (.t 58) (.bin .eql) [.t 57,.c (.int .u8 5)],
 op (.t 59) (.call 51) [.t 54,.t 55,.t 58],
 ⟨.bx,.alloc [.int .i64 0,.str []],[],some 8,none⟩,
 ⟨.none,.stLc 8 2,[.l 8,.t 59],some 8,none⟩]
def a31s33 : ACode := .reg [8] a31r32
def a31r34 : List AOper := [
 op (.t 60) (.fad 0) [.l 8],
 ⟨.t 61,.ldLc 8 false 1,[.t 60],some 8,none⟩,
 op (.t 62) (.bin .neq) [.t 61,.c (.int .i64 0)]]
def a31r35 : List AOper := [
 ⟨.t 63,.ldLc 8 true 2,[.l 8],some 8,none⟩,
 ⟨.none,.stLc 3 2,[.l 3,.t 63],some 3,none⟩]
def a31s36 : ACode := .reg [] a31r35
def a31s37 : ACode := .seq a31s36 .ret
def a31s38 : ACode := .test [] a31r34 (.t 62) a31s37 .skip
def a31s39 : ACode := .seq a31s33 a31s38
def a31s40 : ACode := .seq a31s31 a31s39
def a31s41 : ACode := .blk 1 a31s40
def a31r42 : List AOper := [
 op (.t 64) (.bin .add) [.v 15,.c (.int .i64 1)],
 op (.v 15) .mv [.t 64]]
def a31s43 : ACode := .reg [] a31r42
def a31s44 : ACode := .seq a31s41 a31s43
def a31s45 : ACode := .seq a31s29 a31s44
def a31s46 : ACode := .loop a31s45
def a31s47 : ACode := .blk 0 a31s46
def a31s48 : ACode := .seq a31s27 a31s47
def a31r49 : List AOper := [
 op (.t 65) .mkM [],
 op .none (.mset 0) [.t 65,.c (.int .u8 1),.c (.int .u8 2)],
 op .none (.mset 0) [.t 65,.c (.int .u8 3),.c (.int .u8 1)],
 op (.t 66) .mv [.t 65],
 op (.t 67) (.fad 0) [.l 2],
 ⟨.t 68,.ldLc 2 false 1,[.t 67],some 2,none⟩,
 op (.t 69) (.mget 0 [.int .u8 0] false false) [.t 66,.t 68],
 op (.v 9) .mv [.t 69]]
def a31s50 : ACode := .reg [] a31r49
def a31r51 : List AOper := [
 op (.t 70) (.fad 3) [.l 2],
 ⟨.v 16,.ldLc 2 false 1,[.t 70],some 2,none⟩,
 op (.v 17) .lenL [.v 16],
 op (.v 18) .mv [.c (.int .i64 0)]]
def a31s52 : ACode := .reg [] a31r51
def a31r53 : List AOper := [
 op (.t 74) (.bin .lss) [.v 18,.v 17]]
def a31s54 : ACode := .test [] a31r53 (.t 74) .skip (.exit 2)
def a31r55 : List AOper := [
 op (.t 75) (.iad 1) [.v 16,.v 18],
 op (.t 76) (.ldRo false 1) [.t 75],
 op (.v 10) .mv [.t 76]]
def a31s56 : ACode := .reg [] a31r55
def a31r57 : List AOper := [
 op (.t 78) .mv [.v 0],
 op (.t 79) .mv [.v 10],
 op (.t 80) (.call 15) [.t 78,.t 79],
 op (.t 77) .mv [.t 80],
 op (.t 81) (.ext 0) [.t 77],
 op (.t 82) (.ext 1) [.t 77],
 ⟨.bx,.alloc [.int .u8 0,.str [],.list true [],.list true []],[],some 11,none⟩,
 ⟨.none,.stLc 11 4,[.l 11,.ts 81],some 11,none⟩,
 op (.v 12) .mv [.t 82]]
def a31s58 : ACode := .reg [11] a31r57
def a31r59 : List AOper := [
 op (.t 84) (.fad 0) [.l 2],
 ⟨.t 85,.ldLc 2 false 1,[.t 84],some 2,none⟩,
 op (.t 86) (.bin .eql) [.t 85,.c (.int .u8 4)],
 op (.t 83) .mv [.t 86]]
def a31r60 : List AOper := [
 op (.t 88) .mv [.v 12],
 op (.t 89) (.un .not) [.t 88],
 op (.t 87) .mv [.t 89]]
def a31r61 : List AOper := [
 op (.t 90) .mv [.v 10],
 op (.t 91) (.build [.int .i64 0,.str []] [(0,1),(1,1)]) [.c (.int .i64 6),.t 90],
 ⟨.none,.stLc 3 2,[.l 3,.t 91],some 3,none⟩]
def a31s62 : ACode := .reg [] a31r61
def a31s63 : ACode := .seq a31s62 .ret
def a31r64 : List AOper := [
 op (.t 93) (.fad 0) [.l 11],
 ⟨.t 94,.ldLc 11 false 1,[.t 93],some 11,none⟩,
 op (.t 95) .mv [.v 9],
 op (.t 96) (.bin .neq) [.t 94,.t 95],
 op (.t 97) .mv [.t 96],
 ⟨.t 98,.mv,[.v 10],none,some (.t 97,false)⟩,
 ⟨.t 99,.call 34,[.t 98],none,some (.t 97,false)⟩,
 op (.t 100) .pick [.t 97,.c (.bool true),.t 99],
 op (.t 92) .mv [.t 100]]
def a31r65 : List AOper := [
 op (.t 101) .mv [.v 10],
 op (.t 102) (.build [.int .i64 0,.str []] [(0,1),(1,1)]) [.c (.int .i64 8),.t 101],
 ⟨.none,.stLc 3 2,[.l 3,.t 102],some 3,none⟩]
def a31s66 : ACode := .reg [] a31r65
def a31s67 : ACode := .seq a31s66 .ret
def a31r68 : List AOper := [
 op (.t 104) (.fad 0) [.l 2],
 ⟨.t 105,.ldLc 2 false 1,[.t 104],some 2,none⟩,
 op (.t 106) (.bin .eql) [.t 105,.c (.int .u8 1)],
 op (.t 107) .mv [.t 106],
 ⟨.t 108,.mv,[.v 0],none,some (.t 107,true)⟩,
 ⟨.t 109,.ldLc 2 true 4,[.l 2],some 2,some (.t 107,true)⟩,
 ⟨.t 110,.ldLc 11 true 4,[.l 11],some 11,some (.t 107,true)⟩,
 ⟨.t 111,.call 52,[.t 108,.t 109,.t 110],none,some (.t 107,true)⟩,
 ⟨.t 112,.un .not,[.t 111],none,some (.t 107,true)⟩,
 op (.t 113) .pick [.t 107,.t 112,.c (.bool false)],
 op (.t 103) .mv [.t 113]]
def a31r69 : List AOper := [
 op (.t 114) .mv [.v 10],
 op (.t 115) (.build [.int .i64 0,.str []] [(0,1),(1,1)]) [.c (.int .i64 3),.t 114],
 ⟨.none,.stLc 3 2,[.l 3,.t 115],some 3,none⟩]
def a31s70 : ACode := .reg [] a31r69
def a31s71 : ACode := .seq a31s70 .ret
def a31s72 : ACode := .test [] a31r68 (.t 103) a31s71 .skip
def a31s73 : ACode := .test [] a31r64 (.t 92) a31s67 a31s72
def a31s74 : ACode := .test [] a31r60 (.t 87) a31s63 a31s73
def a31s75 : ACode := .test [] a31r59 (.t 83) .skip a31s74
def a31s76 : ACode := .blk 4 a31s75
def a31s77 : ACode := .seq a31s58 a31s76
def a31s78 : ACode := .seq a31s56 a31s77
def a31s79 : ACode := .blk 3 a31s78
def a31r80 : List AOper := [
 op (.t 116) (.bin .add) [.v 18,.c (.int .i64 1)],
 op (.v 18) .mv [.t 116]]
def a31s81 : ACode := .reg [] a31r80
def a31s82 : ACode := .seq a31s79 a31s81
def a31s83 : ACode := .seq a31s54 a31s82
def a31s84 : ACode := .loop a31s83
def a31s85 : ACode := .blk 2 a31s84
def a31s86 : ACode := .seq a31s52 a31s85
def a31r87 : List AOper := [
 op (.t 117) (.build [.int .i64 0,.str []] []) [],
 ⟨.none,.stLc 3 2,[.l 3,.t 117],some 3,none⟩]
def a31s88 : ACode := .reg [] a31r87
def a31s89 : ACode := .seq a31s88 .ret
def a31s90 : ACode := .seq a31s86 a31s89
def a31s91 : ACode := .seq a31s50 a31s90
def a31s92 : ACode := .seq a31s48 a31s91
def a31s93 : ACode := .seq a31s25 a31s92
def a31s94 : ACode := .seq a31s17 a31s93
def a31s95 : ACode := .seq a31s9 a31s94
def a31s96 : ACode := .seq a31s1 a31s95
def a31c : ACode :=
  a31s96
def a31 : AFn := { np := 2,nv := 19,results := [.bx 3 true 2],code := a31c }
def a31v : List Nat := [0,1,3,4,5,6,7,9,10,11,13,14,15,48,49,50,71,72,73]
def a31b : List Nat := [2,3,4,5,6,7,8,11]

def a32r0 : List AOper := [
 ⟨.bx,.boxV,[.v 1],some 2,none⟩,
 ⟨.bx,.alloc [.int .i64 0,.str []],[],some 3,none⟩]
def a32s1 : ACode := .reg [2,3] a32r0
def a32r2 : List AOper := [
 op (.t 8) (.fad 0) [.l 2],
 ⟨.t 9,.ldLc 2 false 1,[.t 8],some 2,none⟩,
 op (.t 10) (.bin .neq) [.t 9,.c (.int .u8 1)],
 op (.t 11) .mv [.t 10],
 ⟨.t 12,.fad 0,[.l 2],none,some (.t 11,true)⟩,
 ⟨.t 13,.ldLc 2 false 1,[.t 12],some 2,some (.t 11,true)⟩,
 ⟨.t 14,.bin .neq,[.t 13,.c (.int .u8 2)],none,some (.t 11,true)⟩,
 op (.t 15) .pick [.t 11,.t 14,.c (.bool false)]]
def a32r3 : List AOper := [
 op (.t 16) (.build [.int .i64 0,.str []] []) [],
 ⟨.none,.stLc 3 2,[.l 3,.t 16],some 3,none⟩]
def a32s4 : ACode := .reg [] a32r3
def a32s5 : ACode := .seq a32s4 .ret
def a32s6 : ACode := .test [] a32r2 (.t 15) a32s5 .skip
def a32r7 : List AOper := [
 op (.t 17) (.fad 2) [.l 2],
 ⟨.v 6,.ldLc 2 false 1,[.t 17],some 2,none⟩,
 op (.v 7) .lenL [.v 6],
 op (.v 8) .mv [.c (.int .i64 0)]]
def a32s8 : ACode := .reg [] a32r7
def a32r9 : List AOper := [
 op (.t 21) (.bin .lss) [.v 8,.v 7]]
def a32s10 : ACode := .test [] a32r9 (.t 21) .skip (.exit 0)
def a32r11 : List AOper := [
 op (.t 22) (.iad 11) [.v 6,.v 8],
 op (.t 23) (.ldRo true 11) [.t 22],
 ⟨.bx,.alloc [.str [],.list true [],.str [],.list true [],.bool false,.bool false,.int .u8 0,.int .i64 0,.str [],.list true [],.list true []],[],some 4,none⟩,
 ⟨.none,.stLc 4 11,[.l 4,.ts 23],some 4,none⟩]
def a32s12 : ACode := .reg [4] a32r11
def a32r13 : List AOper := [
 op (.t 24) (.fad 1) [.l 4],
 ⟨.t 25,.ldLc 4 false 1,[.t 24],some 4,none⟩,
 op (.t 26) .lenL [.t 25],
 op (.t 27) (.bin .eql) [.t 26,.c (.int .i64 0)],
 op (.v 5) .mv [.t 27]]
def a32s14 : ACode := .reg [] a32r13
def a32r15 : List AOper := [
 op (.t 28) (.fad 1) [.l 2],
 ⟨.v 9,.ldLc 2 false 1,[.t 28],some 2,none⟩]
def a32s16 : ACode := .reg [] a32r15
def a32r17 : List AOper := [
 op (.t 31) (.bin .eql) [.v 9,.c (.str [81,117,101,114,121])],
 op (.t 30) .mv [.t 31]]
def a32r18 : List AOper := [
 op (.t 32) .mv [.v 0],
 ⟨.t 33,.ldLc 4 true 11,[.l 4],some 4,none⟩,
 op (.t 34) (.call 53) [.t 32,.t 33],
 op (.t 35) .mv [.t 34],
 ⟨.t 36,.mv,[.v 0],none,some (.t 35,false)⟩,
 ⟨.t 37,.ldLc 4 true 11,[.l 4],some 4,some (.t 35,false)⟩,
 ⟨.t 38,.call 54,[.t 36,.t 37],none,some (.t 35,false)⟩,
 op (.t 39) .pick [.t 35,.c (.bool true),.t 38],
 op (.v 5) .mv [.t 39]]
def a32s19 : ACode := .reg [] a32r18
def a32r20 : List AOper := [
 op (.t 41) (.bin .eql) [.v 9,.c (.str [77,117,116,97,116,105,111,110])],
 op (.t 40) .mv [.t 41]]
def a32r21 : List AOper := [
 op (.t 42) (.fad 0) [.l 2],
 ⟨.t 43,.ldLc 2 false 1,[.t 42],some 2,none⟩,
 op (.t 44) (.bin .eql) [.t 43,.c (.int .u8 1)],
 op (.t 45) .mv [.t 44],
 ⟨.t 46,.mv,[.v 0],none,some (.t 45,true)⟩,
 ⟨.t 47,.ldLc 4 true 11,[.l 4],some 4,some (.t 45,true)⟩,
 ⟨.t 48,.call 55,[.t 46,.t 47],none,some (.t 45,true)⟩,
 op (.t 49) .pick [.t 45,.t 48,.c (.bool false)],
 op (.v 5) .mv [.t 49]]
def a32s22 : ACode := .reg [] a32r21
def a32s23 : ACode := .test [] a32r20 (.t 40) a32s22 .skip
def a32s24 : ACode := .test [] a32r17 (.t 30) a32s19 a32s23
def a32s25 : ACode := .blk 2 a32s24
def a32s26 : ACode := .seq a32s16 a32s25
def a32r27 : List AOper := [
 op (.t 50) .mv [.v 5],
 op (.t 51) (.un .not) [.t 50]]
def a32r28 : List AOper := [
 op (.t 52) (.fad 0) [.l 4],
 ⟨.t 53,.ldLc 4 false 1,[.t 52],some 4,none⟩,
 op (.t 54) (.build [.int .i64 0,.str []] [(0,1),(1,1)]) [.c (.int .i64 3),.t 53],
 ⟨.none,.stLc 3 2,[.l 3,.t 54],some 3,none⟩]
def a32s29 : ACode := .reg [] a32r28
def a32s30 : ACode := .seq a32s29 .ret
def a32s31 : ACode := .test [] a32r27 (.t 51) a32s30 .skip
def a32s32 : ACode := .seq a32s26 a32s31
def a32s33 : ACode := .seq a32s14 a32s32
def a32s34 : ACode := .seq a32s12 a32s33
def a32s35 : ACode := .blk 1 a32s34
def a32r36 : List AOper := [
 op (.t 55) (.bin .add) [.v 8,.c (.int .i64 1)],
 op (.v 8) .mv [.t 55]]
def a32s37 : ACode := .reg [] a32r36
def a32s38 : ACode := .seq a32s35 a32s37
def a32s39 : ACode := .seq a32s10 a32s38
def a32s40 : ACode := .loop a32s39
def a32s41 : ACode := .blk 0 a32s40
def a32s42 : ACode := .seq a32s8 a32s41
def a32r43 : List AOper := [
 op (.t 56) (.build [.int .i64 0,.str []] []) [],
 ⟨.none,.stLc 3 2,[.l 3,.t 56],some 3,none⟩]
def a32s44 : ACode := .reg [] a32r43
def a32s45 : ACode := .seq a32s44 .ret
def a32s46 : ACode := .seq a32s42 a32s45
def a32s47 : ACode := .seq a32s6 a32s46
def a32s48 : ACode := .seq a32s1 a32s47
def a32c : ACode :=
  a32s48
def a32 : AFn := { np := 2,nv := 10,results := [.bx 3 true 2],code := a32c }
def a32v : List Nat := [0,1,3,4,6,7,18,19,20,29]
def a32b : List Nat := [2,3,4]

def a33 : AFn := { np := 1,nv := 0,results := [],code := .skip,ext := some (cloneX 1 16) }
def a34r0 : List AOper := [
 op (.v 1) .mv [.c (.bool false)]]
def a34s1 : ACode := .reg [] a34r0
def a34r2 : List AOper := [
 op (.t 3) .mv [.v 0],
 op (.t 4) (.bin .eql) [.t 3,.c (.str [81,117,101,114,121])],
 op (.t 5) .mv [.t 4],
 ⟨.t 6,.mv,[.v 0],none,some (.t 5,false)⟩,
 ⟨.t 7,.bin .eql,[.t 6,.c (.str [77,117,116,97,116,105,111,110])],none,some (.t 5,false)⟩,
 op (.t 8) .pick [.t 5,.c (.bool true),.t 7],
 op (.v 1) .mv [.t 8]]
def a34s3 : ACode := .reg [] a34r2
def a34s4 : ACode := .seq a34s3 .ret
def a34s5 : ACode := .seq a34s1 a34s4
def a34c : ACode :=
  a34s5
def a34 : AFn := { np := 1,nv := 2,results := [.v 1],code := a34c }
def a34v : List Nat := [0,2]
def a34b : List Nat := []

def a35r0 : List AOper := [
 op (.v 3) .mv [.c (.bool false)]]
def a35s1 : ACode := .reg [] a35r0
def a35r2 : List AOper := [
 op (.t 10) .mv [.v 0],
 op (.t 11) .mv [.v 1],
 op (.t 12) (.call 15) [.t 10,.t 11],
 op (.t 9) .mv [.t 12],
 op (.t 13) (.ext 0) [.t 9],
 op (.t 14) (.ext 1) [.t 9],
 ⟨.bx,.alloc [.int .u8 0,.str [],.list true [],.list true []],[],some 4,none⟩,
 ⟨.none,.stLc 4 4,[.l 4,.ts 13],some 4,none⟩,
 op (.v 5) .mv [.t 14]]
def a35s3 : ACode := .reg [4] a35r2
def a35r4 : List AOper := [
 op (.t 15) .mv [.v 5],
 op (.t 16) .mv [.t 15],
 ⟨.t 17,.fad 0,[.l 4],none,some (.t 16,true)⟩,
 ⟨.t 18,.ldLc 4 false 1,[.t 17],some 4,some (.t 16,true)⟩,
 ⟨.t 19,.mv,[.v 2],none,some (.t 16,true)⟩,
 ⟨.t 20,.bin .eql,[.t 18,.t 19],none,some (.t 16,true)⟩,
 op (.t 21) .pick [.t 16,.t 20,.c (.bool false)],
 op (.v 3) .mv [.t 21]]
def a35s5 : ACode := .reg [] a35r4
def a35s6 : ACode := .seq a35s5 .ret
def a35s7 : ACode := .seq a35s3 a35s6
def a35s8 : ACode := .seq a35s1 a35s7
def a35c : ACode :=
  a35s8
def a35 : AFn := { np := 3,nv := 6,results := [.v 3],code := a35c }
def a35v : List Nat := [0,1,2,6,7,8]
def a35b : List Nat := [4]

def a36r0 : List AOper := [
 op (.v 2) .mv [.c (.int .i64 0)]]
def a36s1 : ACode := .reg [] a36r0
def a36r2 : List AOper := [
 op (.t 6) .mv [.v 0],
 op (.v 4) .lenL [.t 6],
 op (.v 5) .mv [.c (.int .i64 0)]]
def a36s3 : ACode := .reg [] a36r2
def a36r4 : List AOper := [
 op (.t 9) (.bin .lss) [.v 5,.v 4]]
def a36s5 : ACode := .test [] a36r4 (.t 9) .skip (.exit 0)
def a36r6 : List AOper := [
 op (.t 10) .mv [.v 5],
 op (.v 3) .mv [.t 10]]
def a36s7 : ACode := .reg [] a36r6
def a36r8 : List AOper := [
 op (.t 11) .mv [.v 1],
 op (.t 12) .mv [.v 0],
 op (.t 13) .mv [.v 3],
 op (.t 14) (.iad 1) [.t 12,.t 13],
 op (.t 15) (.ldRo false 1) [.t 14],
 op (.t 16) (.bin .eql) [.t 11,.t 15]]
def a36r9 : List AOper := [
 op (.t 17) .mv [.v 3],
 op (.v 2) .mv [.t 17]]
def a36s10 : ACode := .reg [] a36r9
def a36s11 : ACode := .seq a36s10 .ret
def a36s12 : ACode := .test [] a36r8 (.t 16) a36s11 .skip
def a36s13 : ACode := .seq a36s7 a36s12
def a36s14 : ACode := .blk 1 a36s13
def a36r15 : List AOper := [
 op (.t 18) (.bin .add) [.v 5,.c (.int .i64 1)],
 op (.v 5) .mv [.t 18]]
def a36s16 : ACode := .reg [] a36r15
def a36s17 : ACode := .seq a36s14 a36s16
def a36s18 : ACode := .seq a36s5 a36s17
def a36s19 : ACode := .loop a36s18
def a36s20 : ACode := .blk 0 a36s19
def a36s21 : ACode := .seq a36s3 a36s20
def a36r22 : List AOper := [
 op (.v 2) .mv [.c (.int .i64 (-1))]]
def a36s23 : ACode := .reg [] a36r22
def a36s24 : ACode := .seq a36s23 .ret
def a36s25 : ACode := .seq a36s21 a36s24
def a36s26 : ACode := .seq a36s1 a36s25
def a36c : ACode :=
  a36s26
def a36 : AFn := { np := 2,nv := 6,results := [.v 2],code := a36c }
def a36v : List Nat := [0,1,4,5,7,8]
def a36b : List Nat := []

def a37r0 : List AOper := [
 op (.v 1) .mv [.c (.list true [])]]
def a37s1 : ACode := .reg [] a37r0
def a37r2 : List AOper := [
 op (.v 2) .mv [.c (.list true [])]]
def a37s3 : ACode := .reg [] a37r2
def a37r4 : List AOper := [
 op (.v 4) .mv [.v 0],
 op (.v 5) .lenL [.v 4],
 op (.v 6) .mv [.c (.int .i64 0)]]
def a37s5 : ACode := .reg [] a37r4
def a37r6 : List AOper := [
 op (.t 9) (.bin .lss) [.v 6,.v 5]]
def a37s7 : ACode := .test [] a37r6 (.t 9) .skip (.exit 0)
def a37r8 : List AOper := [
 op (.t 10) (.iad 11) [.v 4,.v 6],
 op (.t 11) (.ldRo true 11) [.t 10],
 ⟨.bx,.alloc [.str [],.list true [],.str [],.list true [],.bool false,.bool false,.int .u8 0,.int .i64 0,.str [],.list true [],.list true []],[],some 3,none⟩,
 ⟨.none,.stLc 3 11,[.l 3,.ts 11],some 3,none⟩]
def a37s9 : ACode := .reg [3] a37r8
def a37r10 : List AOper := [
 op (.t 12) .mv [.vs 2],
 op (.t 13) (.fad 0) [.l 3],
 ⟨.t 14,.ldLc 3 false 1,[.t 13],some 3,none⟩,
 op (.t 15) (.bslice 1 [[.str []]] [0]) [.t 14],
 op (.t 16) (.app 1 16) [.ts 12,.t 15],
 op (.v 2) .mv [.ts 16]]
def a37s11 : ACode := .reg [] a37r10
def a37s12 : ACode := .seq a37s9 a37s11
def a37s13 : ACode := .blk 1 a37s12
def a37r14 : List AOper := [
 op (.t 17) (.bin .add) [.v 6,.c (.int .i64 1)],
 op (.v 6) .mv [.t 17]]
def a37s15 : ACode := .reg [] a37r14
def a37s16 : ACode := .seq a37s13 a37s15
def a37s17 : ACode := .seq a37s7 a37s16
def a37s18 : ACode := .loop a37s17
def a37s19 : ACode := .blk 0 a37s18
def a37s20 : ACode := .seq a37s5 a37s19
def a37r21 : List AOper := [
 op (.t 18) .mv [.vs 2],
 op (.v 1) .mv [.ts 18]]
def a37s22 : ACode := .reg [] a37r21
def a37s23 : ACode := .seq a37s22 .ret
def a37s24 : ACode := .seq a37s20 a37s23
def a37s25 : ACode := .seq a37s3 a37s24
def a37s26 : ACode := .seq a37s1 a37s25
def a37c : ACode :=
  a37s26
def a37 : AFn := { np := 1,nv := 7,results := [.vs 1],code := a37c }
def a37v : List Nat := [0,2,3,5,6,7,8]
def a37b : List Nat := [3]

def a38r0 : List AOper := [
 op (.v 3) .mv [.c (.bool false)]]
def a38s1 : ACode := .reg [] a38r0
def a38r2 : List AOper := [
 op (.t 10) .mv [.v 0],
 op (.t 11) .lenL [.t 10],
 op (.t 12) .mv [.v 1],
 op (.t 13) .lenL [.t 12],
 op (.t 14) (.bin .neq) [.t 11,.t 13]]
def a38r3 : List AOper := [
 op (.v 3) .mv [.c (.bool false)]]
def a38s4 : ACode := .reg [] a38r3
def a38s5 : ACode := .seq a38s4 .ret
def a38s6 : ACode := .test [] a38r2 (.t 14) a38s5 .skip
def a38r7 : List AOper := [
 op (.v 7) .mv [.v 0],
 op (.v 8) .lenL [.v 7],
 op (.v 9) .mv [.c (.int .i64 0)]]
def a38s8 : ACode := .reg [] a38r7
def a38r9 : List AOper := [
 op (.t 18) (.bin .lss) [.v 9,.v 8]]
def a38s10 : ACode := .test [] a38r9 (.t 18) .skip (.exit 0)
def a38r11 : List AOper := [
 op (.t 19) .mv [.v 9],
 op (.t 20) (.iad 3) [.v 7,.v 9],
 op (.t 21) (.ldRo true 3) [.t 20],
 ⟨.bx,.alloc [.str [],.list true [],.bool false],[],some 5,none⟩,
 op (.v 4) .mv [.t 19],
 ⟨.none,.stLc 5 3,[.l 5,.ts 21],some 5,none⟩]
def a38s12 : ACode := .reg [5] a38r11
def a38r13 : List AOper := [
 op (.t 22) .mv [.v 1],
 op (.t 23) .mv [.v 4],
 op (.t 24) (.iad 3) [.t 22,.t 23],
 op (.t 25) (.ldRo true 3) [.t 24],
 ⟨.bx,.alloc [.str [],.list true [],.bool false],[],some 6,none⟩,
 ⟨.none,.stLc 6 3,[.l 6,.ts 25],some 6,none⟩]
def a38s14 : ACode := .reg [6] a38r13
def a38r15 : List AOper := [
 op (.t 26) .mv [.v 2],
 ⟨.t 27,.ldLc 5 true 3,[.l 5],some 5,none⟩,
 ⟨.t 28,.ldLc 6 true 3,[.l 6],some 6,none⟩,
 op (.t 29) .callV [.t 26,.t 27,.t 28],
 op (.t 30) (.un .not) [.t 29]]
def a38r16 : List AOper := [
 op (.v 3) .mv [.c (.bool false)]]
def a38s17 : ACode := .reg [] a38r16
def a38s18 : ACode := .seq a38s17 .ret
def a38s19 : ACode := .test [] a38r15 (.t 30) a38s18 .skip
def a38s20 : ACode := .seq a38s14 a38s19
def a38s21 : ACode := .seq a38s12 a38s20
def a38s22 : ACode := .blk 1 a38s21
def a38r23 : List AOper := [
 op (.t 31) (.bin .add) [.v 9,.c (.int .i64 1)],
 op (.v 9) .mv [.t 31]]
def a38s24 : ACode := .reg [] a38r23
def a38s25 : ACode := .seq a38s22 a38s24
def a38s26 : ACode := .seq a38s10 a38s25
def a38s27 : ACode := .loop a38s26
def a38s28 : ACode := .blk 0 a38s27
def a38s29 : ACode := .seq a38s8 a38s28
def a38r30 : List AOper := [
 op (.v 3) .mv [.c (.bool true)]]
def a38s31 : ACode := .reg [] a38r30
def a38s32 : ACode := .seq a38s31 .ret
def a38s33 : ACode := .seq a38s29 a38s32
def a38s34 : ACode := .seq a38s6 a38s33
def a38s35 : ACode := .seq a38s1 a38s34
def a38c : ACode :=
  a38s35
def a38 : AFn := { np := 3,nv := 10,results := [.v 3],code := a38c }
def a38v : List Nat := [0,1,2,6,7,8,9,15,16,17]
def a38b : List Nat := [5,6]

def a40r0 : List AOper := [
 ⟨.bx,.alloc [.int .u8 0,.str [],.int .i64 0,.int .i64 0],[],some 2,none⟩,
 op (.v 3) .mv [.c (.int .i64 0)],
 op (.v 4) .mv [.c (.int .i64 0)],
 op (.v 5) .mv [.c (.int .i64 0)]]
def a40s1 : ACode := .reg [2] a40r0
def a40r2 : List AOper := [
 op (.t 10) .mv [.v 0],
 op (.t 11) .mv [.v 1],
 op (.t 12) .idxS [.t 10,.t 11],
 op (.v 6) .mv [.t 12]]
def a40s3 : ACode := .reg [] a40r2
def a40r4 : List AOper := [
 op (.t 13) .mv [.v 1],
 op (.v 7) .mv [.t 13]]
def a40s5 : ACode := .reg [] a40r4
def a40r6 : List AOper := [
 op (.t 15) .mv [.v 6],
 op (.t 16) (.call 56) [.t 15],
 op (.t 14) .mv [.t 16]]
def a40r7 : List AOper := [
 op (.t 17) .mv [.v 7],
 op (.t 18) .mv [.v 0],
 op (.t 19) .lenS [.t 18],
 op (.t 20) (.bin .lss) [.t 17,.t 19],
 op (.t 21) .mv [.t 20],
 ⟨.t 22,.mv,[.v 0],none,some (.t 21,true)⟩,
 ⟨.t 23,.mv,[.v 7],none,some (.t 21,true)⟩,
 ⟨.t 24,.idxS,[.t 22,.t 23],none,some (.t 21,true)⟩,
 ⟨.t 25,.call 56,[.t 24],none,some (.t 21,true)⟩,
 ⟨.t 26,.mv,[.t 25],none,some (.t 21,true)⟩,
 ⟨.t 27,.mv,[.v 0],none,some (.t 26,false)⟩,
 ⟨.t 28,.mv,[.v 7],none,some (.t 26,false)⟩,
 ⟨.t 29,.idxS,[.t 27,.t 28],none,some (.t 26,false)⟩,
 ⟨.t 30,.call 57,[.t 29],none,some (.t 26,false)⟩,
 ⟨.t 31,.pick,[.t 26,.c (.bool true),.t 30],none,some (.t 21,true)⟩,
 op (.t 32) .pick [.t 21,.t 31,.c (.bool false)]]
def a40s8 : ACode := .test [] a40r7 (.t 32) .skip (.exit 1)
def a40r9 : List AOper := [
 op (.t 33) .mv [.v 7],
 op (.t 34) (.bin .add) [.t 33,.c (.int .i64 1)],
 op (.v 7) .mv [.t 34]]
def a40s10 : ACode := .reg [] a40r9
def a40s11 : ACode := .blk 2 a40s10
def a40s12 : ACode := .seq a40s8 a40s11
def a40s13 : ACode := .loop a40s12
def a40s14 : ACode := .blk 1 a40s13
def a40r15 : List AOper := [
 op (.t 35) .mv [.v 7],
 op (.t 36) .mv [.v 1],
 op (.t 37) (.bin .sub) [.t 35,.t 36],
 op (.t 38) (.bin .gtr) [.t 37,.c (.int .i64 32)]]
def a40r16 : List AOper := [
 op (.t 39) (.build [.int .u8 0,.str [],.int .i64 0,.int .i64 0] []) [],
 op (.t 40) .mv [.v 1],
 ⟨.none,.stLc 2 4,[.l 2,.t 39],some 2,none⟩,
 op (.v 3) .mv [.c (.int .i64 0)],
 op (.v 4) .mv [.t 40],
 op (.v 5) .mv [.c (.int .i64 2)]]
def a40s17 : ACode := .reg [] a40r16
def a40s18 : ACode := .seq a40s17 .ret
def a40s19 : ACode := .test [] a40r15 (.t 38) a40s18 .skip
def a40r20 : List AOper := [
 op (.t 41) .mv [.v 0],
 op (.t 42) .mv [.v 1],
 op (.t 43) .mv [.v 7],
 op (.t 44) (.slS true true) [.t 41,.t 42,.t 43],
 op (.t 45) (.build [.int .u8 0,.str [],.int .i64 0,.int .i64 0] [(0,1),(1,1)]) [.c (.int .u8 1),.t 44],
 op (.t 46) .mv [.v 7],
 ⟨.none,.stLc 2 4,[.l 2,.t 45],some 2,none⟩,
 op (.v 3) .mv [.t 46],
 op (.v 4) .mv [.c (.int .i64 0)],
 op (.v 5) .mv [.c (.int .i64 0)]]
def a40s21 : ACode := .reg [] a40r20
def a40s22 : ACode := .seq a40s21 .ret
def a40s23 : ACode := .seq a40s19 a40s22
def a40s24 : ACode := .seq a40s14 a40s23
def a40r25 : List AOper := [
 op (.t 48) .mv [.v 6],
 op (.t 49) (.bin .eql) [.t 48,.c (.int .u8 45)],
 op (.t 50) .mv [.t 49],
 ⟨.t 51,.mv,[.v 6],none,some (.t 50,false)⟩,
 ⟨.t 52,.call 57,[.t 51],none,some (.t 50,false)⟩,
 op (.t 53) .pick [.t 50,.c (.bool true),.t 52],
 op (.t 47) .mv [.t 53]]
def a40r26 : List AOper := [
 op (.t 54) .mv [.v 0],
 op (.t 55) .mv [.v 1],
 op (.t 56) (.call 58) [.t 54,.t 55],
 op (.t 57) (.ext 0) [.t 56],
 op (.t 58) (.ext 1) [.t 56],
 op (.t 59) (.ext 2) [.t 56],
 op (.t 60) (.ext 3) [.t 56],
 ⟨.none,.stLc 2 4,[.l 2,.t 57],some 2,none⟩,
 op (.v 3) .mv [.t 58],
 op (.v 4) .mv [.t 59],
 op (.v 5) .mv [.t 60]]
def a40s27 : ACode := .reg [] a40r26
def a40s28 : ACode := .seq a40s27 .ret
def a40r29 : List AOper := [
 op (.t 62) .mv [.v 6],
 op (.t 63) (.bin .eql) [.t 62,.c (.int .u8 34)],
 op (.t 61) .mv [.t 63]]
def a40r30 : List AOper := [
 op (.t 64) .mv [.v 0],
 op (.t 65) .mv [.v 1],
 op (.t 66) (.call 59) [.t 64,.t 65],
 op (.t 67) (.ext 0) [.t 66],
 op (.t 68) (.ext 1) [.t 66],
 op (.t 69) (.ext 2) [.t 66],
 op (.t 70) (.ext 3) [.t 66],
 ⟨.none,.stLc 2 4,[.l 2,.t 67],some 2,none⟩,
 op (.v 3) .mv [.t 68],
 op (.v 4) .mv [.t 69],
 op (.v 5) .mv [.t 70]]
def a40s31 : ACode := .reg [] a40r30
def a40s32 : ACode := .seq a40s31 .ret
def a40r33 : List AOper := [
 op (.t 72) .mv [.v 6],
 op (.t 73) (.bin .eql) [.t 72,.c (.int .u8 46)],
 op (.t 71) .mv [.t 73]]
def a40r34 : List AOper := [
 op (.t 74) .mv [.v 0],
 op (.t 75) .lenS [.t 74],
 op (.t 76) .mv [.v 1],
 op (.t 77) (.bin .sub) [.t 75,.t 76],
 op (.t 78) (.bin .geq) [.t 77,.c (.int .i64 3)],
 op (.t 79) .mv [.t 78],
 ⟨.t 80,.mv,[.v 0],none,some (.t 79,true)⟩,
 ⟨.t 81,.mv,[.v 1],none,some (.t 79,true)⟩,
 ⟨.t 82,.bin .add,[.t 81,.c (.int .i64 1)],none,some (.t 79,true)⟩,
 ⟨.t 83,.idxS,[.t 80,.t 82],none,some (.t 79,true)⟩,
 ⟨.t 84,.bin .eql,[.t 83,.c (.int .u8 46)],none,some (.t 79,true)⟩,
 op (.t 85) .pick [.t 79,.t 84,.c (.bool false)],
 op (.t 86) .mv [.t 85],
 ⟨.t 87,.mv,[.v 0],none,some (.t 86,true)⟩,
 ⟨.t 88,.mv,[.v 1],none,some (.t 86,true)⟩,
 ⟨.t 89,.bin .add,[.t 88,.c (.int .i64 2)],none,some (.t 86,true)⟩,
 ⟨.t 90,.idxS,[.t 87,.t 89],none,some (.t 86,true)⟩,
 ⟨.t 91,.bin .eql,[.t 90,.c (.int .u8 46)],none,some (.t 86,true)⟩,
 op (.t 92) .pick [.t 86,.t 91,.c (.bool false)]]
def a40r35 : List AOper := [
 op (.t 93) (.build [.int .u8 0,.str [],.int .i64 0,.int .i64 0] [(0,1),(1,1)]) [.c (.int .u8 4),.c (.str [46,46,46])],
 op (.t 94) .mv [.v 1],
 op (.t 95) (.bin .add) [.t 94,.c (.int .i64 3)],
 ⟨.none,.stLc 2 4,[.l 2,.t 93],some 2,none⟩,
 op (.v 3) .mv [.t 95],
 op (.v 4) .mv [.c (.int .i64 0)],
 op (.v 5) .mv [.c (.int .i64 0)]]
def a40s36 : ACode := .reg [] a40r35
def a40s37 : ACode := .seq a40s36 .ret
def a40s38 : ACode := .test [] a40r34 (.t 92) a40s37 .skip
def a40r39 : List AOper := [
 op (.t 96) (.build [.int .u8 0,.str [],.int .i64 0,.int .i64 0] []) [],
 op (.t 97) .mv [.v 1],
 ⟨.none,.stLc 2 4,[.l 2,.t 96],some 2,none⟩,
 op (.v 3) .mv [.c (.int .i64 0)],
 op (.v 4) .mv [.t 97],
 op (.v 5) .mv [.c (.int .i64 4)]]
def a40s40 : ACode := .reg [] a40r39
def a40s41 : ACode := .seq a40s40 .ret
def a40s42 : ACode := .seq a40s38 a40s41
def a40r43 : List AOper := [
 op (.t 99) .mv [.v 6],
 op (.t 100) (.bin .eql) [.t 99,.c (.int .u8 33)],
 op (.t 101) .mv [.t 100],
 ⟨.t 102,.mv,[.v 6],none,some (.t 101,false)⟩,
 ⟨.t 103,.bin .eql,[.t 102,.c (.int .u8 36)],none,some (.t 101,false)⟩,
 op (.t 104) .pick [.t 101,.c (.bool true),.t 103],
 op (.t 105) .mv [.t 104],
 ⟨.t 106,.mv,[.v 6],none,some (.t 105,false)⟩,
 ⟨.t 107,.bin .eql,[.t 106,.c (.int .u8 40)],none,some (.t 105,false)⟩,
 op (.t 108) .pick [.t 105,.c (.bool true),.t 107],
 op (.t 109) .mv [.t 108],
 ⟨.t 110,.mv,[.v 6],none,some (.t 109,false)⟩,
 ⟨.t 111,.bin .eql,[.t 110,.c (.int .u8 41)],none,some (.t 109,false)⟩,
 op (.t 112) .pick [.t 109,.c (.bool true),.t 111],
 op (.t 113) .mv [.t 112],
 ⟨.t 114,.mv,[.v 6],none,some (.t 113,false)⟩,
 ⟨.t 115,.bin .eql,[.t 114,.c (.int .u8 58)],none,some (.t 113,false)⟩,
 op (.t 116) .pick [.t 113,.c (.bool true),.t 115],
 op (.t 117) .mv [.t 116],
 ⟨.t 118,.mv,[.v 6],none,some (.t 117,false)⟩,
 ⟨.t 119,.bin .eql,[.t 118,.c (.int .u8 61)],none,some (.t 117,false)⟩,
 op (.t 120) .pick [.t 117,.c (.bool true),.t 119],
 op (.t 121) .mv [.t 120],
 ⟨.t 122,.mv,[.v 6],none,some (.t 121,false)⟩,
 ⟨.t 123,.bin .eql,[.t 122,.c (.int .u8 64)],none,some (.t 121,false)⟩,
 op (.t 124) .pick [.t 121,.c (.bool true),.t 123],
 op (.t 125) .mv [.t 124],
 ⟨.t 126,.mv,[.v 6],none,some (.t 125,false)⟩,
 ⟨.t 127,.bin .eql,[.t 126,.c (.int .u8 91)],none,some (.t 125,false)⟩,
 op (.t 128) .pick [.t 125,.c (.bool true),.t 127],
 op (.t 129) .mv [.t 128],
 ⟨.t 130,.mv,[.v 6],none,some (.t 129,false)⟩,
 ⟨.t 131,.bin .eql,[.t 130,.c (.int .u8 93)],none,some (.t 129,false)⟩,
 op (.t 132) .pick [.t 129,.c (.bool true),.t 131],
 op (.t 133) .mv [.t 132],
 ⟨.t 134,.mv,[.v 6],none,some (.t 133,false)⟩,
 ⟨.t 135,.bin .eql,[.t 134,.c (.int .u8 123)],none,some (.t 133,false)⟩,
 op (.t 136) .pick [.t 133,.c (.bool true),.t 135],
 op (.t 137) .mv [.t 136],
 ⟨.t 138,.mv,[.v 6],none,some (.t 137,false)⟩,
 ⟨.t 139,.bin .eql,[.t 138,.c (.int .u8 124)],none,some (.t 137,false)⟩,
 op (.t 140) .pick [.t 137,.c (.bool true),.t 139],
 op (.t 141) .mv [.t 140],
 ⟨.t 142,.mv,[.v 6],none,some (.t 141,false)⟩,
 ⟨.t 143,.bin .eql,[.t 142,.c (.int .u8 125)],none,some (.t 141,false)⟩,
 op (.t 144) .pick [.t 141,.c (.bool true),.t 143],
 op (.t 145) .mv [.t 144],
 ⟨.t 146,.mv,[.v 6],none,some (.t 145,false)⟩,
 ⟨.t 147,.bin .eql,[.t 146,.c (.int .u8 38)],none,some (.t 145,false)⟩,
 op (.t 148) .pick [.t 145,.c (.bool true),.t 147],
 op (.t 98) .mv [.t 148]]
def a40r44 : List AOper := [
 op (.t 149) .mv [.v 0],
 op (.t 150) .mv [.v 1],
 op (.t 151) .mv [.v 1],
 op (.t 152) (.bin .add) [.t 151,.c (.int .i64 1)],
 op (.t 153) (.slS true true) [.t 149,.t 150,.t 152],
 op (.t 154) (.build [.int .u8 0,.str [],.int .i64 0,.int .i64 0] [(0,1),(1,1)]) [.c (.int .u8 4),.t 153],
 op (.t 155) .mv [.v 1],
 op (.t 156) (.bin .add) [.t 155,.c (.int .i64 1)],
 ⟨.none,.stLc 2 4,[.l 2,.t 154],some 2,none⟩,
 op (.v 3) .mv [.t 156],
 op (.v 4) .mv [.c (.int .i64 0)],
 op (.v 5) .mv [.c (.int .i64 0)]]
def a40s45 : ACode := .reg [] a40r44
def a40s46 : ACode := .seq a40s45 .ret
def a40s47 : ACode := .test [] a40r43 (.t 98) a40s46 .skip
def a40s48 : ACode := .test [] a40r33 (.t 71) a40s42 a40s47
def a40s49 : ACode := .test [] a40r29 (.t 61) a40s32 a40s48
def a40s50 : ACode := .test [] a40r25 (.t 47) a40s28 a40s49
def a40s51 : ACode := .test [] a40r6 (.t 14) a40s24 a40s50
def a40s52 : ACode := .blk 0 a40s51
def a40r53 : List AOper := [
 op (.t 157) (.build [.int .u8 0,.str [],.int .i64 0,.int .i64 0] []) [],
 op (.t 158) .mv [.v 1],
 ⟨.none,.stLc 2 4,[.l 2,.t 157],some 2,none⟩,
 op (.v 3) .mv [.c (.int .i64 0)],
 op (.v 4) .mv [.t 158],
 op (.v 5) .mv [.c (.int .i64 4)]]
def a40s54 : ACode := .reg [] a40r53
def a40s55 : ACode := .seq a40s54 .ret
def a40s56 : ACode := .seq a40s52 a40s55
def a40s57 : ACode := .seq a40s5 a40s56
def a40s58 : ACode := .seq a40s3 a40s57
def a40s59 : ACode := .seq a40s1 a40s58
def a40c : ACode :=
  a40s59
def a40 : AFn := { np := 2,nv := 8,results := [.bx 2 true 4,.v 3,.v 4,.v 5],code := a40c }
def a40v : List Nat := [0,1,4,5,6,7,8,9]
def a40b : List Nat := [2]

def a41r0 : List AOper := [
 op (.v 2) .mv [.c (.bool false)]]
def a41s1 : ACode := .reg [] a41r0
def a41r2 : List AOper := [
 op (.t 5) .mv [.v 0],
 op (.t 6) .nilchk [.t 5],
 op (.t 7) (.fad 4) [.t 6],
 op (.t 8) (.ldSt false 1) [.t 7],
 op (.t 9) (.bin .eql) [.t 8,.c (.int .i64 0)],
 op (.t 10) .mv [.t 9],
 ⟨.t 11,.mv,[.v 0],none,some (.t 10,true)⟩,
 ⟨.t 12,.nilchk,[.t 11],none,some (.t 10,true)⟩,
 ⟨.t 13,.fad 0,[.t 12],none,some (.t 10,true)⟩,
 ⟨.t 14,.ldSt false 1,[.t 13],none,some (.t 10,true)⟩,
 ⟨.t 15,.mv,[.v 0],none,some (.t 10,true)⟩,
 ⟨.t 16,.nilchk,[.t 15],none,some (.t 10,true)⟩,
 ⟨.t 17,.fad 1,[.t 16],none,some (.t 10,true)⟩,
 ⟨.t 18,.ldSt false 1,[.t 17],none,some (.t 10,true)⟩,
 ⟨.t 19,.iad 4,[.t 14,.t 18],none,some (.t 10,true)⟩,
 ⟨.t 20,.fad 0,[.t 19],none,some (.t 10,true)⟩,
 ⟨.t 21,.ldRo false 1,[.t 20],none,some (.t 10,true)⟩,
 ⟨.t 22,.bin .eql,[.t 21,.c (.int .u8 1)],none,some (.t 10,true)⟩,
 op (.t 23) .pick [.t 10,.t 22,.c (.bool false)],
 op (.t 24) .mv [.t 23],
 ⟨.t 25,.mv,[.v 0],none,some (.t 24,true)⟩,
 ⟨.t 26,.nilchk,[.t 25],none,some (.t 24,true)⟩,
 ⟨.t 27,.fad 0,[.t 26],none,some (.t 24,true)⟩,
 ⟨.t 28,.ldSt false 1,[.t 27],none,some (.t 24,true)⟩,
 ⟨.t 29,.mv,[.v 0],none,some (.t 24,true)⟩,
 ⟨.t 30,.nilchk,[.t 29],none,some (.t 24,true)⟩,
 ⟨.t 31,.fad 1,[.t 30],none,some (.t 24,true)⟩,
 ⟨.t 32,.ldSt false 1,[.t 31],none,some (.t 24,true)⟩,
 ⟨.t 33,.iad 4,[.t 28,.t 32],none,some (.t 24,true)⟩,
 ⟨.t 34,.fad 1,[.t 33],none,some (.t 24,true)⟩,
 ⟨.t 35,.ldRo false 1,[.t 34],none,some (.t 24,true)⟩,
 ⟨.t 36,.mv,[.v 1],none,some (.t 24,true)⟩,
 ⟨.t 37,.bin .eql,[.t 35,.t 36],none,some (.t 24,true)⟩,
 op (.t 38) .pick [.t 24,.t 37,.c (.bool false)],
 op (.v 2) .mv [.t 38]]
def a41s3 : ACode := .reg [] a41r2
def a41s4 : ACode := .seq a41s3 .ret
def a41s5 : ACode := .seq a41s1 a41s4
def a41c : ACode :=
  a41s5
def a41 : AFn := { np := 2,nv := 3,results := [.v 2],code := a41c }
def a41v : List Nat := [0,1,4]
def a41b : List Nat := []

def a42r0 : List AOper := [
 op (.t 4) .mv [.v 0],
 op (.t 5) .nilchk [.t 4],
 op (.t 6) (.fad 4) [.t 5],
 op (.t 7) (.ldSt false 1) [.t 6],
 op (.t 8) (.bin .eql) [.t 7,.c (.int .i64 0)]]
def a42r1 : List AOper := [
 op (.t 9) .mv [.v 0],
 op (.t 10) .mv [.v 0],
 op (.t 11) .nilchk [.t 10],
 op (.t 12) (.fad 0) [.t 11],
 op (.t 13) (.ldSt false 1) [.t 12],
 op (.t 14) .mv [.v 0],
 op (.t 15) .nilchk [.t 14],
 op (.t 16) (.fad 1) [.t 15],
 op (.t 17) (.ldSt false 1) [.t 16],
 op (.t 18) (.iad 4) [.t 13,.t 17],
 op (.t 19) (.fad 3) [.t 18],
 op (.t 20) (.ldRo false 1) [.t 19],
 op (.t 21) .nilchk [.t 9],
 op (.t 22) (.fad 3) [.t 21],
 op .none (.stSt 1) [.t 22,.t 20]]
def a42s2 : ACode := .reg [] a42r1
def a42r3 : List AOper := [
 op (.t 23) .mv [.v 0],
 op (.t 24) .mv [.v 1],
 op (.t 25) .nilchk [.t 23],
 op (.t 26) (.fad 4) [.t 25],
 op .none (.stSt 1) [.t 26,.t 24]]
def a42s4 : ACode := .reg [] a42r3
def a42s5 : ACode := .seq a42s2 a42s4
def a42s6 : ACode := .test [] a42r0 (.t 8) a42s5 .skip
def a42c : ACode :=
  a42s6
def a42 : AFn := { np := 2,nv := 2,results := [],code := a42c }
def a42v : List Nat := [0,1]
def a42b : List Nat := []

def a43r0 : List AOper := [
 op (.v 1) .mv [.c (.str [])]]
def a43s1 : ACode := .reg [] a43r0
def a43r2 : List AOper := [
 op (.t 3) .mv [.v 0],
 op (.t 4) (.call 26) [.t 3,.c (.int .u8 1)],
 op (.t 5) (.un .not) [.t 4]]
def a43r3 : List AOper := [
 op (.t 6) .mv [.v 0],
 op (.t 7) (.call 42) [.t 6,.c (.int .i64 4)]]
def a43s4 : ACode := .reg [] a43r3
def a43r5 : List AOper := [
 op (.v 1) .mv [.c (.str [])]]
def a43s6 : ACode := .reg [] a43r5
def a43s7 : ACode := .seq a43s6 .ret
def a43s8 : ACode := .seq a43s4 a43s7
def a43s9 : ACode := .test [] a43r2 (.t 5) a43s8 .skip
def a43r10 : List AOper := [
 op (.t 8) .mv [.v 0],
 op (.t 9) .nilchk [.t 8],
 op (.t 10) (.fad 1) [.t 9],
 op (.t 11) (.ldSt false 1) [.t 10],
 op (.t 12) (.bin .add) [.t 11,.c (.int .i64 1)],
 op (.t 13) .nilchk [.t 8],
 op (.t 14) (.fad 1) [.t 13],
 op .none (.stSt 1) [.t 14,.t 12]]
def a43s11 : ACode := .reg [] a43r10
def a43r12 : List AOper := [
 op (.t 15) .mv [.v 0],
 op (.t 16) .nilchk [.t 15],
 op (.t 17) (.fad 0) [.t 16],
 op (.t 18) (.ldSt false 1) [.t 17],
 op (.t 19) .mv [.v 0],
 op (.t 20) .nilchk [.t 19],
 op (.t 21) (.fad 1) [.t 20],
 op (.t 22) (.ldSt false 1) [.t 21],
 op (.t 23) (.bin .sub) [.t 22,.c (.int .i64 1)],
 op (.t 24) (.iad 4) [.t 18,.t 23],
 op (.t 25) (.fad 1) [.t 24],
 op (.t 26) (.ldRo false 1) [.t 25],
 op (.v 1) .mv [.t 26]]
def a43s13 : ACode := .reg [] a43r12
def a43s14 : ACode := .seq a43s13 .ret
def a43s15 : ACode := .seq a43s11 a43s14
def a43s16 : ACode := .seq a43s9 a43s15
def a43s17 : ACode := .seq a43s1 a43s16
def a43c : ACode :=
  a43s17
def a43 : AFn := { np := 1,nv := 2,results := [.v 1],code := a43c }
def a43v : List Nat := [0,2]
def a43b : List Nat := []

def a44r0 : List AOper := [
 op (.t 4) .mv [.v 0],
 op (.t 5) .nilchk [.t 4],
 op (.t 6) (.fad 4) [.t 5],
 op (.t 7) (.ldSt false 1) [.t 6],
 op (.t 8) (.bin .eql) [.t 7,.c (.int .i64 0)],
 op (.t 9) .mv [.t 8],
 ⟨.t 10,.mv,[.v 0],none,some (.t 9,true)⟩,
 ⟨.t 11,.mv,[.v 1],none,some (.t 9,true)⟩,
 ⟨.t 12,.call 46,[.t 10,.t 11],none,some (.t 9,true)⟩,
 ⟨.t 13,.un .not,[.t 12],none,some (.t 9,true)⟩,
 op (.t 14) .pick [.t 9,.t 13,.c (.bool false)]]
def a44r1 : List AOper := [
 op (.t 15) .mv [.v 0],
 op (.t 16) (.call 42) [.t 15,.c (.int .i64 4)]]
def a44s2 : ACode := .reg [] a44r1
def a44s3 : ACode := .test [] a44r0 (.t 14) a44s2 .skip
def a44c : ACode :=
  a44s3
def a44 : AFn := { np := 2,nv := 2,results := [],code := a44c }
def a44v : List Nat := [0,1]
def a44b : List Nat := []

def a45r0 : List AOper := [
 op (.v 2) .mv [.c (.list true [])]]
def a45s1 : ACode := .reg [] a45r0
def a45r2 : List AOper := [
 op (.t 6) .mv [.v 0],
 op (.t 7) .mv [.v 1],
 op (.t 8) (.call 46) [.t 6,.t 7]]
def a45s3 : ACode := .reg [] a45r2
def a45r4 : List AOper := [
 op (.t 9) .mv [.v 0],
 op (.t 10) (.call 43) [.t 9],
 op (.t 11) (.bslice 1 [[.str []]] [0]) [.t 10],
 op (.v 3) .mv [.ts 11]]
def a45s5 : ACode := .reg [] a45r4
def a45r6 : List AOper := [
 op (.t 12) .mv [.v 0],
 op (.t 13) .mv [.v 1],
 op (.t 14) (.call 46) [.t 12,.t 13]]
def a45s7 : ACode := .test [] a45r6 (.t 14) .skip (.exit 0)
def a45r8 : List AOper := [
 op (.t 15) .mv [.vs 3],
 op (.t 16) .mv [.v 0],
 op (.t 17) (.call 43) [.t 16],
 op (.t 18) (.bslice 1 [[.str []]] [0]) [.t 17],
 op (.t 19) (.app 1 16) [.ts 15,.t 18],
 op (.v 3) .mv [.ts 19]]
def a45s9 : ACode := .reg [] a45r8
def a45s10 : ACode := .blk 1 a45s9
def a45s11 : ACode := .seq a45s7 a45s10
def a45s12 : ACode := .loop a45s11
def a45s13 : ACode := .blk 0 a45s12
def a45r14 : List AOper := [
 op (.t 20) .mv [.v 3],
 op (.v 2) .mv [.ts 20]]
def a45s15 : ACode := .reg [] a45r14
def a45s16 : ACode := .seq a45s15 .ret
def a45s17 : ACode := .seq a45s13 a45s16
def a45s18 : ACode := .seq a45s5 a45s17
def a45s19 : ACode := .seq a45s3 a45s18
def a45s20 : ACode := .seq a45s1 a45s19
def a45c : ACode :=
  a45s20
def a45 : AFn := { np := 2,nv := 4,results := [.v 2],code := a45c }
def a45v : List Nat := [0,1,4,5]
def a45b : List Nat := []

def a46r0 : List AOper := [
 op (.v 2) .mv [.c (.bool false)]]
def a46s1 : ACode := .reg [] a46r0
def a46r2 : List AOper := [
 op (.t 5) .mv [.v 0],
 op (.t 6) .mv [.v 1],
 op (.t 7) (.call 60) [.t 5,.t 6],
 op (.t 8) .mv [.t 7],
 ⟨.t 9,.mv,[.v 0],none,some (.t 8,false)⟩,
 ⟨.t 10,.mv,[.v 1],none,some (.t 8,false)⟩,
 ⟨.t 11,.call 41,[.t 9,.t 10],none,some (.t 8,false)⟩,
 op (.t 12) .pick [.t 8,.c (.bool true),.t 11]]
def a46r3 : List AOper := [
 op (.t 13) .mv [.v 0],
 op (.t 14) .nilchk [.t 13],
 op (.t 15) (.fad 1) [.t 14],
 op (.t 16) (.ldSt false 1) [.t 15],
 op (.t 17) (.bin .add) [.t 16,.c (.int .i64 1)],
 op (.t 18) .nilchk [.t 13],
 op (.t 19) (.fad 1) [.t 18],
 op .none (.stSt 1) [.t 19,.t 17]]
def a46s4 : ACode := .reg [] a46r3
def a46r5 : List AOper := [
 op (.v 2) .mv [.c (.bool true)]]
def a46s6 : ACode := .reg [] a46r5
def a46s7 : ACode := .seq a46s6 .ret
def a46s8 : ACode := .seq a46s4 a46s7
def a46s9 : ACode := .test [] a46r2 (.t 12) a46s8 .skip
def a46r10 : List AOper := [
 op (.v 2) .mv [.c (.bool false)]]
def a46s11 : ACode := .reg [] a46r10
def a46s12 : ACode := .seq a46s11 .ret
def a46s13 : ACode := .seq a46s9 a46s12
def a46s14 : ACode := .seq a46s1 a46s13
def a46c : ACode :=
  a46s14
def a46 : AFn := { np := 2,nv := 3,results := [.v 2],code := a46c }
def a46v : List Nat := [0,1,4]
def a46b : List Nat := []

def a47r0 : List AOper := [
 op (.v 2) .mv [.c (.list true [])]]
def a47s1 : ACode := .reg [] a47r0
def a47r2 : List AOper := [
 op (.v 3) .mv [.c (.list true [])]]
def a47s3 : ACode := .reg [] a47r2
def a47r4 : List AOper := [
 op (.v 4) .mv [.c (.bool true)]]
def a47s5 : ACode := .reg [] a47r4
def a47r6 : List AOper := [
 op (.t 8) .mv [.v 0],
 op (.t 9) .nilchk [.t 8],
 op (.t 10) (.fad 4) [.t 9],
 op (.t 11) (.ldSt false 1) [.t 10],
 op (.t 12) (.bin .eql) [.t 11,.c (.int .i64 0)],
 op (.t 13) .mv [.t 12],
 ⟨.t 14,.mv,[.v 4],none,some (.t 13,true)⟩,
 ⟨.t 15,.mv,[.t 14],none,some (.t 13,true)⟩,
 ⟨.t 16,.mv,[.v 0],none,some (.t 15,false)⟩,
 ⟨.t 17,.mv,[.v 1],none,some (.t 15,false)⟩,
 ⟨.t 18,.call 46,[.t 16,.t 17],none,some (.t 15,false)⟩,
 ⟨.t 19,.un .not,[.t 18],none,some (.t 15,false)⟩,
 ⟨.t 20,.pick,[.t 15,.c (.bool true),.t 19],none,some (.t 13,true)⟩,
 op (.t 21) .pick [.t 13,.t 20,.c (.bool false)]]
def a47s7 : ACode := .test [] a47r6 (.t 21) .skip (.exit 0)
def a47r8 : List AOper := [
 op (.t 22) .mv [.v 0],
 op (.t 23) (.call 43) [.t 22],
 op (.t 24) (.build [.str [],.list true [],.str [],.list true [],.bool false,.bool false,.int .u8 0,.int .i64 0,.str [],.list true [],.list true []] [(0,1)]) [.t 23],
 ⟨.bx,.alloc [.str [],.list true [],.str [],.list true [],.bool false,.bool false,.int .u8 0,.int .i64 0,.str [],.list true [],.list true []],[],some 5,none⟩,
 ⟨.none,.stLc 5 11,[.l 5,.ts 24],some 5,none⟩]
def a47s9 : ACode := .reg [5] a47r8
def a47r10 : List AOper := [
 op (.t 25) .mv [.v 0],
 op (.t 26) (.call 44) [.t 25,.c (.str [58])]]
def a47s11 : ACode := .reg [] a47r10
def a47r12 : List AOper := [
 op (.t 27) .mv [.v 0],
 op (.t 28) (.call 48) [.t 27],
 op (.t 29) (.fad 2) [.l 5],
 ⟨.none,.stLc 5 3,[.t 29,.ts 28],some 5,none⟩]
def a47s13 : ACode := .reg [] a47r12
def a47r14 : List AOper := [
 op (.t 30) .mv [.v 0],
 op (.t 31) (.call 46) [.t 30,.c (.str [61])]]
def a47r15 : List AOper := [
 op (.t 32) (.fad 5) [.l 5],
 ⟨.none,.stLc 5 1,[.t 32,.c (.bool true)],some 5,none⟩]
def a47s16 : ACode := .reg [] a47r15
def a47r17 : List AOper := [
 op (.t 33) .mv [.v 0],
 op (.t 34) (.call 61) [.t 33,.c (.bool true)],
 op (.t 35) (.fad 6) [.l 5],
 ⟨.none,.stLc 5 5,[.t 35,.ts 34],some 5,none⟩]
def a47s18 : ACode := .reg [] a47r17
def a47s19 : ACode := .seq a47s16 a47s18
def a47s20 : ACode := .test [] a47r14 (.t 31) a47s19 .skip
def a47r21 : List AOper := [
 op (.t 36) .mv [.vs 3],
 ⟨.t 37,.ldLc 5 true 11,[.l 5],some 5,none⟩,
 op (.t 38) (.bslice 11 [[.str [],.list true [],.str [],.list true [],.bool false,.bool false,.int .u8 0,.int .i64 0,.str [],.list true [],.list true []]] [0]) [.t 37],
 op (.t 39) (.app 11 176) [.ts 36,.t 38],
 op (.v 3) .mv [.ts 39]]
def a47s22 : ACode := .reg [] a47r21
def a47s23 : ACode := .seq a47s20 a47s22
def a47s24 : ACode := .seq a47s13 a47s23
def a47s25 : ACode := .seq a47s11 a47s24
def a47s26 : ACode := .seq a47s9 a47s25
def a47s27 : ACode := .blk 1 a47s26
def a47r28 : List AOper := [
 op (.v 4) .mv [.c (.bool false)]]
def a47s29 : ACode := .reg [] a47r28
def a47s30 : ACode := .seq a47s27 a47s29
def a47s31 : ACode := .seq a47s7 a47s30
def a47s32 : ACode := .loop a47s31
def a47s33 : ACode := .blk 0 a47s32
def a47s34 : ACode := .seq a47s5 a47s33
def a47r35 : List AOper := [
 op (.t 40) .mv [.v 3],
 op (.v 2) .mv [.ts 40]]
def a47s36 : ACode := .reg [] a47r35
def a47s37 : ACode := .seq a47s36 .ret
def a47s38 : ACode := .seq a47s34 a47s37
def a47s39 : ACode := .seq a47s3 a47s38
def a47s40 : ACode := .seq a47s1 a47s39
def a47c : ACode :=
  a47s40
def a47 : AFn := { np := 2,nv := 6,results := [.v 2],code := a47c }
def a47v : List Nat := [0,1,4,5,6,7]
def a47b : List Nat := [5]

def a48r0 : List AOper := [
 ⟨.bx,.alloc [.str [],.list true [],.bool false],[],some 1,none⟩]
def a48s1 : ACode := .reg [1] a48r0
def a48r2 : List AOper := [
 ⟨.bx,.alloc [.str [],.list true [],.bool false],[],some 2,none⟩]
def a48s3 : ACode := .reg [2] a48r2
def a48r4 : List AOper := [
 op (.t 5) .mv [.v 0],
 op (.t 6) (.call 62) [.t 5]]
def a48r5 : List AOper := [
 op (.t 7) .mv [.v 0],
 op (.t 8) (.call 46) [.t 7,.c (.str [91])]]
def a48r6 : List AOper := [
 op (.t 9) .mv [.v 0],
 op (.t 10) (.call 48) [.t 9],
 ⟨.bx,.alloc [.str [],.list true [],.bool false],[],some 3,none⟩,
 ⟨.none,.stLc 3 3,[.l 3,.ts 10],some 3,none⟩]
def a48s7 : ACode := .reg [3] a48r6
def a48r8 : List AOper := [
 ⟨.t 11,.ldLc 3 true 3,[.l 3],some 3,none⟩,
 op (.t 12) (.bslice 3 [[.str [],.list true [],.bool false]] [0]) [.t 11],
 op (.t 13) (.fad 1) [.l 2],
 ⟨.none,.stLc 2 1,[.t 13,.ts 12],some 2,none⟩]
def a48s9 : ACode := .reg [] a48r8
def a48r10 : List AOper := [
 op (.t 14) .mv [.v 0],
 op (.t 15) (.call 44) [.t 14,.c (.str [93])]]
def a48s11 : ACode := .reg [] a48r10
def a48s12 : ACode := .seq a48s9 a48s11
def a48s13 : ACode := .seq a48s7 a48s12
def a48r14 : List AOper := [
 op (.t 16) .mv [.v 0],
 op (.t 17) (.call 43) [.t 16],
 op (.t 18) (.fad 0) [.l 2],
 ⟨.none,.stLc 2 1,[.t 18,.t 17],some 2,none⟩]
def a48s15 : ACode := .reg [] a48r14
def a48s16 : ACode := .test [] a48r5 (.t 8) a48s13 a48s15
def a48r17 : List AOper := [
 op (.t 19) .mv [.v 0],
 op (.t 20) (.call 46) [.t 19,.c (.str [33])],
 op (.t 21) (.fad 2) [.l 2],
 ⟨.none,.stLc 2 1,[.t 21,.t 20],some 2,none⟩]
def a48s18 : ACode := .reg [] a48r17
def a48s19 : ACode := .seq a48s16 a48s18
def a48s20 : ACode := .test [] a48r4 (.t 6) a48s19 .skip
def a48r21 : List AOper := [
 op (.t 22) .mv [.v 0],
 op (.t 23) .nilchk [.t 22],
 op (.t 24) (.fad 2) [.t 23],
 op (.t 25) (.ldSt false 1) [.t 24],
 op (.t 26) (.bin .sub) [.t 25,.c (.int .i64 1)],
 op (.t 27) .nilchk [.t 22],
 op (.t 28) (.fad 2) [.t 27],
 op .none (.stSt 1) [.t 28,.t 26]]
def a48s22 : ACode := .reg [] a48r21
def a48r23 : List AOper := [
 ⟨.t 29,.ldLc 2 true 3,[.l 2],some 2,none⟩,
 ⟨.none,.stLc 1 3,[.l 1,.ts 29],some 1,none⟩]
def a48s24 : ACode := .reg [] a48r23
def a48s25 : ACode := .seq a48s24 .ret
def a48s26 : ACode := .seq a48s22 a48s25
def a48s27 : ACode := .seq a48s20 a48s26
def a48s28 : ACode := .seq a48s3 a48s27
def a48s29 : ACode := .seq a48s1 a48s28
def a48c : ACode :=
  a48s29
def a48 : AFn := { np := 1,nv := 4,results := [.bx 1 true 3],code := a48c }
def a48v : List Nat := [0,2,3,4]
def a48b : List Nat := [1,2,3]

def a49r0 : List AOper := [
 op (.v 2) .mv [.c (.bool false)]]
def a49s1 : ACode := .reg [] a49r0
def a49r2 : List AOper := [
 op (.t 5) .mv [.v 0],
 op (.t 6) .lenS [.t 5],
 op (.t 7) .mv [.v 1],
 op (.t 8) .lenS [.t 7],
 op (.t 9) (.bin .geq) [.t 6,.t 8],
 op (.t 10) .mv [.t 9],
 ⟨.t 11,.mv,[.v 0],none,some (.t 10,true)⟩,
 ⟨.t 12,.mv,[.v 1],none,some (.t 10,true)⟩,
 ⟨.t 13,.lenS,[.t 12],none,some (.t 10,true)⟩,
 ⟨.t 14,.slS false true,[.t 11,.t 13],none,some (.t 10,true)⟩,
 ⟨.t 15,.mv,[.v 1],none,some (.t 10,true)⟩,
 ⟨.t 16,.bin .eql,[.t 14,.t 15],none,some (.t 10,true)⟩,
 op (.t 17) .pick [.t 10,.t 16,.c (.bool false)],
 op (.v 2) .mv [.t 17]]
def a49s3 : ACode := .reg [] a49r2
def a49s4 : ACode := .seq a49s3 .ret
def a49s5 : ACode := .seq a49s1 a49s4
def a49c : ACode :=
  a49s5
def a49 : AFn := { np := 2,nv := 3,results := [.v 2],code := a49c }
def a49v : List Nat := [0,1,4]
def a49b : List Nat := []

def a50r0 : List AOper := [
 ⟨.bx,.alloc [.int .i64 0,.str []],[],some 1,none⟩]
def a50s1 : ACode := .reg [1] a50r0
def a50r2 : List AOper := [
 op (.v 4) .mv [.v 0],
 op (.v 5) .lenL [.v 4],
 op (.v 6) .mv [.c (.int .i64 0)]]
def a50s3 : ACode := .reg [] a50r2
def a50r4 : List AOper := [
 op (.t 8) (.bin .lss) [.v 6,.v 5]]
def a50s5 : ACode := .test [] a50r4 (.t 8) .skip (.exit 0)
def a50r6 : List AOper := [
 op (.t 9) .mv [.v 6],
 op (.t 10) (.iad 1) [.v 4,.v 6],
 op (.t 11) (.ldRo false 1) [.t 10],
 op (.v 2) .mv [.t 9],
 op (.v 3) .mv [.t 11]]
def a50s7 : ACode := .reg [] a50r6
def a50r8 : List AOper := [
 op (.t 12) .mv [.v 0],
 op (.t 13) .mv [.v 2],
 op (.t 14) (.slL 1 false true) [.t 12,.t 13],
 op (.t 15) .mv [.v 3],
 op (.t 16) (.call 29) [.t 14,.t 15]]
def a50r9 : List AOper := [
 op (.t 17) .mv [.v 3],
 op (.t 18) (.build [.int .i64 0,.str []] [(0,1),(1,1)]) [.c (.int .i64 7),.t 17],
 ⟨.none,.stLc 1 2,[.l 1,.t 18],some 1,none⟩]
def a50s10 : ACode := .reg [] a50r9
def a50s11 : ACode := .seq a50s10 .ret
def a50s12 : ACode := .test [] a50r8 (.t 16) a50s11 .skip
def a50r13 : List AOper := [
 op (.t 19) .mv [.v 3],
 op (.t 20) (.call 30) [.t 19,.c (.str [95,95])]]
def a50r14 : List AOper := [
 op (.t 21) .mv [.v 3],
 op (.t 22) (.build [.int .i64 0,.str []] [(0,1),(1,1)]) [.c (.int .i64 1),.t 21],
 ⟨.none,.stLc 1 2,[.l 1,.t 22],some 1,none⟩]
def a50s15 : ACode := .reg [] a50r14
def a50s16 : ACode := .seq a50s15 .ret
def a50s17 : ACode := .test [] a50r13 (.t 20) a50s16 .skip
def a50s18 : ACode := .seq a50s12 a50s17
def a50s19 : ACode := .seq a50s7 a50s18
def a50s20 : ACode := .blk 1 a50s19
def a50r21 : List AOper := [
 op (.t 23) (.bin .add) [.v 6,.c (.int .i64 1)],
 op (.v 6) .mv [.t 23]]
def a50s22 : ACode := .reg [] a50r21
def a50s23 : ACode := .seq a50s20 a50s22
def a50s24 : ACode := .seq a50s5 a50s23
def a50s25 : ACode := .loop a50s24
def a50s26 : ACode := .blk 0 a50s25
def a50s27 : ACode := .seq a50s3 a50s26
def a50r28 : List AOper := [
 op (.t 24) (.build [.int .i64 0,.str []] []) [],
 ⟨.none,.stLc 1 2,[.l 1,.t 24],some 1,none⟩]
def a50s29 : ACode := .reg [] a50r28
def a50s30 : ACode := .seq a50s29 .ret
def a50s31 : ACode := .seq a50s27 a50s30
def a50s32 : ACode := .seq a50s1 a50s31
def a50c : ACode :=
  a50s32
def a50 : AFn := { np := 1,nv := 7,results := [.bx 1 true 2],code := a50c }
def a50v : List Nat := [0,2,3,4,5,6,7]
def a50b : List Nat := [1]

def a51r0 : List AOper := [
 ⟨.bx,.boxV,[.v 1],some 3,none⟩,
 ⟨.bx,.alloc [.int .i64 0,.str []],[],some 4,none⟩]
def a51s1 : ACode := .reg [3,4] a51r0
def a51r2 : List AOper := [
 op (.t 15) (.fad 2) [.l 3],
 ⟨.t 16,.ldLc 3 true 3,[.t 15],some 3,none⟩,
 op (.t 17) (.call 63) [.t 16],
 op (.v 5) .mv [.t 17]]
def a51s3 : ACode := .reg [] a51r2
def a51r4 : List AOper := [
 op (.t 19) .mv [.v 0],
 op (.t 20) .mv [.v 5],
 op (.t 21) (.call 15) [.t 19,.t 20],
 op (.t 18) .mv [.t 21],
 op (.t 22) (.ext 0) [.t 18],
 op (.t 23) (.ext 1) [.t 18],
 ⟨.bx,.alloc [.int .u8 0,.str [],.list true [],.list true []],[],some 6,none⟩,
 ⟨.none,.stLc 6 4,[.l 6,.ts 22],some 6,none⟩,
 op (.v 7) .mv [.t 23]]
def a51s5 : ACode := .reg [6] a51r4
def a51r6 : List AOper := [
 op (.t 25) .mv [.v 7],
 op (.t 26) (.un .not) [.t 25],
 op (.t 27) .mv [.t 26],
 ⟨.t 28,.mv,[.v 0],none,some (.t 27,true)⟩,
 ⟨.t 29,.mv,[.v 5],none,some (.t 27,true)⟩,
 ⟨.t 30,.call 21,[.t 28,.t 29],none,some (.t 27,true)⟩,
 ⟨.t 31,.un .not,[.t 30],none,some (.t 27,true)⟩,
 op (.t 32) .pick [.t 27,.t 31,.c (.bool false)],
 op (.t 24) .mv [.t 32]]
def a51r7 : List AOper := [
 op (.t 33) .mv [.v 5],
 op (.t 34) (.build [.int .i64 0,.str []] [(0,1),(1,1)]) [.c (.int .i64 6),.t 33],
 ⟨.none,.stLc 4 2,[.l 4,.t 34],some 4,none⟩]
def a51s8 : ACode := .reg [] a51r7
def a51s9 : ACode := .seq a51s8 .ret
def a51r10 : List AOper := [
 op (.t 36) .mv [.v 2],
 op (.t 37) .mv [.t 36],
 ⟨.t 38,.mv,[.v 0],none,some (.t 37,true)⟩,
 ⟨.t 39,.mv,[.v 5],none,some (.t 37,true)⟩,
 ⟨.t 40,.call 21,[.t 38,.t 39],none,some (.t 37,true)⟩,
 ⟨.t 41,.un .not,[.t 40],none,some (.t 37,true)⟩,
 op (.t 42) .pick [.t 37,.t 41,.c (.bool false)],
 op (.t 43) .mv [.t 42],
 ⟨.t 44,.mv,[.v 0],none,some (.t 43,true)⟩,
 ⟨.t 45,.mv,[.v 5],none,some (.t 43,true)⟩,
 ⟨.t 46,.call 22,[.t 44,.t 45],none,some (.t 43,true)⟩,
 ⟨.t 47,.un .not,[.t 46],none,some (.t 43,true)⟩,
 op (.t 48) .pick [.t 43,.t 47,.c (.bool false)],
 op (.v 12) .mv [.t 48]]
def a51r11 : List AOper := [
 op (.t 49) .mv [.v 2],
 op (.t 50) (.un .not) [.t 49],
 op (.t 51) .mv [.t 50],
 ⟨.t 52,.mv,[.v 0],none,some (.t 51,true)⟩,
 ⟨.t 53,.mv,[.v 5],none,some (.t 51,true)⟩,
 ⟨.t 54,.call 23,[.t 52,.t 53],none,some (.t 51,true)⟩,
 op (.t 55) .pick [.t 51,.t 54,.c (.bool false)],
 op (.v 12) .mv [.t 55]]
def a51r12 : List AOper := [
 op (.t 56) .mv [.v 5],
 op (.t 57) (.call 34) [.t 56],
 op (.v 12) .mv [.t 57]]
def a51s13 : ACode := .reg [] a51r12
def a51s14 : ACode := .test [] a51r11 (.v 12) .skip a51s13
def a51s15 : ACode := .test [] a51r10 (.v 12) .skip a51s14
def a51r16 : List AOper := [
 op (.t 58) .mv [.v 5],
 op (.t 59) (.build [.int .i64 0,.str []] [(0,1),(1,1)]) [.c (.int .i64 8),.t 58],
 ⟨.none,.stLc 4 2,[.l 4,.t 59],some 4,none⟩]
def a51s17 : ACode := .reg [] a51r16
def a51s18 : ACode := .seq a51s17 .ret
def a51r19 : List AOper := [
 op (.t 61) (.fad 5) [.l 3],
 ⟨.t 62,.ldLc 3 false 1,[.t 61],some 3,none⟩,
 op (.t 63) .mv [.t 62],
 ⟨.t 64,.mv,[.v 0],none,some (.t 63,true)⟩,
 ⟨.t 65,.fad 2,[.l 3],none,some (.t 63,true)⟩,
 ⟨.t 66,.ldLc 3 true 3,[.t 65],some 3,some (.t 63,true)⟩,
 ⟨.t 67,.fad 6,[.l 3],none,some (.t 63,true)⟩,
 ⟨.t 68,.ldLc 3 true 5,[.t 67],some 3,some (.t 63,true)⟩,
 ⟨.t 69,.call 64,[.t 64,.t 66,.t 68],none,some (.t 63,true)⟩,
 ⟨.t 70,.un .not,[.t 69],none,some (.t 63,true)⟩,
 op (.t 71) .pick [.t 63,.t 70,.c (.bool false)],
 op (.t 60) .mv [.t 71]]
def a51r20 : List AOper := [
 op (.t 72) (.fad 0) [.l 3],
 ⟨.t 73,.ldLc 3 false 1,[.t 72],some 3,none⟩,
 op (.t 74) (.build [.int .i64 0,.str []] [(0,1),(1,1)]) [.c (.int .i64 8),.t 73],
 ⟨.none,.stLc 4 2,[.l 4,.t 74],some 4,none⟩]
def a51s21 : ACode := .reg [] a51r20
def a51s22 : ACode := .seq a51s21 .ret
def a51s23 : ACode := .test [] a51r19 (.t 60) a51s22 .skip
def a51s24 : ACode := .test [] [] (.v 12) a51s18 a51s23
def a51s25 : ACode := .seq a51s15 a51s24
def a51s26 : ACode := .test [] a51r6 (.t 24) a51s9 a51s25
def a51s27 : ACode := .blk 0 a51s26
def a51r28 : List AOper := [
 op (.t 75) (.fad 1) [.l 3],
 ⟨.t 76,.ldLc 3 false 1,[.t 75],some 3,none⟩,
 op (.t 77) (.call 37) [.t 76],
 op (.t 78) (.call 50) [.t 77],
 ⟨.bx,.alloc [.int .i64 0,.str []],[],some 8,none⟩,
 ⟨.none,.stLc 8 2,[.l 8,.t 78],some 8,none⟩]
def a51s29 : ACode := .reg [8] a51r28
def a51r30 : List AOper := [
 op (.t 79) (.fad 0) [.l 8],
 ⟨.t 80,.ldLc 8 false 1,[.t 79],some 8,none⟩,
 op (.t 81) (.bin .neq) [.t 80,.c (.int .i64 0)]]
def a51r31 : List AOper := [
 ⟨.t 82,.ldLc 8 true 2,[.l 8],some 8,none⟩,
 ⟨.none,.stLc 4 2,[.l 4,.t 82],some 4,none⟩]
def a51s32 : ACode := .reg [] a51r31
def a51s33 : ACode := .seq a51s32 .ret
def a51s34 : ACode := .test [] a51r30 (.t 81) a51s33 .skip
def a51s35 : ACode := .seq a51s29 a51s34
def a51r36 : List AOper := [
 op (.t 83) (.fad 1) [.l 3],
 ⟨.v 13,.ldLc 3 false 1,[.t 83],some 3,none⟩,
 op (.v 14) .lenL [.v 13],
 op (.v 15) .mv [.c (.int .i64 0)]]
def a51s37 : ACode := .reg [] a51r36
def a51r38 : List AOper := [
 op (.t 87) (.bin .lss) [.v 15,.v 14]]
def a51s39 : ACode := .test [] a51r38 (.t 87) .skip (.exit 1)
def a51r40 : List AOper := [
 op (.t 88) (.iad 11) [.v 13,.v 15],
 op (.t 89) (.ldRo true 11) [.t 88],
 ⟨.bx,.alloc [.str [],.list true [],.str [],.list true [],.bool false,.bool false,.int .u8 0,.int .i64 0,.str [],.list true [],.list true []],[],some 9,none⟩,
 ⟨.none,.stLc 9 11,[.l 9,.ts 89],some 9,none⟩]
def a51s41 : ACode := .reg [9] a51r40
def a51r42 : List AOper := [
 op (.t 90) (.fad 2) [.l 9],
 ⟨.t 91,.ldLc 9 true 3,[.t 90],some 9,none⟩,
 op (.t 92) (.call 63) [.t 91],
 op (.v 10) .mv [.t 92]]
def a51s43 : ACode := .reg [] a51r42
def a51r44 : List AOper := [
 op (.t 101) .mv [.v 0],
 op (.t 102) .mv [.v 10],
 op (.t 103) (.call 23) [.t 101,.t 102],
 op (.t 100) .mv [.t 103]]
def a51r45 : List AOper := [
 op (.t 104) (.fad 5) [.l 9],
 ⟨.t 105,.ldLc 9 false 1,[.t 104],some 9,none⟩]
def a51r46 : List AOper := [
 op (.t 106) (.fad 0) [.l 9],
 ⟨.t 107,.ldLc 9 false 1,[.t 106],some 9,none⟩,
 op (.t 108) (.build [.int .i64 0,.str []] [(0,1),(1,1)]) [.c (.int .i64 8),.t 107],
 ⟨.none,.stLc 4 2,[.l 4,.t 108],some 4,none⟩]
def a51s47 : ACode := .reg [] a51r46
def a51s48 : ACode := .seq a51s47 .ret
def a51s49 : ACode := .test [] a51r45 (.t 105) a51s48 .skip
def a51r50 : List AOper := [
 op (.t 93) .mv [.v 0],
 ⟨.t 94,.ldLc 9 true 11,[.l 9],some 9,none⟩,
 op (.t 95) (.call 51) [.t 93,.t 94,.c (.bool true)],
 ⟨.bx,.alloc [.int .i64 0,.str []],[],some 11,none⟩,
 ⟨.none,.stLc 11 2,[.l 11,.t 95],some 11,none⟩]
def a51s51 : ACode := .reg [11] a51r50
def a51r52 : List AOper := [
 op (.t 96) (.fad 0) [.l 11],
 ⟨.t 97,.ldLc 11 false 1,[.t 96],some 11,none⟩,
 op (.t 98) (.bin .neq) [.t 97,.c (.int .i64 0)]]
def a51r53 : List AOper := [
 ⟨.t 99,.ldLc 11 true 2,[.l 11],some 11,none⟩,
 ⟨.none,.stLc 4 2,[.l 4,.t 99],some 4,none⟩]
def a51s54 : ACode := .reg [] a51r53
def a51s55 : ACode := .seq a51s54 .ret
def a51s56 : ACode := .test [] a51r52 (.t 98) a51s55 .skip
def a51s57 : ACode := .seq a51s51 a51s56
def a51s58 : ACode := .test [] a51r44 (.t 100) a51s49 a51s57
def a51s59 : ACode := .blk 3 a51s58
def a51s60 : ACode := .seq a51s43 a51s59
def a51s61 : ACode := .seq a51s41 a51s60
def a51s62 : ACode := .blk 2 a51s61
def a51r63 : List AOper := [
 op (.t 109) (.bin .add) [.v 15,.c (.int .i64 1)],
 op (.v 15) .mv [.t 109]]
def a51s64 : ACode := .reg [] a51r63
def a51s65 : ACode := .seq a51s62 a51s64
def a51s66 : ACode := .seq a51s39 a51s65
def a51s67 : ACode := .loop a51s66
def a51s68 : ACode := .blk 1 a51s67
def a51s69 : ACode := .seq a51s37 a51s68
def a51r70 : List AOper := [
 op (.t 110) (.build [.int .i64 0,.str []] []) [],
 ⟨.none,.stLc 4 2,[.l 4,.t 110],some 4,none⟩]
def a51s71 : ACode := .reg [] a51r70
def a51s72 : ACode := .seq a51s71 .ret
def a51s73 : ACode := .seq a51s69 a51s72
def a51s74 : ACode := .seq a51s35 a51s73
def a51s75 : ACode := .seq a51s27 a51s74
def a51s76 : ACode := .seq a51s5 a51s75
def a51s77 : ACode := .seq a51s3 a51s76
def a51s78 : ACode := .seq a51s1 a51s77
def a51c : ACode :=
  a51s78
def a51 : AFn := { np := 3,nv := 16,results := [.bx 4 true 2],code := a51c }
def a51v : List Nat := [0,1,2,4,6,7,8,9,10,12,13,14,35,84,85,86]
def a51b : List Nat := [3,4,6,8,9,11]

def a52r0 : List AOper := [
 op (.v 3) .boxO [.v 1],
 ⟨.bx,.boxV,[.v 2],some 4,none⟩,
 op (.v 5) .mv [.c (.bool false)]]
def a52s1 : ACode := .reg [4] a52r0
def a52r2 : List AOper := [
 op (.t 7) (.fad 2) [.l 4],
 ⟨.t 8,.ldLc 4 false 1,[.t 7],some 4,none⟩,
 op (.t 9) (.mkF 66 0) [.v 3],
 op (.t 10) (.call 65) [.t 8,.t 9],
 op (.t 11) (.un .not) [.t 10],
 op (.v 5) .mv [.t 11]]
def a52s3 : ACode := .reg [] a52r2
def a52s4 : ACode := .seq a52s3 .ret
def a52s5 : ACode := .seq a52s1 a52s4
def a52c : ACode :=
  a52s5
def a52 : AFn := { np := 3,nv := 6,results := [.v 5],code := a52c }
def a52v : List Nat := [0,1,2,4,5,6]
def a52b : List Nat := [4]

def a53r0 : List AOper := [
 ⟨.bx,.boxV,[.v 1],some 2,none⟩,
 op (.v 3) .mv [.c (.bool false)]]
def a53s1 : ACode := .reg [2] a53r0
def a53r2 : List AOper := [
 op (.t 5) (.fad 1) [.l 2],
 ⟨.t 6,.ldLc 2 false 1,[.t 5],some 2,none⟩,
 op (.t 7) .lenL [.t 6],
 op (.t 8) (.bin .eql) [.t 7,.c (.int .i64 1)],
 op (.t 9) .mv [.t 8],
 ⟨.t 10,.fad 1,[.l 2],none,some (.t 9,true)⟩,
 ⟨.t 11,.ldLc 2 false 1,[.t 10],some 2,some (.t 9,true)⟩,
 ⟨.t 12,.iad 11,[.t 11,.c (.int .i64 0)],none,some (.t 9,true)⟩,
 ⟨.t 13,.ldRo true 11,[.t 12],none,some (.t 9,true)⟩,
 ⟨.t 14,.call 67,[.t 13],none,some (.t 9,true)⟩,
 op (.t 15) .pick [.t 9,.t 14,.c (.bool false)],
 op (.t 16) .mv [.t 15],
 ⟨.t 17,.fad 2,[.l 2],none,some (.t 16,true)⟩,
 ⟨.t 18,.fad 1,[.t 17],none,some (.t 16,true)⟩,
 ⟨.t 19,.ldLc 2 false 1,[.t 18],some 2,some (.t 16,true)⟩,
 ⟨.t 20,.lenL,[.t 19],none,some (.t 16,true)⟩,
 ⟨.t 21,.bin .eql,[.t 20,.c (.int .i64 0)],none,some (.t 16,true)⟩,
 op (.t 22) .pick [.t 16,.t 21,.c (.bool false)],
 op (.t 23) .mv [.t 22],
 ⟨.t 24,.fad 2,[.l 2],none,some (.t 23,true)⟩,
 ⟨.t 25,.fad 2,[.t 24],none,some (.t 23,true)⟩,
 ⟨.t 26,.ldLc 2 false 1,[.t 25],some 2,some (.t 23,true)⟩,
 ⟨.t 27,.un .not,[.t 26],none,some (.t 23,true)⟩,
 op (.t 28) .pick [.t 23,.t 27,.c (.bool false)],
 op (.t 29) .mv [.t 28],
 ⟨.t 30,.mv,[.v 0],none,some (.t 29,true)⟩,
 ⟨.t 31,.fad 2,[.l 2],none,some (.t 29,true)⟩,
 ⟨.t 32,.fad 0,[.t 31],none,some (.t 29,true)⟩,
 ⟨.t 33,.ldLc 2 false 1,[.t 32],some 2,some (.t 29,true)⟩,
 ⟨.t 34,.call 12,[.t 30,.t 33],none,some (.t 29,true)⟩,
 op (.t 35) .pick [.t 29,.t 34,.c (.bool false)],
 op (.v 3) .mv [.t 35]]
def a53s3 : ACode := .reg [] a53r2
def a53s4 : ACode := .seq a53s3 .ret
def a53s5 : ACode := .seq a53s1 a53s4
def a53c : ACode :=
  a53s5
def a53 : AFn := { np := 2,nv := 4,results := [.v 3],code := a53c }
def a53v : List Nat := [0,1,3,4]
def a53b : List Nat := [2]

def a54r0 : List AOper := [
 ⟨.bx,.boxV,[.v 1],some 2,none⟩,
 op (.v 3) .mv [.c (.bool false)]]
def a54s1 : ACode := .reg [2] a54r0
def a54r2 : List AOper := [
 op (.t 5) (.fad 1) [.l 2],
 ⟨.t 6,.ldLc 2 false 1,[.t 5],some 2,none⟩,
 op (.t 7) .lenL [.t 6],
 op (.t 8) (.bin .eql) [.t 7,.c (.int .i64 0)],
 op (.t 9) .mv [.t 8],
 ⟨.t 10,.mv,[.v 0],none,some (.t 9,true)⟩,
 ⟨.t 11,.fad 2,[.l 2],none,some (.t 9,true)⟩,
 ⟨.t 12,.ldLc 2 true 3,[.t 11],some 2,some (.t 9,true)⟩,
 ⟨.t 13,.call 63,[.t 12],none,some (.t 9,true)⟩,
 ⟨.t 14,.call 12,[.t 10,.t 13],none,some (.t 9,true)⟩,
 op (.t 15) .pick [.t 9,.t 14,.c (.bool false)],
 op (.t 16) .mv [.t 15],
 ⟨.t 17,.fad 2,[.l 2],none,some (.t 16,true)⟩,
 ⟨.t 18,.ldLc 2 true 3,[.t 17],some 2,some (.t 16,true)⟩,
 ⟨.t 19,.fad 2,[.l 2],none,some (.t 16,true)⟩,
 ⟨.t 20,.ldLc 2 true 3,[.t 19],some 2,some (.t 16,true)⟩,
 ⟨.t 21,.call 63,[.t 20],none,some (.t 16,true)⟩,
 ⟨.t 22,(.build [.str [],.list true [],.bool false] [(0,1),(2,1)]),[.t 21,.c (.bool true)],none,some (.t 16,true)⟩,
 ⟨.t 23,.bslice 3 [[.str [],.list true [],.bool false]] [0],[.t 22],none,some (.t 16,true)⟩,
 ⟨.t 24,(.build [.str [],.list true [],.bool false] [(1,1),(2,1)]),[.t 23,.c (.bool true)],none,some (.t 16,true)⟩,
 ⟨.t 25,.call 18,[.t 18,.t 24],none,some (.t 16,true)⟩,
 op (.t 26) .pick [.t 16,.t 25,.c (.bool false)],
 op (.v 3) .mv [.t 26]]
def a54s3 : ACode := .reg [] a54r2
def a54s4 : ACode := .seq a54s3 .ret
def a54s5 : ACode := .seq a54s1 a54s4
def a54c : ACode :=
  a54s5
def a54 : AFn := { np := 2,nv := 4,results := [.v 3],code := a54c }
def a54v : List Nat := [0,1,3,4]
def a54b : List Nat := [2]

def a55r0 : List AOper := [
 op (.v 2) .boxO [.v 0],
 ⟨.bx,.boxV,[.v 1],some 3,none⟩,
 op (.v 4) .mv [.c (.bool false)]]
def a55s1 : ACode := .reg [3] a55r0
def a55r2 : List AOper := [
 op (.t 11) (.fad 0) [.l 3],
 ⟨.t 12,.ldLc 3 false 1,[.t 11],some 3,none⟩,
 op (.t 13) (.call 68) [.t 12],
 op (.t 10) .mv [.t 13],
 op (.t 14) (.ext 0) [.t 10],
 op (.t 15) (.ext 1) [.t 10],
 op (.v 5) .mv [.t 14],
 op (.v 6) .mv [.t 15]]
def a55s3 : ACode := .reg [] a55r2
def a55r4 : List AOper := [
 op (.t 17) (.ldSt false 1) [.v 2],
 op (.t 18) .mv [.v 6],
 op (.t 19) (.call 15) [.t 17,.t 18],
 op (.t 16) .mv [.t 19],
 op (.t 20) (.ext 0) [.t 16],
 op (.t 21) (.ext 1) [.t 16],
 op (.v 7) (.allocO [.int .u8 0,.str [],.list true [],.list true []]) [],
 op .none (.stSt 4) [.v 7,.ts 20],
 op (.v 8) .mv [.t 21]]
def a55s5 : ACode := .reg [] a55r4
def a55r6 : List AOper := [
 op (.t 22) .mv [.v 8],
 op (.t 23) (.un .not) [.t 22],
 op (.t 24) .mv [.t 23],
 ⟨.t 25,.fad 0,[.v 7],none,some (.t 24,false)⟩,
 ⟨.t 26,.ldSt false 1,[.t 25],none,some (.t 24,false)⟩,
 ⟨.t 27,.bin .neq,[.t 26,.c (.int .u8 1)],none,some (.t 24,false)⟩,
 op (.t 28) .pick [.t 24,.c (.bool true),.t 27],
 op (.t 29) .mv [.t 28],
 ⟨.t 30,.mv,[.v 6],none,some (.t 29,false)⟩,
 ⟨.t 31,.call 34,[.t 30],none,some (.t 29,false)⟩,
 op (.t 32) .pick [.t 29,.c (.bool true),.t 31],
 op (.t 33) .mv [.t 32],
 ⟨.t 34,.fad 2,[.l 3],none,some (.t 33,false)⟩,
 ⟨.t 35,.ldLc 3 true 3,[.t 34],some 3,some (.t 33,false)⟩,
 ⟨.t 36,.mv,[.v 6],none,some (.t 33,false)⟩,
 ⟨.t 37,(.build [.str [],.list true [],.bool false] [(0,1)]),[.t 36],none,some (.t 33,false)⟩,
 ⟨.t 38,.call 18,[.t 35,.t 37],none,some (.t 33,false)⟩,
 ⟨.t 39,.un .not,[.t 38],none,some (.t 33,false)⟩,
 op (.t 40) .pick [.t 33,.c (.bool true),.t 39]]
def a55r7 : List AOper := [
 op (.v 4) .mv [.c (.bool false)]]
def a55s8 : ACode := .reg [] a55r7
def a55s9 : ACode := .seq a55s8 .ret
def a55s10 : ACode := .test [] a55r6 (.t 40) a55s9 .skip
def a55r11 : List AOper := [
 op (.t 41) .mv [.v 5],
 op (.t 42) (.bin .eql) [.t 41,.c (.str [100,101,108,101,116,101])]]
def a55r12 : List AOper := [
 op (.t 43) (.fad 1) [.l 3],
 ⟨.t 44,.ldLc 3 false 1,[.t 43],some 3,none⟩,
 op (.t 45) .lenL [.t 44],
 op (.t 46) (.bin .eql) [.t 45,.c (.int .i64 1)],
 op (.t 47) .mv [.t 46],
 ⟨.t 48,.fad 1,[.l 3],none,some (.t 47,true)⟩,
 ⟨.t 49,.ldLc 3 false 1,[.t 48],some 3,some (.t 47,true)⟩,
 ⟨.t 50,.iad 11,[.t 49,.c (.int .i64 0)],none,some (.t 47,true)⟩,
 ⟨.t 51,.ldRo true 11,[.t 50],none,some (.t 47,true)⟩,
 ⟨.t 52,.call 67,[.t 51],none,some (.t 47,true)⟩,
 op (.t 53) .pick [.t 47,.t 52,.c (.bool false)],
 op (.v 4) .mv [.t 53]]
def a55s13 : ACode := .reg [] a55r12
def a55s14 : ACode := .seq a55s13 .ret
def a55s15 : ACode := .test [] a55r11 (.t 42) a55s14 .skip
def a55r16 : List AOper := [
 op (.t 54) (.fad 1) [.l 3],
 ⟨.t 55,.ldLc 3 false 1,[.t 54],some 3,none⟩,
 op (.t 56) .lenL [.t 55],
 op (.t 57) (.bin .neq) [.t 56,.c (.int .i64 2)],
 op (.t 58) .mv [.t 57],
 ⟨.t 59,.fad 1,[.l 3],none,some (.t 58,false)⟩,
 ⟨.t 60,.ldLc 3 false 1,[.t 59],some 3,some (.t 58,false)⟩,
 ⟨.t 61,.iad 11,[.t 60,.c (.int .i64 0)],none,some (.t 58,false)⟩,
 ⟨.t 62,.ldRo true 11,[.t 61],none,some (.t 58,false)⟩,
 ⟨.t 63,.call 67,[.t 62],none,some (.t 58,false)⟩,
 ⟨.t 64,.un .not,[.t 63],none,some (.t 58,false)⟩,
 op (.t 65) .pick [.t 58,.c (.bool true),.t 64],
 op (.t 66) .mv [.t 65],
 ⟨.t 67,.fad 1,[.l 3],none,some (.t 66,false)⟩,
 ⟨.t 68,.ldLc 3 false 1,[.t 67],some 3,some (.t 66,false)⟩,
 ⟨.t 69,.iad 11,[.t 68,.c (.int .i64 1)],none,some (.t 66,false)⟩,
 ⟨.t 70,.fad 0,[.t 69],none,some (.t 66,false)⟩,
 ⟨.t 71,.ldRo false 1,[.t 70],none,some (.t 66,false)⟩,
 ⟨.t 72,.bin .neq,[.t 71,.c (.str [105,110,112,117,116])],none,some (.t 66,false)⟩,
 op (.t 73) .pick [.t 66,.c (.bool true),.t 72],
 op (.t 74) .mv [.t 73],
 ⟨.t 75,.fad 1,[.l 3],none,some (.t 74,false)⟩,
 ⟨.t 76,.ldLc 3 false 1,[.t 75],some 3,some (.t 74,false)⟩,
 ⟨.t 77,.iad 11,[.t 76,.c (.int .i64 1)],none,some (.t 74,false)⟩,
 ⟨.t 78,.fad 2,[.t 77],none,some (.t 74,false)⟩,
 ⟨.t 79,.fad 2,[.t 78],none,some (.t 74,false)⟩,
 ⟨.t 80,.ldRo false 1,[.t 79],none,some (.t 74,false)⟩,
 ⟨.t 81,.un .not,[.t 80],none,some (.t 74,false)⟩,
 op (.t 82) .pick [.t 74,.c (.bool true),.t 81],
 op (.t 83) .mv [.t 82],
 ⟨.t 84,.fad 1,[.l 3],none,some (.t 83,false)⟩,
 ⟨.t 85,.ldLc 3 false 1,[.t 84],some 3,some (.t 83,false)⟩,
 ⟨.t 86,.iad 11,[.t 85,.c (.int .i64 1)],none,some (.t 83,false)⟩,
 ⟨.t 87,.fad 2,[.t 86],none,some (.t 83,false)⟩,
 ⟨.t 88,.fad 1,[.t 87],none,some (.t 83,false)⟩,
 ⟨.t 89,.ldRo false 1,[.t 88],none,some (.t 83,false)⟩,
 ⟨.t 90,.lenL,[.t 89],none,some (.t 83,false)⟩,
 ⟨.t 91,.bin .gtr,[.t 90,.c (.int .i64 0)],none,some (.t 83,false)⟩,
 op (.t 92) .pick [.t 83,.c (.bool true),.t 91]]
def a55r17 : List AOper := [
 op (.v 4) .mv [.c (.bool false)]]
def a55s18 : ACode := .reg [] a55r17
def a55s19 : ACode := .seq a55s18 .ret
def a55s20 : ACode := .test [] a55r16 (.t 92) a55s19 .skip
def a55r21 : List AOper := [
 op (.t 94) (.ldSt false 1) [.v 2],
 op (.t 95) (.fad 1) [.l 3],
 ⟨.t 96,.ldLc 3 false 1,[.t 95],some 3,none⟩,
 op (.t 97) (.iad 11) [.t 96,.c (.int .i64 1)],
 op (.t 98) (.fad 2) [.t 97],
 op (.t 99) (.fad 0) [.t 98],
 op (.t 100) (.ldRo false 1) [.t 99],
 op (.t 101) (.call 15) [.t 94,.t 100],
 op (.t 93) .mv [.t 101],
 op (.t 102) (.ext 0) [.t 93],
 op (.t 103) (.ext 1) [.t 93],
 ⟨.bx,.alloc [.int .u8 0,.str [],.list true [],.list true []],[],some 9,none⟩,
 ⟨.none,.stLc 9 4,[.l 9,.ts 102],some 9,none⟩,
 op (.v 8) .mv [.t 103]]
def a55s22 : ACode := .reg [9] a55r21
def a55r23 : List AOper := [
 op (.t 104) .mv [.v 8],
 op (.t 105) (.un .not) [.t 104],
 op (.t 106) .mv [.t 105],
 ⟨.t 107,.fad 0,[.l 9],none,some (.t 106,false)⟩,
 ⟨.t 108,.ldLc 9 false 1,[.t 107],some 9,some (.t 106,false)⟩,
 ⟨.t 109,.bin .neq,[.t 108,.c (.int .u8 5)],none,some (.t 106,false)⟩,
 op (.t 110) .pick [.t 106,.c (.bool true),.t 109]]
def a55r24 : List AOper := [
 op (.v 4) .mv [.c (.bool false)]]
def a55s25 : ACode := .reg [] a55r24
def a55s26 : ACode := .seq a55s25 .ret
def a55s27 : ACode := .test [] a55r23 (.t 110) a55s26 .skip
def a55r28 : List AOper := [
 op (.t 111) (.fad 2) [.l 9],
 ⟨.t 112,.ldLc 9 false 1,[.t 111],some 9,none⟩,
 op (.t 113) (.mkF 69 0) [.v 7,.v 2],
 op (.t 114) (.call 65) [.t 112,.t 113],
 op (.t 115) (.un .not) [.t 114],
 op (.v 4) .mv [.t 115]]
def a55s29 : ACode := .reg [] a55r28
def a55s30 : ACode := .seq a55s29 .ret
def a55s31 : ACode := .seq a55s27 a55s30
def a55s32 : ACode := .seq a55s22 a55s31
def a55s33 : ACode := .seq a55s20 a55s32
def a55s34 : ACode := .seq a55s15 a55s33
def a55s35 : ACode := .seq a55s10 a55s34
def a55s36 : ACode := .seq a55s5 a55s35
def a55s37 : ACode := .seq a55s3 a55s36
def a55s38 : ACode := .seq a55s1 a55s37
def a55c : ACode :=
  a55s38
def a55 : AFn := { np := 2,nv := 10,results := [.v 4],code := a55c }
def a55v : List Nat := [0,1,2,3,4,5,6,7,8,9]
def a55b : List Nat := [3,9]

def a56r0 : List AOper := [
 op (.v 1) .mv [.c (.bool false)]]
def a56s1 : ACode := .reg [] a56r0
def a56r2 : List AOper := [
 op (.t 3) .mv [.v 0],
 op (.t 4) (.bin .geq) [.t 3,.c (.int .u8 97)],
 op (.t 5) .mv [.t 4],
 ⟨.t 6,.mv,[.v 0],none,some (.t 5,true)⟩,
 ⟨.t 7,.bin .leq,[.t 6,.c (.int .u8 122)],none,some (.t 5,true)⟩,
 op (.t 8) .pick [.t 5,.t 7,.c (.bool false)],
 op (.t 9) .mv [.t 8],
 ⟨.t 10,.mv,[.v 0],none,some (.t 9,false)⟩,
 ⟨.t 11,.bin .geq,[.t 10,.c (.int .u8 65)],none,some (.t 9,false)⟩,
 ⟨.t 12,.mv,[.t 11],none,some (.t 9,false)⟩,
 ⟨.t 13,.mv,[.v 0],none,some (.t 12,true)⟩,
 ⟨.t 14,.bin .leq,[.t 13,.c (.int .u8 90)],none,some (.t 12,true)⟩,
 ⟨.t 15,.pick,[.t 12,.t 14,.c (.bool false)],none,some (.t 9,false)⟩,
 op (.t 16) .pick [.t 9,.c (.bool true),.t 15],
 op (.t 17) .mv [.t 16],
 ⟨.t 18,.mv,[.v 0],none,some (.t 17,false)⟩,
 ⟨.t 19,.bin .eql,[.t 18,.c (.int .u8 95)],none,some (.t 17,false)⟩,
 op (.t 20) .pick [.t 17,.c (.bool true),.t 19],
 op (.v 1) .mv [.t 20]]
def a56s3 : ACode := .reg [] a56r2
def a56s4 : ACode := .seq a56s3 .ret
def a56s5 : ACode := .seq a56s1 a56s4
def a56c : ACode :=
  a56s5
def a56 : AFn := { np := 1,nv := 2,results := [.v 1],code := a56c }
def a56v : List Nat := [0,2]
def a56b : List Nat := []

def a57r0 : List AOper := [
 op (.v 1) .mv [.c (.bool false)]]
def a57s1 : ACode := .reg [] a57r0
def a57r2 : List AOper := [
 op (.t 3) .mv [.v 0],
 op (.t 4) (.bin .geq) [.t 3,.c (.int .u8 48)],
 op (.t 5) .mv [.t 4],
 ⟨.t 6,.mv,[.v 0],none,some (.t 5,true)⟩,
 ⟨.t 7,.bin .leq,[.t 6,.c (.int .u8 57)],none,some (.t 5,true)⟩,
 op (.t 8) .pick [.t 5,.t 7,.c (.bool false)],
 op (.v 1) .mv [.t 8]]
def a57s3 : ACode := .reg [] a57r2
def a57s4 : ACode := .seq a57s3 .ret
def a57s5 : ACode := .seq a57s1 a57s4
def a57c : ACode :=
  a57s5
def a57 : AFn := { np := 1,nv := 2,results := [.v 1],code := a57c }
def a57v : List Nat := [0,2]
def a57b : List Nat := []

def a58r0 : List AOper := [
 ⟨.bx,.alloc [.int .u8 0,.str [],.int .i64 0,.int .i64 0],[],some 2,none⟩,
 op (.v 3) .mv [.c (.int .i64 0)],
 op (.v 4) .mv [.c (.int .i64 0)],
 op (.v 5) .mv [.c (.int .i64 0)]]
def a58s1 : ACode := .reg [2] a58r0
def a58r2 : List AOper := [
 op (.t 12) .mv [.v 1],
 op (.v 6) .mv [.t 12]]
def a58s3 : ACode := .reg [] a58r2
def a58r4 : List AOper := [
 op (.t 13) .mv [.v 0],
 op (.t 14) .mv [.v 6],
 op (.t 15) .idxS [.t 13,.t 14],
 op (.t 16) (.bin .eql) [.t 15,.c (.int .u8 45)],
 op (.v 7) .mv [.t 16]]
def a58s5 : ACode := .reg [] a58r4
def a58r6 : List AOper := [
 op (.t 17) .mv [.v 7]]
def a58r7 : List AOper := [
 op (.t 18) .mv [.v 6],
 op (.t 19) (.bin .add) [.t 18,.c (.int .i64 1)],
 op (.v 6) .mv [.t 19]]
def a58s8 : ACode := .reg [] a58r7
def a58s9 : ACode := .test [] a58r6 (.t 17) a58s8 .skip
def a58r10 : List AOper := [
 op (.t 20) .mv [.v 6],
 op (.v 8) .mv [.t 20]]
def a58s11 : ACode := .reg [] a58r10
def a58r12 : List AOper := [
 op (.v 9) .mv [.c (.int .i64 0)]]
def a58s13 : ACode := .reg [] a58r12
def a58r14 : List AOper := [
 op (.t 21) .mv [.v 6],
 op (.t 22) .mv [.v 0],
 op (.t 23) .lenS [.t 22],
 op (.t 24) (.bin .lss) [.t 21,.t 23],
 op (.t 25) .mv [.t 24],
 ⟨.t 26,.mv,[.v 0],none,some (.t 25,true)⟩,
 ⟨.t 27,.mv,[.v 6],none,some (.t 25,true)⟩,
 ⟨.t 28,.idxS,[.t 26,.t 27],none,some (.t 25,true)⟩,
 ⟨.t 29,.call 57,[.t 28],none,some (.t 25,true)⟩,
 op (.t 30) .pick [.t 25,.t 29,.c (.bool false)]]
def a58s15 : ACode := .test [] a58r14 (.t 30) .skip (.exit 0)
def a58r16 : List AOper := [
 op (.t 31) .mv [.v 6],
 op (.t 32) .mv [.v 8],
 op (.t 33) (.bin .sub) [.t 31,.t 32],
 op (.t 34) (.bin .lss) [.t 33,.c (.int .i64 18)]]
def a58r17 : List AOper := [
 op (.t 35) .mv [.v 9],
 op (.t 36) (.bin .mul) [.t 35,.c (.int .i64 10)],
 op (.t 37) .mv [.v 0],
 op (.t 38) .mv [.v 6],
 op (.t 39) .idxS [.t 37,.t 38],
 op (.t 40) (.bin .sub) [.t 39,.c (.int .u8 48)],
 op (.t 41) (.conv .i64) [.t 40],
 op (.t 42) (.bin .add) [.t 36,.t 41],
 op (.v 9) .mv [.t 42]]
def a58s18 : ACode := .reg [] a58r17
def a58s19 : ACode := .test [] a58r16 (.t 34) a58s18 .skip
def a58r20 : List AOper := [
 op (.t 43) .mv [.v 6],
 op (.t 44) (.bin .add) [.t 43,.c (.int .i64 1)],
 op (.v 6) .mv [.t 44]]
def a58s21 : ACode := .reg [] a58r20
def a58s22 : ACode := .seq a58s19 a58s21
def a58s23 : ACode := .blk 1 a58s22
def a58s24 : ACode := .seq a58s15 a58s23
def a58s25 : ACode := .loop a58s24
def a58s26 : ACode := .blk 0 a58s25
def a58r27 : List AOper := [
 op (.t 46) .mv [.v 6],
 op (.t 47) .mv [.v 8],
 op (.t 48) (.bin .eql) [.t 46,.t 47],
 op (.t 45) .mv [.t 48]]
def a58r28 : List AOper := [
 op (.t 49) (.build [.int .u8 0,.str [],.int .i64 0,.int .i64 0] []) [],
 op (.t 50) .mv [.v 6],
 ⟨.none,.stLc 2 4,[.l 2,.t 49],some 2,none⟩,
 op (.v 3) .mv [.c (.int .i64 0)],
 op (.v 4) .mv [.t 50],
 op (.v 5) .mv [.c (.int .i64 4)]]
def a58s29 : ACode := .reg [] a58r28
def a58s30 : ACode := .seq a58s29 .ret
def a58r31 : List AOper := [
 op (.t 52) .mv [.v 0],
 op (.t 53) .mv [.v 8],
 op (.t 54) .idxS [.t 52,.t 53],
 op (.t 55) (.bin .eql) [.t 54,.c (.int .u8 48)],
 op (.t 56) .mv [.t 55],
 ⟨.t 57,.mv,[.v 6],none,some (.t 56,true)⟩,
 ⟨.t 58,.mv,[.v 8],none,some (.t 56,true)⟩,
 ⟨.t 59,.bin .add,[.t 58,.c (.int .i64 1)],none,some (.t 56,true)⟩,
 ⟨.t 60,.bin .gtr,[.t 57,.t 59],none,some (.t 56,true)⟩,
 op (.t 61) .pick [.t 56,.t 60,.c (.bool false)],
 op (.t 51) .mv [.t 61]]
def a58r32 : List AOper := [
 op (.t 62) (.build [.int .u8 0,.str [],.int .i64 0,.int .i64 0] []) [],
 op (.t 63) .mv [.v 8],
 op (.t 64) (.bin .add) [.t 63,.c (.int .i64 1)],
 ⟨.none,.stLc 2 4,[.l 2,.t 62],some 2,none⟩,
 op (.v 3) .mv [.c (.int .i64 0)],
 op (.v 4) .mv [.t 64],
 op (.v 5) .mv [.c (.int .i64 4)]]
def a58s33 : ACode := .reg [] a58r32
def a58s34 : ACode := .seq a58s33 .ret
def a58r35 : List AOper := [
 op (.t 66) .mv [.v 6],
 op (.t 67) .mv [.v 0],
 op (.t 68) .lenS [.t 67],
 op (.t 69) (.bin .lss) [.t 66,.t 68],
 op (.t 70) .mv [.t 69],
 ⟨.t 71,.mv,[.v 0],none,some (.t 70,true)⟩,
 ⟨.t 72,.mv,[.v 6],none,some (.t 70,true)⟩,
 ⟨.t 73,.idxS,[.t 71,.t 72],none,some (.t 70,true)⟩,
 ⟨.t 74,.call 56,[.t 73],none,some (.t 70,true)⟩,
 ⟨.t 75,.mv,[.t 74],none,some (.t 70,true)⟩,
 ⟨.t 76,.mv,[.v 0],none,some (.t 75,false)⟩,
 ⟨.t 77,.mv,[.v 6],none,some (.t 75,false)⟩,
 ⟨.t 78,.idxS,[.t 76,.t 77],none,some (.t 75,false)⟩,
 ⟨.t 79,.bin .eql,[.t 78,.c (.int .u8 46)],none,some (.t 75,false)⟩,
 ⟨.t 80,.pick,[.t 75,.c (.bool true),.t 79],none,some (.t 70,true)⟩,
 op (.t 81) .pick [.t 70,.t 80,.c (.bool false)],
 op (.t 65) .mv [.t 81]]
def a58r36 : List AOper := [
 op (.t 82) (.build [.int .u8 0,.str [],.int .i64 0,.int .i64 0] []) [],
 op (.t 83) .mv [.v 6],
 ⟨.none,.stLc 2 4,[.l 2,.t 82],some 2,none⟩,
 op (.v 3) .mv [.c (.int .i64 0)],
 op (.v 4) .mv [.t 83],
 op (.v 5) .mv [.c (.int .i64 4)]]
def a58s37 : ACode := .reg [] a58r36
def a58s38 : ACode := .seq a58s37 .ret
def a58r39 : List AOper := [
 op (.t 85) .mv [.v 6],
 op (.t 86) .mv [.v 8],
 op (.t 87) (.bin .sub) [.t 85,.t 86],
 op (.t 88) (.bin .gtr) [.t 87,.c (.int .i64 18)],
 op (.t 84) .mv [.t 88]]
def a58r40 : List AOper := [
 op (.t 89) (.build [.int .u8 0,.str [],.int .i64 0,.int .i64 0] []) [],
 op (.t 90) .mv [.v 1],
 ⟨.none,.stLc 2 4,[.l 2,.t 89],some 2,none⟩,
 op (.v 3) .mv [.c (.int .i64 0)],
 op (.v 4) .mv [.t 90],
 op (.v 5) .mv [.c (.int .i64 1)]]
def a58s41 : ACode := .reg [] a58r40
def a58s42 : ACode := .seq a58s41 .ret
def a58s43 : ACode := .test [] a58r39 (.t 84) a58s42 .skip
def a58s44 : ACode := .test [] a58r35 (.t 65) a58s38 a58s43
def a58s45 : ACode := .test [] a58r31 (.t 51) a58s34 a58s44
def a58s46 : ACode := .test [] a58r27 (.t 45) a58s30 a58s45
def a58s47 : ACode := .blk 2 a58s46
def a58r48 : List AOper := [
 op (.t 91) .mv [.v 7]]
def a58r49 : List AOper := [
 op (.t 92) .mv [.v 9],
 op (.t 93) (.un .neg) [.t 92],
 op (.v 9) .mv [.t 93]]
def a58s50 : ACode := .reg [] a58r49
def a58s51 : ACode := .test [] a58r48 (.t 91) a58s50 .skip
def a58r52 : List AOper := [
 op (.t 94) .mv [.v 0],
 op (.t 95) .mv [.v 1],
 op (.t 96) .mv [.v 6],
 op (.t 97) (.slS true true) [.t 94,.t 95,.t 96],
 op (.t 98) .mv [.v 9],
 op (.t 99) (.build [.int .u8 0,.str [],.int .i64 0,.int .i64 0] [(0,1),(1,1),(2,1)]) [.c (.int .u8 2),.t 97,.t 98],
 op (.t 100) .mv [.v 6],
 ⟨.none,.stLc 2 4,[.l 2,.t 99],some 2,none⟩,
 op (.v 3) .mv [.t 100],
 op (.v 4) .mv [.c (.int .i64 0)],
 op (.v 5) .mv [.c (.int .i64 0)]]
def a58s53 : ACode := .reg [] a58r52
def a58s54 : ACode := .seq a58s53 .ret
def a58s55 : ACode := .seq a58s51 a58s54
def a58s56 : ACode := .seq a58s47 a58s55
def a58s57 : ACode := .seq a58s26 a58s56
def a58s58 : ACode := .seq a58s13 a58s57
def a58s59 : ACode := .seq a58s11 a58s58
def a58s60 : ACode := .seq a58s9 a58s59
def a58s61 : ACode := .seq a58s5 a58s60
def a58s62 : ACode := .seq a58s3 a58s61
def a58s63 : ACode := .seq a58s1 a58s62
def a58c : ACode :=
  a58s63
def a58 : AFn := { np := 2,nv := 10,results := [.bx 2 true 4,.v 3,.v 4,.v 5],code := a58c }
def a58v : List Nat := [0,1,4,5,6,7,8,9,10,11]
def a58b : List Nat := [2]

def a59r0 : List AOper := [
 ⟨.bx,.alloc [.int .u8 0,.str [],.int .i64 0,.int .i64 0],[],some 2,none⟩,
 op (.v 3) .mv [.c (.int .i64 0)],
 op (.v 4) .mv [.c (.int .i64 0)],
 op (.v 5) .mv [.c (.int .i64 0)]]
def a59s1 : ACode := .reg [2] a59r0
def a59r2 : List AOper := [
 op (.v 6) .mv [.c (.str [])]]
def a59s3 : ACode := .reg [] a59r2
def a59r4 : List AOper := [
 op (.t 10) .mv [.v 1],
 op (.t 11) (.bin .add) [.t 10,.c (.int .i64 1)],
 op (.v 7) .mv [.t 11]]
def a59s5 : ACode := .reg [] a59r4
def a59r6 : List AOper := [
 op (.t 12) .mv [.v 7],
 op (.t 13) .mv [.v 0],
 op (.t 14) .lenS [.t 13],
 op (.t 15) (.bin .lss) [.t 12,.t 14]]
def a59s7 : ACode := .test [] a59r6 (.t 15) .skip (.exit 0)
def a59r8 : List AOper := [
 op (.t 16) .mv [.v 0],
 op (.t 17) .mv [.v 7],
 op (.v 8) .idxS [.t 16,.t 17]]
def a59s9 : ACode := .reg [] a59r8
def a59r10 : List AOper := [
 op (.t 27) (.bin .eql) [.v 8,.c (.int .u8 34)],
 op (.t 26) .mv [.t 27]]
def a59r11 : List AOper := [
 op (.t 28) .mv [.v 6],
 op (.t 29) .lenS [.t 28],
 op (.t 30) (.bin .gtr) [.t 29,.c (.int .i64 200)]]
def a59r12 : List AOper := [
 op (.t 31) (.build [.int .u8 0,.str [],.int .i64 0,.int .i64 0] []) [],
 op (.t 32) .mv [.v 1],
 ⟨.none,.stLc 2 4,[.l 2,.t 31],some 2,none⟩,
 op (.v 3) .mv [.c (.int .i64 0)],
 op (.v 4) .mv [.t 32],
 op (.v 5) .mv [.c (.int .i64 2)]]
def a59s13 : ACode := .reg [] a59r12
def a59s14 : ACode := .seq a59s13 .ret
def a59s15 : ACode := .test [] a59r11 (.t 30) a59s14 .skip
def a59r16 : List AOper := [
 op (.t 33) .mv [.v 6],
 op (.t 34) (.build [.int .u8 0,.str [],.int .i64 0,.int .i64 0] [(0,1),(1,1)]) [.c (.int .u8 3),.t 33],
 op (.t 35) .mv [.v 7],
 op (.t 36) (.bin .add) [.t 35,.c (.int .i64 1)],
 ⟨.none,.stLc 2 4,[.l 2,.t 34],some 2,none⟩,
 op (.v 3) .mv [.t 36],
 op (.v 4) .mv [.c (.int .i64 0)],
 op (.v 5) .mv [.c (.int .i64 0)]]
def a59s17 : ACode := .reg [] a59r16
def a59s18 : ACode := .seq a59s17 .ret
def a59s19 : ACode := .seq a59s15 a59s18
def a59r20 : List AOper := [
 op (.t 38) (.bin .eql) [.v 8,.c (.int .u8 10)],
 op (.t 37) .mv [.t 38]]
def a59r21 : List AOper := [
 op (.t 39) (.build [.int .u8 0,.str [],.int .i64 0,.int .i64 0] []) [],
 op (.t 40) .mv [.v 7],
 ⟨.none,.stLc 2 4,[.l 2,.t 39],some 2,none⟩,
 op (.v 3) .mv [.c (.int .i64 0)],
 op (.v 4) .mv [.t 40],
 op (.v 5) .mv [.c (.int .i64 4)]]
def a59s22 : ACode := .reg [] a59r21
def a59s23 : ACode := .seq a59s22 .ret
def a59r24 : List AOper := [
 op (.t 42) (.bin .eql) [.v 8,.c (.int .u8 92)],
 op (.t 41) .mv [.t 42]]
def a59r25 : List AOper := [
 op (.t 43) .mv [.v 7],
 op (.t 44) (.bin .add) [.t 43,.c (.int .i64 1)],
 op (.v 7) .mv [.t 44]]
def a59s26 : ACode := .reg [] a59r25
def a59r27 : List AOper := [
 op (.t 45) .mv [.v 7],
 op (.t 46) .mv [.v 0],
 op (.t 47) .lenS [.t 46],
 op (.t 48) (.bin .eql) [.t 45,.t 47]]
def a59r28 : List AOper := [
 op (.t 49) (.build [.int .u8 0,.str [],.int .i64 0,.int .i64 0] []) [],
 op (.t 50) .mv [.v 7],
 ⟨.none,.stLc 2 4,[.l 2,.t 49],some 2,none⟩,
 op (.v 3) .mv [.c (.int .i64 0)],
 op (.v 4) .mv [.t 50],
 op (.v 5) .mv [.c (.int .i64 4)]]
def a59s29 : ACode := .reg [] a59r28
def a59s30 : ACode := .seq a59s29 .ret
def a59s31 : ACode := .test [] a59r27 (.t 48) a59s30 .skip
def a59r32 : List AOper := [
 op (.t 51) .mv [.v 0],
 op (.t 52) .mv [.v 7],
 op (.v 9) .idxS [.t 51,.t 52]]
def a59s33 : ACode := .reg [] a59r32
def a59r34 : List AOper := [
 op (.t 57) (.bin .eql) [.v 9,.c (.int .u8 110)],
 op (.t 56) .mv [.t 57]]
def a59r35 : List AOper := [
 op (.t 58) .mv [.v 6],
 op (.t 59) (.bin .add) [.t 58,.c (.str [10])],
 op (.v 6) .mv [.t 59]]
def a59s36 : ACode := .reg [] a59r35
def a59r37 : List AOper := [
 op (.t 61) (.bin .eql) [.v 9,.c (.int .u8 116)],
 op (.t 60) .mv [.t 61]]
def a59r38 : List AOper := [
 op (.t 62) .mv [.v 6],
 op (.t 63) (.bin .add) [.t 62,.c (.str [9])],
 op (.v 6) .mv [.t 63]]
def a59s39 : ACode := .reg [] a59r38
def a59r40 : List AOper := [
 op (.t 65) (.bin .eql) [.v 9,.c (.int .u8 34)],
 op (.v 10) .mv [.t 65]]
def a59r41 : List AOper := [
 op (.t 66) (.bin .eql) [.v 9,.c (.int .u8 47)],
 op (.v 10) .mv [.t 66]]
def a59r42 : List AOper := [
 op (.t 67) (.bin .eql) [.v 9,.c (.int .u8 92)],
 op (.v 10) .mv [.t 67]]
def a59s43 : ACode := .reg [] a59r42
def a59s44 : ACode := .test [] a59r41 (.v 10) .skip a59s43
def a59s45 : ACode := .test [] a59r40 (.v 10) .skip a59s44
def a59r46 : List AOper := [
 op (.t 68) .mv [.v 6],
 op (.t 69) .mv [.v 0],
 op (.t 70) .mv [.v 7],
 op (.t 71) .mv [.v 7],
 op (.t 72) (.bin .add) [.t 71,.c (.int .i64 1)],
 op (.t 73) (.slS true true) [.t 69,.t 70,.t 72],
 op (.t 74) (.bin .add) [.t 68,.t 73],
 op (.v 6) .mv [.t 74]]
def a59s47 : ACode := .reg [] a59r46
def a59r48 : List AOper := [
 op (.t 54) (.build [.int .u8 0,.str [],.int .i64 0,.int .i64 0] []) [],
 op (.t 55) .mv [.v 7],
 ⟨.none,.stLc 2 4,[.l 2,.t 54],some 2,none⟩,
 op (.v 3) .mv [.c (.int .i64 0)],
 op (.v 4) .mv [.t 55],
 op (.v 5) .mv [.c (.int .i64 4)]]
def a59s49 : ACode := .reg [] a59r48
def a59s50 : ACode := .seq a59s49 .ret
def a59s51 : ACode := .test [] [] (.v 10) a59s47 a59s50
def a59s52 : ACode := .seq a59s45 a59s51
def a59s53 : ACode := .test [] a59r37 (.t 60) a59s39 a59s52
def a59s54 : ACode := .test [] a59r34 (.t 56) a59s36 a59s53
def a59s55 : ACode := .blk 3 a59s54
def a59s56 : ACode := .seq a59s33 a59s55
def a59s57 : ACode := .seq a59s31 a59s56
def a59s58 : ACode := .seq a59s26 a59s57
def a59r59 : List AOper := [
 op (.t 19) .mv [.v 6],
 op (.t 20) .mv [.v 0],
 op (.t 21) .mv [.v 7],
 op (.t 22) .mv [.v 7],
 op (.t 23) (.bin .add) [.t 22,.c (.int .i64 1)],
 op (.t 24) (.slS true true) [.t 20,.t 21,.t 23],
 op (.t 25) (.bin .add) [.t 19,.t 24],
 op (.v 6) .mv [.t 25]]
def a59s60 : ACode := .reg [] a59r59
def a59s61 : ACode := .test [] a59r24 (.t 41) a59s58 a59s60
def a59s62 : ACode := .test [] a59r20 (.t 37) a59s23 a59s61
def a59s63 : ACode := .test [] a59r10 (.t 26) a59s19 a59s62
def a59s64 : ACode := .blk 2 a59s63
def a59s65 : ACode := .seq a59s9 a59s64
def a59r66 : List AOper := [
 op (.t 75) .mv [.v 7],
 op (.t 76) (.bin .add) [.t 75,.c (.int .i64 1)],
 op (.v 7) .mv [.t 76]]
def a59s67 : ACode := .reg [] a59r66
def a59s68 : ACode := .seq a59s65 a59s67
def a59s69 : ACode := .blk 1 a59s68
def a59s70 : ACode := .seq a59s7 a59s69
def a59s71 : ACode := .loop a59s70
def a59s72 : ACode := .blk 0 a59s71
def a59r73 : List AOper := [
 op (.t 77) (.build [.int .u8 0,.str [],.int .i64 0,.int .i64 0] []) [],
 op (.t 78) .mv [.v 7],
 ⟨.none,.stLc 2 4,[.l 2,.t 77],some 2,none⟩,
 op (.v 3) .mv [.c (.int .i64 0)],
 op (.v 4) .mv [.t 78],
 op (.v 5) .mv [.c (.int .i64 4)]]
def a59s74 : ACode := .reg [] a59r73
def a59s75 : ACode := .seq a59s74 .ret
def a59s76 : ACode := .seq a59s72 a59s75
def a59s77 : ACode := .seq a59s5 a59s76
def a59s78 : ACode := .seq a59s3 a59s77
def a59s79 : ACode := .seq a59s1 a59s78
def a59c : ACode :=
  a59s79
def a59 : AFn := { np := 2,nv := 11,results := [.bx 2 true 4,.v 3,.v 4,.v 5],code := a59c }
def a59v : List Nat := [0,1,4,5,6,7,8,9,18,53,64]
def a59b : List Nat := [2]

def a60r0 : List AOper := [
 op (.v 2) .mv [.c (.bool false)]]
def a60s1 : ACode := .reg [] a60r0
def a60r2 : List AOper := [
 op (.t 5) .mv [.v 0],
 op (.t 6) .nilchk [.t 5],
 op (.t 7) (.fad 4) [.t 6],
 op (.t 8) (.ldSt false 1) [.t 7],
 op (.t 9) (.bin .eql) [.t 8,.c (.int .i64 0)],
 op (.t 10) .mv [.t 9],
 ⟨.t 11,.mv,[.v 0],none,some (.t 10,true)⟩,
 ⟨.t 12,.nilchk,[.t 11],none,some (.t 10,true)⟩,
 ⟨.t 13,.fad 0,[.t 12],none,some (.t 10,true)⟩,
 ⟨.t 14,.ldSt false 1,[.t 13],none,some (.t 10,true)⟩,
 ⟨.t 15,.mv,[.v 0],none,some (.t 10,true)⟩,
 ⟨.t 16,.nilchk,[.t 15],none,some (.t 10,true)⟩,
 ⟨.t 17,.fad 1,[.t 16],none,some (.t 10,true)⟩,
 ⟨.t 18,.ldSt false 1,[.t 17],none,some (.t 10,true)⟩,
 ⟨.t 19,.iad 4,[.t 14,.t 18],none,some (.t 10,true)⟩,
 ⟨.t 20,.fad 0,[.t 19],none,some (.t 10,true)⟩,
 ⟨.t 21,.ldRo false 1,[.t 20],none,some (.t 10,true)⟩,
 ⟨.t 22,.bin .eql,[.t 21,.c (.int .u8 4)],none,some (.t 10,true)⟩,
 op (.t 23) .pick [.t 10,.t 22,.c (.bool false)],
 op (.t 24) .mv [.t 23],
 ⟨.t 25,.mv,[.v 0],none,some (.t 24,true)⟩,
 ⟨.t 26,.nilchk,[.t 25],none,some (.t 24,true)⟩,
 ⟨.t 27,.fad 0,[.t 26],none,some (.t 24,true)⟩,
 ⟨.t 28,.ldSt false 1,[.t 27],none,some (.t 24,true)⟩,
 ⟨.t 29,.mv,[.v 0],none,some (.t 24,true)⟩,
 ⟨.t 30,.nilchk,[.t 29],none,some (.t 24,true)⟩,
 ⟨.t 31,.fad 1,[.t 30],none,some (.t 24,true)⟩,
 ⟨.t 32,.ldSt false 1,[.t 31],none,some (.t 24,true)⟩,
 ⟨.t 33,.iad 4,[.t 28,.t 32],none,some (.t 24,true)⟩,
 ⟨.t 34,.fad 1,[.t 33],none,some (.t 24,true)⟩,
 ⟨.t 35,.ldRo false 1,[.t 34],none,some (.t 24,true)⟩,
 ⟨.t 36,.mv,[.v 1],none,some (.t 24,true)⟩,
 ⟨.t 37,.bin .eql,[.t 35,.t 36],none,some (.t 24,true)⟩,
 op (.t 38) .pick [.t 24,.t 37,.c (.bool false)],
 op (.v 2) .mv [.t 38]]
def a60s3 : ACode := .reg [] a60r2
def a60s4 : ACode := .seq a60s3 .ret
def a60s5 : ACode := .seq a60s1 a60s4
def a60c : ACode :=
  a60s5
def a60 : AFn := { np := 2,nv := 3,results := [.v 2],code := a60c }
def a60v : List Nat := [0,1,4]
def a60b : List Nat := []

def a61r0 : List AOper := [
 ⟨.bx,.alloc [.int .u8 0,.int .i64 0,.str [],.list true [],.list true []],[],some 2,none⟩]
def a61s1 : ACode := .reg [2] a61r0
def a61r2 : List AOper := [
 ⟨.bx,.alloc [.int .u8 0,.int .i64 0,.str [],.list true [],.list true []],[],some 3,none⟩]
def a61s3 : ACode := .reg [3] a61r2
def a61r4 : List AOper := [
 op (.t 6) .mv [.v 0],
 op (.t 7) (.call 62) [.t 6]]
def a61r5 : List AOper := [
 op (.t 8) .mv [.v 0],
 op (.t 9) .mv [.v 1],
 op (.t 10) (.call 71) [.t 8,.t 9],
 ⟨.none,.stLc 3 5,[.l 3,.ts 10],some 3,none⟩]
def a61s6 : ACode := .reg [] a61r5
def a61s7 : ACode := .test [] a61r4 (.t 7) a61s6 .skip
def a61r8 : List AOper := [
 op (.t 11) .mv [.v 0],
 op (.t 12) .nilchk [.t 11],
 op (.t 13) (.fad 2) [.t 12],
 op (.t 14) (.ldSt false 1) [.t 13],
 op (.t 15) (.bin .sub) [.t 14,.c (.int .i64 1)],
 op (.t 16) .nilchk [.t 11],
 op (.t 17) (.fad 2) [.t 16],
 op .none (.stSt 1) [.t 17,.t 15]]
def a61s9 : ACode := .reg [] a61r8
def a61r10 : List AOper := [
 ⟨.t 18,.ldLc 3 true 5,[.l 3],some 3,none⟩,
 ⟨.none,.stLc 2 5,[.l 2,.ts 18],some 2,none⟩]
def a61s11 : ACode := .reg [] a61r10
def a61s12 : ACode := .seq a61s11 .ret
def a61s13 : ACode := .seq a61s9 a61s12
def a61s14 : ACode := .seq a61s7 a61s13
def a61s15 : ACode := .seq a61s3 a61s14
def a61s16 : ACode := .seq a61s1 a61s15
def a61c : ACode :=
  a61s16
def a61 : AFn := { np := 2,nv := 4,results := [.bx 2 true 5],code := a61c }
def a61v : List Nat := [0,1,4,5]
def a61b : List Nat := [2,3]

def a62r0 : List AOper := [
 op (.v 1) .mv [.c (.bool false)]]
def a62s1 : ACode := .reg [] a62r0
def a62r2 : List AOper := [
 op (.t 3) .mv [.v 0],
 op (.t 4) .nilchk [.t 3],
 op (.t 5) (.fad 2) [.t 4],
 op (.t 6) (.ldSt false 1) [.t 5],
 op (.t 7) (.bin .add) [.t 6,.c (.int .i64 1)],
 op (.t 8) .nilchk [.t 3],
 op (.t 9) (.fad 2) [.t 8],
 op .none (.stSt 1) [.t 9,.t 7]]
def a62s3 : ACode := .reg [] a62r2
def a62r4 : List AOper := [
 op (.t 10) .mv [.v 0],
 op (.t 11) .nilchk [.t 10],
 op (.t 12) (.fad 2) [.t 11],
 op (.t 13) (.ldSt false 1) [.t 12],
 op (.t 14) (.bin .gtr) [.t 13,.c (.int .i64 24)]]
def a62r5 : List AOper := [
 op (.t 15) .mv [.v 0],
 op (.t 16) (.call 42) [.t 15,.c (.int .i64 5)]]
def a62s6 : ACode := .reg [] a62r5
def a62s7 : ACode := .test [] a62r4 (.t 14) a62s6 .skip
def a62r8 : List AOper := [
 op (.t 17) .mv [.v 0],
 op (.t 18) .nilchk [.t 17],
 op (.t 19) (.fad 4) [.t 18],
 op (.t 20) (.ldSt false 1) [.t 19],
 op (.t 21) (.bin .eql) [.t 20,.c (.int .i64 0)],
 op (.v 1) .mv [.t 21]]
def a62s9 : ACode := .reg [] a62r8
def a62s10 : ACode := .seq a62s9 .ret
def a62s11 : ACode := .seq a62s7 a62s10
def a62s12 : ACode := .seq a62s3 a62s11
def a62s13 : ACode := .seq a62s1 a62s12
def a62c : ACode :=
  a62s13
def a62 : AFn := { np := 1,nv := 2,results := [.v 1],code := a62c }
def a62v : List Nat := [0,2]
def a62b : List Nat := []

def a63r0 : List AOper := [
 ⟨.bx,.boxV,[.v 0],some 1,none⟩,
 op (.v 2) .mv [.c (.str [])]]
def a63s1 : ACode := .reg [1] a63r0
def a63r2 : List AOper := [
 op (.t 3) (.fad 1) [.l 1],
 ⟨.t 4,.ldLc 1 false 1,[.t 3],some 1,none⟩,
 op (.t 5) .lenL [.t 4],
 op (.t 6) (.bin .gtr) [.t 5,.c (.int .i64 0)]]
def a63s3 : ACode := .test [] a63r2 (.t 6) .skip (.exit 0)
def a63r4 : List AOper := [
 op (.t 7) (.fad 1) [.l 1],
 ⟨.t 8,.ldLc 1 false 1,[.t 7],some 1,none⟩,
 op (.t 9) (.iad 3) [.t 8,.c (.int .i64 0)],
 op (.t 10) (.ldRo true 3) [.t 9],
 ⟨.none,.stLc 1 3,[.l 1,.ts 10],some 1,none⟩]
def a63s5 : ACode := .reg [] a63r4
def a63s6 : ACode := .blk 1 a63s5
def a63s7 : ACode := .seq a63s3 a63s6
def a63s8 : ACode := .loop a63s7
def a63s9 : ACode := .blk 0 a63s8
def a63r10 : List AOper := [
 op (.t 11) (.fad 0) [.l 1],
 ⟨.t 12,.ldLc 1 false 1,[.t 11],some 1,none⟩,
 op (.v 2) .mv [.t 12]]
def a63s11 : ACode := .reg [] a63r10
def a63s12 : ACode := .seq a63s11 .ret
def a63s13 : ACode := .seq a63s9 a63s12
def a63s14 : ACode := .seq a63s1 a63s13
def a63c : ACode :=
  a63s14
def a63 : AFn := { np := 1,nv := 3,results := [.v 2],code := a63c }
def a63v : List Nat := [0,1,2]
def a63b : List Nat := [1]

def a64r0 : List AOper := [
 op (.v 3) .boxO [.v 0],
 op (.v 4) .boxO [.v 1],
 ⟨.bx,.boxV,[.v 2],some 5,none⟩,
 op (.v 6) .mv [.c (.bool false)]]
def a64s1 : ACode := .reg [5] a64r0
def a64r2 : List AOper := [
 op (.t 9) (.fad 0) [.l 5],
 ⟨.t 10,.ldLc 5 false 1,[.t 9],some 5,none⟩,
 op (.t 11) (.bin .eql) [.t 10,.c (.int .u8 0)]]
def a64r3 : List AOper := [
 op (.t 12) (.fad 2) [.v 4],
 op (.t 13) (.ldSt false 1) [.t 12],
 op (.t 14) (.un .not) [.t 13],
 op (.v 6) .mv [.t 14]]
def a64s4 : ACode := .reg [] a64r3
def a64s5 : ACode := .seq a64s4 .ret
def a64s6 : ACode := .test [] a64r2 (.t 11) a64s5 .skip
def a64r7 : List AOper := [
 op (.t 15) (.fad 1) [.v 4],
 op (.t 16) (.ldSt false 1) [.t 15],
 op (.t 17) .lenL [.t 16],
 op (.t 18) (.bin .gtr) [.t 17,.c (.int .i64 0)]]
def a64r8 : List AOper := [
 op (.t 19) (.fad 0) [.l 5],
 ⟨.t 20,.ldLc 5 false 1,[.t 19],some 5,none⟩,
 op (.t 21) (.bin .neq) [.t 20,.c (.int .u8 5)]]
def a64r9 : List AOper := [
 op (.t 22) (.ldSt false 1) [.v 3],
 op (.t 23) (.fad 1) [.v 4],
 op (.t 24) (.ldSt false 1) [.t 23],
 op (.t 25) (.iad 3) [.t 24,.c (.int .i64 0)],
 op (.t 26) (.ldRo true 3) [.t 25],
 ⟨.t 27,.ldLc 5 true 5,[.l 5],some 5,none⟩,
 op (.t 28) (.call 64) [.t 22,.t 26,.t 27],
 op (.v 6) .mv [.t 28]]
def a64s10 : ACode := .reg [] a64r9
def a64s11 : ACode := .seq a64s10 .ret
def a64s12 : ACode := .test [] a64r8 (.t 21) a64s11 .skip
def a64r13 : List AOper := [
 op (.t 29) (.fad 4) [.l 5],
 ⟨.t 30,.ldLc 5 false 1,[.t 29],some 5,none⟩,
 op (.t 31) (.mkF 73 0) [.v 3,.v 4],
 op (.t 32) (.call 72) [.t 30,.t 31],
 op (.t 33) (.un .not) [.t 32],
 op (.v 6) .mv [.t 33]]
def a64s14 : ACode := .reg [] a64r13
def a64s15 : ACode := .seq a64s14 .ret
def a64s16 : ACode := .seq a64s12 a64s15
def a64s17 : ACode := .test [] a64r7 (.t 18) a64s16 .skip
def a64r18 : List AOper := [
 op (.t 34) (.fad 0) [.v 4],
 op (.v 8) (.ldSt false 1) [.t 34]]
def a64s19 : ACode := .reg [] a64r18
def a64r20 : List AOper := [
 op (.t 37) (.bin .eql) [.v 8,.c (.str [73,110,116])],
 op (.t 36) .mv [.t 37]]
def a64r21 : List AOper := [
 op (.t 38) (.fad 0) [.l 5],
 ⟨.t 39,.ldLc 5 false 1,[.t 38],some 5,none⟩,
 op (.t 40) (.bin .eql) [.t 39,.c (.int .u8 1)],
 op (.t 41) .mv [.t 40],
 ⟨.t 42,.fad 1,[.l 5],none,some (.t 41,true)⟩,
 ⟨.t 43,.ldLc 5 false 1,[.t 42],some 5,some (.t 41,true)⟩,
 ⟨.t 44,.fad 1,[.l 5],none,some (.t 41,true)⟩,
 ⟨.t 45,.ldLc 5 false 1,[.t 44],some 5,some (.t 41,true)⟩,
 ⟨.t 46,.conv .i32,[.t 45],none,some (.t 41,true)⟩,
 ⟨.t 47,.conv .i64,[.t 46],none,some (.t 41,true)⟩,
 ⟨.t 48,.bin .eql,[.t 43,.t 47],none,some (.t 41,true)⟩,
 op (.t 49) .pick [.t 41,.t 48,.c (.bool false)],
 op (.v 6) .mv [.t 49]]
def a64s22 : ACode := .reg [] a64r21
def a64s23 : ACode := .seq a64s22 .ret
def a64r24 : List AOper := [
 op (.t 51) (.bin .eql) [.v 8,.c (.str [83,116,114,105,110,103])],
 op (.t 50) .mv [.t 51]]
def a64r25 : List AOper := [
 op (.t 52) (.fad 0) [.l 5],
 ⟨.t 53,.ldLc 5 false 1,[.t 52],some 5,none⟩,
 op (.t 54) (.bin .eql) [.t 53,.c (.int .u8 2)],
 op (.v 6) .mv [.t 54]]
def a64s26 : ACode := .reg [] a64r25
def a64s27 : ACode := .seq a64s26 .ret
def a64r28 : List AOper := [
 op (.t 56) (.bin .eql) [.v 8,.c (.str [66,111,111,108,101,97,110])],
 op (.t 55) .mv [.t 56]]
def a64r29 : List AOper := [
 op (.t 57) (.fad 0) [.l 5],
 ⟨.t 58,.ldLc 5 false 1,[.t 57],some 5,none⟩,
 op (.t 59) (.bin .eql) [.t 58,.c (.int .u8 3)],
 op (.v 6) .mv [.t 59]]
def a64s30 : ACode := .reg [] a64r29
def a64s31 : ACode := .seq a64s30 .ret
def a64r32 : List AOper := [
 op (.t 61) (.bin .eql) [.v 8,.c (.str [73,68])],
 op (.t 60) .mv [.t 61]]
def a64r33 : List AOper := [
 op (.t 62) (.fad 0) [.l 5],
 ⟨.t 63,.ldLc 5 false 1,[.t 62],some 5,none⟩,
 op (.t 64) (.bin .eql) [.t 63,.c (.int .u8 2)],
 op (.t 65) .mv [.t 64],
 ⟨.t 66,.fad 0,[.l 5],none,some (.t 65,false)⟩,
 ⟨.t 67,.ldLc 5 false 1,[.t 66],some 5,some (.t 65,false)⟩,
 ⟨.t 68,.bin .eql,[.t 67,.c (.int .u8 1)],none,some (.t 65,false)⟩,
 op (.t 69) .pick [.t 65,.c (.bool true),.t 68],
 op (.v 6) .mv [.t 69]]
def a64s34 : ACode := .reg [] a64r33
def a64s35 : ACode := .seq a64s34 .ret
def a64s36 : ACode := .test [] a64r32 (.t 60) a64s35 .skip
def a64s37 : ACode := .test [] a64r28 (.t 55) a64s31 a64s36
def a64s38 : ACode := .test [] a64r24 (.t 50) a64s27 a64s37
def a64s39 : ACode := .test [] a64r20 (.t 36) a64s23 a64s38
def a64s40 : ACode := .blk 0 a64s39
def a64s41 : ACode := .seq a64s19 a64s40
def a64r42 : List AOper := [
 op (.t 71) (.ldSt false 1) [.v 3],
 op (.t 72) (.fad 0) [.v 4],
 op (.t 73) (.ldSt false 1) [.t 72],
 op (.t 74) (.call 15) [.t 71,.t 73],
 op (.t 70) .mv [.t 74],
 op (.t 75) (.ext 0) [.t 70],
 op (.t 76) (.ext 1) [.t 70],
 ⟨.bx,.alloc [.int .u8 0,.str [],.list true [],.list true []],[],some 7,none⟩,
 ⟨.none,.stLc 7 4,[.l 7,.ts 75],some 7,none⟩,
 op (.t 8) .mv [.t 76]]
def a64s43 : ACode := .reg [7] a64r42
def a64r44 : List AOper := [
 op (.t 77) (.fad 0) [.l 7],
 ⟨.v 9,.ldLc 7 false 1,[.t 77],some 7,none⟩]
def a64s45 : ACode := .reg [] a64r44
def a64r46 : List AOper := [
 op (.t 80) (.bin .eql) [.v 9,.c (.int .u8 4)],
 op (.t 79) .mv [.t 80]]
def a64r47 : List AOper := [
 op (.t 81) (.fad 0) [.l 5],
 ⟨.t 82,.ldLc 5 false 1,[.t 81],some 5,none⟩,
 op (.t 83) (.bin .eql) [.t 82,.c (.int .u8 4)],
 op (.t 84) .mv [.t 83],
 ⟨.t 85,.fad 3,[.l 7],none,some (.t 84,true)⟩,
 ⟨.t 86,.ldLc 7 false 1,[.t 85],some 7,some (.t 84,true)⟩,
 ⟨.t 87,.fad 2,[.l 5],none,some (.t 84,true)⟩,
 ⟨.t 88,.ldLc 5 false 1,[.t 87],some 5,some (.t 84,true)⟩,
 ⟨.t 89,.call 29,[.t 86,.t 88],none,some (.t 84,true)⟩,
 op (.t 90) .pick [.t 84,.t 89,.c (.bool false)],
 op (.v 6) .mv [.t 90]]
def a64s48 : ACode := .reg [] a64r47
def a64s49 : ACode := .seq a64s48 .ret
def a64r50 : List AOper := [
 op (.t 92) (.bin .eql) [.v 9,.c (.int .u8 5)],
 op (.t 91) .mv [.t 92]]
def a64r51 : List AOper := [
 op (.t 93) (.fad 0) [.l 5],
 ⟨.t 94,.ldLc 5 false 1,[.t 93],some 5,none⟩,
 op (.t 95) (.bin .eql) [.t 94,.c (.int .u8 6)],
 op (.t 96) .mv [.t 95],
 ⟨.t 97,.ldSt false 1,[.v 3],none,some (.t 96,true)⟩,
 ⟨.t 98,.ldLc 7 true 4,[.l 7],some 7,some (.t 96,true)⟩,
 ⟨.t 99,.ldLc 5 true 5,[.l 5],some 5,some (.t 96,true)⟩,
 ⟨.t 100,.call 74,[.t 97,.t 98,.t 99],none,some (.t 96,true)⟩,
 op (.t 101) .pick [.t 96,.t 100,.c (.bool false)],
 op (.v 6) .mv [.t 101]]
def a64s52 : ACode := .reg [] a64r51
def a64s53 : ACode := .seq a64s52 .ret
def a64s54 : ACode := .test [] a64r50 (.t 91) a64s53 .skip
def a64s55 : ACode := .test [] a64r46 (.t 79) a64s49 a64s54
def a64s56 : ACode := .blk 1 a64s55
def a64s57 : ACode := .seq a64s45 a64s56
def a64r58 : List AOper := [
 op (.v 6) .mv [.c (.bool false)]]
def a64s59 : ACode := .reg [] a64r58
def a64s60 : ACode := .seq a64s59 .ret
def a64s61 : ACode := .seq a64s57 a64s60
def a64s62 : ACode := .seq a64s43 a64s61
def a64s63 : ACode := .seq a64s41 a64s62
def a64s64 : ACode := .seq a64s17 a64s63
def a64s65 : ACode := .seq a64s6 a64s64
def a64s66 : ACode := .seq a64s1 a64s65
def a64c : ACode :=
  a64s66
def a64 : AFn := { np := 3,nv := 10,results := [.v 6],code := a64c }
def a64v : List Nat := [0,1,2,3,4,5,6,7,35,78]
def a64b : List Nat := [5,7]

def a65r0 : List AOper := [
 op (.v 2) .mv [.c (.bool false)]]
def a65s1 : ACode := .reg [] a65r0
def a65r2 : List AOper := [
 op (.t 5) .mv [.v 0],
 op (.t 6) .mv [.v 1],
 op (.t 7) (.call 75) [.t 5,.t 6],
 op (.t 8) (.bin .geq) [.t 7,.c (.int .i64 0)],
 op (.v 2) .mv [.t 8]]
def a65s3 : ACode := .reg [] a65r2
def a65s4 : ACode := .seq a65s3 .ret
def a65s5 : ACode := .seq a65s1 a65s4
def a65c : ACode :=
  a65s5
def a65 : AFn := { np := 2,nv := 3,results := [.v 2],code := a65c }
def a65v : List Nat := [0,1,4]
def a65b : List Nat := []

def a66r0 : List AOper := [
 ⟨.bx,.boxV,[.v 0],some 2,none⟩,
 op (.v 3) .mv [.c (.bool false)]]
def a66s1 : ACode := .reg [2] a66r0
def a66r2 : List AOper := [
 op (.t 5) (.fad 2) [.v 1],
 op (.t 6) (.ldSt false 1) [.t 5],
 op (.t 7) (.call 37) [.t 6],
 op (.t 8) (.fad 0) [.l 2],
 ⟨.t 9,.ldLc 2 false 1,[.t 8],some 2,none⟩,
 op (.t 10) (.call 36) [.t 7,.t 9],
 op (.v 4) .mv [.t 10]]
def a66s3 : ACode := .reg [] a66r2
def a66r4 : List AOper := [
 op (.t 11) .mv [.v 4],
 op (.t 12) (.bin .lss) [.t 11,.c (.int .i64 0)],
 op (.t 13) .mv [.t 12],
 ⟨.t 14,.fad 2,[.v 1],none,some (.t 13,false)⟩,
 ⟨.t 15,.ldSt false 1,[.t 14],none,some (.t 13,false)⟩,
 ⟨.t 16,.mv,[.v 4],none,some (.t 13,false)⟩,
 ⟨.t 17,.iad 11,[.t 15,.t 16],none,some (.t 13,false)⟩,
 ⟨.t 18,.fad 2,[.t 17],none,some (.t 13,false)⟩,
 ⟨.t 19,.ldRo true 3,[.t 18],none,some (.t 13,false)⟩,
 ⟨.t 20,.fad 2,[.l 2],none,some (.t 13,false)⟩,
 ⟨.t 21,.ldLc 2 true 3,[.t 20],some 2,some (.t 13,false)⟩,
 ⟨.t 22,.call 18,[.t 19,.t 21],none,some (.t 13,false)⟩,
 ⟨.t 23,.un .not,[.t 22],none,some (.t 13,false)⟩,
 op (.t 24) .pick [.t 13,.c (.bool true),.t 23],
 op (.v 3) .mv [.t 24]]
def a66s5 : ACode := .reg [] a66r4
def a66s6 : ACode := .seq a66s5 .ret
def a66s7 : ACode := .seq a66s3 a66s6
def a66s8 : ACode := .seq a66s1 a66s7
def a66c : ACode :=
  a66s8
def a66 : AFn := { np := 2,nv := 5,results := [.v 3],code := a66c }
def a66v : List Nat := [0,1,2,3,4]
def a66b : List Nat := [2]

def a67r0 : List AOper := [
 ⟨.bx,.boxV,[.v 0],some 1,none⟩,
 op (.v 2) .mv [.c (.bool false)]]
def a67s1 : ACode := .reg [1] a67r0
def a67r2 : List AOper := [
 op (.t 3) (.fad 0) [.l 1],
 ⟨.t 4,.ldLc 1 false 1,[.t 3],some 1,none⟩,
 op (.t 5) (.bin .eql) [.t 4,.c (.str [105,100])],
 op (.t 6) .mv [.t 5],
 ⟨.t 7,.fad 5,[.l 1],none,some (.t 6,true)⟩,
 ⟨.t 8,.ldLc 1 false 1,[.t 7],some 1,some (.t 6,true)⟩,
 ⟨.t 9,.un .not,[.t 8],none,some (.t 6,true)⟩,
 op (.t 10) .pick [.t 6,.t 9,.c (.bool false)],
 op (.t 11) .mv [.t 10],
 ⟨.t 12,.fad 2,[.l 1],none,some (.t 11,true)⟩,
 ⟨.t 13,.ldLc 1 true 3,[.t 12],some 1,some (.t 11,true)⟩,
 ⟨.t 14,(.build [.str [],.list true [],.bool false] [(0,1),(2,1)]),[.c (.str [73,68]),.c (.bool true)],none,some (.t 11,true)⟩,
 ⟨.t 15,.call 18,[.t 13,.t 14],none,some (.t 11,true)⟩,
 op (.t 16) .pick [.t 11,.t 15,.c (.bool false)],
 op (.v 2) .mv [.t 16]]
def a67s3 : ACode := .reg [] a67r2
def a67s4 : ACode := .seq a67s3 .ret
def a67s5 : ACode := .seq a67s1 a67s4
def a67c : ACode :=
  a67s5
def a67 : AFn := { np := 1,nv := 3,results := [.v 2],code := a67c }
def a67v : List Nat := [0,1,2]
def a67b : List Nat := [1]

def a68r0 : List AOper := [
 op (.v 1) .mv [.c (.str [])],
 op (.v 2) .mv [.c (.str [])]]
def a68s1 : ACode := .reg [] a68r0
def a68r2 : List AOper := [
 op (.v 6) (.bslice 1 [[.str []],[.str []],[.str []]] [0,1,2]) [.c (.str [99,114,101,97,116,101]),.c (.str [117,112,100,97,116,101]),.c (.str [100,101,108,101,116,101])],
 op (.v 7) .lenL [.v 6],
 op (.v 8) .mv [.c (.int .i64 0)]]
def a68s3 : ACode := .reg [] a68r2
def a68r4 : List AOper := [
 op (.t 11) (.bin .lss) [.v 8,.v 7]]
def a68s5 : ACode := .test [] a68r4 (.t 11) .skip (.exit 0)
def a68r6 : List AOper := [
 op (.t 12) (.iad 1) [.v 6,.v 8],
 op (.t 13) (.ldRo false 1) [.t 12],
 op (.v 3) .mv [.t 13]]
def a68s7 : ACode := .reg [] a68r6
def a68r8 : List AOper := [
 op (.t 15) .mv [.v 0],
 op (.t 16) .mv [.v 3],
 op (.t 17) (.call 76) [.t 15,.t 16],
 op (.t 14) .mv [.t 17],
 op (.t 18) (.ext 0) [.t 14],
 op (.t 19) (.ext 1) [.t 14],
 op (.v 4) .mv [.t 18],
 op (.v 5) .mv [.t 19]]
def a68s9 : ACode := .reg [] a68r8
def a68r10 : List AOper := [
 op (.t 20) .mv [.v 5]]
def a68r11 : List AOper := [
 op (.t 21) .mv [.v 3],
 op (.t 22) .mv [.v 4],
 op (.v 1) .mv [.t 21],
 op (.v 2) .mv [.t 22]]
def a68s12 : ACode := .reg [] a68r11
def a68s13 : ACode := .seq a68s12 .ret
def a68s14 : ACode := .test [] a68r10 (.t 20) a68s13 .skip
def a68s15 : ACode := .seq a68s9 a68s14
def a68s16 : ACode := .seq a68s7 a68s15
def a68s17 : ACode := .blk 1 a68s16
def a68r18 : List AOper := [
 op (.t 23) (.bin .add) [.v 8,.c (.int .i64 1)],
 op (.v 8) .mv [.t 23]]
def a68s19 : ACode := .reg [] a68r18
def a68s20 : ACode := .seq a68s17 a68s19
def a68s21 : ACode := .seq a68s5 a68s20
def a68s22 : ACode := .loop a68s21
def a68s23 : ACode := .blk 0 a68s22
def a68s24 : ACode := .seq a68s3 a68s23
def a68r25 : List AOper := [
 op (.v 1) .mv [.c (.str [])],
 op (.v 2) .mv [.c (.str [])]]
def a68s26 : ACode := .reg [] a68r25
def a68s27 : ACode := .seq a68s26 .ret
def a68s28 : ACode := .seq a68s24 a68s27
def a68s29 : ACode := .seq a68s1 a68s28
def a68c : ACode :=
  a68s29
def a68 : AFn := { np := 1,nv := 9,results := [.v 1,.v 2],code := a68c }
def a68v : List Nat := [0,2,3,5,6,7,8,9,10]
def a68b : List Nat := []

def a69r0 : List AOper := [
 ⟨.bx,.boxV,[.v 0],some 3,none⟩,
 op (.v 4) .mv [.c (.bool false)]]
def a69s1 : ACode := .reg [3] a69r0
def a69r2 : List AOper := [
 op (.t 6) (.fad 2) [.v 1],
 op (.t 7) (.ldSt false 1) [.t 6],
 op (.t 8) (.call 37) [.t 7],
 op (.t 9) (.fad 0) [.l 3],
 ⟨.t 10,.ldLc 3 false 1,[.t 9],some 3,none⟩,
 op (.t 11) (.call 36) [.t 8,.t 10],
 op (.v 5) .mv [.t 11]]
def a69s3 : ACode := .reg [] a69r2
def a69r4 : List AOper := [
 op (.t 12) .mv [.v 5],
 op (.t 13) (.bin .lss) [.t 12,.c (.int .i64 0)],
 op (.t 14) .mv [.t 13],
 ⟨.t 15,.ldSt false 1,[.v 2],none,some (.t 14,false)⟩,
 ⟨.t 16,.fad 2,[.v 1],none,some (.t 14,false)⟩,
 ⟨.t 17,.ldSt false 1,[.t 16],none,some (.t 14,false)⟩,
 ⟨.t 18,.mv,[.v 5],none,some (.t 14,false)⟩,
 ⟨.t 19,.iad 11,[.t 17,.t 18],none,some (.t 14,false)⟩,
 ⟨.t 20,.fad 2,[.t 19],none,some (.t 14,false)⟩,
 ⟨.t 21,.ldRo true 3,[.t 20],none,some (.t 14,false)⟩,
 ⟨.t 22,.fad 2,[.l 3],none,some (.t 14,false)⟩,
 ⟨.t 23,.ldLc 3 true 3,[.t 22],some 3,some (.t 14,false)⟩,
 ⟨.t 24,.call 70,[.t 15,.t 21,.t 23],none,some (.t 14,false)⟩,
 ⟨.t 25,.un .not,[.t 24],none,some (.t 14,false)⟩,
 op (.t 26) .pick [.t 14,.c (.bool true),.t 25],
 op (.v 4) .mv [.t 26]]
def a69s5 : ACode := .reg [] a69r4
def a69s6 : ACode := .seq a69s5 .ret
def a69s7 : ACode := .seq a69s3 a69s6
def a69s8 : ACode := .seq a69s1 a69s7
def a69c : ACode :=
  a69s8
def a69 : AFn := { np := 3,nv := 6,results := [.v 4],code := a69c }
def a69v : List Nat := [0,1,2,3,4,5]
def a69b : List Nat := [3]

def a70r0 : List AOper := [
 ⟨.bx,.boxV,[.v 1],some 3,none⟩,
 ⟨.bx,.boxV,[.v 2],some 4,none⟩,
 op (.v 5) .mv [.c (.bool false)]]
def a70s1 : ACode := .reg [3,4] a70r0
def a70r2 : List AOper := [
 op (.t 7) (.fad 1) [.l 3],
 ⟨.t 8,.ldLc 3 false 1,[.t 7],some 3,none⟩,
 op (.t 9) .lenL [.t 8],
 op (.t 10) (.fad 1) [.l 4],
 ⟨.t 11,.ldLc 4 false 1,[.t 10],some 4,none⟩,
 op (.t 12) .lenL [.t 11],
 op (.t 13) (.bin .neq) [.t 9,.t 12]]
def a70r3 : List AOper := [
 op (.v 5) .mv [.c (.bool false)]]
def a70s4 : ACode := .reg [] a70r3
def a70s5 : ACode := .seq a70s4 .ret
def a70s6 : ACode := .test [] a70r2 (.t 13) a70s5 .skip
def a70r7 : List AOper := [
 op (.t 14) (.fad 1) [.l 3],
 ⟨.t 15,.ldLc 3 false 1,[.t 14],some 3,none⟩,
 op (.t 16) .lenL [.t 15],
 op (.t 17) (.bin .gtr) [.t 16,.c (.int .i64 0)]]
def a70r8 : List AOper := [
 op (.t 18) .mv [.v 0],
 op (.t 19) (.fad 1) [.l 3],
 ⟨.t 20,.ldLc 3 false 1,[.t 19],some 3,none⟩,
 op (.t 21) (.iad 3) [.t 20,.c (.int .i64 0)],
 op (.t 22) (.ldRo true 3) [.t 21],
 op (.t 23) (.fad 1) [.l 4],
 ⟨.t 24,.ldLc 4 false 1,[.t 23],some 4,none⟩,
 op (.t 25) (.iad 3) [.t 24,.c (.int .i64 0)],
 op (.t 26) (.ldRo true 3) [.t 25],
 op (.t 27) (.call 70) [.t 18,.t 22,.t 26],
 op (.v 5) .mv [.t 27]]
def a70s9 : ACode := .reg [] a70r8
def a70s10 : ACode := .seq a70s9 .ret
def a70s11 : ACode := .test [] a70r7 (.t 17) a70s10 .skip
def a70r12 : List AOper := [
 op (.t 28) (.fad 0) [.l 3],
 ⟨.t 29,.ldLc 3 false 1,[.t 28],some 3,none⟩,
 op (.t 30) (.fad 0) [.l 4],
 ⟨.t 31,.ldLc 4 false 1,[.t 30],some 4,none⟩,
 op (.t 32) (.bin .eql) [.t 29,.t 31],
 op (.t 33) .mv [.t 32],
 ⟨.t 34,.mv,[.v 0],none,some (.t 33,false)⟩,
 ⟨.t 35,.fad 0,[.l 3],none,some (.t 33,false)⟩,
 ⟨.t 36,.ldLc 3 false 1,[.t 35],some 3,some (.t 33,false)⟩,
 ⟨.t 37,.call 12,[.t 34,.t 36],none,some (.t 33,false)⟩,
 ⟨.t 38,.mv,[.t 37],none,some (.t 33,false)⟩,
 ⟨.t 39,.fad 0,[.l 4],none,some (.t 38,true)⟩,
 ⟨.t 40,.ldLc 4 false 1,[.t 39],some 4,some (.t 38,true)⟩,
 ⟨.t 41,.bin .eql,[.t 40,.c (.str [73,68])],none,some (.t 38,true)⟩,
 ⟨.t 42,.pick,[.t 38,.t 41,.c (.bool false)],none,some (.t 33,false)⟩,
 op (.t 43) .pick [.t 33,.c (.bool true),.t 42],
 op (.v 5) .mv [.t 43]]
def a70s13 : ACode := .reg [] a70r12
def a70s14 : ACode := .seq a70s13 .ret
def a70s15 : ACode := .seq a70s11 a70s14
def a70s16 : ACode := .seq a70s6 a70s15
def a70s17 : ACode := .seq a70s1 a70s16
def a70c : ACode :=
  a70s17
def a70 : AFn := { np := 3,nv := 6,results := [.v 5],code := a70c }
def a70v : List Nat := [0,1,2,4,5,6]
def a70b : List Nat := [3,4]

def a71r0 : List AOper := [
 ⟨.bx,.alloc [.int .u8 0,.int .i64 0,.str [],.list true [],.list true []],[],some 2,none⟩]
def a71s1 : ACode := .reg [2] a71r0
def a71r2 : List AOper := [
 op (.t 10) .mv [.v 0],
 op (.t 11) .nilchk [.t 10],
 op (.t 12) (.fad 0) [.t 11],
 op (.t 13) (.ldSt false 1) [.t 12],
 op (.t 14) .mv [.v 0],
 op (.t 15) .nilchk [.t 14],
 op (.t 16) (.fad 1) [.t 15],
 op (.t 17) (.ldSt false 1) [.t 16],
 op (.t 18) (.iad 4) [.t 13,.t 17],
 op (.t 19) (.ldRo true 4) [.t 18],
 ⟨.bx,.alloc [.int .u8 0,.str [],.int .i64 0,.int .i64 0],[],some 3,none⟩,
 ⟨.none,.stLc 3 4,[.l 3,.t 19],some 3,none⟩]
def a71s3 : ACode := .reg [3] a71r2
def a71r4 : List AOper := [
 op (.t 21) (.fad 0) [.l 3],
 ⟨.t 22,.ldLc 3 false 1,[.t 21],some 3,none⟩,
 op (.t 23) (.bin .eql) [.t 22,.c (.int .u8 2)],
 op (.t 20) .mv [.t 23]]
def a71r5 : List AOper := [
 op (.t 24) .mv [.v 0],
 op (.t 25) .nilchk [.t 24],
 op (.t 26) (.fad 1) [.t 25],
 op (.t 27) (.ldSt false 1) [.t 26],
 op (.t 28) (.bin .add) [.t 27,.c (.int .i64 1)],
 op (.t 29) .nilchk [.t 24],
 op (.t 30) (.fad 1) [.t 29],
 op .none (.stSt 1) [.t 30,.t 28]]
def a71s6 : ACode := .reg [] a71r5
def a71r7 : List AOper := [
 op (.t 31) (.fad 2) [.l 3],
 ⟨.t 32,.ldLc 3 false 1,[.t 31],some 3,none⟩,
 op (.t 33) (.build [.int .u8 0,.int .i64 0,.str [],.list true [],.list true []] [(0,1),(1,1)]) [.c (.int .u8 1),.t 32],
 ⟨.none,.stLc 2 5,[.l 2,.ts 33],some 2,none⟩]
def a71s8 : ACode := .reg [] a71r7
def a71s9 : ACode := .seq a71s8 .ret
def a71s10 : ACode := .seq a71s6 a71s9
def a71r11 : List AOper := [
 op (.t 35) (.fad 0) [.l 3],
 ⟨.t 36,.ldLc 3 false 1,[.t 35],some 3,none⟩,
 op (.t 37) (.bin .eql) [.t 36,.c (.int .u8 3)],
 op (.t 34) .mv [.t 37]]
def a71r12 : List AOper := [
 op (.t 38) .mv [.v 0],
 op (.t 39) .nilchk [.t 38],
 op (.t 40) (.fad 1) [.t 39],
 op (.t 41) (.ldSt false 1) [.t 40],
 op (.t 42) (.bin .add) [.t 41,.c (.int .i64 1)],
 op (.t 43) .nilchk [.t 38],
 op (.t 44) (.fad 1) [.t 43],
 op .none (.stSt 1) [.t 44,.t 42]]
def a71s13 : ACode := .reg [] a71r12
def a71r14 : List AOper := [
 op (.t 45) (.fad 1) [.l 3],
 ⟨.t 46,.ldLc 3 false 1,[.t 45],some 3,none⟩,
 op (.t 47) (.build [.int .u8 0,.int .i64 0,.str [],.list true [],.list true []] [(0,1),(2,1)]) [.c (.int .u8 2),.t 46],
 ⟨.none,.stLc 2 5,[.l 2,.ts 47],some 2,none⟩]
def a71s15 : ACode := .reg [] a71r14
def a71s16 : ACode := .seq a71s15 .ret
def a71s17 : ACode := .seq a71s13 a71s16
def a71r18 : List AOper := [
 op (.t 49) .mv [.v 0],
 op (.t 50) (.call 46) [.t 49,.c (.str [116,114,117,101])],
 op (.t 48) .mv [.t 50]]
def a71r19 : List AOper := [
 op (.t 51) (.build [.int .u8 0,.int .i64 0,.str [],.list true [],.list true []] [(0,1),(1,1)]) [.c (.int .u8 3),.c (.int .i64 1)],
 ⟨.none,.stLc 2 5,[.l 2,.ts 51],some 2,none⟩]
def a71s20 : ACode := .reg [] a71r19
def a71s21 : ACode := .seq a71s20 .ret
def a71r22 : List AOper := [
 op (.t 53) .mv [.v 0],
 op (.t 54) (.call 46) [.t 53,.c (.str [102,97,108,115,101])],
 op (.t 52) .mv [.t 54]]
def a71r23 : List AOper := [
 op (.t 55) (.build [.int .u8 0,.int .i64 0,.str [],.list true [],.list true []] [(0,1)]) [.c (.int .u8 3)],
 ⟨.none,.stLc 2 5,[.l 2,.ts 55],some 2,none⟩]
def a71s24 : ACode := .reg [] a71r23
def a71s25 : ACode := .seq a71s24 .ret
def a71r26 : List AOper := [
 op (.t 57) .mv [.v 0],
 op (.t 58) (.call 46) [.t 57,.c (.str [110,117,108,108])],
 op (.t 56) .mv [.t 58]]
def a71r27 : List AOper := [
 op (.t 59) (.build [.int .u8 0,.int .i64 0,.str [],.list true [],.list true []] []) [],
 ⟨.none,.stLc 2 5,[.l 2,.ts 59],some 2,none⟩]
def a71s28 : ACode := .reg [] a71r27
def a71s29 : ACode := .seq a71s28 .ret
def a71r30 : List AOper := [
 op (.t 61) (.fad 0) [.l 3],
 ⟨.t 62,.ldLc 3 false 1,[.t 61],some 3,none⟩,
 op (.t 63) (.bin .eql) [.t 62,.c (.int .u8 1)],
 op (.t 60) .mv [.t 63]]
def a71r31 : List AOper := [
 op (.t 64) .mv [.v 0],
 op (.t 65) .nilchk [.t 64],
 op (.t 66) (.fad 1) [.t 65],
 op (.t 67) (.ldSt false 1) [.t 66],
 op (.t 68) (.bin .add) [.t 67,.c (.int .i64 1)],
 op (.t 69) .nilchk [.t 64],
 op (.t 70) (.fad 1) [.t 69],
 op .none (.stSt 1) [.t 70,.t 68]]
def a71s32 : ACode := .reg [] a71r31
def a71r33 : List AOper := [
 op (.t 71) (.fad 1) [.l 3],
 ⟨.t 72,.ldLc 3 false 1,[.t 71],some 3,none⟩,
 op (.t 73) (.build [.int .u8 0,.int .i64 0,.str [],.list true [],.list true []] [(0,1),(2,1)]) [.c (.int .u8 4),.t 72],
 ⟨.none,.stLc 2 5,[.l 2,.ts 73],some 2,none⟩]
def a71s34 : ACode := .reg [] a71r33
def a71s35 : ACode := .seq a71s34 .ret
def a71s36 : ACode := .seq a71s32 a71s35
def a71r37 : List AOper := [
 op (.t 75) .mv [.v 0],
 op (.t 76) (.call 60) [.t 75,.c (.str [36])],
 op (.t 77) .mv [.t 76],
 ⟨.t 78,.mv,[.v 1],none,some (.t 77,true)⟩,
 ⟨.t 79,.un .not,[.t 78],none,some (.t 77,true)⟩,
 op (.t 80) .pick [.t 77,.t 79,.c (.bool false)],
 op (.t 74) .mv [.t 80]]
def a71r38 : List AOper := [
 op (.t 81) .mv [.v 0],
 op (.t 82) .nilchk [.t 81],
 op (.t 83) (.fad 1) [.t 82],
 op (.t 84) (.ldSt false 1) [.t 83],
 op (.t 85) (.bin .add) [.t 84,.c (.int .i64 1)],
 op (.t 86) .nilchk [.t 81],
 op (.t 87) (.fad 1) [.t 86],
 op .none (.stSt 1) [.t 87,.t 85]]
def a71s39 : ACode := .reg [] a71r38
def a71r40 : List AOper := [
 op (.t 88) .mv [.v 0],
 op (.t 89) (.call 43) [.t 88],
 op (.t 90) (.build [.int .u8 0,.int .i64 0,.str [],.list true [],.list true []] [(0,1),(2,1)]) [.c (.int .u8 7),.t 89],
 ⟨.none,.stLc 2 5,[.l 2,.ts 90],some 2,none⟩]
def a71s41 : ACode := .reg [] a71r40
def a71s42 : ACode := .seq a71s41 .ret
def a71s43 : ACode := .seq a71s39 a71s42
def a71r44 : List AOper := [
 op (.t 92) .mv [.v 0],
 op (.t 93) (.call 46) [.t 92,.c (.str [91])],
 op (.t 91) .mv [.t 93]]
def a71r45 : List AOper := [
 op (.t 94) (.build [.int .u8 0,.int .i64 0,.str [],.list true [],.list true []] [(0,1)]) [.c (.int .u8 5)],
 ⟨.bx,.alloc [.int .u8 0,.int .i64 0,.str [],.list true [],.list true []],[],some 4,none⟩,
 ⟨.none,.stLc 4 5,[.l 4,.ts 94],some 4,none⟩]
def a71s46 : ACode := .reg [4] a71r45
def a71r47 : List AOper := [
 op (.t 95) .mv [.v 0],
 op (.t 96) .nilchk [.t 95],
 op (.t 97) (.fad 4) [.t 96],
 op (.t 98) (.ldSt false 1) [.t 97],
 op (.t 99) (.bin .eql) [.t 98,.c (.int .i64 0)],
 op (.t 100) .mv [.t 99],
 ⟨.t 101,.mv,[.v 0],none,some (.t 100,true)⟩,
 ⟨.t 102,.call 46,[.t 101,.c (.str [93])],none,some (.t 100,true)⟩,
 ⟨.t 103,.un .not,[.t 102],none,some (.t 100,true)⟩,
 op (.t 104) .pick [.t 100,.t 103,.c (.bool false)]]
def a71s48 : ACode := .test [] a71r47 (.t 104) .skip (.exit 1)
def a71r49 : List AOper := [
 op (.t 105) .mv [.v 0],
 op (.t 106) .mv [.v 1],
 op (.t 107) (.call 61) [.t 105,.t 106],
 ⟨.bx,.alloc [.int .u8 0,.int .i64 0,.str [],.list true [],.list true []],[],some 5,none⟩,
 ⟨.none,.stLc 5 5,[.l 5,.ts 107],some 5,none⟩]
def a71s50 : ACode := .reg [5] a71r49
def a71r51 : List AOper := [
 op (.t 108) (.fad 4) [.l 4],
 ⟨.t 109,.ldLcS 4,[.t 108],some 4,none⟩,
 ⟨.t 110,.ldLc 5 true 5,[.l 5],some 5,none⟩,
 op (.t 111) (.bslice 5 [[.int .u8 0,.int .i64 0,.str [],.list true [],.list true []]] [0]) [.t 110],
 op (.t 112) (.app 5 80) [.ts 109,.t 111],
 op (.t 113) (.fad 4) [.l 4],
 ⟨.none,.stLc 4 1,[.t 113,.ts 112],some 4,none⟩]
def a71s52 : ACode := .reg [] a71r51
def a71s53 : ACode := .seq a71s50 a71s52
def a71s54 : ACode := .blk 2 a71s53
def a71s55 : ACode := .seq a71s48 a71s54
def a71s56 : ACode := .loop a71s55
def a71s57 : ACode := .blk 1 a71s56
def a71r58 : List AOper := [
 ⟨.t 114,.ldLc 4 true 5,[.l 4],some 4,none⟩,
 ⟨.none,.stLc 2 5,[.l 2,.ts 114],some 2,none⟩]
def a71s59 : ACode := .reg [] a71r58
def a71s60 : ACode := .seq a71s59 .ret
def a71s61 : ACode := .seq a71s57 a71s60
def a71s62 : ACode := .seq a71s46 a71s61
def a71r63 : List AOper := [
 op (.t 116) .mv [.v 0],
 op (.t 117) (.call 46) [.t 116,.c (.str [123])],
 op (.t 115) .mv [.t 117]]
def a71r64 : List AOper := [
 op (.t 118) (.build [.int .u8 0,.int .i64 0,.str [],.list true [],.list true []] [(0,1)]) [.c (.int .u8 6)],
 ⟨.bx,.alloc [.int .u8 0,.int .i64 0,.str [],.list true [],.list true []],[],some 6,none⟩,
 ⟨.none,.stLc 6 5,[.l 6,.ts 118],some 6,none⟩]
def a71s65 : ACode := .reg [6] a71r64
def a71r66 : List AOper := [
 op (.t 119) .mv [.v 0],
 op (.t 120) .nilchk [.t 119],
 op (.t 121) (.fad 4) [.t 120],
 op (.t 122) (.ldSt false 1) [.t 121],
 op (.t 123) (.bin .eql) [.t 122,.c (.int .i64 0)],
 op (.t 124) .mv [.t 123],
 ⟨.t 125,.mv,[.v 0],none,some (.t 124,true)⟩,
 ⟨.t 126,.call 46,[.t 125,.c (.str [125])],none,some (.t 124,true)⟩,
 ⟨.t 127,.un .not,[.t 126],none,some (.t 124,true)⟩,
 op (.t 128) .pick [.t 124,.t 127,.c (.bool false)]]
def a71s67 : ACode := .test [] a71r66 (.t 128) .skip (.exit 3)
def a71r68 : List AOper := [
 op (.t 129) (.fad 3) [.l 6],
 ⟨.t 130,.ldLcS 6,[.t 129],some 6,none⟩,
 op (.t 131) .mv [.v 0],
 op (.t 132) (.call 43) [.t 131],
 op (.t 133) (.bslice 1 [[.str []]] [0]) [.t 132],
 op (.t 134) (.app 1 16) [.ts 130,.t 133],
 op (.t 135) (.fad 3) [.l 6],
 ⟨.none,.stLc 6 1,[.t 135,.ts 134],some 6,none⟩]
def a71s69 : ACode := .reg [] a71r68
def a71r70 : List AOper := [
 op (.t 136) .mv [.v 0],
 op (.t 137) (.call 44) [.t 136,.c (.str [58])]]
def a71s71 : ACode := .reg [] a71r70
def a71r72 : List AOper := [
 op (.t 138) .mv [.v 0],
 op (.t 139) .mv [.v 1],
 op (.t 140) (.call 61) [.t 138,.t 139],
 ⟨.bx,.alloc [.int .u8 0,.int .i64 0,.str [],.list true [],.list true []],[],some 7,none⟩,
 ⟨.none,.stLc 7 5,[.l 7,.ts 140],some 7,none⟩]
def a71s73 : ACode := .reg [7] a71r72
def a71r74 : List AOper := [
 op (.t 141) (.fad 4) [.l 6],
 ⟨.t 142,.ldLcS 6,[.t 141],some 6,none⟩,
 ⟨.t 143,.ldLc 7 true 5,[.l 7],some 7,none⟩,
 op (.t 144) (.bslice 5 [[.int .u8 0,.int .i64 0,.str [],.list true [],.list true []]] [0]) [.t 143],
 op (.t 145) (.app 5 80) [.ts 142,.t 144],
 op (.t 146) (.fad 4) [.l 6],
 ⟨.none,.stLc 6 1,[.t 146,.ts 145],some 6,none⟩]
def a71s75 : ACode := .reg [] a71r74
def a71s76 : ACode := .seq a71s73 a71s75
def a71s77 : ACode := .seq a71s71 a71s76
def a71s78 : ACode := .seq a71s69 a71s77
def a71s79 : ACode := .blk 4 a71s78
def a71s80 : ACode := .seq a71s67 a71s79
def a71s81 : ACode := .loop a71s80
def a71s82 : ACode := .blk 3 a71s81
def a71r83 : List AOper := [
 ⟨.t 147,.ldLc 6 true 5,[.l 6],some 6,none⟩,
 ⟨.none,.stLc 2 5,[.l 2,.ts 147],some 2,none⟩]
def a71s84 : ACode := .reg [] a71r83
def a71s85 : ACode := .seq a71s84 .ret
def a71s86 : ACode := .seq a71s82 a71s85
def a71s87 : ACode := .seq a71s65 a71s86
def a71s88 : ACode := .test [] a71r63 (.t 115) a71s87 .skip
def a71s89 : ACode := .test [] a71r44 (.t 91) a71s62 a71s88
def a71s90 : ACode := .test [] a71r37 (.t 74) a71s43 a71s89
def a71s91 : ACode := .test [] a71r30 (.t 60) a71s36 a71s90
def a71s92 : ACode := .test [] a71r26 (.t 56) a71s29 a71s91
def a71s93 : ACode := .test [] a71r22 (.t 52) a71s25 a71s92
def a71s94 : ACode := .test [] a71r18 (.t 48) a71s21 a71s93
def a71s95 : ACode := .test [] a71r11 (.t 34) a71s17 a71s94
def a71s96 : ACode := .test [] a71r4 (.t 20) a71s10 a71s95
def a71s97 : ACode := .blk 0 a71s96
def a71r98 : List AOper := [
 op (.t 148) .mv [.v 0],
 op (.t 149) (.call 42) [.t 148,.c (.int .i64 4)]]
def a71s99 : ACode := .reg [] a71r98
def a71r100 : List AOper := [
 op (.t 150) (.build [.int .u8 0,.int .i64 0,.str [],.list true [],.list true []] []) [],
 ⟨.none,.stLc 2 5,[.l 2,.ts 150],some 2,none⟩]
def a71s101 : ACode := .reg [] a71r100
def a71s102 : ACode := .seq a71s101 .ret
def a71s103 : ACode := .seq a71s99 a71s102
def a71s104 : ACode := .seq a71s97 a71s103
def a71s105 : ACode := .seq a71s3 a71s104
def a71s106 : ACode := .seq a71s1 a71s105
def a71c : ACode :=
  a71s106
def a71 : AFn := { np := 2,nv := 8,results := [.bx 2 true 5],code := a71c }
def a71v : List Nat := [0,1,4,5,6,7,8,9]
def a71b : List Nat := [2,3,4,5,6,7]

def a72r0 : List AOper := [
 op (.v 2) .mv [.c (.bool false)]]
def a72s1 : ACode := .reg [] a72r0
def a72r2 : List AOper := [
 op (.t 5) .mv [.v 0],
 op (.t 6) .mv [.v 1],
 op (.t 7) (.call 77) [.t 5,.t 6],
 op (.t 8) (.bin .geq) [.t 7,.c (.int .i64 0)],
 op (.v 2) .mv [.t 8]]
def a72s3 : ACode := .reg [] a72r2
def a72s4 : ACode := .seq a72s3 .ret
def a72s5 : ACode := .seq a72s1 a72s4
def a72c : ACode :=
  a72s5
def a72 : AFn := { np := 2,nv := 3,results := [.v 2],code := a72c }
def a72v : List Nat := [0,1,4]
def a72b : List Nat := []

def a73r0 : List AOper := [
 ⟨.bx,.boxV,[.v 0],some 3,none⟩,
 op (.v 4) .mv [.c (.bool false)]]
def a73s1 : ACode := .reg [3] a73r0
def a73r2 : List AOper := [
 op (.t 5) (.ldSt false 1) [.v 1],
 op (.t 6) (.fad 1) [.v 2],
 op (.t 7) (.ldSt false 1) [.t 6],
 op (.t 8) (.iad 3) [.t 7,.c (.int .i64 0)],
 op (.t 9) (.ldRo true 3) [.t 8],
 ⟨.t 10,.ldLc 3 true 5,[.l 3],some 3,none⟩,
 op (.t 11) (.call 64) [.t 5,.t 9,.t 10],
 op (.t 12) (.un .not) [.t 11],
 op (.v 4) .mv [.t 12]]
def a73s3 : ACode := .reg [] a73r2
def a73s4 : ACode := .seq a73s3 .ret
def a73s5 : ACode := .seq a73s1 a73s4
def a73c : ACode :=
  a73s5
def a73 : AFn := { np := 3,nv := 5,results := [.v 4],code := a73c }
def a73v : List Nat := [0,1,2,3,4]
def a73b : List Nat := [3]

def a74r0 : List AOper := [
 ⟨.bx,.boxV,[.v 1],some 3,none⟩,
 op (.v 4) .boxO [.v 2],
 op (.v 5) .mv [.c (.bool false)]]
def a74s1 : ACode := .reg [3] a74r0
def a74r2 : List AOper := [
 op (.t 10) (.fad 3) [.v 4],
 op (.v 9) (.ldSt false 1) [.t 10],
 op (.v 10) .lenL [.v 9],
 op (.v 11) .mv [.c (.int .i64 0)]]
def a74s3 : ACode := .reg [] a74r2
def a74r4 : List AOper := [
 op (.t 14) (.bin .lss) [.v 11,.v 10]]
def a74s5 : ACode := .test [] a74r4 (.t 14) .skip (.exit 0)
def a74r6 : List AOper := [
 op (.t 15) .mv [.v 11],
 op (.t 16) (.iad 1) [.v 9,.v 11],
 op (.t 17) (.ldRo false 1) [.t 16],
 op (.v 6) .mv [.t 15],
 op (.v 7) .mv [.t 17]]
def a74s7 : ACode := .reg [] a74r6
def a74r8 : List AOper := [
 op (.t 18) (.fad 2) [.l 3],
 ⟨.t 19,.ldLc 3 false 1,[.t 18],some 3,none⟩,
 op (.t 20) (.call 37) [.t 19],
 op (.t 21) .mv [.v 7],
 op (.t 22) (.call 36) [.t 20,.t 21],
 op (.v 8) .mv [.t 22]]
def a74s9 : ACode := .reg [] a74r8
def a74r10 : List AOper := [
 op (.t 23) .mv [.v 8],
 op (.t 24) (.bin .lss) [.t 23,.c (.int .i64 0)],
 op (.t 25) .mv [.t 24],
 ⟨.t 26,.fad 3,[.v 4],none,some (.t 25,false)⟩,
 ⟨.t 27,.ldSt false 1,[.t 26],none,some (.t 25,false)⟩,
 ⟨.t 28,.mv,[.v 6],none,some (.t 25,false)⟩,
 ⟨.t 29,.slL 1 false true,[.t 27,.t 28],none,some (.t 25,false)⟩,
 ⟨.t 30,.mv,[.v 7],none,some (.t 25,false)⟩,
 ⟨.t 31,.call 29,[.t 29,.t 30],none,some (.t 25,false)⟩,
 op (.t 32) .pick [.t 25,.c (.bool true),.t 31],
 op (.t 33) .mv [.t 32],
 ⟨.t 34,.mv,[.v 0],none,some (.t 33,false)⟩,
 ⟨.t 35,.fad 2,[.l 3],none,some (.t 33,false)⟩,
 ⟨.t 36,.ldLc 3 false 1,[.t 35],some 3,some (.t 33,false)⟩,
 ⟨.t 37,.mv,[.v 8],none,some (.t 33,false)⟩,
 ⟨.t 38,.iad 11,[.t 36,.t 37],none,some (.t 33,false)⟩,
 ⟨.t 39,.fad 2,[.t 38],none,some (.t 33,false)⟩,
 ⟨.t 40,.ldRo true 3,[.t 39],none,some (.t 33,false)⟩,
 ⟨.t 41,.fad 4,[.v 4],none,some (.t 33,false)⟩,
 ⟨.t 42,.ldSt false 1,[.t 41],none,some (.t 33,false)⟩,
 ⟨.t 43,.mv,[.v 6],none,some (.t 33,false)⟩,
 ⟨.t 44,.iad 5,[.t 42,.t 43],none,some (.t 33,false)⟩,
 ⟨.t 45,.ldRo true 5,[.t 44],none,some (.t 33,false)⟩,
 ⟨.t 46,.call 64,[.t 34,.t 40,.t 45],none,some (.t 33,false)⟩,
 ⟨.t 47,.un .not,[.t 46],none,some (.t 33,false)⟩,
 op (.t 48) .pick [.t 33,.c (.bool true),.t 47]]
def a74r11 : List AOper := [
 op (.v 5) .mv [.c (.bool false)]]
def a74s12 : ACode := .reg [] a74r11
def a74s13 : ACode := .seq a74s12 .ret
def a74s14 : ACode := .test [] a74r10 (.t 48) a74s13 .skip
def a74s15 : ACode := .seq a74s9 a74s14
def a74s16 : ACode := .seq a74s7 a74s15
def a74s17 : ACode := .blk 1 a74s16
def a74r18 : List AOper := [
 op (.t 49) (.bin .add) [.v 11,.c (.int .i64 1)],
 op (.v 11) .mv [.t 49]]
def a74s19 : ACode := .reg [] a74r18
def a74s20 : ACode := .seq a74s17 a74s19
def a74s21 : ACode := .seq a74s5 a74s20
def a74s22 : ACode := .loop a74s21
def a74s23 : ACode := .blk 0 a74s22
def a74s24 : ACode := .seq a74s3 a74s23
def a74r25 : List AOper := [
 op (.t 50) (.fad 2) [.l 3],
 ⟨.t 51,.ldLc 3 false 1,[.t 50],some 3,none⟩,
 op (.t 52) (.mkF 78 0) [.v 4],
 op (.t 53) (.call 65) [.t 51,.t 52],
 op (.t 54) (.un .not) [.t 53],
 op (.v 5) .mv [.t 54]]
def a74s26 : ACode := .reg [] a74r25
def a74s27 : ACode := .seq a74s26 .ret
def a74s28 : ACode := .seq a74s24 a74s27
def a74s29 : ACode := .seq a74s1 a74s28
def a74c : ACode :=
  a74s29
def a74 : AFn := { np := 3,nv := 12,results := [.v 5],code := a74c }
def a74v : List Nat := [0,1,2,4,5,6,7,8,9,11,12,13]
def a74b : List Nat := [3]

def a75r0 : List AOper := [
 op (.v 2) .mv [.c (.int .i64 0)]]
def a75s1 : ACode := .reg [] a75r0
def a75r2 : List AOper := [
 op (.t 6) .mv [.v 0],
 op (.v 4) .lenL [.t 6],
 op (.v 5) .mv [.c (.int .i64 0)]]
def a75s3 : ACode := .reg [] a75r2
def a75r4 : List AOper := [
 op (.t 9) (.bin .lss) [.v 5,.v 4]]
def a75s5 : ACode := .test [] a75r4 (.t 9) .skip (.exit 0)
def a75r6 : List AOper := [
 op (.t 10) .mv [.v 5],
 op (.v 3) .mv [.t 10]]
def a75s7 : ACode := .reg [] a75r6
def a75r8 : List AOper := [
 op (.t 11) .mv [.v 1],
 op (.t 12) .mv [.v 0],
 op (.t 13) .mv [.v 3],
 op (.t 14) (.iad 11) [.t 12,.t 13],
 op (.t 15) (.ldRo true 11) [.t 14],
 op (.t 16) .callV [.t 11,.t 15]]
def a75r9 : List AOper := [
 op (.t 17) .mv [.v 3],
 op (.v 2) .mv [.t 17]]
def a75s10 : ACode := .reg [] a75r9
def a75s11 : ACode := .seq a75s10 .ret
def a75s12 : ACode := .test [] a75r8 (.t 16) a75s11 .skip
def a75s13 : ACode := .seq a75s7 a75s12
def a75s14 : ACode := .blk 1 a75s13
def a75r15 : List AOper := [
 op (.t 18) (.bin .add) [.v 5,.c (.int .i64 1)],
 op (.v 5) .mv [.t 18]]
def a75s16 : ACode := .reg [] a75r15
def a75s17 : ACode := .seq a75s14 a75s16
def a75s18 : ACode := .seq a75s5 a75s17
def a75s19 : ACode := .loop a75s18
def a75s20 : ACode := .blk 0 a75s19
def a75s21 : ACode := .seq a75s3 a75s20
def a75r22 : List AOper := [
 op (.v 2) .mv [.c (.int .i64 (-1))]]
def a75s23 : ACode := .reg [] a75r22
def a75s24 : ACode := .seq a75s23 .ret
def a75s25 : ACode := .seq a75s21 a75s24
def a75s26 : ACode := .seq a75s1 a75s25
def a75c : ACode :=
  a75s26
def a75 : AFn := { np := 2,nv := 6,results := [.v 2],code := a75c }
def a75v : List Nat := [0,1,4,5,7,8]
def a75b : List Nat := []

def a76r0 : List AOper := [
 op (.v 2) .mv [.c (.str [])],
 op (.v 3) .mv [.c (.bool false)]]
def a76s1 : ACode := .reg [] a76r0
def a76r2 : List AOper := [
 op (.t 6) .mv [.v 0],
 op (.t 7) .mv [.v 1],
 op (.t 8) (.call 79) [.t 6,.t 7],
 op (.t 9) (.ext 0) [.t 8],
 op (.t 10) (.ext 1) [.t 8],
 op (.v 2) .mv [.t 9],
 op (.v 3) .mv [.t 10]]
def a76s3 : ACode := .reg [] a76r2
def a76s4 : ACode := .seq a76s3 .ret
def a76s5 : ACode := .seq a76s1 a76s4
def a76c : ACode :=
  a76s5
def a76 : AFn := { np := 2,nv := 4,results := [.v 2,.v 3],code := a76c }
def a76v : List Nat := [0,1,4,5]
def a76b : List Nat := []

def a77r0 : List AOper := [
 op (.v 2) .mv [.c (.int .i64 0)]]
def a77s1 : ACode := .reg [] a77r0
def a77r2 : List AOper := [
 op (.t 6) .mv [.v 0],
 op (.v 4) .lenL [.t 6],
 op (.v 5) .mv [.c (.int .i64 0)]]
def a77s3 : ACode := .reg [] a77r2
def a77r4 : List AOper := [
 op (.t 9) (.bin .lss) [.v 5,.v 4]]
def a77s5 : ACode := .test [] a77r4 (.t 9) .skip (.exit 0)
def a77r6 : List AOper := [
 op (.t 10) .mv [.v 5],
 op (.v 3) .mv [.t 10]]
def a77s7 : ACode := .reg [] a77r6
def a77r8 : List AOper := [
 op (.t 11) .mv [.v 1],
 op (.t 12) .mv [.v 0],
 op (.t 13) .mv [.v 3],
 op (.t 14) (.iad 5) [.t 12,.t 13],
 op (.t 15) (.ldRo true 5) [.t 14],
 op (.t 16) .callV [.t 11,.t 15]]
def a77r9 : List AOper := [
 op (.t 17) .mv [.v 3],
 op (.v 2) .mv [.t 17]]
def a77s10 : ACode := .reg [] a77r9
def a77s11 : ACode := .seq a77s10 .ret
def a77s12 : ACode := .test [] a77r8 (.t 16) a77s11 .skip
def a77s13 : ACode := .seq a77s7 a77s12
def a77s14 : ACode := .blk 1 a77s13
def a77r15 : List AOper := [
 op (.t 18) (.bin .add) [.v 5,.c (.int .i64 1)],
 op (.v 5) .mv [.t 18]]
def a77s16 : ACode := .reg [] a77r15
def a77s17 : ACode := .seq a77s14 a77s16
def a77s18 : ACode := .seq a77s5 a77s17
def a77s19 : ACode := .loop a77s18
def a77s20 : ACode := .blk 0 a77s19
def a77s21 : ACode := .seq a77s3 a77s20
def a77r22 : List AOper := [
 op (.v 2) .mv [.c (.int .i64 (-1))]]
def a77s23 : ACode := .reg [] a77r22
def a77s24 : ACode := .seq a77s23 .ret
def a77s25 : ACode := .seq a77s21 a77s24
def a77s26 : ACode := .seq a77s1 a77s25
def a77c : ACode :=
  a77s26
def a77 : AFn := { np := 2,nv := 6,results := [.v 2],code := a77c }
def a77v : List Nat := [0,1,4,5,7,8]
def a77b : List Nat := []

def a78r0 : List AOper := [
 ⟨.bx,.boxV,[.v 0],some 2,none⟩,
 op (.v 3) .mv [.c (.bool false)]]
def a78s1 : ACode := .reg [2] a78r0
def a78r2 : List AOper := [
 op (.t 4) (.fad 2) [.l 2],
 op (.t 5) (.fad 2) [.t 4],
 ⟨.t 6,.ldLc 2 false 1,[.t 5],some 2,none⟩,
 op (.t 7) .mv [.t 6],
 ⟨.t 8,.fad 5,[.l 2],none,some (.t 7,true)⟩,
 ⟨.t 9,.ldLc 2 false 1,[.t 8],some 2,some (.t 7,true)⟩,
 ⟨.t 10,.un .not,[.t 9],none,some (.t 7,true)⟩,
 op (.t 11) .pick [.t 7,.t 10,.c (.bool false)],
 op (.t 12) .mv [.t 11],
 ⟨.t 13,.fad 3,[.v 1],none,some (.t 12,true)⟩,
 ⟨.t 14,.ldSt false 1,[.t 13],none,some (.t 12,true)⟩,
 ⟨.t 15,.fad 0,[.l 2],none,some (.t 12,true)⟩,
 ⟨.t 16,.ldLc 2 false 1,[.t 15],some 2,some (.t 12,true)⟩,
 ⟨.t 17,.call 29,[.t 14,.t 16],none,some (.t 12,true)⟩,
 ⟨.t 18,.un .not,[.t 17],none,some (.t 12,true)⟩,
 op (.t 19) .pick [.t 12,.t 18,.c (.bool false)],
 op (.v 3) .mv [.t 19]]
def a78s3 : ACode := .reg [] a78r2
def a78s4 : ACode := .seq a78s3 .ret
def a78s5 : ACode := .seq a78s1 a78s4
def a78c : ACode :=
  a78s5
def a78 : AFn := { np := 2,nv := 4,results := [.v 3],code := a78c }
def a78v : List Nat := [0,1,2,3]
def a78b : List Nat := [2]

def a79r0 : List AOper := [
 op (.v 2) .mv [.c (.str [])],
 op (.v 3) .mv [.c (.bool false)]]
def a79s1 : ACode := .reg [] a79r0
def a79r2 : List AOper := [
 op (.t 6) .mv [.v 0],
 op (.t 7) .mv [.v 1],
 op (.t 8) (.call 49) [.t 6,.t 7],
 op (.t 9) (.un .not) [.t 8]]
def a79r3 : List AOper := [
 op (.t 10) .mv [.v 0],
 op (.v 2) .mv [.t 10],
 op (.v 3) .mv [.c (.bool false)]]
def a79s4 : ACode := .reg [] a79r3
def a79s5 : ACode := .seq a79s4 .ret
def a79s6 : ACode := .test [] a79r2 (.t 9) a79s5 .skip
def a79r7 : List AOper := [
 op (.t 11) .mv [.v 0],
 op (.t 12) .mv [.v 1],
 op (.t 13) .lenS [.t 12],
 op (.t 14) (.slS true false) [.t 11,.t 13],
 op (.v 2) .mv [.t 14],
 op (.v 3) .mv [.c (.bool true)]]
def a79s8 : ACode := .reg [] a79r7
def a79s9 : ACode := .seq a79s8 .ret
def a79s10 : ACode := .seq a79s6 a79s9
def a79s11 : ACode := .seq a79s1 a79s10
def a79c : ACode :=
  a79s11
def a79 : AFn := { np := 2,nv := 4,results := [.v 2,.v 3],code := a79c }
def a79v : List Nat := [0,1,4,5]
def a79b : List Nat := []

def tblL : List (List (Option AFn)) := [
  [none,none,none,none,none,some a5,none,none,some a8,some a9],
  [some a10,some a11,some a12,none,some a14,some a15,some a16,none,some a18,none],
  [none,some a21,some a22,some a23,none,some a25,some a26,some a27,some a28,some a29],
  [some a30,some a31,some a32,some a33,some a34,some a35,some a36,some a37,some a38,none],
  [some a40,some a41,some a42,some a43,some a44,some a45,some a46,some a47,some a48,some a49],
  [some a50,some a51,some a52,some a53,some a54,some a55,some a56,some a57,some a58,some a59],
  [some a60,some a61,some a62,some a63,some a64,some a65,some a66,some a67,some a68,some a69],
  [some a70,some a71,some a72,some a73,some a74,some a75,some a76,some a77,some a78,some a79],
  [none,none,none,none,none,none,none,none,none,none],
  [none,none,none,none,none,none,none,none,none,none],
  [none,none,none,none,none,none,none,none,none,none]]
def tbl : Nat → Option AFn := nth2 tblL
def gts : List (Nat × List AV) := [(0,[.str [66,111,111,108,101,97,110],.str [73,68],.str [73,110,116],.str [83,116,114,105,110,103]])]
end Go.Cb.CodeA
