/- The functions of the seat, told as code of the abstract machine. No conditions. -/
import Derived.Test.YtendfdoplhhjbaaGreatDoorCodeAp0
namespace Go.Cb.CodeA
open Go Go.Cb

def a86r6 : List AOper := [
 op (.t 22) .mv [.v 8],
 op (.t 23) (.un .not) [.t 22],
 op (.t 24) .mv [.t 23],
 ⟨.t 25,.fad 0,[.v 7],none,some (.t 24,false)⟩,
 ⟨.t 26,.ldSt false 1,[.t 25],none,some (.t 24,false)⟩,
 ⟨.t 27,.bin .neq,[.t 26,.c (.int .u8 1)],none,some (.t 24,false)⟩,
 op (.t 28) .pick [.t 24,.c (.bool true),.t 27],
 op (.t 29) .mv [.t 28],
 ⟨.t 30,.mv,[.v 6],none,some (.t 29,false)⟩,
 ⟨.t 31,.call 82,[.t 30],none,some (.t 29,false)⟩,
 op (.t 32) .pick [.t 29,.c (.bool true),.t 31],
 op (.t 33) .mv [.t 32],
 ⟨.t 34,.fad 2,[.l 3],none,some (.t 33,false)⟩,
 ⟨.t 35,.ldLc 3 true 3,[.t 34],some 3,some (.t 33,false)⟩,
 ⟨.t 36,.mv,[.v 6],none,some (.t 33,false)⟩,
 ⟨.t 37,(.build [.str [],.list true [],.bool false] [(0,1)]),[.t 36],none,some (.t 33,false)⟩,
 ⟨.t 38,.call 134,[.t 35,.t 37],none,some (.t 33,false)⟩,
 ⟨.t 39,.un .not,[.t 38],none,some (.t 33,false)⟩,
 op (.t 40) .pick [.t 33,.c (.bool true),.t 39]]
def a86r7 : List AOper := [
 op (.v 4) .mv [.c (.bool false)]]
def a86s8 : ACode := .reg [] a86r7
def a86s9 : ACode := .seq a86s8 .ret
def a86s10 : ACode := .test [] a86r6 (.t 40) a86s9 .skip
def a86r11 : List AOper := [
 op (.t 41) .mv [.v 5],
 op (.t 42) (.bin .eql) [.t 41,.c (.str [100,101,108,101,116,101])]]
def a86r12 : List AOper := [
 op (.t 43) (.fad 1) [.l 3],
 ⟨.t 44,.ldLc 3 false 1,[.t 43],some 3,none⟩,
 op (.t 45) .lenL [.t 44],
 op (.t 46) (.bin .eql) [.t 45,.c (.int .i64 1)],
 op (.t 47) .mv [.t 46],
 ⟨.t 48,.fad 1,[.l 3],none,some (.t 47,true)⟩,
 ⟨.t 49,.ldLc 3 false 1,[.t 48],some 3,some (.t 47,true)⟩,
 ⟨.t 50,.iad 11,[.t 49,.c (.int .i64 0)],none,some (.t 47,true)⟩,
 ⟨.t 51,.ldRo true 11,[.t 50],none,some (.t 47,true)⟩,
 ⟨.t 52,.call 135,[.t 51],none,some (.t 47,true)⟩,
 op (.t 53) .pick [.t 47,.t 52,.c (.bool false)],
 op (.v 4) .mv [.t 53]]
def a86s13 : ACode := .reg [] a86r12
def a86s14 : ACode := .seq a86s13 .ret
def a86s15 : ACode := .test [] a86r11 (.t 42) a86s14 .skip
def a86r16 : List AOper := [
 op (.t 54) (.fad 1) [.l 3],
 ⟨.t 55,.ldLc 3 false 1,[.t 54],some 3,none⟩,
 op (.t 56) .lenL [.t 55],
 op (.t 57) (.bin .neq) [.t 56,.c (.int .i64 2)],
 op (.t 58) .mv [.t 57],
 ⟨.t 59,.fad 1,[.l 3],none,some (.t 58,false)⟩,
 ⟨.t 60,.ldLc 3 false 1,[.t 59],some 3,some (.t 58,false)⟩,
 ⟨.t 61,.iad 11,[.t 60,.c (.int .i64 0)],none,some (.t 58,false)⟩,
 ⟨.t 62,.ldRo true 11,[.t 61],none,some (.t 58,false)⟩,
 ⟨.t 63,.call 135,[.t 62],none,some (.t 58,false)⟩,
 ⟨.t 64,.un .not,[.t 63],none,some (.t 58,false)⟩,
 op (.t 65) .pick [.t 58,.c (.bool true),.t 64],
 op (.t 66) .mv [.t 65],
 ⟨.t 67,.fad 1,[.l 3],none,some (.t 66,false)⟩,
 ⟨.t 68,.ldLc 3 false 1,[.t 67],some 3,some (.t 66,false)⟩,
 ⟨.t 69,.iad 11,[.t 68,.c (.int .i64 1)],none,some (.t 66,false)⟩,
 ⟨.t 70,.fad 0,[.t 69],none,some (.t 66,false)⟩,
 ⟨.t 71,.ldRo false 1,[.t 70],none,some (.t 66,false)⟩,
 ⟨.t 72,.bin .neq,[.t 71,.c (.str [105,110,112,117,116])],none,some (.t 66,false)⟩,
 op (.t 73) .pick [.t 66,.c (.bool true),.t 72],
 op (.t 74) .mv [.t 73],
 ⟨.t 75,.fad 1,[.l 3],none,some (.t 74,false)⟩,
 ⟨.t 76,.ldLc 3 false 1,[.t 75],some 3,some (.t 74,false)⟩,
 ⟨.t 77,.iad 11,[.t 76,.c (.int .i64 1)],none,some (.t 74,false)⟩,
 ⟨.t 78,.fad 2,[.t 77],none,some (.t 74,false)⟩,
 ⟨.t 79,.fad 2,[.t 78],none,some (.t 74,false)⟩,
 ⟨.t 80,.ldRo false 1,[.t 79],none,some (.t 74,false)⟩,
 ⟨.t 81,.un .not,[.t 80],none,some (.t 74,false)⟩,
 op (.t 82) .pick [.t 74,.c (.bool true),.t 81],
 op (.t 83) .mv [.t 82],
 ⟨.t 84,.fad 1,[.l 3],none,some (.t 83,false)⟩,
 ⟨.t 85,.ldLc 3 false 1,[.t 84],some 3,some (.t 83,false)⟩,
 ⟨.t 86,.iad 11,[.t 85,.c (.int .i64 1)],none,some (.t 83,false)⟩,
 ⟨.t 87,.fad 2,[.t 86],none,some (.t 83,false)⟩,
 ⟨.t 88,.fad 1,[.t 87],none,some (.t 83,false)⟩,
 ⟨.t 89,.ldRo false 1,[.t 88],none,some (.t 83,false)⟩,
 ⟨.t 90,.lenL,[.t 89],none,some (.t 83,false)⟩,
 ⟨.t 91,.bin .gtr,[.t 90,.c (.int .i64 0)],none,some (.t 83,false)⟩,
 op (.t 92) .pick [.t 83,.c (.bool true),.t 91]]
def a86r17 : List AOper := [
 op (.v 4) .mv [.c (.bool false)]]
def a86s18 : ACode := .reg [] a86r17
def a86s19 : ACode := .seq a86s18 .ret
def a86s20 : ACode := .test [] a86r16 (.t 92) a86s19 .skip
def a86r21 : List AOper := [
 op (.t 94) (.ldSt false 1) [.v 2],
 op (.t 95) (.fad 1) [.l 3],
 ⟨.t 96,.ldLc 3 false 1,[.t 95],some 3,none⟩,
 op (.t 97) (.iad 11) [.t 96,.c (.int .i64 1)],
 op (.t 98) (.fad 2) [.t 97],
 op (.t 99) (.fad 0) [.t 98],
 op (.t 100) (.ldRo false 1) [.t 99],
 op (.t 101) (.call 45) [.t 94,.t 100],
 op (.t 93) .mv [.t 101],
 op (.t 102) (.ext 0) [.t 93],
 op (.t 103) (.ext 1) [.t 93],
 ⟨.bx,.alloc [.int .u8 0,.str [],.list true [],.list true []],[],some 9,none⟩,
 ⟨.none,.stLc 9 4,[.l 9,.ts 102],some 9,none⟩,
 op (.v 8) .mv [.t 103]]
def a86s22 : ACode := .reg [9] a86r21
def a86r23 : List AOper := [
 op (.t 104) .mv [.v 8],
 op (.t 105) (.un .not) [.t 104],
 op (.t 106) .mv [.t 105],
 ⟨.t 107,.fad 0,[.l 9],none,some (.t 106,false)⟩,
 ⟨.t 108,.ldLc 9 false 1,[.t 107],some 9,some (.t 106,false)⟩,
 ⟨.t 109,.bin .neq,[.t 108,.c (.int .u8 5)],none,some (.t 106,false)⟩,
 op (.t 110) .pick [.t 106,.c (.bool true),.t 109]]
def a86r24 : List AOper := [
 op (.v 4) .mv [.c (.bool false)]]
def a86s25 : ACode := .reg [] a86r24
def a86s26 : ACode := .seq a86s25 .ret
def a86s27 : ACode := .test [] a86r23 (.t 110) a86s26 .skip
def a86r28 : List AOper := [
 op (.t 111) (.fad 2) [.l 9],
 ⟨.t 112,.ldLc 9 false 1,[.t 111],some 9,none⟩,
 op (.t 113) (.mkF 138 0) [.v 7,.v 2],
 op (.t 114) (.call 132) [.t 112,.t 113],
 op (.t 115) (.un .not) [.t 114],
 op (.v 4) .mv [.t 115]]
def a86s29 : ACode := .reg [] a86r28
def a86s30 : ACode := .seq a86s29 .ret
def a86s31 : ACode := .seq a86s27 a86s30
def a86s32 : ACode := .seq a86s22 a86s31
def a86s33 : ACode := .seq a86s20 a86s32
def a86s34 : ACode := .seq a86s15 a86s33
def a86s35 : ACode := .seq a86s10 a86s34
def a86s36 : ACode := .seq a86s5 a86s35
def a86s37 : ACode := .seq a86s3 a86s36
def a86s38 : ACode := .seq a86s1 a86s37
def a86c : ACode :=
  a86s38
def a86 : AFn := { np := 2,nv := 10,results := [.v 4],code := a86c }
def a86v : List Nat := [0,1,2,3,4,5,6,7,8,9]
def a86b : List Nat := [3,9]

def a87r0 : List AOper := [
 op (.v 1) .mv [.c (.str [])],
 op (.v 2) .mv [.c (.int .i64 0)]]
def a87s1 : ACode := .reg [] a87r0
def a87r2 : List AOper := [
 op (.v 3) .mv [.c (.int .i64 0)]]
def a87s3 : ACode := .reg [] a87r2
def a87r4 : List AOper := [
 op (.t 5) .mv [.v 3],
 op (.t 6) .mv [.v 0],
 op (.t 7) .lenL [.t 6],
 op (.t 8) (.bin .lss) [.t 5,.t 7]]
def a87s5 : ACode := .test [] a87r4 (.t 8) .skip (.exit 0)
def a87r6 : List AOper := [
 op (.t 11) .mv [.v 0],
 op (.t 12) .mv [.v 3],
 op (.t 13) (.slL 1 false true) [.t 11,.t 12],
 op (.t 14) .mv [.v 0],
 op (.t 15) .mv [.v 3],
 op (.t 16) (.iad 1) [.t 14,.t 15],
 op (.t 17) (.ldRo false 1) [.t 16],
 op (.t 18) (.call 48) [.t 13,.t 17]]
def a87r7 : List AOper := [
 op (.t 19) .mv [.v 0],
 op (.t 20) .mv [.v 3],
 op (.t 21) (.iad 1) [.t 19,.t 20],
 op (.t 22) (.ldRo false 1) [.t 21],
 op (.v 1) .mv [.t 22],
 op (.v 2) .mv [.c (.int .i64 7)]]
def a87s8 : ACode := .reg [] a87r7
def a87s9 : ACode := .seq a87s8 .ret
def a87s10 : ACode := .test [] a87r6 (.t 18) a87s9 .skip
def a87r11 : List AOper := [
 op (.t 23) .mv [.v 0],
 op (.t 24) .mv [.v 3],
 op (.t 25) (.iad 1) [.t 23,.t 24],
 op (.t 26) (.ldRo false 1) [.t 25],
 op (.t 27) (.call 49) [.t 26,.c (.str [95,95])]]
def a87r12 : List AOper := [
 op (.t 28) .mv [.v 0],
 op (.t 29) .mv [.v 3],
 op (.t 30) (.iad 1) [.t 28,.t 29],
 op (.t 31) (.ldRo false 1) [.t 30],
 op (.v 1) .mv [.t 31],
 op (.v 2) .mv [.c (.int .i64 1)]]
def a87s13 : ACode := .reg [] a87r12
def a87s14 : ACode := .seq a87s13 .ret
def a87s15 : ACode := .test [] a87r11 (.t 27) a87s14 .skip
def a87s16 : ACode := .seq a87s10 a87s15
def a87s17 : ACode := .blk 1 a87s16
def a87r18 : List AOper := [
 op (.t 9) .mv [.v 3],
 op (.t 10) (.bin .add) [.t 9,.c (.int .i64 1)],
 op (.v 3) .mv [.t 10]]
def a87s19 : ACode := .reg [] a87r18
def a87s20 : ACode := .seq a87s17 a87s19
def a87s21 : ACode := .seq a87s5 a87s20
def a87s22 : ACode := .loop a87s21
def a87s23 : ACode := .blk 0 a87s22
def a87s24 : ACode := .seq a87s3 a87s23
def a87r25 : List AOper := [
 op (.v 1) .mv [.c (.str [])],
 op (.v 2) .mv [.c (.int .i64 0)]]
def a87s26 : ACode := .reg [] a87r25
def a87s27 : ACode := .seq a87s26 .ret
def a87s28 : ACode := .seq a87s24 a87s27
def a87s29 : ACode := .seq a87s1 a87s28
def a87c : ACode :=
  a87s29
def a87 : AFn := { np := 1,nv := 4,results := [.v 1,.v 2],code := a87c }
def a87v : List Nat := [0,2,3,4]
def a87b : List Nat := []

def a88r0 : List AOper := [
 op (.v 1) .mv [.c (.list true [])]]
def a88s1 : ACode := .reg [] a88r0
def a88r2 : List AOper := [
 op (.v 2) .mv [.c (.list true [])]]
def a88s3 : ACode := .reg [] a88r2
def a88r4 : List AOper := [
 op (.v 3) .mv [.c (.int .i64 0)]]
def a88s5 : ACode := .reg [] a88r4
def a88r6 : List AOper := [
 op (.t 5) .mv [.v 3],
 op (.t 6) .mv [.v 0],
 op (.t 7) .lenL [.t 6],
 op (.t 8) (.bin .lss) [.t 5,.t 7]]
def a88s7 : ACode := .test [] a88r6 (.t 8) .skip (.exit 0)
def a88r8 : List AOper := [
 op (.t 11) .mv [.vs 2],
 op (.t 12) .mv [.v 0],
 op (.t 13) .mv [.v 3],
 op (.t 14) (.iad 11) [.t 12,.t 13],
 op (.t 15) (.fad 0) [.t 14],
 op (.t 16) (.ldRo false 1) [.t 15],
 op (.t 17) (.bslice 1 [[.str []]] [0]) [.t 16],
 op (.t 18) (.app 1 16) [.ts 11,.t 17],
 op (.v 2) .mv [.ts 18]]
def a88s9 : ACode := .reg [] a88r8
def a88s10 : ACode := .blk 1 a88s9
def a88r11 : List AOper := [
 op (.t 9) .mv [.v 3],
 op (.t 10) (.bin .add) [.t 9,.c (.int .i64 1)],
 op (.v 3) .mv [.t 10]]
def a88s12 : ACode := .reg [] a88r11
def a88s13 : ACode := .seq a88s10 a88s12
def a88s14 : ACode := .seq a88s7 a88s13
def a88s15 : ACode := .loop a88s14
def a88s16 : ACode := .blk 0 a88s15
def a88s17 : ACode := .seq a88s5 a88s16
def a88r18 : List AOper := [
 op (.t 19) .mv [.v 2],
 op (.v 1) .mv [.ts 19]]
def a88s19 : ACode := .reg [] a88r18
def a88s20 : ACode := .seq a88s19 .ret
def a88s21 : ACode := .seq a88s17 a88s20
def a88s22 : ACode := .seq a88s3 a88s21
def a88s23 : ACode := .seq a88s1 a88s22
def a88c : ACode :=
  a88s23
def a88 : AFn := { np := 1,nv := 4,results := [.v 1],code := a88c }
def a88v : List Nat := [0,2,3,4]
def a88b : List Nat := []

def a89r0 : List AOper := [
 ⟨.bx,.boxV,[.v 1],some 3,none⟩,
 op (.v 4) .mv [.c (.str [])],
 op (.v 5) .mv [.c (.int .i64 0)]]
def a89s1 : ACode := .reg [3] a89r0
def a89r2 : List AOper := [
 op (.t 14) (.fad 2) [.l 3],
 ⟨.t 15,.ldLc 3 true 3,[.t 14],some 3,none⟩,
 op (.t 16) (.call 93) [.t 15],
 op (.v 6) .mv [.t 16]]
def a89s3 : ACode := .reg [] a89r2
def a89r4 : List AOper := [
 op (.t 17) .mv [.v 0],
 op (.t 18) .mv [.v 6],
 op (.t 19) (.call 51) [.t 17,.t 18],
 op (.t 20) (.fld 0 1 false) [.t 19],
 op (.v 7) .mv [.t 20]]
def a89s5 : ACode := .reg [] a89r4
def a89r6 : List AOper := [
 op (.t 21) .mv [.v 6],
 op (.t 22) (.call 47) [.t 21],
 op (.t 23) (.un .not) [.t 22],
 op (.t 24) .mv [.t 23],
 ⟨.t 25,.mv,[.v 7],none,some (.t 24,true)⟩,
 ⟨.t 26,.bin .eql,[.t 25,.c (.int .u8 0)],none,some (.t 24,true)⟩,
 op (.t 27) .pick [.t 24,.t 26,.c (.bool false)]]
def a89r7 : List AOper := [
 op (.t 28) .mv [.v 6],
 op (.v 4) .mv [.t 28],
 op (.v 5) .mv [.c (.int .i64 6)]]
def a89s8 : ACode := .reg [] a89r7
def a89s9 : ACode := .seq a89s8 .ret
def a89s10 : ACode := .test [] a89r6 (.t 27) a89s9 .skip
def a89r11 : List AOper := [
 op (.t 29) .mv [.v 2],
 op (.t 30) .mv [.t 29],
 ⟨.t 31,.mv,[.v 0],none,some (.t 30,true)⟩,
 ⟨.t 32,.mv,[.v 6],none,some (.t 30,true)⟩,
 ⟨.t 33,.call 140,[.t 31,.t 32],none,some (.t 30,true)⟩,
 ⟨.t 34,.un .not,[.t 33],none,some (.t 30,true)⟩,
 op (.t 35) .pick [.t 30,.t 34,.c (.bool false)],
 op (.t 36) .mv [.t 35],
 ⟨.t 37,.mv,[.v 2],none,some (.t 36,false)⟩,
 ⟨.t 38,.un .not,[.t 37],none,some (.t 36,false)⟩,
 ⟨.t 39,.mv,[.t 38],none,some (.t 36,false)⟩,
 ⟨.t 40,.mv,[.v 7],none,some (.t 39,true)⟩,
 ⟨.t 41,.bin .eql,[.t 40,.c (.int .u8 5)],none,some (.t 39,true)⟩,
 ⟨.t 42,.pick,[.t 39,.t 41,.c (.bool false)],none,some (.t 36,false)⟩,
 op (.t 43) .pick [.t 36,.c (.bool true),.t 42],
 op (.t 44) .mv [.t 43],
 ⟨.t 45,.mv,[.v 6],none,some (.t 44,false)⟩,
 ⟨.t 46,.call 90,[.t 45],none,some (.t 44,false)⟩,
 op (.t 47) .pick [.t 44,.c (.bool true),.t 46]]
def a89r12 : List AOper := [
 op (.t 48) .mv [.v 6],
 op (.v 4) .mv [.t 48],
 op (.v 5) .mv [.c (.int .i64 8)]]
def a89s13 : ACode := .reg [] a89r12
def a89s14 : ACode := .seq a89s13 .ret
def a89s15 : ACode := .test [] a89r11 (.t 47) a89s14 .skip
def a89r16 : List AOper := [
 op (.t 49) (.fad 5) [.l 3],
 ⟨.t 50,.ldLc 3 false 1,[.t 49],some 3,none⟩,
 op (.t 51) .mv [.t 50],
 ⟨.t 52,.mv,[.v 0],none,some (.t 51,true)⟩,
 ⟨.t 53,.fad 2,[.l 3],none,some (.t 51,true)⟩,
 ⟨.t 54,.ldLc 3 true 3,[.t 53],some 3,some (.t 51,true)⟩,
 ⟨.t 55,.fad 6,[.l 3],none,some (.t 51,true)⟩,
 ⟨.t 56,.ldLc 3 true 5,[.t 55],some 3,some (.t 51,true)⟩,
 ⟨.t 57,.call 141,[.t 52,.t 54,.t 56,.c (.bool false)],none,some (.t 51,true)⟩,
 ⟨.t 58,.un .not,[.t 57],none,some (.t 51,true)⟩,
 op (.t 59) .pick [.t 51,.t 58,.c (.bool false)]]
def a89r17 : List AOper := [
 op (.t 60) (.fad 0) [.l 3],
 ⟨.t 61,.ldLc 3 false 1,[.t 60],some 3,none⟩,
 op (.v 4) .mv [.t 61],
 op (.v 5) .mv [.c (.int .i64 8)]]
def a89s18 : ACode := .reg [] a89r17
def a89s19 : ACode := .seq a89s18 .ret
def a89s20 : ACode := .test [] a89r16 (.t 59) a89s19 .skip
def a89r21 : List AOper := [
 op (.t 63) (.fad 1) [.l 3],
 ⟨.t 64,.ldLc 3 false 1,[.t 63],some 3,none⟩,
 op (.t 65) (.call 88) [.t 64],
 op (.t 66) (.call 87) [.t 65],
 op (.t 62) .mv [.t 66],
 op (.t 67) (.ext 0) [.t 62],
 op (.t 68) (.ext 1) [.t 62],
 op (.v 8) .mv [.t 67],
 op (.v 9) .mv [.t 68]]
def a89s22 : ACode := .reg [] a89r21
def a89r23 : List AOper := [
 op (.t 69) .mv [.v 9],
 op (.t 70) (.bin .neq) [.t 69,.c (.int .i64 0)]]
def a89r24 : List AOper := [
 op (.t 71) .mv [.v 8],
 op (.t 72) .mv [.v 9],
 op (.v 4) .mv [.t 71],
 op (.v 5) .mv [.t 72]]
def a89s25 : ACode := .reg [] a89r24
def a89s26 : ACode := .seq a89s25 .ret
def a89s27 : ACode := .test [] a89r23 (.t 70) a89s26 .skip
def a89r28 : List AOper := [
 op (.v 10) .mv [.c (.int .i64 0)]]
def a89s29 : ACode := .reg [] a89r28
def a89r30 : List AOper := [
 op (.t 73) .mv [.v 10],
 op (.t 74) (.fad 1) [.l 3],
 ⟨.t 75,.ldLc 3 false 1,[.t 74],some 3,none⟩,
 op (.t 76) .lenL [.t 75],
 op (.t 77) (.bin .lss) [.t 73,.t 76]]
def a89s31 : ACode := .test [] a89r30 (.t 77) .skip (.exit 0)
def a89r32 : List AOper := [
 op (.t 80) (.fad 1) [.l 3],
 ⟨.t 81,.ldLc 3 false 1,[.t 80],some 3,none⟩,
 op (.t 82) .mv [.v 10],
 op (.t 83) (.iad 11) [.t 81,.t 82],
 op (.t 84) (.ldRo true 11) [.t 83],
 ⟨.bx,.alloc [.str [],.list true [],.str [],.list true [],.bool false,.bool false,.int .u8 0,.int .i64 0,.str [],.list true [],.list true []],[],some 11,none⟩,
 ⟨.none,.stLc 11 11,[.l 11,.ts 84],some 11,none⟩]
def a89s33 : ACode := .reg [11] a89r32
def a89r34 : List AOper := [
 op (.t 85) .mv [.v 0],
 op (.t 86) (.fad 2) [.l 11],
 ⟨.t 87,.ldLc 11 true 3,[.t 86],some 11,none⟩,
 op (.t 88) (.call 93) [.t 87],
 op (.t 89) (.call 51) [.t 85,.t 88],
 op (.t 90) (.fld 0 1 false) [.t 89],
 op (.t 91) (.bin .eql) [.t 90,.c (.int .u8 5)]]
def a89r35 : List AOper := [
 op (.t 92) (.fad 5) [.l 11],
 ⟨.t 93,.ldLc 11 false 1,[.t 92],some 11,none⟩]
def a89r36 : List AOper := [
 op (.t 94) (.fad 0) [.l 11],
 ⟨.t 95,.ldLc 11 false 1,[.t 94],some 11,none⟩,
 op (.v 4) .mv [.t 95],
 op (.v 5) .mv [.c (.int .i64 8)]]
def a89s37 : ACode := .reg [] a89r36
def a89s38 : ACode := .seq a89s37 .ret
def a89s39 : ACode := .test [] a89r35 (.t 93) a89s38 .skip
def a89s40 : ACode := .seq a89s39 (.exit 1)
def a89s41 : ACode := .test [] a89r34 (.t 91) a89s40 .skip
def a89r42 : List AOper := [
 op (.t 97) .mv [.v 0],
 ⟨.t 98,.ldLc 11 true 11,[.l 11],some 11,none⟩,
 op (.t 99) (.call 89) [.t 97,.t 98,.c (.bool true)],
 op (.t 96) .mv [.t 99],
 op (.t 100) (.ext 0) [.t 96],
 op (.t 101) (.ext 1) [.t 96],
 op (.v 8) .mv [.t 100],
 op (.v 9) .mv [.t 101]]
def a89s43 : ACode := .reg [] a89r42
def a89r44 : List AOper := [
 op (.t 102) .mv [.v 9],
 op (.t 103) (.bin .neq) [.t 102,.c (.int .i64 0)]]
def a89r45 : List AOper := [
 op (.t 104) .mv [.v 8],
 op (.t 105) .mv [.v 9],
 op (.v 4) .mv [.t 104],
 op (.v 5) .mv [.t 105]]
def a89s46 : ACode := .reg [] a89r45
def a89s47 : ACode := .seq a89s46 .ret
def a89s48 : ACode := .test [] a89r44 (.t 103) a89s47 .skip
def a89s49 : ACode := .seq a89s43 a89s48
def a89s50 : ACode := .seq a89s41 a89s49
def a89s51 : ACode := .seq a89s33 a89s50
def a89s52 : ACode := .blk 1 a89s51
def a89r53 : List AOper := [
 op (.t 78) .mv [.v 10],
 op (.t 79) (.bin .add) [.t 78,.c (.int .i64 1)],
 op (.v 10) .mv [.t 79]]
def a89s54 : ACode := .reg [] a89r53
def a89s55 : ACode := .seq a89s52 a89s54
def a89s56 : ACode := .seq a89s31 a89s55
def a89s57 : ACode := .loop a89s56
def a89s58 : ACode := .blk 0 a89s57
def a89s59 : ACode := .seq a89s29 a89s58
def a89r60 : List AOper := [
 op (.v 4) .mv [.c (.str [])],
 op (.v 5) .mv [.c (.int .i64 0)]]
def a89s61 : ACode := .reg [] a89r60
def a89s62 : ACode := .seq a89s61 .ret
def a89s63 : ACode := .seq a89s59 a89s62
def a89s64 : ACode := .seq a89s27 a89s63
def a89s65 : ACode := .seq a89s22 a89s64
def a89s66 : ACode := .seq a89s20 a89s65
def a89s67 : ACode := .seq a89s15 a89s66
def a89s68 : ACode := .seq a89s10 a89s67
def a89s69 : ACode := .seq a89s5 a89s68
def a89s70 : ACode := .seq a89s3 a89s69
def a89s71 : ACode := .seq a89s1 a89s70
def a89c : ACode :=
  a89s71
def a89 : AFn := { np := 3,nv := 12,results := [.v 4,.v 5],code := a89c }
def a89v : List Nat := [0,1,2,4,6,7,8,9,10,11,12,13]
def a89b : List Nat := [3,11]

def a90r0 : List AOper := [
 op (.v 1) .mv [.c (.bool false)]]
def a90s1 : ACode := .reg [] a90r0
def a90r2 : List AOper := [
 op (.t 3) .mv [.v 0],
 op (.t 4) (.bin .eql) [.t 3,.c (.str [81,117,101,114,121])],
 op (.t 5) .mv [.t 4],
 ⟨.t 6,.mv,[.v 0],none,some (.t 5,false)⟩,
 ⟨.t 7,.bin .eql,[.t 6,.c (.str [77,117,116,97,116,105,111,110])],none,some (.t 5,false)⟩,
 op (.t 8) .pick [.t 5,.c (.bool true),.t 7],
 op (.v 1) .mv [.t 8]]
def a90s3 : ACode := .reg [] a90r2
def a90s4 : ACode := .seq a90s3 .ret
def a90s5 : ACode := .seq a90s1 a90s4
def a90c : ACode :=
  a90s5
def a90 : AFn := { np := 1,nv := 2,results := [.v 1],code := a90c }
def a90v : List Nat := [0,2]
def a90b : List Nat := []

def a91r0 : List AOper := [
 op (.v 2) .mv [.c (.int .i64 0)]]
def a91s1 : ACode := .reg [] a91r0
def a91r2 : List AOper := [
 op (.v 3) .mv [.c (.int .i64 0)]]
def a91s3 : ACode := .reg [] a91r2
def a91r4 : List AOper := [
 op (.t 6) .mv [.v 3],
 op (.t 7) .mv [.v 0],
 op (.t 8) .lenL [.t 7],
 op (.t 9) (.bin .lss) [.t 6,.t 8]]
def a91s5 : ACode := .test [] a91r4 (.t 9) .skip (.exit 0)
def a91r6 : List AOper := [
 op (.t 12) .mv [.v 0],
 op (.t 13) .mv [.v 3],
 op (.t 14) (.iad 11) [.t 12,.t 13],
 op (.t 15) (.fad 0) [.t 14],
 op (.t 16) (.ldRo false 1) [.t 15],
 op (.t 17) .mv [.v 1],
 op (.t 18) (.bin .eql) [.t 16,.t 17]]
def a91r7 : List AOper := [
 op (.t 19) .mv [.v 3],
 op (.v 2) .mv [.t 19]]
def a91s8 : ACode := .reg [] a91r7
def a91s9 : ACode := .seq a91s8 .ret
def a91s10 : ACode := .test [] a91r6 (.t 18) a91s9 .skip
def a91s11 : ACode := .blk 1 a91s10
def a91r12 : List AOper := [
 op (.t 10) .mv [.v 3],
 op (.t 11) (.bin .add) [.t 10,.c (.int .i64 1)],
 op (.v 3) .mv [.t 11]]
def a91s13 : ACode := .reg [] a91r12
def a91s14 : ACode := .seq a91s11 a91s13
def a91s15 : ACode := .seq a91s5 a91s14
def a91s16 : ACode := .loop a91s15
def a91s17 : ACode := .blk 0 a91s16
def a91s18 : ACode := .seq a91s3 a91s17
def a91r19 : List AOper := [
 op (.v 2) .mv [.c (.int .i64 (-1))]]
def a91s20 : ACode := .reg [] a91r19
def a91s21 : ACode := .seq a91s20 .ret
def a91s22 : ACode := .seq a91s18 a91s21
def a91s23 : ACode := .seq a91s1 a91s22
def a91c : ACode :=
  a91s23
def a91 : AFn := { np := 2,nv := 4,results := [.v 2],code := a91c }
def a91v : List Nat := [0,1,4,5]
def a91b : List Nat := []

def a92r0 : List AOper := [
 ⟨.bx,.boxV,[.v 0],some 2,none⟩,
 ⟨.bx,.boxV,[.v 1],some 3,none⟩,
 op (.v 4) .mv [.c (.bool false)]]
def a92s1 : ACode := .reg [2,3] a92r0
def a92r2 : List AOper := [
 op (.t 5) (.fad 0) [.l 2],
 ⟨.t 6,.ldLc 2 false 1,[.t 5],some 2,none⟩,
 op (.t 7) (.fad 0) [.l 3],
 ⟨.t 8,.ldLc 3 false 1,[.t 7],some 3,none⟩,
 op (.t 9) (.bin .neq) [.t 6,.t 8],
 op (.t 10) .mv [.t 9],
 ⟨.t 11,.fad 2,[.l 2],none,some (.t 10,false)⟩,
 ⟨.t 12,.ldLc 2 false 1,[.t 11],some 2,some (.t 10,false)⟩,
 ⟨.t 13,.fad 2,[.l 3],none,some (.t 10,false)⟩,
 ⟨.t 14,.ldLc 3 false 1,[.t 13],some 3,some (.t 10,false)⟩,
 ⟨.t 15,.binB .neq,[.t 12,.t 14],none,some (.t 10,false)⟩,
 op (.t 16) .pick [.t 10,.c (.bool true),.t 15],
 op (.t 17) .mv [.t 16],
 ⟨.t 18,.fad 1,[.l 2],none,some (.t 17,false)⟩,
 ⟨.t 19,.ldLc 2 false 1,[.t 18],some 2,some (.t 17,false)⟩,
 ⟨.t 20,.lenL,[.t 19],none,some (.t 17,false)⟩,
 ⟨.t 21,.fad 1,[.l 3],none,some (.t 17,false)⟩,
 ⟨.t 22,.ldLc 3 false 1,[.t 21],some 3,some (.t 17,false)⟩,
 ⟨.t 23,.lenL,[.t 22],none,some (.t 17,false)⟩,
 ⟨.t 24,.bin .neq,[.t 20,.t 23],none,some (.t 17,false)⟩,
 op (.t 25) .pick [.t 17,.c (.bool true),.t 24]]
def a92r3 : List AOper := [
 op (.v 4) .mv [.c (.bool false)]]
def a92s4 : ACode := .reg [] a92r3
def a92s5 : ACode := .seq a92s4 .ret
def a92s6 : ACode := .test [] a92r2 (.t 25) a92s5 .skip
def a92r7 : List AOper := [
 op (.t 26) (.fad 1) [.l 2],
 ⟨.t 27,.ldLc 2 false 1,[.t 26],some 2,none⟩,
 op (.t 28) .lenL [.t 27],
 op (.t 29) (.bin .eql) [.t 28,.c (.int .i64 0)],
 op (.t 30) .mv [.t 29],
 ⟨.t 31,.fad 1,[.l 2],none,some (.t 30,false)⟩,
 ⟨.t 32,.ldLc 2 false 1,[.t 31],some 2,some (.t 30,false)⟩,
 ⟨.t 33,.iad 3,[.t 32,.c (.int .i64 0)],none,some (.t 30,false)⟩,
 ⟨.t 34,.ldRo true 3,[.t 33],none,some (.t 30,false)⟩,
 ⟨.t 35,.fad 1,[.l 3],none,some (.t 30,false)⟩,
 ⟨.t 36,.ldLc 3 false 1,[.t 35],some 3,some (.t 30,false)⟩,
 ⟨.t 37,.iad 3,[.t 36,.c (.int .i64 0)],none,some (.t 30,false)⟩,
 ⟨.t 38,.ldRo true 3,[.t 37],none,some (.t 30,false)⟩,
 ⟨.t 39,.call 92,[.t 34,.t 38],none,some (.t 30,false)⟩,
 op (.t 40) .pick [.t 30,.c (.bool true),.t 39],
 op (.v 4) .mv [.t 40]]
def a92s8 : ACode := .reg [] a92r7
def a92s9 : ACode := .seq a92s8 .ret
def a92s10 : ACode := .seq a92s6 a92s9
def a92s11 : ACode := .seq a92s1 a92s10
def a92c : ACode :=
  a92s11
def a92 : AFn := { np := 2,nv := 5,results := [.v 4],code := a92c }
def a92v : List Nat := [0,1,2,3,4]
def a92b : List Nat := [2,3]

def a93r0 : List AOper := [
 ⟨.bx,.boxV,[.v 0],some 1,none⟩,
 op (.v 2) .mv [.c (.str [])]]
def a93s1 : ACode := .reg [1] a93r0
def a93r2 : List AOper := [
 op (.t 3) (.fad 1) [.l 1],
 ⟨.t 4,.ldLc 1 false 1,[.t 3],some 1,none⟩,
 op (.t 5) .lenL [.t 4],
 op (.t 6) (.bin .gtr) [.t 5,.c (.int .i64 0)]]
def a93r3 : List AOper := [
 op (.t 7) (.fad 1) [.l 1],
 ⟨.t 8,.ldLc 1 false 1,[.t 7],some 1,none⟩,
 op (.t 9) (.iad 3) [.t 8,.c (.int .i64 0)],
 op (.t 10) (.ldRo true 3) [.t 9],
 op (.t 11) (.call 93) [.t 10],
 op (.v 2) .mv [.t 11]]
def a93s4 : ACode := .reg [] a93r3
def a93s5 : ACode := .seq a93s4 .ret
def a93s6 : ACode := .test [] a93r2 (.t 6) a93s5 .skip
def a93r7 : List AOper := [
 op (.t 12) (.fad 0) [.l 1],
 ⟨.t 13,.ldLc 1 false 1,[.t 12],some 1,none⟩,
 op (.v 2) .mv [.t 13]]
def a93s8 : ACode := .reg [] a93r7
def a93s9 : ACode := .seq a93s8 .ret
def a93s10 : ACode := .seq a93s6 a93s9
def a93s11 : ACode := .seq a93s1 a93s10
def a93c : ACode :=
  a93s11
def a93 : AFn := { np := 1,nv := 3,results := [.v 2],code := a93c }
def a93v : List Nat := [0,1,2]
def a93b : List Nat := [1]

def a94r0 : List AOper := [
 op (.v 2) .mv [.c (.bool false)]]
def a94s1 : ACode := .reg [] a94r0
def a94r2 : List AOper := [
 op (.t 6) .mv [.v 0],
 op (.t 7) .mv [.v 1],
 op (.t 8) (.call 51) [.t 6,.t 7],
 op (.t 9) (.fld 0 1 false) [.t 8],
 op (.v 3) .mv [.t 9]]
def a94s3 : ACode := .reg [] a94r2
def a94r4 : List AOper := [
 op (.t 10) .mv [.v 1],
 op (.t 11) (.call 90) [.t 10],
 op (.t 12) (.un .not) [.t 11],
 op (.t 13) .mv [.t 12],
 ⟨.t 14,.mv,[.v 3],none,some (.t 13,true)⟩,
 ⟨.t 15,.bin .eql,[.t 14,.c (.int .u8 1)],none,some (.t 13,true)⟩,
 ⟨.t 16,.mv,[.t 15],none,some (.t 13,true)⟩,
 ⟨.t 17,.mv,[.v 3],none,some (.t 16,false)⟩,
 ⟨.t 18,.bin .eql,[.t 17,.c (.int .u8 2)],none,some (.t 16,false)⟩,
 ⟨.t 19,.pick,[.t 16,.c (.bool true),.t 18],none,some (.t 13,true)⟩,
 ⟨.t 20,.mv,[.t 19],none,some (.t 13,true)⟩,
 ⟨.t 21,.mv,[.v 3],none,some (.t 20,false)⟩,
 ⟨.t 22,.bin .eql,[.t 21,.c (.int .u8 3)],none,some (.t 20,false)⟩,
 ⟨.t 23,.pick,[.t 20,.c (.bool true),.t 22],none,some (.t 13,true)⟩,
 op (.t 24) .pick [.t 13,.t 23,.c (.bool false)],
 op (.v 2) .mv [.t 24]]
def a94s5 : ACode := .reg [] a94r4
def a94s6 : ACode := .seq a94s5 .ret
def a94s7 : ACode := .seq a94s3 a94s6
def a94s8 : ACode := .seq a94s1 a94s7
def a94c : ACode :=
  a94s8
def a94 : AFn := { np := 2,nv := 4,results := [.v 2],code := a94c }
def a94v : List Nat := [0,1,4,5]
def a94b : List Nat := []

def a95r0 : List AOper := [
 ⟨.bx,.boxV,[.v 0],some 1,none⟩,
 op (.v 2) .mv [.c (.bool false)]]
def a95s1 : ACode := .reg [1] a95r0
def a95r2 : List AOper := [
 op (.t 3) (.fad 0) [.l 1],
 ⟨.t 4,.ldLc 1 false 1,[.t 3],some 1,none⟩,
 op (.t 5) (.bin .eql) [.t 4,.c (.str [105,100])],
 op (.t 6) .mv [.t 5],
 ⟨.t 7,.fad 2,[.l 1],none,some (.t 6,true)⟩,
 ⟨.t 8,.fad 0,[.t 7],none,some (.t 6,true)⟩,
 ⟨.t 9,.ldLc 1 false 1,[.t 8],some 1,some (.t 6,true)⟩,
 ⟨.t 10,.bin .eql,[.t 9,.c (.str [73,68])],none,some (.t 6,true)⟩,
 op (.t 11) .pick [.t 6,.t 10,.c (.bool false)],
 op (.t 12) .mv [.t 11],
 ⟨.t 13,.fad 2,[.l 1],none,some (.t 12,true)⟩,
 ⟨.t 14,.fad 2,[.t 13],none,some (.t 12,true)⟩,
 ⟨.t 15,.ldLc 1 false 1,[.t 14],some 1,some (.t 12,true)⟩,
 op (.t 16) .pick [.t 12,.t 15,.c (.bool false)],
 op (.t 17) .mv [.t 16],
 ⟨.t 18,.fad 2,[.l 1],none,some (.t 17,true)⟩,
 ⟨.t 19,.fad 1,[.t 18],none,some (.t 17,true)⟩,
 ⟨.t 20,.ldLc 1 false 1,[.t 19],some 1,some (.t 17,true)⟩,
 ⟨.t 21,.lenL,[.t 20],none,some (.t 17,true)⟩,
 ⟨.t 22,.bin .eql,[.t 21,.c (.int .i64 0)],none,some (.t 17,true)⟩,
 op (.t 23) .pick [.t 17,.t 22,.c (.bool false)],
 op (.t 24) .mv [.t 23],
 ⟨.t 25,.fad 5,[.l 1],none,some (.t 24,true)⟩,
 ⟨.t 26,.ldLc 1 false 1,[.t 25],some 1,some (.t 24,true)⟩,
 ⟨.t 27,.un .not,[.t 26],none,some (.t 24,true)⟩,
 op (.t 28) .pick [.t 24,.t 27,.c (.bool false)],
 op (.v 2) .mv [.t 28]]
def a95s3 : ACode := .reg [] a95r2
def a95s4 : ACode := .seq a95s3 .ret
def a95s5 : ACode := .seq a95s1 a95s4
def a95c : ACode :=
  a95s5
def a95 : AFn := { np := 1,nv := 3,results := [.v 2],code := a95c }
def a95v : List Nat := [0,1,2]
def a95b : List Nat := [1]

def a96r0 : List AOper := [
 ⟨.bx,.boxV,[.v 1],some 2,none⟩,
 op (.v 3) .mv [.c (.bool false)]]
def a96s1 : ACode := .reg [2] a96r0
def a96r2 : List AOper := [
 op (.t 12) (.fad 0) [.l 2],
 ⟨.t 13,.ldLc 2 false 1,[.t 12],some 2,none⟩,
 op (.t 14) (.call 142) [.t 13],
 op (.t 11) .mv [.t 14],
 op (.t 15) (.ext 0) [.t 11],
 op (.t 16) (.ext 1) [.t 11],
 op (.v 4) .mv [.t 15],
 op (.v 5) .mv [.t 16]]
def a96s3 : ACode := .reg [] a96r2
def a96r4 : List AOper := [
 op (.t 17) .mv [.v 0],
 op (.t 18) .mv [.v 5],
 op (.t 19) (.call 51) [.t 17,.t 18],
 ⟨.bx,.alloc [.int .u8 0,.str [],.list true [],.list true []],[],some 6,none⟩,
 ⟨.none,.stLc 6 4,[.l 6,.ts 19],some 6,none⟩]
def a96s5 : ACode := .reg [6] a96r4
def a96r6 : List AOper := [
 op (.t 20) .mv [.v 4],
 op (.t 21) (.bin .eql) [.t 20,.c (.str [])],
 op (.t 22) .mv [.t 21],
 ⟨.t 23,.fad 0,[.l 6],none,some (.t 22,false)⟩,
 ⟨.t 24,.ldLc 6 false 1,[.t 23],some 6,some (.t 22,false)⟩,
 ⟨.t 25,.bin .neq,[.t 24,.c (.int .u8 1)],none,some (.t 22,false)⟩,
 op (.t 26) .pick [.t 22,.c (.bool true),.t 25],
 op (.t 27) .mv [.t 26],
 ⟨.t 28,.mv,[.v 5],none,some (.t 27,false)⟩,
 ⟨.t 29,.call 90,[.t 28],none,some (.t 27,false)⟩,
 op (.t 30) .pick [.t 27,.c (.bool true),.t 29],
 op (.t 31) .mv [.t 30],
 ⟨.t 32,.fad 2,[.l 2],none,some (.t 31,false)⟩,
 ⟨.t 33,.fad 1,[.t 32],none,some (.t 31,false)⟩,
 ⟨.t 34,.ldLc 2 false 1,[.t 33],some 2,some (.t 31,false)⟩,
 ⟨.t 35,.lenL,[.t 34],none,some (.t 31,false)⟩,
 ⟨.t 36,.bin .gtr,[.t 35,.c (.int .i64 0)],none,some (.t 31,false)⟩,
 op (.t 37) .pick [.t 31,.c (.bool true),.t 36],
 op (.t 38) .mv [.t 37],
 ⟨.t 39,.fad 2,[.l 2],none,some (.t 38,false)⟩,
 ⟨.t 40,.fad 2,[.t 39],none,some (.t 38,false)⟩,
 ⟨.t 41,.ldLc 2 false 1,[.t 40],some 2,some (.t 38,false)⟩,
 op (.t 42) .pick [.t 38,.c (.bool true),.t 41],
 op (.t 43) .mv [.t 42],
 ⟨.t 44,.fad 2,[.l 2],none,some (.t 43,false)⟩,
 ⟨.t 45,.fad 0,[.t 44],none,some (.t 43,false)⟩,
 ⟨.t 46,.ldLc 2 false 1,[.t 45],some 2,some (.t 43,false)⟩,
 ⟨.t 47,.mv,[.v 5],none,some (.t 43,false)⟩,
 ⟨.t 48,.bin .neq,[.t 46,.t 47],none,some (.t 43,false)⟩,
 op (.t 49) .pick [.t 43,.c (.bool true),.t 48],
 op (.t 50) .mv [.t 49],
 ⟨.t 51,.fad 1,[.l 2],none,some (.t 50,false)⟩,
 ⟨.t 52,.ldLc 2 false 1,[.t 51],some 2,some (.t 50,false)⟩,
 ⟨.t 53,.lenL,[.t 52],none,some (.t 50,false)⟩,
 ⟨.t 54,.bin .eql,[.t 53,.c (.int .i64 0)],none,some (.t 50,false)⟩,
 op (.t 55) .pick [.t 50,.c (.bool true),.t 54],
 op (.t 56) .mv [.t 55],
 ⟨.t 57,.fad 1,[.l 2],none,some (.t 56,false)⟩,
 ⟨.t 58,.ldLc 2 false 1,[.t 57],some 2,some (.t 56,false)⟩,
 ⟨.t 59,.iad 11,[.t 58,.c (.int .i64 0)],none,some (.t 56,false)⟩,
 ⟨.t 60,.ldRo true 11,[.t 59],none,some (.t 56,false)⟩,
 ⟨.t 61,.call 95,[.t 60],none,some (.t 56,false)⟩,
 ⟨.t 62,.un .not,[.t 61],none,some (.t 56,false)⟩,
 op (.t 63) .pick [.t 56,.c (.bool true),.t 62]]
def a96r7 : List AOper := [
 op (.v 3) .mv [.c (.bool false)]]
def a96s8 : ACode := .reg [] a96r7
def a96s9 : ACode := .seq a96s8 .ret
def a96s10 : ACode := .test [] a96r6 (.t 63) a96s9 .skip
def a96r11 : List AOper := [
 op (.t 64) .mv [.v 4],
 op (.t 65) (.bin .eql) [.t 64,.c (.str [100,101,108,101,116,101])]]
def a96r12 : List AOper := [
 op (.t 66) (.fad 1) [.l 2],
 ⟨.t 67,.ldLc 2 false 1,[.t 66],some 2,none⟩,
 op (.t 68) .lenL [.t 67],
 op (.t 69) (.bin .eql) [.t 68,.c (.int .i64 1)],
 op (.v 3) .mv [.t 69]]
def a96s13 : ACode := .reg [] a96r12
def a96s14 : ACode := .seq a96s13 .ret
def a96s15 : ACode := .test [] a96r11 (.t 65) a96s14 .skip
def a96r16 : List AOper := [
 op (.t 70) (.fad 1) [.l 2],
 ⟨.t 71,.ldLc 2 false 1,[.t 70],some 2,none⟩,
 op (.t 72) .lenL [.t 71],
 op (.t 73) (.bin .neq) [.t 72,.c (.int .i64 2)],
 op (.t 74) .mv [.t 73],
 ⟨.t 75,.fad 1,[.l 2],none,some (.t 74,false)⟩,
 ⟨.t 76,.ldLc 2 false 1,[.t 75],some 2,some (.t 74,false)⟩,
 ⟨.t 77,.iad 11,[.t 76,.c (.int .i64 1)],none,some (.t 74,false)⟩,
 ⟨.t 78,.fad 0,[.t 77],none,some (.t 74,false)⟩,
 ⟨.t 79,.ldRo false 1,[.t 78],none,some (.t 74,false)⟩,
 ⟨.t 80,.bin .neq,[.t 79,.c (.str [105,110,112,117,116])],none,some (.t 74,false)⟩,
 op (.t 81) .pick [.t 74,.c (.bool true),.t 80],
 op (.t 82) .mv [.t 81],
 ⟨.t 83,.fad 1,[.l 2],none,some (.t 82,false)⟩,
 ⟨.t 84,.ldLc 2 false 1,[.t 83],some 2,some (.t 82,false)⟩,
 ⟨.t 85,.iad 11,[.t 84,.c (.int .i64 1)],none,some (.t 82,false)⟩,
 ⟨.t 86,.fad 2,[.t 85],none,some (.t 82,false)⟩,
 ⟨.t 87,.fad 2,[.t 86],none,some (.t 82,false)⟩,
 ⟨.t 88,.ldRo false 1,[.t 87],none,some (.t 82,false)⟩,
 ⟨.t 89,.un .not,[.t 88],none,some (.t 82,false)⟩,
 op (.t 90) .pick [.t 82,.c (.bool true),.t 89],
 op (.t 91) .mv [.t 90],
 ⟨.t 92,.fad 1,[.l 2],none,some (.t 91,false)⟩,
 ⟨.t 93,.ldLc 2 false 1,[.t 92],some 2,some (.t 91,false)⟩,
 ⟨.t 94,.iad 11,[.t 93,.c (.int .i64 1)],none,some (.t 91,false)⟩,
 ⟨.t 95,.fad 2,[.t 94],none,some (.t 91,false)⟩,
 ⟨.t 96,.fad 1,[.t 95],none,some (.t 91,false)⟩,
 ⟨.t 97,.ldRo false 1,[.t 96],none,some (.t 91,false)⟩,
 ⟨.t 98,.lenL,[.t 97],none,some (.t 91,false)⟩,
 ⟨.t 99,.bin .gtr,[.t 98,.c (.int .i64 0)],none,some (.t 91,false)⟩,
 op (.t 100) .pick [.t 91,.c (.bool true),.t 99]]
def a96r17 : List AOper := [
 op (.v 3) .mv [.c (.bool false)]]
def a96s18 : ACode := .reg [] a96r17
def a96s19 : ACode := .seq a96s18 .ret
def a96s20 : ACode := .test [] a96r16 (.t 100) a96s19 .skip
def a96r21 : List AOper := [
 op (.t 101) .mv [.v 0],
 op (.t 102) (.fad 1) [.l 2],
 ⟨.t 103,.ldLc 2 false 1,[.t 102],some 2,none⟩,
 op (.t 104) (.iad 11) [.t 103,.c (.int .i64 1)],
 op (.t 105) (.fad 2) [.t 104],
 op (.t 106) (.fad 0) [.t 105],
 op (.t 107) (.ldRo false 1) [.t 106],
 op (.t 108) (.call 51) [.t 101,.t 107],
 ⟨.bx,.alloc [.int .u8 0,.str [],.list true [],.list true []],[],some 7,none⟩,
 ⟨.none,.stLc 7 4,[.l 7,.ts 108],some 7,none⟩]
def a96s22 : ACode := .reg [7] a96r21
def a96r23 : List AOper := [
 op (.t 109) (.fad 0) [.l 7],
 ⟨.t 110,.ldLc 7 false 1,[.t 109],some 7,none⟩,
 op (.t 111) (.bin .neq) [.t 110,.c (.int .u8 5)]]
def a96r24 : List AOper := [
 op (.v 3) .mv [.c (.bool false)]]
def a96s25 : ACode := .reg [] a96r24
def a96s26 : ACode := .seq a96s25 .ret
def a96s27 : ACode := .test [] a96r23 (.t 111) a96s26 .skip
def a96r28 : List AOper := [
 op (.v 8) .mv [.c (.int .i64 0)]]
def a96s29 : ACode := .reg [] a96r28
def a96r30 : List AOper := [
 op (.t 112) .mv [.v 8],
 op (.t 113) (.fad 2) [.l 7],
 ⟨.t 114,.ldLc 7 false 1,[.t 113],some 7,none⟩,
 op (.t 115) .lenL [.t 114],
 op (.t 116) (.bin .lss) [.t 112,.t 115]]
def a96s31 : ACode := .test [] a96r30 (.t 116) .skip (.exit 0)
def a96r32 : List AOper := [
 op (.t 119) (.fad 2) [.l 6],
 ⟨.t 120,.ldLc 6 false 1,[.t 119],some 6,none⟩,
 op (.t 121) (.fad 2) [.l 7],
 ⟨.t 122,.ldLc 7 false 1,[.t 121],some 7,none⟩,
 op (.t 123) .mv [.v 8],
 op (.t 124) (.iad 11) [.t 122,.t 123],
 op (.t 125) (.fad 0) [.t 124],
 op (.t 126) (.ldRo false 1) [.t 125],
 op (.t 127) (.call 91) [.t 120,.t 126],
 op (.v 9) .mv [.t 127]]
def a96s33 : ACode := .reg [] a96r32
def a96r34 : List AOper := [
 op (.t 128) .mv [.v 9],
 op (.t 129) (.bin .lss) [.t 128,.c (.int .i64 0)],
 op (.t 130) .mv [.t 129],
 ⟨.t 131,.mv,[.v 0],none,some (.t 130,false)⟩,
 ⟨.t 132,.fad 2,[.l 6],none,some (.t 130,false)⟩,
 ⟨.t 133,.ldLc 6 false 1,[.t 132],some 6,some (.t 130,false)⟩,
 ⟨.t 134,.mv,[.v 9],none,some (.t 130,false)⟩,
 ⟨.t 135,.iad 11,[.t 133,.t 134],none,some (.t 130,false)⟩,
 ⟨.t 136,.fad 2,[.t 135],none,some (.t 130,false)⟩,
 ⟨.t 137,.ldRo true 3,[.t 136],none,some (.t 130,false)⟩,
 ⟨.t 138,.fad 2,[.l 7],none,some (.t 130,false)⟩,
 ⟨.t 139,.ldLc 7 false 1,[.t 138],some 7,some (.t 130,false)⟩,
 ⟨.t 140,.mv,[.v 8],none,some (.t 130,false)⟩,
 ⟨.t 141,.iad 11,[.t 139,.t 140],none,some (.t 130,false)⟩,
 ⟨.t 142,.fad 2,[.t 141],none,some (.t 130,false)⟩,
 ⟨.t 143,.ldRo true 3,[.t 142],none,some (.t 130,false)⟩,
 ⟨.t 144,.call 143,[.t 131,.t 137,.t 143],none,some (.t 130,false)⟩,
 ⟨.t 145,.un .not,[.t 144],none,some (.t 130,false)⟩,
 op (.t 146) .pick [.t 130,.c (.bool true),.t 145]]
def a96r35 : List AOper := [
 op (.v 3) .mv [.c (.bool false)]]
def a96s36 : ACode := .reg [] a96r35
def a96s37 : ACode := .seq a96s36 .ret
def a96s38 : ACode := .test [] a96r34 (.t 146) a96s37 .skip
def a96s39 : ACode := .seq a96s33 a96s38
def a96s40 : ACode := .blk 1 a96s39
def a96r41 : List AOper := [
 op (.t 117) .mv [.v 8],
 op (.t 118) (.bin .add) [.t 117,.c (.int .i64 1)],
 op (.v 8) .mv [.t 118]]
def a96s42 : ACode := .reg [] a96r41
def a96s43 : ACode := .seq a96s40 a96s42
def a96s44 : ACode := .seq a96s31 a96s43
def a96s45 : ACode := .loop a96s44
def a96s46 : ACode := .blk 0 a96s45
def a96s47 : ACode := .seq a96s29 a96s46
def a96r48 : List AOper := [
 op (.v 3) .mv [.c (.bool true)]]
def a96s49 : ACode := .reg [] a96r48
def a96s50 : ACode := .seq a96s49 .ret
def a96s51 : ACode := .seq a96s47 a96s50
def a96s52 : ACode := .seq a96s27 a96s51
def a96s53 : ACode := .seq a96s22 a96s52
def a96s54 : ACode := .seq a96s20 a96s53
def a96s55 : ACode := .seq a96s15 a96s54
def a96s56 : ACode := .seq a96s10 a96s55
def a96s57 : ACode := .seq a96s5 a96s56
def a96s58 : ACode := .seq a96s3 a96s57
def a96s59 : ACode := .seq a96s1 a96s58
def a96c : ACode :=
  a96s59
def a96 : AFn := { np := 2,nv := 10,results := [.v 3],code := a96c }
def a96v : List Nat := [0,1,3,4,5,6,7,8,9,10]
def a96b : List Nat := [2,6,7]

def a97r0 : List AOper := [
 op (.v 1) .mv [.c (.bool false)]]
def a97s1 : ACode := .reg [] a97r0
def a97r2 : List AOper := [
 op (.t 3) .mv [.v 0],
 op (.t 4) (.bin .geq) [.t 3,.c (.int .u8 97)],
 op (.t 5) .mv [.t 4],
 ⟨.t 6,.mv,[.v 0],none,some (.t 5,true)⟩,
 ⟨.t 7,.bin .leq,[.t 6,.c (.int .u8 122)],none,some (.t 5,true)⟩,
 op (.t 8) .pick [.t 5,.t 7,.c (.bool false)],
 op (.t 9) .mv [.t 8],
 ⟨.t 10,.mv,[.v 0],none,some (.t 9,false)⟩,
 ⟨.t 11,.bin .geq,[.t 10,.c (.int .u8 65)],none,some (.t 9,false)⟩,
 ⟨.t 12,.mv,[.t 11],none,some (.t 9,false)⟩,
 ⟨.t 13,.mv,[.v 0],none,some (.t 12,true)⟩,
 ⟨.t 14,.bin .leq,[.t 13,.c (.int .u8 90)],none,some (.t 12,true)⟩,
 ⟨.t 15,.pick,[.t 12,.t 14,.c (.bool false)],none,some (.t 9,false)⟩,
 op (.t 16) .pick [.t 9,.c (.bool true),.t 15],
 op (.t 17) .mv [.t 16],
 ⟨.t 18,.mv,[.v 0],none,some (.t 17,false)⟩,
 ⟨.t 19,.bin .eql,[.t 18,.c (.int .u8 95)],none,some (.t 17,false)⟩,
 op (.t 20) .pick [.t 17,.c (.bool true),.t 19],
 op (.v 1) .mv [.t 20]]
def a97s3 : ACode := .reg [] a97r2
def a97s4 : ACode := .seq a97s3 .ret
def a97s5 : ACode := .seq a97s1 a97s4
def a97c : ACode :=
  a97s5
def a97 : AFn := { np := 1,nv := 2,results := [.v 1],code := a97c }
def a97v : List Nat := [0,2]
def a97b : List Nat := []

def a98r0 : List AOper := [
 op (.v 1) .mv [.c (.bool false)]]
def a98s1 : ACode := .reg [] a98r0
def a98r2 : List AOper := [
 op (.t 3) .mv [.v 0],
 op (.t 4) (.bin .geq) [.t 3,.c (.int .u8 48)],
 op (.t 5) .mv [.t 4],
 ⟨.t 6,.mv,[.v 0],none,some (.t 5,true)⟩,
 ⟨.t 7,.bin .leq,[.t 6,.c (.int .u8 57)],none,some (.t 5,true)⟩,
 op (.t 8) .pick [.t 5,.t 7,.c (.bool false)],
 op (.v 1) .mv [.t 8]]
def a98s3 : ACode := .reg [] a98r2
def a98s4 : ACode := .seq a98s3 .ret
def a98s5 : ACode := .seq a98s1 a98s4
def a98c : ACode :=
  a98s5
def a98 : AFn := { np := 1,nv := 2,results := [.v 1],code := a98c }
def a98v : List Nat := [0,2]
def a98b : List Nat := []

def a99r0 : List AOper := [
 ⟨.bx,.alloc [.int .u8 0,.str [],.int .i64 0,.int .i64 0],[],some 2,none⟩,
 op (.v 3) .mv [.c (.int .i64 0)],
 op (.v 4) .mv [.c (.int .i64 0)],
 op (.v 5) .mv [.c (.int .i64 0)]]
def a99s1 : ACode := .reg [2] a99r0
def a99r2 : List AOper := [
 op (.t 12) .mv [.v 1],
 op (.v 6) .mv [.t 12]]
def a99s3 : ACode := .reg [] a99r2
def a99r4 : List AOper := [
 op (.t 13) .mv [.v 0],
 op (.t 14) .mv [.v 6],
 op (.t 15) .idxS [.t 13,.t 14],
 op (.t 16) (.bin .eql) [.t 15,.c (.int .u8 45)],
 op (.v 7) .mv [.t 16]]
def a99s5 : ACode := .reg [] a99r4
def a99r6 : List AOper := [
 op (.t 17) .mv [.v 7]]
def a99r7 : List AOper := [
 op (.t 18) .mv [.v 6],
 op (.t 19) (.bin .add) [.t 18,.c (.int .i64 1)],
 op (.v 6) .mv [.t 19]]
def a99s8 : ACode := .reg [] a99r7
def a99s9 : ACode := .test [] a99r6 (.t 17) a99s8 .skip
def a99r10 : List AOper := [
 op (.t 20) .mv [.v 6],
 op (.v 8) .mv [.t 20]]
def a99s11 : ACode := .reg [] a99r10
def a99r12 : List AOper := [
 op (.v 9) .mv [.c (.int .i64 0)]]
def a99s13 : ACode := .reg [] a99r12
def a99r14 : List AOper := [
 op (.t 21) .mv [.v 6],
 op (.t 22) .mv [.v 0],
 op (.t 23) .lenS [.t 22],
 op (.t 24) (.bin .lss) [.t 21,.t 23],
 op (.t 25) .mv [.t 24],
 ⟨.t 26,.mv,[.v 0],none,some (.t 25,true)⟩,
 ⟨.t 27,.mv,[.v 6],none,some (.t 25,true)⟩,
 ⟨.t 28,.idxS,[.t 26,.t 27],none,some (.t 25,true)⟩,
 ⟨.t 29,.call 98,[.t 28],none,some (.t 25,true)⟩,
 op (.t 30) .pick [.t 25,.t 29,.c (.bool false)]]
def a99s15 : ACode := .test [] a99r14 (.t 30) .skip (.exit 0)
def a99r16 : List AOper := [
 op (.t 31) .mv [.v 6],
 op (.t 32) .mv [.v 8],
 op (.t 33) (.bin .sub) [.t 31,.t 32],
 op (.t 34) (.bin .lss) [.t 33,.c (.int .i64 18)]]
def a99r17 : List AOper := [
 op (.t 35) .mv [.v 9],
 op (.t 36) (.bin .mul) [.t 35,.c (.int .i64 10)],
 op (.t 37) .mv [.v 0],
 op (.t 38) .mv [.v 6],
 op (.t 39) .idxS [.t 37,.t 38],
 op (.t 40) (.bin .sub) [.t 39,.c (.int .u8 48)],
 op (.t 41) (.conv .i64) [.t 40],
 op (.t 42) (.bin .add) [.t 36,.t 41],
 op (.v 9) .mv [.t 42]]
def a99s18 : ACode := .reg [] a99r17
def a99s19 : ACode := .test [] a99r16 (.t 34) a99s18 .skip
def a99r20 : List AOper := [
 op (.t 43) .mv [.v 6],
 op (.t 44) (.bin .add) [.t 43,.c (.int .i64 1)],
 op (.v 6) .mv [.t 44]]
def a99s21 : ACode := .reg [] a99r20
def a99s22 : ACode := .seq a99s19 a99s21
def a99s23 : ACode := .blk 1 a99s22
def a99s24 : ACode := .seq a99s15 a99s23
def a99s25 : ACode := .loop a99s24
def a99s26 : ACode := .blk 0 a99s25
def a99r27 : List AOper := [
 op (.t 46) .mv [.v 6],
 op (.t 47) .mv [.v 8],
 op (.t 48) (.bin .eql) [.t 46,.t 47],
 op (.t 45) .mv [.t 48]]
def a99r28 : List AOper := [
 op (.t 49) (.build [.int .u8 0,.str [],.int .i64 0,.int .i64 0] []) [],
 op (.t 50) .mv [.v 6],
 ⟨.none,.stLc 2 4,[.l 2,.t 49],some 2,none⟩,
 op (.v 3) .mv [.c (.int .i64 0)],
 op (.v 4) .mv [.t 50],
 op (.v 5) .mv [.c (.int .i64 4)]]
def a99s29 : ACode := .reg [] a99r28
def a99s30 : ACode := .seq a99s29 .ret
def a99r31 : List AOper := [
 op (.t 52) .mv [.v 0],
 op (.t 53) .mv [.v 8],
 op (.t 54) .idxS [.t 52,.t 53],
 op (.t 55) (.bin .eql) [.t 54,.c (.int .u8 48)],
 op (.t 56) .mv [.t 55],
 ⟨.t 57,.mv,[.v 6],none,some (.t 56,true)⟩,
 ⟨.t 58,.mv,[.v 8],none,some (.t 56,true)⟩,
 ⟨.t 59,.bin .add,[.t 58,.c (.int .i64 1)],none,some (.t 56,true)⟩,
 ⟨.t 60,.bin .gtr,[.t 57,.t 59],none,some (.t 56,true)⟩,
 op (.t 61) .pick [.t 56,.t 60,.c (.bool false)],
 op (.t 51) .mv [.t 61]]
def a99r32 : List AOper := [
 op (.t 62) (.build [.int .u8 0,.str [],.int .i64 0,.int .i64 0] []) [],
 op (.t 63) .mv [.v 8],
 op (.t 64) (.bin .add) [.t 63,.c (.int .i64 1)],
 ⟨.none,.stLc 2 4,[.l 2,.t 62],some 2,none⟩,
 op (.v 3) .mv [.c (.int .i64 0)],
 op (.v 4) .mv [.t 64],
 op (.v 5) .mv [.c (.int .i64 4)]]
def a99s33 : ACode := .reg [] a99r32
def a99s34 : ACode := .seq a99s33 .ret
def a99r35 : List AOper := [
 op (.t 66) .mv [.v 6],
 op (.t 67) .mv [.v 0],
 op (.t 68) .lenS [.t 67],
 op (.t 69) (.bin .lss) [.t 66,.t 68],
 op (.t 70) .mv [.t 69],
 ⟨.t 71,.mv,[.v 0],none,some (.t 70,true)⟩,
 ⟨.t 72,.mv,[.v 6],none,some (.t 70,true)⟩,
 ⟨.t 73,.idxS,[.t 71,.t 72],none,some (.t 70,true)⟩,
 ⟨.t 74,.call 97,[.t 73],none,some (.t 70,true)⟩,
 ⟨.t 75,.mv,[.t 74],none,some (.t 70,true)⟩,
 ⟨.t 76,.mv,[.v 0],none,some (.t 75,false)⟩,
 ⟨.t 77,.mv,[.v 6],none,some (.t 75,false)⟩,
 ⟨.t 78,.idxS,[.t 76,.t 77],none,some (.t 75,false)⟩,
 ⟨.t 79,.bin .eql,[.t 78,.c (.int .u8 46)],none,some (.t 75,false)⟩,
 ⟨.t 80,.pick,[.t 75,.c (.bool true),.t 79],none,some (.t 70,true)⟩,
 op (.t 81) .pick [.t 70,.t 80,.c (.bool false)],
 op (.t 65) .mv [.t 81]]
def a99r36 : List AOper := [
 op (.t 82) (.build [.int .u8 0,.str [],.int .i64 0,.int .i64 0] []) [],
 op (.t 83) .mv [.v 6],
 ⟨.none,.stLc 2 4,[.l 2,.t 82],some 2,none⟩,
 op (.v 3) .mv [.c (.int .i64 0)],
 op (.v 4) .mv [.t 83],
 op (.v 5) .mv [.c (.int .i64 4)]]
def a99s37 : ACode := .reg [] a99r36
def a99s38 : ACode := .seq a99s37 .ret
def a99r39 : List AOper := [
 op (.t 85) .mv [.v 6],
 op (.t 86) .mv [.v 8],
 op (.t 87) (.bin .sub) [.t 85,.t 86],
 op (.t 88) (.bin .gtr) [.t 87,.c (.int .i64 18)],
 op (.t 84) .mv [.t 88]]
def a99r40 : List AOper := [
 op (.t 89) (.build [.int .u8 0,.str [],.int .i64 0,.int .i64 0] []) [],
 op (.t 90) .mv [.v 1],
 ⟨.none,.stLc 2 4,[.l 2,.t 89],some 2,none⟩,
 op (.v 3) .mv [.c (.int .i64 0)],
 op (.v 4) .mv [.t 90],
 op (.v 5) .mv [.c (.int .i64 1)]]
def a99s41 : ACode := .reg [] a99r40
def a99s42 : ACode := .seq a99s41 .ret
def a99s43 : ACode := .test [] a99r39 (.t 84) a99s42 .skip
def a99s44 : ACode := .test [] a99r35 (.t 65) a99s38 a99s43
def a99s45 : ACode := .test [] a99r31 (.t 51) a99s34 a99s44
def a99s46 : ACode := .test [] a99r27 (.t 45) a99s30 a99s45
def a99s47 : ACode := .blk 2 a99s46
def a99r48 : List AOper := [
 op (.t 91) .mv [.v 7]]
def a99r49 : List AOper := [
 op (.t 92) .mv [.v 9],
 op (.t 93) (.un .neg) [.t 92],
 op (.v 9) .mv [.t 93]]
def a99s50 : ACode := .reg [] a99r49
def a99s51 : ACode := .test [] a99r48 (.t 91) a99s50 .skip
def a99r52 : List AOper := [
 op (.t 94) .mv [.v 0],
 op (.t 95) .mv [.v 1],
 op (.t 96) .mv [.v 6],
 op (.t 97) (.slS true true) [.t 94,.t 95,.t 96],
 op (.t 98) .mv [.v 9],
 op (.t 99) (.build [.int .u8 0,.str [],.int .i64 0,.int .i64 0] [(0,1),(1,1),(2,1)]) [.c (.int .u8 2),.t 97,.t 98],
 op (.t 100) .mv [.v 6],
 ⟨.none,.stLc 2 4,[.l 2,.t 99],some 2,none⟩,
 op (.v 3) .mv [.t 100],
 op (.v 4) .mv [.c (.int .i64 0)],
 op (.v 5) .mv [.c (.int .i64 0)]]
def a99s53 : ACode := .reg [] a99r52
def a99s54 : ACode := .seq a99s53 .ret
def a99s55 : ACode := .seq a99s51 a99s54
def a99s56 : ACode := .seq a99s47 a99s55
def a99s57 : ACode := .seq a99s26 a99s56
def a99s58 : ACode := .seq a99s13 a99s57
def a99s59 : ACode := .seq a99s11 a99s58
def a99s60 : ACode := .seq a99s9 a99s59
def a99s61 : ACode := .seq a99s5 a99s60
def a99s62 : ACode := .seq a99s3 a99s61
def a99s63 : ACode := .seq a99s1 a99s62
def a99c : ACode :=
  a99s63
def a99 : AFn := { np := 2,nv := 10,results := [.bx 2 true 4,.v 3,.v 4,.v 5],code := a99c }
def a99v : List Nat := [0,1,4,5,6,7,8,9,10,11]
def a99b : List Nat := [2]

def a100r0 : List AOper := [
 ⟨.bx,.alloc [.int .u8 0,.str [],.int .i64 0,.int .i64 0],[],some 2,none⟩,
 op (.v 3) .mv [.c (.int .i64 0)],
 op (.v 4) .mv [.c (.int .i64 0)],
 op (.v 5) .mv [.c (.int .i64 0)]]
def a100s1 : ACode := .reg [2] a100r0
def a100r2 : List AOper := [
 op (.v 6) .mv [.c (.str [])]]
def a100s3 : ACode := .reg [] a100r2
def a100r4 : List AOper := [
 op (.t 10) .mv [.v 1],
 op (.t 11) (.bin .add) [.t 10,.c (.int .i64 1)],
 op (.v 7) .mv [.t 11]]
def a100s5 : ACode := .reg [] a100r4
def a100r6 : List AOper := [
 op (.t 12) .mv [.v 7],
 op (.t 13) .mv [.v 0],
 op (.t 14) .lenS [.t 13],
 op (.t 15) (.bin .lss) [.t 12,.t 14]]
def a100s7 : ACode := .test [] a100r6 (.t 15) .skip (.exit 0)
def a100r8 : List AOper := [
 op (.t 16) .mv [.v 0],
 op (.t 17) .mv [.v 7],
 op (.v 8) .idxS [.t 16,.t 17]]
def a100s9 : ACode := .reg [] a100r8
def a100r10 : List AOper := [
 op (.t 27) (.bin .eql) [.v 8,.c (.int .u8 34)],
 op (.t 26) .mv [.t 27]]
def a100r11 : List AOper := [
 op (.t 28) .mv [.v 6],
 op (.t 29) .lenS [.t 28],
 op (.t 30) (.bin .gtr) [.t 29,.c (.int .i64 200)]]
def a100r12 : List AOper := [
 op (.t 31) (.build [.int .u8 0,.str [],.int .i64 0,.int .i64 0] []) [],
 op (.t 32) .mv [.v 1],
 ⟨.none,.stLc 2 4,[.l 2,.t 31],some 2,none⟩,
 op (.v 3) .mv [.c (.int .i64 0)],
 op (.v 4) .mv [.t 32],
 op (.v 5) .mv [.c (.int .i64 2)]]
def a100s13 : ACode := .reg [] a100r12
def a100s14 : ACode := .seq a100s13 .ret
def a100s15 : ACode := .test [] a100r11 (.t 30) a100s14 .skip
def a100r16 : List AOper := [
 op (.t 33) .mv [.v 6],
 op (.t 34) (.build [.int .u8 0,.str [],.int .i64 0,.int .i64 0] [(0,1),(1,1)]) [.c (.int .u8 3),.t 33],
 op (.t 35) .mv [.v 7],
 op (.t 36) (.bin .add) [.t 35,.c (.int .i64 1)],
 ⟨.none,.stLc 2 4,[.l 2,.t 34],some 2,none⟩,
 op (.v 3) .mv [.t 36],
 op (.v 4) .mv [.c (.int .i64 0)],
 op (.v 5) .mv [.c (.int .i64 0)]]
def a100s17 : ACode := .reg [] a100r16
def a100s18 : ACode := .seq a100s17 .ret
def a100s19 : ACode := .seq a100s15 a100s18
def a100r20 : List AOper := [
 op (.t 38) (.bin .eql) [.v 8,.c (.int .u8 10)],
 op (.t 37) .mv [.t 38]]
def a100r21 : List AOper := [
 op (.t 39) (.build [.int .u8 0,.str [],.int .i64 0,.int .i64 0] []) [],
 op (.t 40) .mv [.v 7],
 ⟨.none,.stLc 2 4,[.l 2,.t 39],some 2,none⟩,
 op (.v 3) .mv [.c (.int .i64 0)],
 op (.v 4) .mv [.t 40],
 op (.v 5) .mv [.c (.int .i64 4)]]
def a100s22 : ACode := .reg [] a100r21
def a100s23 : ACode := .seq a100s22 .ret
def a100r24 : List AOper := [
 op (.t 42) (.bin .eql) [.v 8,.c (.int .u8 92)],
 op (.t 41) .mv [.t 42]]
def a100r25 : List AOper := [
 op (.t 43) .mv [.v 7],
 op (.t 44) (.bin .add) [.t 43,.c (.int .i64 1)],
 op (.v 7) .mv [.t 44]]
def a100s26 : ACode := .reg [] a100r25
def a100r27 : List AOper := [
 op (.t 45) .mv [.v 7],
 op (.t 46) .mv [.v 0],
 op (.t 47) .lenS [.t 46],
 op (.t 48) (.bin .eql) [.t 45,.t 47]]
def a100r28 : List AOper := [
 op (.t 49) (.build [.int .u8 0,.str [],.int .i64 0,.int .i64 0] []) [],
 op (.t 50) .mv [.v 7],
 ⟨.none,.stLc 2 4,[.l 2,.t 49],some 2,none⟩,
 op (.v 3) .mv [.c (.int .i64 0)],
 op (.v 4) .mv [.t 50],
 op (.v 5) .mv [.c (.int .i64 4)]]
def a100s29 : ACode := .reg [] a100r28
def a100s30 : ACode := .seq a100s29 .ret
def a100s31 : ACode := .test [] a100r27 (.t 48) a100s30 .skip
def a100r32 : List AOper := [
 op (.t 51) .mv [.v 0],
 op (.t 52) .mv [.v 7],
 op (.v 9) .idxS [.t 51,.t 52]]
def a100s33 : ACode := .reg [] a100r32
def a100r34 : List AOper := [
 op (.t 57) (.bin .eql) [.v 9,.c (.int .u8 110)],
 op (.t 56) .mv [.t 57]]
def a100r35 : List AOper := [
 op (.t 58) .mv [.v 6],
 op (.t 59) (.bin .add) [.t 58,.c (.str [10])],
 op (.v 6) .mv [.t 59]]
def a100s36 : ACode := .reg [] a100r35
def a100r37 : List AOper := [
 op (.t 61) (.bin .eql) [.v 9,.c (.int .u8 116)],
 op (.t 60) .mv [.t 61]]
def a100r38 : List AOper := [
 op (.t 62) .mv [.v 6],
 op (.t 63) (.bin .add) [.t 62,.c (.str [9])],
 op (.v 6) .mv [.t 63]]
def a100s39 : ACode := .reg [] a100r38
def a100r40 : List AOper := [
 op (.t 65) (.bin .eql) [.v 9,.c (.int .u8 34)],
 op (.v 10) .mv [.t 65]]
def a100r41 : List AOper := [
 op (.t 66) (.bin .eql) [.v 9,.c (.int .u8 47)],
 op (.v 10) .mv [.t 66]]
def a100r42 : List AOper := [
 op (.t 67) (.bin .eql) [.v 9,.c (.int .u8 92)],
 op (.v 10) .mv [.t 67]]
def a100s43 : ACode := .reg [] a100r42
def a100s44 : ACode := .test [] a100r41 (.v 10) .skip a100s43
def a100s45 : ACode := .test [] a100r40 (.v 10) .skip a100s44
def a100r46 : List AOper := [
 op (.t 68) .mv [.v 6],
 op (.t 69) .mv [.v 0],
 op (.t 70) .mv [.v 7],
 op (.t 71) .mv [.v 7],
 op (.t 72) (.bin .add) [.t 71,.c (.int .i64 1)],
 op (.t 73) (.slS true true) [.t 69,.t 70,.t 72],
 op (.t 74) (.bin .add) [.t 68,.t 73],
 op (.v 6) .mv [.t 74]]
def a100s47 : ACode := .reg [] a100r46
def a100r48 : List AOper := [
 op (.t 54) (.build [.int .u8 0,.str [],.int .i64 0,.int .i64 0] []) [],
 op (.t 55) .mv [.v 7],
 ⟨.none,.stLc 2 4,[.l 2,.t 54],some 2,none⟩,
 op (.v 3) .mv [.c (.int .i64 0)],
 op (.v 4) .mv [.t 55],
 op (.v 5) .mv [.c (.int .i64 4)]]
def a100s49 : ACode := .reg [] a100r48
def a100s50 : ACode := .seq a100s49 .ret
def a100s51 : ACode := .test [] [] (.v 10) a100s47 a100s50
def a100s52 : ACode := .seq a100s45 a100s51
def a100s53 : ACode := .test [] a100r37 (.t 60) a100s39 a100s52
def a100s54 : ACode := .test [] a100r34 (.t 56) a100s36 a100s53
def a100s55 : ACode := .blk 3 a100s54
def a100s56 : ACode := .seq a100s33 a100s55
def a100s57 : ACode := .seq a100s31 a100s56
def a100s58 : ACode := .seq a100s26 a100s57
def a100r59 : List AOper := [
 op (.t 19) .mv [.v 6],
 op (.t 20) .mv [.v 0],
 op (.t 21) .mv [.v 7],
 op (.t 22) .mv [.v 7],
 op (.t 23) (.bin .add) [.t 22,.c (.int .i64 1)],
 op (.t 24) (.slS true true) [.t 20,.t 21,.t 23],
 op (.t 25) (.bin .add) [.t 19,.t 24],
 op (.v 6) .mv [.t 25]]
def a100s60 : ACode := .reg [] a100r59
def a100s61 : ACode := .test [] a100r24 (.t 41) a100s58 a100s60
def a100s62 : ACode := .test [] a100r20 (.t 37) a100s23 a100s61
def a100s63 : ACode := .test [] a100r10 (.t 26) a100s19 a100s62
def a100s64 : ACode := .blk 2 a100s63
def a100s65 : ACode := .seq a100s9 a100s64
def a100r66 : List AOper := [
 op (.t 75) .mv [.v 7],
 op (.t 76) (.bin .add) [.t 75,.c (.int .i64 1)],
 op (.v 7) .mv [.t 76]]
def a100s67 : ACode := .reg [] a100r66
def a100s68 : ACode := .seq a100s65 a100s67
def a100s69 : ACode := .blk 1 a100s68
def a100s70 : ACode := .seq a100s7 a100s69
def a100s71 : ACode := .loop a100s70
def a100s72 : ACode := .blk 0 a100s71
def a100r73 : List AOper := [
 op (.t 77) (.build [.int .u8 0,.str [],.int .i64 0,.int .i64 0] []) [],
 op (.t 78) .mv [.v 7],
 ⟨.none,.stLc 2 4,[.l 2,.t 77],some 2,none⟩,
 op (.v 3) .mv [.c (.int .i64 0)],
 op (.v 4) .mv [.t 78],
 op (.v 5) .mv [.c (.int .i64 4)]]
def a100s74 : ACode := .reg [] a100r73
def a100s75 : ACode := .seq a100s74 .ret
def a100s76 : ACode := .seq a100s72 a100s75
def a100s77 : ACode := .seq a100s5 a100s76
def a100s78 : ACode := .seq a100s3 a100s77
def a100s79 : ACode := .seq a100s1 a100s78
def a100c : ACode :=
  a100s79
def a100 : AFn := { np := 2,nv := 11,results := [.bx 2 true 4,.v 3,.v 4,.v 5],code := a100c }
def a100v : List Nat := [0,1,4,5,6,7,8,9,18,53,64]
def a100b : List Nat := [2]

def a101r0 : List AOper := [
 op (.v 1) .mv [.c (.list true [])]]
def a101s1 : ACode := .reg [] a101r0
def a101r2 : List AOper := [
 op (.v 2) .mv [.c (.list true [])]]
def a101s3 : ACode := .reg [] a101r2
def a101r4 : List AOper := [
 op (.t 6) .mv [.v 0],
 op (.t 7) (.call 23) [.t 6,.c (.str [40])],
 op (.t 8) (.un .not) [.t 7]]
def a101r5 : List AOper := [
 op (.v 1) .mv [.c (.list true [])]]
def a101s6 : ACode := .reg [] a101r5
def a101s7 : ACode := .seq a101s6 .ret
def a101s8 : ACode := .test [] a101r4 (.t 8) a101s7 .skip
def a101r9 : List AOper := [
 op (.v 3) .mv [.c (.bool true)]]
def a101s10 : ACode := .reg [] a101r9
def a101r11 : List AOper := [
 op (.t 9) .mv [.v 0],
 op (.t 10) .nilchk [.t 9],
 op (.t 11) (.fad 4) [.t 10],
 op (.t 12) (.ldSt false 1) [.t 11],
 op (.t 13) (.bin .eql) [.t 12,.c (.int .i64 0)],
 op (.t 14) .mv [.t 13],
 ⟨.t 15,.mv,[.v 3],none,some (.t 14,true)⟩,
 ⟨.t 16,.mv,[.t 15],none,some (.t 14,true)⟩,
 ⟨.t 17,.mv,[.v 0],none,some (.t 16,false)⟩,
 ⟨.t 18,.call 23,[.t 17,.c (.str [41])],none,some (.t 16,false)⟩,
 ⟨.t 19,.un .not,[.t 18],none,some (.t 16,false)⟩,
 ⟨.t 20,.pick,[.t 16,.c (.bool true),.t 19],none,some (.t 14,true)⟩,
 op (.t 21) .pick [.t 14,.t 20,.c (.bool false)]]
def a101s12 : ACode := .test [] a101r11 (.t 21) .skip (.exit 0)
def a101r13 : List AOper := [
 op (.t 22) .mv [.v 0],
 op (.t 23) (.call 19) [.t 22],
 op (.t 24) (.build [.str [],.int .u8 0,.int .i64 0,.str [],.list true [],.list true []] [(0,1)]) [.t 23],
 ⟨.bx,.alloc [.str [],.int .u8 0,.int .i64 0,.str [],.list true [],.list true []],[],some 4,none⟩,
 ⟨.none,.stLc 4 6,[.l 4,.ts 24],some 4,none⟩]
def a101s14 : ACode := .reg [4] a101r13
def a101r15 : List AOper := [
 op (.t 25) .mv [.v 0],
 op (.t 26) (.call 20) [.t 25,.c (.str [58])]]
def a101s16 : ACode := .reg [] a101r15
def a101r17 : List AOper := [
 op (.t 27) .mv [.v 0],
 op (.t 28) (.call 57) [.t 27,.c (.bool false)],
 op (.t 29) (.fad 1) [.l 4],
 ⟨.none,.stLc 4 5,[.t 29,.ts 28],some 4,none⟩]
def a101s18 : ACode := .reg [] a101r17
def a101r19 : List AOper := [
 op (.t 30) .mv [.vs 2],
 ⟨.t 31,.ldLc 4 true 6,[.l 4],some 4,none⟩,
 op (.t 32) (.bslice 6 [[.str [],.int .u8 0,.int .i64 0,.str [],.list true [],.list true []]] [0]) [.t 31],
 op (.t 33) (.app 6 96) [.ts 30,.t 32],
 op (.v 2) .mv [.ts 33]]
def a101s20 : ACode := .reg [] a101r19
def a101s21 : ACode := .seq a101s18 a101s20
def a101s22 : ACode := .seq a101s16 a101s21
def a101s23 : ACode := .seq a101s14 a101s22
def a101s24 : ACode := .blk 1 a101s23
def a101r25 : List AOper := [
 op (.v 3) .mv [.c (.bool false)]]
def a101s26 : ACode := .reg [] a101r25
def a101s27 : ACode := .seq a101s24 a101s26
def a101s28 : ACode := .seq a101s12 a101s27
def a101s29 : ACode := .loop a101s28
def a101s30 : ACode := .blk 0 a101s29
def a101s31 : ACode := .seq a101s10 a101s30
def a101r32 : List AOper := [
 op (.t 34) .mv [.v 2],
 op (.v 1) .mv [.ts 34]]
def a101s33 : ACode := .reg [] a101r32
def a101s34 : ACode := .seq a101s33 .ret
def a101s35 : ACode := .seq a101s31 a101s34
def a101s36 : ACode := .seq a101s8 a101s35
def a101s37 : ACode := .seq a101s3 a101s36
def a101s38 : ACode := .seq a101s1 a101s37
def a101c : ACode :=
  a101s38
def a101 : AFn := { np := 1,nv := 5,results := [.v 1],code := a101c }
def a101v : List Nat := [0,2,3,4,5]
def a101b : List Nat := [4]

def a102r0 : List AOper := [
 op (.v 1) .mv [.c (.list true [])]]
def a102s1 : ACode := .reg [] a102r0
def a102r2 : List AOper := [
 op (.v 2) .mv [.c (.list true [])]]
def a102s3 : ACode := .reg [] a102r2
def a102r4 : List AOper := [
 op (.t 5) .mv [.v 0],
 op (.t 6) (.call 23) [.t 5,.c (.str [64])]]
def a102s5 : ACode := .test [] a102r4 (.t 6) .skip (.exit 0)
def a102r6 : List AOper := [
 op (.t 7) .mv [.v 0],
 op (.t 8) (.call 19) [.t 7],
 op (.t 9) (.build [.str [],.list true []] [(0,1)]) [.t 8],
 ⟨.bx,.alloc [.str [],.list true []],[],some 3,none⟩,
 ⟨.none,.stLc 3 2,[.l 3,.ts 9],some 3,none⟩]
def a102s7 : ACode := .reg [3] a102r6
def a102r8 : List AOper := [
 op (.t 10) .mv [.v 0],
 op (.t 11) (.call 101) [.t 10],
 op (.t 12) (.fad 1) [.l 3],
 ⟨.none,.stLc 3 1,[.t 12,.ts 11],some 3,none⟩]
def a102s9 : ACode := .reg [] a102r8
def a102r10 : List AOper := [
 op (.t 13) .mv [.vs 2],
 ⟨.t 14,.ldLc 3 true 2,[.l 3],some 3,none⟩,
 op (.t 15) (.bslice 2 [[.str [],.list true []]] [0]) [.t 14],
 op (.t 16) (.app 2 40) [.ts 13,.t 15],
 op (.v 2) .mv [.ts 16]]
def a102s11 : ACode := .reg [] a102r10
def a102s12 : ACode := .seq a102s9 a102s11
def a102s13 : ACode := .seq a102s7 a102s12
def a102s14 : ACode := .blk 1 a102s13
def a102s15 : ACode := .seq a102s5 a102s14
def a102s16 : ACode := .loop a102s15
def a102s17 : ACode := .blk 0 a102s16
def a102r18 : List AOper := [
 op (.t 17) .mv [.v 2],
 op (.v 1) .mv [.ts 17]]
def a102s19 : ACode := .reg [] a102r18
def a102s20 : ACode := .seq a102s19 .ret
def a102s21 : ACode := .seq a102s17 a102s20
def a102s22 : ACode := .seq a102s3 a102s21
def a102s23 : ACode := .seq a102s1 a102s22
def a102c : ACode :=
  a102s23
def a102 : AFn := { np := 1,nv := 4,results := [.v 1],code := a102c }
def a102v : List Nat := [0,2,3,4]
def a102b : List Nat := [3]

def a103r0 : List AOper := [
 ⟨.bx,.alloc [.int .u8 0,.int .i64 0,.str [],.list true [],.list true []],[],some 2,none⟩]
def a103s1 : ACode := .reg [2] a103r0
def a103r2 : List AOper := [
 op (.t 10) .mv [.v 0],
 op (.t 11) .nilchk [.t 10],
 op (.t 12) (.fad 0) [.t 11],
 op (.t 13) (.ldSt false 1) [.t 12],
 op (.t 14) .mv [.v 0],
 op (.t 15) .nilchk [.t 14],
 op (.t 16) (.fad 1) [.t 15],
 op (.t 17) (.ldSt false 1) [.t 16],
 op (.t 18) (.iad 4) [.t 13,.t 17],
 op (.t 19) (.ldRo true 4) [.t 18],
 ⟨.bx,.alloc [.int .u8 0,.str [],.int .i64 0,.int .i64 0],[],some 3,none⟩,
 ⟨.none,.stLc 3 4,[.l 3,.t 19],some 3,none⟩]
def a103s3 : ACode := .reg [3] a103r2
def a103r4 : List AOper := [
 op (.t 21) (.fad 0) [.l 3],
 ⟨.t 22,.ldLc 3 false 1,[.t 21],some 3,none⟩,
 op (.t 23) (.bin .eql) [.t 22,.c (.int .u8 2)],
 op (.t 20) .mv [.t 23]]
def a103r5 : List AOper := [
 op (.t 24) .mv [.v 0],
 op (.t 25) .nilchk [.t 24],
 op (.t 26) (.fad 1) [.t 25],
 op (.t 27) (.ldSt false 1) [.t 26],
 op (.t 28) (.bin .add) [.t 27,.c (.int .i64 1)],
 op (.t 29) .nilchk [.t 24],
 op (.t 30) (.fad 1) [.t 29],
 op .none (.stSt 1) [.t 30,.t 28]]
def a103s6 : ACode := .reg [] a103r5
def a103r7 : List AOper := [
 op (.t 31) (.fad 2) [.l 3],
 ⟨.t 32,.ldLc 3 false 1,[.t 31],some 3,none⟩,
 op (.t 33) (.build [.int .u8 0,.int .i64 0,.str [],.list true [],.list true []] [(0,1),(1,1)]) [.c (.int .u8 1),.t 32],
 ⟨.none,.stLc 2 5,[.l 2,.ts 33],some 2,none⟩]
def a103s8 : ACode := .reg [] a103r7
def a103s9 : ACode := .seq a103s8 .ret
def a103s10 : ACode := .seq a103s6 a103s9
def a103r11 : List AOper := [
 op (.t 35) (.fad 0) [.l 3],
 ⟨.t 36,.ldLc 3 false 1,[.t 35],some 3,none⟩,
 op (.t 37) (.bin .eql) [.t 36,.c (.int .u8 3)],
 op (.t 34) .mv [.t 37]]
def a103r12 : List AOper := [
 op (.t 38) .mv [.v 0],
 op (.t 39) .nilchk [.t 38],
 op (.t 40) (.fad 1) [.t 39],
 op (.t 41) (.ldSt false 1) [.t 40],
 op (.t 42) (.bin .add) [.t 41,.c (.int .i64 1)],
 op (.t 43) .nilchk [.t 38],
 op (.t 44) (.fad 1) [.t 43],
 op .none (.stSt 1) [.t 44,.t 42]]
def a103s13 : ACode := .reg [] a103r12
def a103r14 : List AOper := [
 op (.t 45) (.fad 1) [.l 3],
 ⟨.t 46,.ldLc 3 false 1,[.t 45],some 3,none⟩,
 op (.t 47) (.build [.int .u8 0,.int .i64 0,.str [],.list true [],.list true []] [(0,1),(2,1)]) [.c (.int .u8 2),.t 46],
 ⟨.none,.stLc 2 5,[.l 2,.ts 47],some 2,none⟩]
def a103s15 : ACode := .reg [] a103r14
def a103s16 : ACode := .seq a103s15 .ret
def a103s17 : ACode := .seq a103s13 a103s16
def a103r18 : List AOper := [
 op (.t 49) .mv [.v 0],
 op (.t 50) (.call 23) [.t 49,.c (.str [116,114,117,101])],
 op (.t 48) .mv [.t 50]]
def a103r19 : List AOper := [
 op (.t 51) (.build [.int .u8 0,.int .i64 0,.str [],.list true [],.list true []] [(0,1),(1,1)]) [.c (.int .u8 3),.c (.int .i64 1)],
 ⟨.none,.stLc 2 5,[.l 2,.ts 51],some 2,none⟩]
def a103s20 : ACode := .reg [] a103r19
def a103s21 : ACode := .seq a103s20 .ret
def a103r22 : List AOper := [
 op (.t 53) .mv [.v 0],
 op (.t 54) (.call 23) [.t 53,.c (.str [102,97,108,115,101])],
 op (.t 52) .mv [.t 54]]
def a103r23 : List AOper := [
 op (.t 55) (.build [.int .u8 0,.int .i64 0,.str [],.list true [],.list true []] [(0,1)]) [.c (.int .u8 3)],
 ⟨.none,.stLc 2 5,[.l 2,.ts 55],some 2,none⟩]
def a103s24 : ACode := .reg [] a103r23
def a103s25 : ACode := .seq a103s24 .ret
def a103r26 : List AOper := [
 op (.t 57) .mv [.v 0],
 op (.t 58) (.call 23) [.t 57,.c (.str [110,117,108,108])],
 op (.t 56) .mv [.t 58]]
def a103r27 : List AOper := [
 op (.t 59) (.build [.int .u8 0,.int .i64 0,.str [],.list true [],.list true []] []) [],
 ⟨.none,.stLc 2 5,[.l 2,.ts 59],some 2,none⟩]
def a103s28 : ACode := .reg [] a103r27
def a103s29 : ACode := .seq a103s28 .ret
def a103r30 : List AOper := [
 op (.t 61) (.fad 0) [.l 3],
 ⟨.t 62,.ldLc 3 false 1,[.t 61],some 3,none⟩,
 op (.t 63) (.bin .eql) [.t 62,.c (.int .u8 1)],
 op (.t 60) .mv [.t 63]]
def a103r31 : List AOper := [
 op (.t 64) .mv [.v 0],
 op (.t 65) .nilchk [.t 64],
 op (.t 66) (.fad 1) [.t 65],
 op (.t 67) (.ldSt false 1) [.t 66],
 op (.t 68) (.bin .add) [.t 67,.c (.int .i64 1)],
 op (.t 69) .nilchk [.t 64],
 op (.t 70) (.fad 1) [.t 69],
 op .none (.stSt 1) [.t 70,.t 68]]
def a103s32 : ACode := .reg [] a103r31
def a103r33 : List AOper := [
 op (.t 71) (.fad 1) [.l 3],
 ⟨.t 72,.ldLc 3 false 1,[.t 71],some 3,none⟩,
 op (.t 73) (.build [.int .u8 0,.int .i64 0,.str [],.list true [],.list true []] [(0,1),(2,1)]) [.c (.int .u8 4),.t 72],
 ⟨.none,.stLc 2 5,[.l 2,.ts 73],some 2,none⟩]
def a103s34 : ACode := .reg [] a103r33
def a103s35 : ACode := .seq a103s34 .ret
def a103s36 : ACode := .seq a103s32 a103s35
def a103r37 : List AOper := [
 op (.t 75) .mv [.v 0],
 op (.t 76) (.call 22) [.t 75,.c (.str [36])],
 op (.t 77) .mv [.t 76],
 ⟨.t 78,.mv,[.v 1],none,some (.t 77,true)⟩,
 ⟨.t 79,.un .not,[.t 78],none,some (.t 77,true)⟩,
 op (.t 80) .pick [.t 77,.t 79,.c (.bool false)],
 op (.t 74) .mv [.t 80]]
def a103r38 : List AOper := [
 op (.t 81) .mv [.v 0],
 op (.t 82) .nilchk [.t 81],
 op (.t 83) (.fad 1) [.t 82],
 op (.t 84) (.ldSt false 1) [.t 83],
 op (.t 85) (.bin .add) [.t 84,.c (.int .i64 1)],
 op (.t 86) .nilchk [.t 81],
 op (.t 87) (.fad 1) [.t 86],
 op .none (.stSt 1) [.t 87,.t 85]]
def a103s39 : ACode := .reg [] a103r38
def a103r40 : List AOper := [
 op (.t 88) .mv [.v 0],
 op (.t 89) (.call 19) [.t 88],
 op (.t 90) (.build [.int .u8 0,.int .i64 0,.str [],.list true [],.list true []] [(0,1),(2,1)]) [.c (.int .u8 7),.t 89],
 ⟨.none,.stLc 2 5,[.l 2,.ts 90],some 2,none⟩]
def a103s41 : ACode := .reg [] a103r40
def a103s42 : ACode := .seq a103s41 .ret
def a103s43 : ACode := .seq a103s39 a103s42
def a103r44 : List AOper := [
 op (.t 92) .mv [.v 0],
 op (.t 93) (.call 23) [.t 92,.c (.str [91])],
 op (.t 91) .mv [.t 93]]
def a103r45 : List AOper := [
 op (.t 94) (.build [.int .u8 0,.int .i64 0,.str [],.list true [],.list true []] [(0,1)]) [.c (.int .u8 5)],
 ⟨.bx,.alloc [.int .u8 0,.int .i64 0,.str [],.list true [],.list true []],[],some 4,none⟩,
 ⟨.none,.stLc 4 5,[.l 4,.ts 94],some 4,none⟩]
def a103s46 : ACode := .reg [4] a103r45
def a103r47 : List AOper := [
 op (.t 95) .mv [.v 0],
 op (.t 96) .nilchk [.t 95],
 op (.t 97) (.fad 4) [.t 96],
 op (.t 98) (.ldSt false 1) [.t 97],
 op (.t 99) (.bin .eql) [.t 98,.c (.int .i64 0)],
 op (.t 100) .mv [.t 99],
 ⟨.t 101,.mv,[.v 0],none,some (.t 100,true)⟩,
 ⟨.t 102,.call 23,[.t 101,.c (.str [93])],none,some (.t 100,true)⟩,
 ⟨.t 103,.un .not,[.t 102],none,some (.t 100,true)⟩,
 op (.t 104) .pick [.t 100,.t 103,.c (.bool false)]]
def a103s48 : ACode := .test [] a103r47 (.t 104) .skip (.exit 1)
def a103r49 : List AOper := [
 op (.t 105) .mv [.v 0],
 op (.t 106) .mv [.v 1],
 op (.t 107) (.call 57) [.t 105,.t 106],
 ⟨.bx,.alloc [.int .u8 0,.int .i64 0,.str [],.list true [],.list true []],[],some 5,none⟩,
 ⟨.none,.stLc 5 5,[.l 5,.ts 107],some 5,none⟩]
def a103s50 : ACode := .reg [5] a103r49
def a103r51 : List AOper := [
 op (.t 108) (.fad 4) [.l 4],
 ⟨.t 109,.ldLcS 4,[.t 108],some 4,none⟩,
 ⟨.t 110,.ldLc 5 true 5,[.l 5],some 5,none⟩,
 op (.t 111) (.bslice 5 [[.int .u8 0,.int .i64 0,.str [],.list true [],.list true []]] [0]) [.t 110],
 op (.t 112) (.app 5 80) [.ts 109,.t 111],
 op (.t 113) (.fad 4) [.l 4],
 ⟨.none,.stLc 4 1,[.t 113,.ts 112],some 4,none⟩]
def a103s52 : ACode := .reg [] a103r51
def a103s53 : ACode := .seq a103s50 a103s52
def a103s54 : ACode := .blk 2 a103s53
def a103s55 : ACode := .seq a103s48 a103s54
def a103s56 : ACode := .loop a103s55
def a103s57 : ACode := .blk 1 a103s56
def a103r58 : List AOper := [
 ⟨.t 114,.ldLc 4 true 5,[.l 4],some 4,none⟩,
 ⟨.none,.stLc 2 5,[.l 2,.ts 114],some 2,none⟩]
def a103s59 : ACode := .reg [] a103r58
def a103s60 : ACode := .seq a103s59 .ret
def a103s61 : ACode := .seq a103s57 a103s60
def a103s62 : ACode := .seq a103s46 a103s61
def a103r63 : List AOper := [
 op (.t 116) .mv [.v 0],
 op (.t 117) (.call 23) [.t 116,.c (.str [123])],
 op (.t 115) .mv [.t 117]]
def a103r64 : List AOper := [
 op (.t 118) (.build [.int .u8 0,.int .i64 0,.str [],.list true [],.list true []] [(0,1)]) [.c (.int .u8 6)],
 ⟨.bx,.alloc [.int .u8 0,.int .i64 0,.str [],.list true [],.list true []],[],some 6,none⟩,
 ⟨.none,.stLc 6 5,[.l 6,.ts 118],some 6,none⟩]
def a103s65 : ACode := .reg [6] a103r64
def a103r66 : List AOper := [
 op (.t 119) .mv [.v 0],
 op (.t 120) .nilchk [.t 119],
 op (.t 121) (.fad 4) [.t 120],
 op (.t 122) (.ldSt false 1) [.t 121],
 op (.t 123) (.bin .eql) [.t 122,.c (.int .i64 0)],
 op (.t 124) .mv [.t 123],
 ⟨.t 125,.mv,[.v 0],none,some (.t 124,true)⟩,
 ⟨.t 126,.call 23,[.t 125,.c (.str [125])],none,some (.t 124,true)⟩,
 ⟨.t 127,.un .not,[.t 126],none,some (.t 124,true)⟩,
 op (.t 128) .pick [.t 124,.t 127,.c (.bool false)]]
def a103s67 : ACode := .test [] a103r66 (.t 128) .skip (.exit 3)
def a103r68 : List AOper := [
 op (.t 129) (.fad 3) [.l 6],
 ⟨.t 130,.ldLcS 6,[.t 129],some 6,none⟩,
 op (.t 131) .mv [.v 0],
 op (.t 132) (.call 19) [.t 131],
 op (.t 133) (.bslice 1 [[.str []]] [0]) [.t 132],
 op (.t 134) (.app 1 16) [.ts 130,.t 133],
 op (.t 135) (.fad 3) [.l 6],
 ⟨.none,.stLc 6 1,[.t 135,.ts 134],some 6,none⟩]
def a103s69 : ACode := .reg [] a103r68
def a103r70 : List AOper := [
 op (.t 136) .mv [.v 0],
 op (.t 137) (.call 20) [.t 136,.c (.str [58])]]
def a103s71 : ACode := .reg [] a103r70
def a103r72 : List AOper := [
 op (.t 138) .mv [.v 0],
 op (.t 139) .mv [.v 1],
 op (.t 140) (.call 57) [.t 138,.t 139],
 ⟨.bx,.alloc [.int .u8 0,.int .i64 0,.str [],.list true [],.list true []],[],some 7,none⟩,
 ⟨.none,.stLc 7 5,[.l 7,.ts 140],some 7,none⟩]
def a103s73 : ACode := .reg [7] a103r72
def a103r74 : List AOper := [
 op (.t 141) (.fad 4) [.l 6],
 ⟨.t 142,.ldLcS 6,[.t 141],some 6,none⟩,
 ⟨.t 143,.ldLc 7 true 5,[.l 7],some 7,none⟩,
 op (.t 144) (.bslice 5 [[.int .u8 0,.int .i64 0,.str [],.list true [],.list true []]] [0]) [.t 143],
 op (.t 145) (.app 5 80) [.ts 142,.t 144],
 op (.t 146) (.fad 4) [.l 6],
 ⟨.none,.stLc 6 1,[.t 146,.ts 145],some 6,none⟩]
def a103s75 : ACode := .reg [] a103r74
def a103s76 : ACode := .seq a103s73 a103s75
def a103s77 : ACode := .seq a103s71 a103s76
def a103s78 : ACode := .seq a103s69 a103s77
def a103s79 : ACode := .blk 4 a103s78
def a103s80 : ACode := .seq a103s67 a103s79
def a103s81 : ACode := .loop a103s80
def a103s82 : ACode := .blk 3 a103s81
def a103r83 : List AOper := [
 ⟨.t 147,.ldLc 6 true 5,[.l 6],some 6,none⟩,
 ⟨.none,.stLc 2 5,[.l 2,.ts 147],some 2,none⟩]
def a103s84 : ACode := .reg [] a103r83
def a103s85 : ACode := .seq a103s84 .ret
def a103s86 : ACode := .seq a103s82 a103s85
def a103s87 : ACode := .seq a103s65 a103s86
def a103s88 : ACode := .test [] a103r63 (.t 115) a103s87 .skip
def a103s89 : ACode := .test [] a103r44 (.t 91) a103s62 a103s88
def a103s90 : ACode := .test [] a103r37 (.t 74) a103s43 a103s89
def a103s91 : ACode := .test [] a103r30 (.t 60) a103s36 a103s90
def a103s92 : ACode := .test [] a103r26 (.t 56) a103s29 a103s91
def a103s93 : ACode := .test [] a103r22 (.t 52) a103s25 a103s92
def a103s94 : ACode := .test [] a103r18 (.t 48) a103s21 a103s93
def a103s95 : ACode := .test [] a103r11 (.t 34) a103s17 a103s94
def a103s96 : ACode := .test [] a103r4 (.t 20) a103s10 a103s95
def a103s97 : ACode := .blk 0 a103s96
def a103r98 : List AOper := [
 op (.t 148) .mv [.v 0],
 op (.t 149) (.call 18) [.t 148,.c (.int .i64 4)]]
def a103s99 : ACode := .reg [] a103r98
def a103r100 : List AOper := [
 op (.t 150) (.build [.int .u8 0,.int .i64 0,.str [],.list true [],.list true []] []) [],
 ⟨.none,.stLc 2 5,[.l 2,.ts 150],some 2,none⟩]
def a103s101 : ACode := .reg [] a103r100
def a103s102 : ACode := .seq a103s101 .ret
def a103s103 : ACode := .seq a103s99 a103s102
def a103s104 : ACode := .seq a103s97 a103s103
def a103s105 : ACode := .seq a103s3 a103s104
def a103s106 : ACode := .seq a103s1 a103s105
def a103c : ACode :=
  a103s106
def a103 : AFn := { np := 2,nv := 8,results := [.bx 2 true 5],code := a103c }
def a103v : List Nat := [0,1,4,5,6,7,8,9]
def a103b : List Nat := [2,3,4,5,6,7]

def a104r0 : List AOper := [
 op (.v 2) .mv [.c (.bool false)]]
def a104s1 : ACode := .reg [] a104r0
def a104r2 : List AOper := [
 op (.t 5) .mv [.v 0],
 op (.t 6) (.binP .neq) [.t 5,.c (.nilp)],
 op (.t 7) .mv [.t 6],
 ⟨.t 8,.slA 4 1 false false,[.c (.ro [.str [66,111,111,108,101,97,110],.str [73,68],.str [73,110,116],.str [83,116,114,105,110,103]])],none,some (.t 7,true)⟩,
 ⟨.t 9,.mv,[.v 1],none,some (.t 7,true)⟩,
 ⟨.t 10,.call 32,[.t 8,.t 9],none,some (.t 7,true)⟩,
 op (.t 11) .pick [.t 7,.t 10,.c (.bool false)],
 op (.v 2) .mv [.t 11]]
def a104s3 : ACode := .reg [] a104r2
def a104s4 : ACode := .seq a104s3 .ret
def a104s5 : ACode := .seq a104s1 a104s4
def a104c : ACode :=
  a104s5
def a104 : AFn := { np := 2,nv := 3,results := [.v 2],code := a104c }
def a104v : List Nat := [0,1,4]
def a104b : List Nat := []

def a105r0 : List AOper := [
 op (.v 2) .mv [.c (.bool false)]]
def a105s1 : ACode := .reg [] a105r0
def a105r2 : List AOper := [
 op (.t 5) .mv [.v 0],
 op (.t 6) .mv [.v 1],
 op (.t 7) (.call 106) [.t 5,.t 6,.c (.int .u8 4)],
 op (.v 2) .mv [.t 7]]
def a105s3 : ACode := .reg [] a105r2
def a105s4 : ACode := .seq a105s3 .ret
def a105s5 : ACode := .seq a105s1 a105s4
def a105c : ACode :=
  a105s5
def a105 : AFn := { np := 2,nv := 3,results := [.v 2],code := a105c }
def a105v : List Nat := [0,1,4]
def a105b : List Nat := []

def a106r0 : List AOper := [
 op (.v 3) .mv [.c (.bool false)]]
def a106s1 : ACode := .reg [] a106r0
def a106r2 : List AOper := [
 op (.t 10) .mv [.v 0],
 op (.t 11) .mv [.v 1],
 op (.t 12) (.call 45) [.t 10,.t 11],
 op (.t 9) .mv [.t 12],
 op (.t 13) (.ext 0) [.t 9],
 op (.t 14) (.ext 1) [.t 9],
 ⟨.bx,.alloc [.int .u8 0,.str [],.list true [],.list true []],[],some 4,none⟩,
 ⟨.none,.stLc 4 4,[.l 4,.ts 13],some 4,none⟩,
 op (.v 5) .mv [.t 14]]
def a106s3 : ACode := .reg [4] a106r2
def a106r4 : List AOper := [
 op (.t 15) .mv [.v 5],
 op (.t 16) .mv [.t 15],
 ⟨.t 17,.fad 0,[.l 4],none,some (.t 16,true)⟩,
 ⟨.t 18,.ldLc 4 false 1,[.t 17],some 4,some (.t 16,true)⟩,
 ⟨.t 19,.mv,[.v 2],none,some (.t 16,true)⟩,
 ⟨.t 20,.bin .eql,[.t 18,.t 19],none,some (.t 16,true)⟩,
 op (.t 21) .pick [.t 16,.t 20,.c (.bool false)],
 op (.v 3) .mv [.t 21]]
def a106s5 : ACode := .reg [] a106r4
def a106s6 : ACode := .seq a106s5 .ret
def a106s7 : ACode := .seq a106s3 a106s6
def a106s8 : ACode := .seq a106s1 a106s7
def a106c : ACode :=
  a106s8
def a106 : AFn := { np := 3,nv := 6,results := [.v 3],code := a106c }
def a106v : List Nat := [0,1,2,6,7,8]
def a106b : List Nat := [4]

def a107r0 : List AOper := [
 op (.v 2) .mv [.c (.bool false)]]
def a107s1 : ACode := .reg [] a107r0
def a107r2 : List AOper := [
 op (.t 5) .mv [.v 0],
 op (.t 6) .mv [.v 1],
 op (.t 7) (.call 144) [.t 5,.t 6],
 op (.t 8) (.bin .geq) [.t 7,.c (.int .i64 0)],
 op (.v 2) .mv [.t 8]]
def a107s3 : ACode := .reg [] a107r2
def a107s4 : ACode := .seq a107s3 .ret
def a107s5 : ACode := .seq a107s1 a107s4
def a107c : ACode :=
  a107s5
def a107 : AFn := { np := 2,nv := 3,results := [.v 2],code := a107c }
def a107v : List Nat := [0,1,4]
def a107b : List Nat := []

def a108r0 : List AOper := [
 ⟨.bx,.boxV,[.v 0],some 3,none⟩,
 op (.v 4) .mv [.c (.bool false)]]
def a108s1 : ACode := .reg [3] a108r0
def a108r2 : List AOper := [
 op (.t 5) (.ldSt false 1) [.v 1],
 op (.t 6) (.fad 1) [.v 2],
 op (.t 7) (.ldSt false 1) [.t 6],
 op (.t 8) (.iad 3) [.t 7,.c (.int .i64 0)],
 op (.t 9) (.ldRo true 3) [.t 8],
 ⟨.t 10,.ldLc 3 true 5,[.l 3],some 3,none⟩,
 op (.t 11) (.call 65) [.t 5,.t 9,.t 10],
 op (.t 12) (.un .not) [.t 11],
 op (.v 4) .mv [.t 12]]
def a108s3 : ACode := .reg [] a108r2
def a108s4 : ACode := .seq a108s3 .ret
def a108s5 : ACode := .seq a108s1 a108s4
def a108c : ACode :=
  a108s5
def a108 : AFn := { np := 3,nv := 5,results := [.v 4],code := a108c }
def a108v : List Nat := [0,1,2,3,4]
def a108b : List Nat := [3]

def a109r0 : List AOper := [
 ⟨.bx,.boxV,[.v 1],some 3,none⟩,
 op (.v 4) .boxO [.v 2],
 op (.v 5) .mv [.c (.bool false)]]
def a109s1 : ACode := .reg [3] a109r0
def a109r2 : List AOper := [
 op (.t 10) (.fad 3) [.v 4],
 op (.v 9) (.ldSt false 1) [.t 10],
 op (.v 10) .lenL [.v 9],
 op (.v 11) .mv [.c (.int .i64 0)]]
def a109s3 : ACode := .reg [] a109r2
def a109r4 : List AOper := [
 op (.t 14) (.bin .lss) [.v 11,.v 10]]
def a109s5 : ACode := .test [] a109r4 (.t 14) .skip (.exit 0)
def a109r6 : List AOper := [
 op (.t 15) .mv [.v 11],
 op (.t 16) (.iad 1) [.v 9,.v 11],
 op (.t 17) (.ldRo false 1) [.t 16],
 op (.v 6) .mv [.t 15],
 op (.v 7) .mv [.t 17]]
def a109s7 : ACode := .reg [] a109r6
def a109r8 : List AOper := [
 op (.t 18) (.fad 2) [.l 3],
 ⟨.t 19,.ldLc 3 false 1,[.t 18],some 3,none⟩,
 op (.t 20) (.call 80) [.t 19],
 op (.t 21) .mv [.v 7],
 op (.t 22) (.call 67) [.t 20,.t 21],
 op (.v 8) .mv [.t 22]]
def a109s9 : ACode := .reg [] a109r8
def a109r10 : List AOper := [
 op (.t 23) .mv [.v 8],
 op (.t 24) (.bin .lss) [.t 23,.c (.int .i64 0)],
 op (.t 25) .mv [.t 24],
 ⟨.t 26,.fad 3,[.v 4],none,some (.t 25,false)⟩,
 ⟨.t 27,.ldSt false 1,[.t 26],none,some (.t 25,false)⟩,
 ⟨.t 28,.mv,[.v 6],none,some (.t 25,false)⟩,
 ⟨.t 29,.slL 1 false true,[.t 27,.t 28],none,some (.t 25,false)⟩,
 ⟨.t 30,.mv,[.v 7],none,some (.t 25,false)⟩,
 ⟨.t 31,.call 32,[.t 29,.t 30],none,some (.t 25,false)⟩,
 op (.t 32) .pick [.t 25,.c (.bool true),.t 31],
 op (.t 33) .mv [.t 32],
 ⟨.t 34,.mv,[.v 0],none,some (.t 33,false)⟩,
 ⟨.t 35,.fad 2,[.l 3],none,some (.t 33,false)⟩,
 ⟨.t 36,.ldLc 3 false 1,[.t 35],some 3,some (.t 33,false)⟩,
 ⟨.t 37,.mv,[.v 8],none,some (.t 33,false)⟩,
 ⟨.t 38,.iad 11,[.t 36,.t 37],none,some (.t 33,false)⟩,
 ⟨.t 39,.fad 2,[.t 38],none,some (.t 33,false)⟩,
 ⟨.t 40,.ldRo true 3,[.t 39],none,some (.t 33,false)⟩,
 ⟨.t 41,.fad 4,[.v 4],none,some (.t 33,false)⟩,
 ⟨.t 42,.ldSt false 1,[.t 41],none,some (.t 33,false)⟩,
 ⟨.t 43,.mv,[.v 6],none,some (.t 33,false)⟩,
 ⟨.t 44,.iad 5,[.t 42,.t 43],none,some (.t 33,false)⟩,
 ⟨.t 45,.ldAn true 5,[.t 44],none,some (.t 33,false)⟩,
 ⟨.t 46,.call 65,[.t 34,.t 40,.t 45],none,some (.t 33,false)⟩,
 ⟨.t 47,.un .not,[.t 46],none,some (.t 33,false)⟩,
 op (.t 48) .pick [.t 33,.c (.bool true),.t 47]]
def a109r11 : List AOper := [
 op (.v 5) .mv [.c (.bool false)]]
def a109s12 : ACode := .reg [] a109r11
def a109s13 : ACode := .seq a109s12 .ret
def a109s14 : ACode := .test [] a109r10 (.t 48) a109s13 .skip
def a109s15 : ACode := .seq a109s9 a109s14
def a109s16 : ACode := .seq a109s7 a109s15
def a109s17 : ACode := .blk 1 a109s16
def a109r18 : List AOper := [
 op (.t 49) (.bin .add) [.v 11,.c (.int .i64 1)],
 op (.v 11) .mv [.t 49]]
def a109s19 : ACode := .reg [] a109r18
def a109s20 : ACode := .seq a109s17 a109s19
def a109s21 : ACode := .seq a109s5 a109s20
def a109s22 : ACode := .loop a109s21
def a109s23 : ACode := .blk 0 a109s22
def a109s24 : ACode := .seq a109s3 a109s23
def a109r25 : List AOper := [
 op (.t 50) (.fad 2) [.l 3],
 ⟨.t 51,.ldLc 3 false 1,[.t 50],some 3,none⟩,
 op (.t 52) (.mkF 145 0) [.v 4],
 op (.t 53) (.call 132) [.t 51,.t 52],
 op (.t 54) (.un .not) [.t 53],
 op (.v 5) .mv [.t 54]]
def a109s26 : ACode := .reg [] a109r25
def a109s27 : ACode := .seq a109s26 .ret
def a109s28 : ACode := .seq a109s24 a109s27
def a109s29 : ACode := .seq a109s1 a109s28
def a109c : ACode :=
  a109s29
def a109 : AFn := { np := 3,nv := 12,results := [.v 5],code := a109c }
def a109v : List Nat := [0,1,2,4,5,6,7,8,9,11,12,13]
def a109b : List Nat := [3]

def a110r0 : List AOper := [
 op (.v 5) .mv [.v 2],
 op (.v 6) .lenL [.v 5],
 op (.v 7) .mv [.c (.int .i64 0)]]
def a110s1 : ACode := .reg [] a110r0
def a110r2 : List AOper := [
 op (.t 12) (.bin .lss) [.v 7,.v 6]]
def a110s3 : ACode := .test [] a110r2 (.t 12) .skip (.exit 0)
def a110r4 : List AOper := [
 op (.t 13) (.iad 6) [.v 5,.v 7],
 op (.t 14) (.ldRo true 6) [.t 13],
 op (.v 3) (.allocO [.str [],.int .u8 0,.int .i64 0,.str [],.list true [],.list true []]) [],
 op .none (.stSt 6) [.v 3,.ts 14]]
def a110s5 : ACode := .reg [] a110r4
def a110r6 : List AOper := [
 op (.t 15) .mv [.v 1],
 op (.t 16) (.mkF 147 0) [.v 3],
 op (.t 17) (.call 146) [.t 15,.t 16],
 op (.v 4) .mv [.t 17]]
def a110s7 : ACode := .reg [] a110r6
def a110r8 : List AOper := [
 op (.t 18) .mv [.v 4],
 op (.t 19) (.bin .lss) [.t 18,.c (.int .i64 0)]]
def a110r9 : List AOper := [
 op (.t 20) .mv [.v 0],
 op (.t 21) (.fad 1) [.v 3],
 op (.t 22) (.ldSt true 5) [.t 21],
 op (.t 23) (.call 148) [.t 20,.c (.nilp),.c (.bool false),.t 22]]
def a110s10 : ACode := .reg [] a110r9
def a110r11 : List AOper := [
 op (.t 24) .mv [.v 0],
 op (.t 25) .mv [.v 1],
 op (.t 26) .mv [.v 4],
 op (.t 27) (.iad 11) [.t 25,.t 26],
 op (.t 28) (.fad 2) [.t 27],
 op (.t 29) .mv [.v 1],
 op (.t 30) .mv [.v 4],
 op (.t 31) (.iad 11) [.t 29,.t 30],
 op (.t 32) (.fad 5) [.t 31],
 op (.t 33) (.ldRo false 1) [.t 32],
 op (.t 34) (.fad 1) [.v 3],
 op (.t 35) (.ldSt true 5) [.t 34],
 op (.t 36) (.call 148) [.t 24,.t 28,.t 33,.t 35]]
def a110s12 : ACode := .reg [] a110r11
def a110s13 : ACode := .test [] a110r8 (.t 19) a110s10 a110s12
def a110s14 : ACode := .seq a110s7 a110s13
def a110s15 : ACode := .seq a110s5 a110s14
def a110s16 : ACode := .blk 1 a110s15
def a110r17 : List AOper := [
 op (.t 37) (.bin .add) [.v 7,.c (.int .i64 1)],
 op (.v 7) .mv [.t 37]]
def a110s18 : ACode := .reg [] a110r17
def a110s19 : ACode := .seq a110s16 a110s18
def a110s20 : ACode := .seq a110s3 a110s19
def a110s21 : ACode := .loop a110s20
def a110s22 : ACode := .blk 0 a110s21
def a110s23 : ACode := .seq a110s1 a110s22
def a110c : ACode :=
  a110s23
def a110 : AFn := { np := 3,nv := 8,results := [],code := a110c }
def a110v : List Nat := [0,1,2,7,8,9,10,11]
def a110b : List Nat := []

def a111r0 : List AOper := [
 ⟨.bx,.alloc [.str [],.list true [],.str [],.list true [],.bool false,.bool false,.int .u8 0,.int .i64 0,.str [],.list true [],.list true []],[],some 3,none⟩,
 op (.v 4) .mv [.c (.bool false)]]
def a111s1 : ACode := .reg [3] a111r0
def a111r2 : List AOper := [
 op (.t 12) .mv [.v 0],
 op (.t 13) .mv [.v 1],
 op (.t 14) (.call 45) [.t 12,.t 13],
 op (.t 11) .mv [.t 14],
 op (.t 15) (.ext 0) [.t 11],
 op (.t 16) (.ext 1) [.t 11],
 ⟨.bx,.alloc [.int .u8 0,.str [],.list true [],.list true []],[],some 5,none⟩,
 ⟨.none,.stLc 5 4,[.l 5,.ts 15],some 5,none⟩,
 op (.v 6) .mv [.t 16]]
def a111s3 : ACode := .reg [5] a111r2
def a111r4 : List AOper := [
 op (.t 17) .mv [.v 6],
 op (.t 18) .mv [.t 17],
 ⟨.t 19,.mv,[.v 2],none,some (.t 18,true)⟩,
 ⟨.t 20,.bin .eql,[.t 19,.c (.str [95,95,116,121,112,101,110,97,109,101])],none,some (.t 18,true)⟩,
 op (.t 21) .pick [.t 18,.t 20,.c (.bool false)],
 op (.t 22) .mv [.t 21],
 ⟨.t 23,.mv,[.v 0],none,some (.t 22,true)⟩,
 ⟨.t 24,.mv,[.v 1],none,some (.t 22,true)⟩,
 ⟨.t 25,.call 136,[.t 23,.t 24],none,some (.t 22,true)⟩,
 ⟨.t 26,.mv,[.t 25],none,some (.t 22,true)⟩,
 ⟨.t 27,.mv,[.v 1],none,some (.t 26,false)⟩,
 ⟨.t 28,.call 82,[.t 27],none,some (.t 26,false)⟩,
 ⟨.t 29,.pick,[.t 26,.c (.bool true),.t 28],none,some (.t 22,true)⟩,
 op (.t 30) .pick [.t 22,.t 29,.c (.bool false)]]
def a111r5 : List AOper := [
 op (.t 31) .mv [.v 2],
 op (.t 32) (.build [.str [],.list true [],.bool false] [(0,1),(2,1)]) [.c (.str [83,116,114,105,110,103]),.c (.bool true)],
 op (.t 33) (.build [.str [],.list true [],.str [],.list true [],.bool false,.bool false,.int .u8 0,.int .i64 0,.str [],.list true [],.list true []] [(0,1),(2,3)]) [.t 31,.t 32],
 ⟨.none,.stLc 3 11,[.l 3,.ts 33],some 3,none⟩,
 op (.v 4) .mv [.c (.bool true)]]
def a111s6 : ACode := .reg [] a111r5
def a111s7 : ACode := .seq a111s6 .ret
def a111s8 : ACode := .test [] a111r4 (.t 30) a111s7 .skip
def a111r9 : List AOper := [
 op (.t 34) (.fad 2) [.l 5],
 ⟨.t 35,.ldLc 5 false 1,[.t 34],some 5,none⟩,
 op (.t 36) (.call 80) [.t 35],
 op (.t 37) .mv [.v 2],
 op (.t 38) (.call 67) [.t 36,.t 37],
 op (.v 7) .mv [.t 38]]
def a111s10 : ACode := .reg [] a111r9
def a111r11 : List AOper := [
 op (.t 39) .mv [.v 7],
 op (.t 40) (.bin .geq) [.t 39,.c (.int .i64 0)],
 op (.t 41) .mv [.t 40],
 ⟨.t 42,.fad 0,[.l 5],none,some (.t 41,true)⟩,
 ⟨.t 43,.ldLc 5 false 1,[.t 42],some 5,some (.t 41,true)⟩,
 ⟨.t 44,.bin .neq,[.t 43,.c (.int .u8 5)],none,some (.t 41,true)⟩,
 op (.t 45) .pick [.t 41,.t 44,.c (.bool false)]]
def a111r12 : List AOper := [
 op (.t 46) (.fad 2) [.l 5],
 ⟨.t 47,.ldLc 5 false 1,[.t 46],some 5,none⟩,
 op (.t 48) .mv [.v 7],
 op (.t 49) (.iad 11) [.t 47,.t 48],
 op (.t 50) (.ldRo true 11) [.t 49],
 ⟨.none,.stLc 3 11,[.l 3,.ts 50],some 3,none⟩,
 op (.v 4) .mv [.c (.bool true)]]
def a111s13 : ACode := .reg [] a111r12
def a111s14 : ACode := .seq a111s13 .ret
def a111s15 : ACode := .test [] a111r11 (.t 45) a111s14 .skip
def a111s16 : ACode := .seq a111s10 a111s15
def a111r17 : List AOper := [
 op (.t 51) (.build [.str [],.list true [],.str [],.list true [],.bool false,.bool false,.int .u8 0,.int .i64 0,.str [],.list true [],.list true []] []) [],
 ⟨.none,.stLc 3 11,[.l 3,.ts 51],some 3,none⟩,
 op (.v 4) .mv [.c (.bool false)]]
def a111s18 : ACode := .reg [] a111r17
def a111s19 : ACode := .seq a111s18 .ret
def a111s20 : ACode := .seq a111s16 a111s19
def a111s21 : ACode := .seq a111s8 a111s20
def a111s22 : ACode := .seq a111s3 a111s21
def a111s23 : ACode := .seq a111s1 a111s22
def a111c : ACode :=
  a111s23
def a111 : AFn := { np := 3,nv := 8,results := [.bx 3 true 11,.v 4],code := a111c }
def a111v : List Nat := [0,1,2,6,7,8,9,10]
def a111b : List Nat := [3,5]

def a112r0 : List AOper := [
 op (.v 3) .mv [.c (.list true [])]]
def a112s1 : ACode := .reg [] a112r0
def a112r2 : List AOper := [
 op (.v 4) .mv [.c (.list true [])]]
def a112s3 : ACode := .reg [] a112r2
def a112r4 : List AOper := [
 op (.v 8) .mv [.v 1],
 op (.v 9) .lenL [.v 8],
 op (.v 10) .mv [.c (.int .i64 0)]]
def a112s5 : ACode := .reg [] a112r4
def a112r6 : List AOper := [
 op (.t 15) (.bin .lss) [.v 10,.v 9]]
def a112s7 : ACode := .test [] a112r6 (.t 15) .skip (.exit 0)
def a112r8 : List AOper := [
 op (.t 16) (.iad 7) [.v 8,.v 10],
 op (.t 17) (.ldAn true 7) [.t 16],
 ⟨.bx,.alloc [.int .u8 0,.str [],.str [],.str [],.list true [],.list true [],.list true []],[],some 5,none⟩,
 ⟨.none,.stLc 5 7,[.l 5,.ts 17],some 5,none⟩]
def a112s9 : ACode := .reg [5] a112r8
def a112r10 : List AOper := [
 op (.t 18) (.fad 0) [.l 5],
 ⟨.v 11,.ldLc 5 false 1,[.t 18],some 5,none⟩]
def a112s11 : ACode := .reg [] a112r10
def a112r12 : List AOper := [
 op (.t 28) (.bin .eql) [.v 11,.c (.int .u8 1)],
 op (.t 27) .mv [.t 28]]
def a112r13 : List AOper := [
 op (.t 29) .mv [.vs 4],
 ⟨.t 30,.ldLc 5 true 7,[.l 5],some 5,none⟩,
 op (.t 31) (.bslice 7 [[.int .u8 0,.str [],.str [],.str [],.list true [],.list true [],.list true []]] [0]) [.t 30],
 op (.t 32) (.app 7 128) [.ts 29,.t 31],
 op (.v 4) .mv [.ts 32]]
def a112s14 : ACode := .reg [] a112r13
def a112r15 : List AOper := [
 op (.t 34) (.bin .eql) [.v 11,.c (.int .u8 2)],
 op (.t 33) .mv [.t 34]]
def a112r16 : List AOper := [
 op (.t 36) .mv [.v 0],
 op (.t 37) (.fad 2) [.l 5],
 ⟨.t 38,.ldLc 5 false 1,[.t 37],some 5,none⟩,
 op (.t 39) (.call 58) [.t 36,.t 38],
 op (.t 35) .mv [.t 39],
 op (.t 40) (.ext 0) [.t 35],
 op (.t 41) (.ext 1) [.t 35],
 ⟨.bx,.alloc [.str [],.str [],.list true []],[],some 6,none⟩,
 ⟨.none,.stLc 6 3,[.l 6,.ts 40],some 6,none⟩,
 op (.v 7) .mv [.t 41]]
def a112s17 : ACode := .reg [6] a112r16
def a112r18 : List AOper := [
 op (.t 42) .mv [.v 7],
 op (.t 43) .mv [.t 42],
 ⟨.t 44,.mv,[.v 2],none,some (.t 43,true)⟩,
 ⟨.t 45,.nilchk,[.t 44],none,some (.t 43,true)⟩,
 ⟨.t 46,.ldSt false 1,[.t 45],none,some (.t 43,true)⟩,
 ⟨.t 47,.fad 2,[.l 5],none,some (.t 43,true)⟩,
 ⟨.t 48,.ldLc 5 false 1,[.t 47],some 5,some (.t 43,true)⟩,
 ⟨.t 49,.call 32,[.t 46,.t 48],none,some (.t 43,true)⟩,
 ⟨.t 50,.un .not,[.t 49],none,some (.t 43,true)⟩,
 op (.t 51) .pick [.t 43,.t 50,.c (.bool false)]]
def a112r19 : List AOper := [
 op (.t 52) .mv [.v 2],
 op (.t 53) .mv [.v 2],
 op (.t 54) .nilchk [.t 53],
 op (.t 55) .ldStS [.t 54],
 op (.t 56) (.fad 2) [.l 5],
 ⟨.t 57,.ldLc 5 false 1,[.t 56],some 5,none⟩,
 op (.t 58) (.bslice 1 [[.str []]] [0]) [.t 57],
 op (.t 59) (.app 1 16) [.ts 55,.t 58],
 op (.t 60) .nilchk [.t 52],
 op .none (.stSt 1) [.t 60,.ts 59]]
def a112s20 : ACode := .reg [] a112r19
def a112r21 : List AOper := [
 op (.t 61) .mv [.vs 4],
 op (.t 62) .mv [.v 0],
 op (.t 63) (.fad 2) [.l 6],
 ⟨.t 64,.ldLc 6 false 1,[.t 63],some 6,none⟩,
 op (.t 65) .mv [.v 2],
 op (.t 66) (.call 112) [.t 62,.t 64,.t 65],
 op (.t 67) (.app 7 128) [.ts 61,.t 66],
 op (.v 4) .mv [.ts 67]]
def a112s22 : ACode := .reg [] a112r21
def a112s23 : ACode := .seq a112s20 a112s22
def a112s24 : ACode := .test [] a112r18 (.t 51) a112s23 .skip
def a112s25 : ACode := .seq a112s17 a112s24
def a112r26 : List AOper := [
 op (.t 20) .mv [.vs 4],
 op (.t 21) .mv [.v 0],
 op (.t 22) (.fad 6) [.l 5],
 ⟨.t 23,.ldLc 5 false 1,[.t 22],some 5,none⟩,
 op (.t 24) .mv [.v 2],
 op (.t 25) (.call 112) [.t 21,.t 23,.t 24],
 op (.t 26) (.app 7 128) [.ts 20,.t 25],
 op (.v 4) .mv [.ts 26]]
def a112s27 : ACode := .reg [] a112r26
def a112s28 : ACode := .test [] a112r15 (.t 33) a112s25 a112s27
def a112s29 : ACode := .test [] a112r12 (.t 27) a112s14 a112s28
def a112s30 : ACode := .blk 2 a112s29
def a112s31 : ACode := .seq a112s11 a112s30
def a112s32 : ACode := .seq a112s9 a112s31
def a112s33 : ACode := .blk 1 a112s32
def a112r34 : List AOper := [
 op (.t 68) (.bin .add) [.v 10,.c (.int .i64 1)],
 op (.v 10) .mv [.t 68]]
def a112s35 : ACode := .reg [] a112r34
def a112s36 : ACode := .seq a112s33 a112s35
def a112s37 : ACode := .seq a112s7 a112s36
def a112s38 : ACode := .loop a112s37
def a112s39 : ACode := .blk 0 a112s38
def a112s40 : ACode := .seq a112s5 a112s39
def a112r41 : List AOper := [
 op (.t 69) .mv [.v 4],
 op (.v 3) .mv [.ts 69]]
def a112s42 : ACode := .reg [] a112r41
def a112s43 : ACode := .seq a112s42 .ret
def a112s44 : ACode := .seq a112s40 a112s43
def a112s45 : ACode := .seq a112s3 a112s44
def a112s46 : ACode := .seq a112s1 a112s45
def a112c : ACode :=
  a112s46
def a112 : AFn := { np := 3,nv := 12,results := [.v 3],code := a112c }
def a112v : List Nat := [0,1,2,6,7,9,10,11,12,13,14,19]
def a112b : List Nat := [5,6]

def a113r0 : List AOper := [
 op (.v 2) .mv [.c (.int .i64 0)]]
def a113s1 : ACode := .reg [] a113r0
def a113r2 : List AOper := [
 op (.t 6) .mv [.v 0],
 op (.v 4) .lenL [.t 6],
 op (.v 5) .mv [.c (.int .i64 0)]]
def a113s3 : ACode := .reg [] a113r2
def a113r4 : List AOper := [
 op (.t 9) (.bin .lss) [.v 5,.v 4]]
def a113s5 : ACode := .test [] a113r4 (.t 9) .skip (.exit 0)
def a113r6 : List AOper := [
 op (.t 10) .mv [.v 5],
 op (.v 3) .mv [.t 10]]
def a113s7 : ACode := .reg [] a113r6
def a113r8 : List AOper := [
 op (.t 11) .mv [.v 1],
 op (.t 12) .mv [.v 0],
 op (.t 13) .mv [.v 3],
 op (.t 14) (.iad 7) [.t 12,.t 13],
 op (.t 15) (.ldAn true 7) [.t 14],
 op (.t 16) .callV [.t 11,.t 15]]
def a113r9 : List AOper := [
 op (.t 17) .mv [.v 3],
 op (.v 2) .mv [.t 17]]
def a113s10 : ACode := .reg [] a113r9
def a113s11 : ACode := .seq a113s10 .ret
def a113s12 : ACode := .test [] a113r8 (.t 16) a113s11 .skip
def a113s13 : ACode := .seq a113s7 a113s12
def a113s14 : ACode := .blk 1 a113s13
def a113r15 : List AOper := [
 op (.t 18) (.bin .add) [.v 5,.c (.int .i64 1)],
 op (.v 5) .mv [.t 18]]
def a113s16 : ACode := .reg [] a113r15
def a113s17 : ACode := .seq a113s14 a113s16
def a113s18 : ACode := .seq a113s5 a113s17
def a113s19 : ACode := .loop a113s18
def a113s20 : ACode := .blk 0 a113s19
def a113s21 : ACode := .seq a113s3 a113s20
def a113r22 : List AOper := [
 op (.v 2) .mv [.c (.int .i64 (-1))]]
def a113s23 : ACode := .reg [] a113r22
def a113s24 : ACode := .seq a113s23 .ret
def a113s25 : ACode := .seq a113s21 a113s24
def a113s26 : ACode := .seq a113s1 a113s25
def a113c : ACode :=
  a113s26
def a113 : AFn := { np := 2,nv := 6,results := [.v 2],code := a113c }
def a113v : List Nat := [0,1,4,5,7,8]
def a113b : List Nat := []

def a114r0 : List AOper := [
 ⟨.bx,.boxV,[.v 0],some 2,none⟩,
 op (.v 3) .mv [.c (.bool false)]]
def a114s1 : ACode := .reg [2] a114r0
def a114r2 : List AOper := [
 ⟨.t 4,.ldLc 2 true 7,[.l 2],some 2,none⟩,
 op (.t 6) (.ldStR true 7) [.v 1,.v 1],
 op (.t 5) (.callA 9 1) [.t 4,.v 1],
 op (.t 7) (.call 9) [.t 6],
 op (.t 8) (.bin .eql) [.t 5,.t 7],
 op (.v 3) .mv [.t 8]]
def a114s3 : ACode := .reg [1000000,1000002,1000001,1000003,1000004,1000005] a114r2
def a114s4 : ACode := .seq a114s3 .ret
def a114s5 : ACode := .seq a114s1 a114s4
def a114c : ACode :=
  a114s5
def a114 : AFn := { np := 2,nv := 4,results := [.v 3],code := a114c }
def a114v : List Nat := [0,1,2,3]
def a114b : List Nat := [2]

def a115r0 : List AOper := [
 ⟨.bx,.boxV,[.v 0],some 2,none⟩,
 ⟨.bx,.boxV,[.v 1],some 3,none⟩,
 op (.v 4) .mv [.c (.bool false)]]
def a115s1 : ACode := .reg [2,3] a115r0
def a115r2 : List AOper := [
 op (.t 5) (.fad 2) [.l 2],
 ⟨.t 6,.ldLc 2 false 1,[.t 5],some 2,none⟩,
 op (.t 7) (.fad 2) [.l 3],
 ⟨.t 8,.ldLc 3 false 1,[.t 7],some 3,none⟩,
 op (.t 9) (.bin .eql) [.t 6,.t 8],
 op (.t 10) .mv [.t 9],
 ⟨.t 11,.fad 4,[.l 2],none,some (.t 10,true)⟩,
 ⟨.t 12,.ldLc 2 false 1,[.t 11],some 2,some (.t 10,true)⟩,
 ⟨.t 13,.fad 4,[.l 3],none,some (.t 10,true)⟩,
 ⟨.t 14,.ldLc 3 false 1,[.t 13],some 3,some (.t 10,true)⟩,
 ⟨.t 15,.call 149,[.t 12,.t 14],none,some (.t 10,true)⟩,
 op (.t 16) .pick [.t 10,.t 15,.c (.bool false)],
 op (.t 17) .mv [.t 16],
 ⟨.t 18,.fad 6,[.l 2],none,some (.t 17,true)⟩,
 ⟨.t 19,.ldLc 2 false 1,[.t 18],some 2,some (.t 17,true)⟩,
 ⟨.t 20,.fad 6,[.l 3],none,some (.t 17,true)⟩,
 ⟨.t 21,.ldLc 3 false 1,[.t 20],some 3,some (.t 17,true)⟩,
 ⟨.t 22,.call 150,[.t 19,.t 21,.c (.func 151 [] [])],none,some (.t 17,true)⟩,
 op (.t 23) .pick [.t 17,.t 22,.c (.bool false)],
 op (.v 4) .mv [.t 23]]
def a115s3 : ACode := .reg [] a115r2
def a115s4 : ACode := .seq a115s3 .ret
def a115s5 : ACode := .seq a115s1 a115s4
def a115c : ACode :=
  a115s5
def a115 : AFn := { np := 2,nv := 5,results := [.v 4],code := a115c }
def a115v : List Nat := [0,1,2,3,4]
def a115b : List Nat := [2,3]

def a116r0 : List AOper := [
 op (.v 2) .mv [.c (.list true [])]]
def a116s1 : ACode := .reg [] a116r0
def a116r2 : List AOper := [
 op (.v 3) .mv [.c (.list true [])]]
def a116s3 : ACode := .reg [] a116r2
def a116r4 : List AOper := [
 op (.v 5) .mv [.v 0],
 op (.v 6) .lenL [.v 5],
 op (.v 7) .mv [.c (.int .i64 0)]]
def a116s5 : ACode := .reg [] a116r4
def a116r6 : List AOper := [
 op (.t 11) (.bin .lss) [.v 7,.v 6]]
def a116s7 : ACode := .test [] a116r6 (.t 11) .skip (.exit 0)
def a116r8 : List AOper := [
 op (.t 12) (.iad 2) [.v 5,.v 7],
 op (.t 13) (.ldRo true 2) [.t 12],
 ⟨.bx,.alloc [.str [],.list true []],[],some 4,none⟩,
 ⟨.none,.stLc 4 2,[.l 4,.ts 13],some 4,none⟩]
def a116s9 : ACode := .reg [4] a116r8
def a116r10 : List AOper := [
 op (.t 14) .mv [.vs 3],
 op (.t 15) .mv [.v 1],
 ⟨.t 16,.ldLc 4 true 2,[.l 4],some 4,none⟩,
 op (.t 17) .callV [.t 15,.t 16],
 op (.t 18) (.bslice 1 [[.str []]] [0]) [.t 17],
 op (.t 19) (.app 1 16) [.ts 14,.t 18],
 op (.v 3) .mv [.ts 19]]
def a116s11 : ACode := .reg [] a116r10
def a116s12 : ACode := .seq a116s9 a116s11
def a116s13 : ACode := .blk 1 a116s12
def a116r14 : List AOper := [
 op (.t 20) (.bin .add) [.v 7,.c (.int .i64 1)],
 op (.v 7) .mv [.t 20]]
def a116s15 : ACode := .reg [] a116r14
def a116s16 : ACode := .seq a116s13 a116s15
def a116s17 : ACode := .seq a116s7 a116s16
def a116s18 : ACode := .loop a116s17
def a116s19 : ACode := .blk 0 a116s18
def a116s20 : ACode := .seq a116s5 a116s19
def a116r21 : List AOper := [
 op (.t 21) .mv [.v 3],
 op (.v 2) .mv [.ts 21]]
def a116s22 : ACode := .reg [] a116r21
def a116s23 : ACode := .seq a116s22 .ret
def a116s24 : ACode := .seq a116s20 a116s23
def a116s25 : ACode := .seq a116s3 a116s24
def a116s26 : ACode := .seq a116s1 a116s25
def a116c : ACode :=
  a116s26
def a116 : AFn := { np := 2,nv := 8,results := [.v 2],code := a116c }
def a116v : List Nat := [0,1,4,5,7,8,9,10]
def a116b : List Nat := [4]

def a117r0 : List AOper := [
 ⟨.bx,.boxV,[.v 0],some 1,none⟩,
 op (.v 2) .mv [.c (.str [])]]
def a117s1 : ACode := .reg [1] a117r0
def a117r2 : List AOper := [
 op (.t 3) (.fad 0) [.l 1],
 ⟨.t 4,.ldLc 1 false 1,[.t 3],some 1,none⟩,
 op (.v 2) .mv [.t 4]]
def a117s3 : ACode := .reg [] a117r2
def a117s4 : ACode := .seq a117s3 .ret
def a117s5 : ACode := .seq a117s1 a117s4
def a117c : ACode :=
  a117s5
def a117 : AFn := { np := 1,nv := 3,results := [.v 2],code := a117c }
def a117v : List Nat := [0,1,2]
def a117b : List Nat := [1]

def a118r0 : List AOper := [
 op (.t 12) .mv [.v 2],
 op (.t 13) (.call 152) [.t 12,.c (.func 153 [] [])],
 op (.v 3) .mv [.ts 13]]
def a118s1 : ACode := .reg [] a118r0
def a118r2 : List AOper := [
 op (.t 14) .mv [.v 0],
 op (.t 15) .mv [.v 3],
 op (.t 16) (.call 27) [.t 14,.c (.int .i64 11),.t 15]]
def a118s3 : ACode := .reg [] a118r2
def a118r4 : List AOper := [
 op (.v 7) .mv [.v 2],
 op (.v 8) .lenL [.v 7],
 op (.v 9) .mv [.c (.int .i64 0)]]
def a118s5 : ACode := .reg [] a118r4
def a118r6 : List AOper := [
 op (.t 20) (.bin .lss) [.v 9,.v 8]]
def a118s7 : ACode := .test [] a118r6 (.t 20) .skip (.exit 0)
def a118r8 : List AOper := [
 op (.t 21) (.iad 6) [.v 7,.v 9],
 op (.t 22) (.ldRo true 6) [.t 21],
 op (.v 4) (.allocO [.str [],.int .u8 0,.int .i64 0,.str [],.list true [],.list true []]) [],
 op .none (.stSt 6) [.v 4,.ts 22]]
def a118s9 : ACode := .reg [] a118r8
def a118r10 : List AOper := [
 op (.t 23) .mv [.v 1],
 op (.t 24) (.mkF 154 0) [.v 4],
 op (.t 25) (.call 146) [.t 23,.t 24],
 op (.v 5) .mv [.t 25]]
def a118s11 : ACode := .reg [] a118r10
def a118r12 : List AOper := [
 op (.t 26) .mv [.v 5],
 op (.t 27) (.bin .lss) [.t 26,.c (.int .i64 0)]]
def a118r13 : List AOper := [
 op (.t 28) .mv [.v 0],
 op (.t 29) (.fad 0) [.v 4],
 op (.t 30) (.ldSt false 1) [.t 29],
 op (.t 31) (.call 26) [.t 28,.c (.int .i64 10),.t 30]]
def a118s14 : ACode := .reg [] a118r13
def a118r15 : List AOper := [
 op (.t 32) .mv [.v 0],
 op (.t 33) .mv [.v 1],
 op (.t 34) .mv [.v 5],
 op (.t 35) (.iad 11) [.t 33,.t 34],
 op (.t 36) (.fad 2) [.t 35],
 op (.t 37) (.ldRo true 3) [.t 36],
 op (.t 38) (.fad 1) [.v 4],
 op (.t 39) (.ldSt true 5) [.t 38],
 op (.t 40) (.call 155) [.t 32,.t 37,.t 39],
 op (.t 41) (.un .not) [.t 40]]
def a118r16 : List AOper := [
 op (.t 42) .mv [.v 0],
 op (.t 43) (.fad 0) [.v 4],
 op (.t 44) (.ldSt false 1) [.t 43],
 op (.t 45) (.call 26) [.t 42,.c (.int .i64 13),.t 44]]
def a118s17 : ACode := .reg [] a118r16
def a118s18 : ACode := .test [] a118r15 (.t 41) a118s17 .skip
def a118s19 : ACode := .test [] a118r12 (.t 27) a118s14 a118s18
def a118s20 : ACode := .seq a118s11 a118s19
def a118s21 : ACode := .seq a118s9 a118s20
def a118s22 : ACode := .blk 1 a118s21
def a118r23 : List AOper := [
 op (.t 46) (.bin .add) [.v 9,.c (.int .i64 1)],
 op (.v 9) .mv [.t 46]]
def a118s24 : ACode := .reg [] a118r23
def a118s25 : ACode := .seq a118s22 a118s24
def a118s26 : ACode := .seq a118s7 a118s25
def a118s27 : ACode := .loop a118s26
def a118s28 : ACode := .blk 0 a118s27
def a118s29 : ACode := .seq a118s5 a118s28
def a118r30 : List AOper := [
 op (.v 10) .mv [.v 1],
 op (.v 11) .lenL [.v 10],
 op (.v 12) .mv [.c (.int .i64 0)]]
def a118s31 : ACode := .reg [] a118r30
def a118r32 : List AOper := [
 op (.t 50) (.bin .lss) [.v 12,.v 11]]
def a118s33 : ACode := .test [] a118r32 (.t 50) .skip (.exit 2)
def a118r34 : List AOper := [
 op (.t 51) (.iad 11) [.v 10,.v 12],
 op (.t 52) (.ldRo true 11) [.t 51],
 ⟨.bx,.alloc [.str [],.list true [],.str [],.list true [],.bool false,.bool false,.int .u8 0,.int .i64 0,.str [],.list true [],.list true []],[],some 6,none⟩,
 ⟨.none,.stLc 6 11,[.l 6,.ts 52],some 6,none⟩]
def a118s35 : ACode := .reg [6] a118r34
def a118r36 : List AOper := [
 op (.t 53) (.fad 2) [.l 6],
 op (.t 54) (.fad 2) [.t 53],
 ⟨.t 55,.ldLc 6 false 1,[.t 54],some 6,none⟩,
 op (.t 56) .mv [.t 55],
 ⟨.t 57,.fad 5,[.l 6],none,some (.t 56,true)⟩,
 ⟨.t 58,.ldLc 6 false 1,[.t 57],some 6,some (.t 56,true)⟩,
 ⟨.t 59,.un .not,[.t 58],none,some (.t 56,true)⟩,
 op (.t 60) .pick [.t 56,.t 59,.c (.bool false)],
 op (.t 61) .mv [.t 60],
 ⟨.t 62,.mv,[.v 3],none,some (.t 61,true)⟩,
 ⟨.t 63,.fad 0,[.l 6],none,some (.t 61,true)⟩,
 ⟨.t 64,.ldLc 6 false 1,[.t 63],some 6,some (.t 61,true)⟩,
 ⟨.t 65,.call 32,[.t 62,.t 64],none,some (.t 61,true)⟩,
 ⟨.t 66,.un .not,[.t 65],none,some (.t 61,true)⟩,
 op (.t 67) .pick [.t 61,.t 66,.c (.bool false)]]
def a118r37 : List AOper := [
 op (.t 68) .mv [.v 0],
 op (.t 69) (.fad 0) [.l 6],
 ⟨.t 70,.ldLc 6 false 1,[.t 69],some 6,none⟩,
 op (.t 71) (.call 26) [.t 68,.c (.int .i64 12),.t 70]]
def a118s38 : ACode := .reg [] a118r37
def a118s39 : ACode := .test [] a118r36 (.t 67) a118s38 .skip
def a118s40 : ACode := .seq a118s35 a118s39
def a118s41 : ACode := .blk 3 a118s40
def a118r42 : List AOper := [
 op (.t 72) (.bin .add) [.v 12,.c (.int .i64 1)],
 op (.v 12) .mv [.t 72]]
def a118s43 : ACode := .reg [] a118r42
def a118s44 : ACode := .seq a118s41 a118s43
def a118s45 : ACode := .seq a118s33 a118s44
def a118s46 : ACode := .loop a118s45
def a118s47 : ACode := .blk 2 a118s46
def a118s48 : ACode := .seq a118s31 a118s47
def a118s49 : ACode := .seq a118s29 a118s48
def a118s50 : ACode := .seq a118s3 a118s49
def a118s51 : ACode := .seq a118s1 a118s50
def a118c : ACode :=
  a118s51
def a118 : AFn := { np := 3,nv := 13,results := [],code := a118c }
def a118v : List Nat := [0,1,2,6,8,9,11,17,18,19,47,48,49]
def a118b : List Nat := [6]

def a119r0 : List AOper := [
 op (.v 2) .mv [.c (.list true [])]]
def a119s1 : ACode := .reg [] a119r0
def a119r2 : List AOper := [
 op (.t 8) .mv [.v 0],
 op (.t 9) .nilchk [.t 8],
 op (.t 10) (.fad 0) [.t 9],
 op (.t 11) (.ldSt false 1) [.t 10],
 op (.t 12) .mv [.v 1],
 op (.t 13) (.call 45) [.t 11,.t 12],
 op (.t 7) .mv [.t 13],
 op (.t 14) (.ext 0) [.t 7],
 op (.t 15) (.ext 1) [.t 7],
 ⟨.bx,.alloc [.int .u8 0,.str [],.list true [],.list true []],[],some 3,none⟩,
 ⟨.none,.stLc 3 4,[.l 3,.ts 14],some 3,none⟩,
 op (.v 4) .mv [.t 15]]
def a119s3 : ACode := .reg [3] a119r2
def a119r4 : List AOper := [
 op (.t 16) .mv [.v 4],
 op (.t 17) .mv [.t 16],
 ⟨.t 18,.fad 0,[.l 3],none,some (.t 17,true)⟩,
 ⟨.t 19,.ldLc 3 false 1,[.t 18],some 3,some (.t 17,true)⟩,
 ⟨.t 20,.bin .eql,[.t 19,.c (.int .u8 1)],none,some (.t 17,true)⟩,
 op (.t 21) .pick [.t 17,.t 20,.c (.bool false)]]
def a119r5 : List AOper := [
 op (.t 22) .mv [.v 1],
 op (.t 23) (.bslice 1 [[.str []]] [0]) [.t 22],
 op (.v 2) .mv [.ts 23]]
def a119s6 : ACode := .reg [] a119r5
def a119s7 : ACode := .seq a119s6 .ret
def a119s8 : ACode := .test [] a119r4 (.t 21) a119s7 .skip
def a119s9 : ACode := .seq a119s3 a119s8
def a119r10 : List AOper := [
 op (.t 24) .mv [.v 0],
 op (.t 25) .nilchk [.t 24],
 op (.t 26) (.fad 0) [.t 25],
 op (.t 27) (.ldSt false 1) [.t 26],
 op (.t 28) .mv [.v 1],
 op (.t 29) (.call 156) [.t 27,.t 28],
 op (.v 2) .mv [.ts 29]]
def a119s11 : ACode := .reg [] a119r10
def a119s12 : ACode := .seq a119s11 .ret
def a119s13 : ACode := .seq a119s9 a119s12
def a119s14 : ACode := .seq a119s1 a119s13
def a119c : ACode :=
  a119s14
def a119 : AFn := { np := 2,nv := 5,results := [.v 2],code := a119c }
def a119v : List Nat := [0,1,4,5,6]
def a119b : List Nat := [3]

def a120r0 : List AOper := [
 op (.v 2) .mv [.c (.bool false)]]
def a120s1 : ACode := .reg [] a120r0
def a120r2 : List AOper := [
 op (.t 5) .mv [.v 0],
 op (.t 6) .mv [.v 1],
 op (.t 7) (.call 157) [.t 5,.t 6],
 op (.t 8) (.bin .geq) [.t 7,.c (.int .i64 0)],
 op (.v 2) .mv [.t 8]]
def a120s3 : ACode := .reg [] a120r2
def a120s4 : ACode := .seq a120s3 .ret
def a120s5 : ACode := .seq a120s1 a120s4
def a120c : ACode :=
  a120s5
def a120 : AFn := { np := 2,nv := 3,results := [.v 2],code := a120c }
def a120v : List Nat := [0,1,4]
def a120b : List Nat := []

def a121r0 : List AOper := [
 op (.v 2) .mv [.c (.bool false)]]
def a121s1 : ACode := .reg [] a121r0
def a121r2 : List AOper := [
 op (.t 4) (.ldSt false 1) [.v 1],
 op (.t 5) .mv [.v 0],
 op (.t 6) (.call 32) [.t 4,.t 5],
 op (.v 2) .mv [.t 6]]
def a121s3 : ACode := .reg [] a121r2
def a121s4 : ACode := .seq a121s3 .ret
def a121s5 : ACode := .seq a121s1 a121s4
def a121c : ACode :=
  a121s5
def a121 : AFn := { np := 2,nv := 3,results := [.v 2],code := a121c }
def a121v : List Nat := [0,1,3]
def a121b : List Nat := []

def a122r0 : List AOper := [
 op (.t 10) .mv [.v 1],
 op (.t 11) (.bin .add) [.t 10,.c (.int .i64 1)],
 op (.v 4) .mv [.t 11]]
def a122s1 : ACode := .reg [] a122r0
def a122r2 : List AOper := [
 op (.t 12) .mv [.v 4],
 op (.t 13) .mv [.v 2],
 op (.t 14) (.bin .lss) [.t 12,.t 13]]
def a122s3 : ACode := .test [] a122r2 (.t 14) .skip (.exit 0)
def a122r4 : List AOper := [
 op (.t 17) .mv [.v 4],
 op (.v 5) .mv [.t 17]]
def a122s5 : ACode := .reg [] a122r4
def a122r6 : List AOper := [
 op (.t 18) .mv [.v 5],
 op (.t 19) .mv [.v 1],
 op (.t 20) (.bin .gtr) [.t 18,.t 19],
 op (.t 21) .mv [.t 20],
 ⟨.t 22,.mv,[.v 3],none,some (.t 21,true)⟩,
 ⟨.t 23,.mv,[.v 0],none,some (.t 21,true)⟩,
 ⟨.t 24,.mv,[.v 5],none,some (.t 21,true)⟩,
 ⟨.t 25,.iad 2,[.t 23,.t 24],none,some (.t 21,true)⟩,
 ⟨.t 26,.ldAn true 2,[.t 25],none,some (.t 21,true)⟩,
 ⟨.t 27,.mv,[.v 0],none,some (.t 21,true)⟩,
 ⟨.t 28,.mv,[.v 5],none,some (.t 21,true)⟩,
 ⟨.t 29,.bin .sub,[.t 28,.c (.int .i64 1)],none,some (.t 21,true)⟩,
 ⟨.t 30,.iad 2,[.t 27,.t 29],none,some (.t 21,true)⟩,
 ⟨.t 31,.ldAn true 2,[.t 30],none,some (.t 21,true)⟩,
 ⟨.t 32,.callV,[.t 22,.t 26,.t 31],none,some (.t 21,true)⟩,
 ⟨.t 33,.bin .lss,[.t 32,.c (.int .i64 0)],none,some (.t 21,true)⟩,
 op (.t 34) .pick [.t 21,.t 33,.c (.bool false)]]
def a122s7 : ACode := .test [] a122r6 (.t 34) .skip (.exit 2)
def a122r8 : List AOper := [
 op (.t 37) .mv [.v 0],
 op (.t 38) .mv [.v 5],
 op (.t 39) .mv [.v 0],
 op (.t 40) .mv [.v 5],
 op (.t 41) (.bin .sub) [.t 40,.c (.int .i64 1)],
 op (.t 42) .mv [.v 0],
 op (.t 43) .mv [.v 5],
 op (.t 44) (.bin .sub) [.t 43,.c (.int .i64 1)],
 op (.t 45) (.iad 2) [.t 42,.t 44],
 op (.t 46) (.ldAn true 2) [.t 45],
 op (.t 47) .mv [.v 0],
 op (.t 48) .mv [.v 5],
 op (.t 49) (.iad 2) [.t 47,.t 48],
 op (.t 50) (.ldAn true 2) [.t 49],
 op (.t 51) (.iad 2) [.t 37,.t 38],
 op .none (.stSt 2) [.t 51,.t 46],
 op (.t 52) (.iad 2) [.t 39,.t 41],
 op .none (.stSt 2) [.t 52,.t 50]]
def a122s9 : ACode := .reg [] a122r8
def a122s10 : ACode := .blk 3 a122s9
def a122r11 : List AOper := [
 op (.t 35) .mv [.v 5],
 op (.t 36) (.bin .sub) [.t 35,.c (.int .i64 1)],
 op (.v 5) .mv [.t 36]]
def a122s12 : ACode := .reg [] a122r11
def a122s13 : ACode := .seq a122s10 a122s12
def a122s14 : ACode := .seq a122s7 a122s13
def a122s15 : ACode := .loop a122s14
def a122s16 : ACode := .blk 2 a122s15
def a122s17 : ACode := .seq a122s5 a122s16
def a122s18 : ACode := .blk 1 a122s17
def a122r19 : List AOper := [
 op (.t 15) .mv [.v 4],
 op (.t 16) (.bin .add) [.t 15,.c (.int .i64 1)],
 op (.v 4) .mv [.t 16]]
def a122s20 : ACode := .reg [] a122r19
def a122s21 : ACode := .seq a122s18 a122s20
def a122s22 : ACode := .seq a122s3 a122s21
def a122s23 : ACode := .loop a122s22
def a122s24 : ACode := .blk 0 a122s23
def a122s25 : ACode := .seq a122s1 a122s24
def a122c : ACode :=
  a122s25
def a122 : AFn := { np := 4,nv := 6,results := [],code := a122c }
def a122v : List Nat := [0,1,2,3,8,9]
def a122b : List Nat := []

def a123r0 : List AOper := [
 op (.t 13) .mv [.v 1],
 op (.v 4) .mv [.t 13]]
def a123s1 : ACode := .reg [] a123r0
def a123r2 : List AOper := [
 op (.v 5) .mv [.c (.int .i64 0)]]
def a123s3 : ACode := .reg [] a123r2
def a123r4 : List AOper := [
 op (.t 14) .mv [.v 2],
 op (.t 15) .mv [.v 1],
 op (.t 16) (.bin .sub) [.t 14,.t 15],
 op (.v 6) .mv [.t 16]]
def a123s5 : ACode := .reg [] a123r4
def a123r6 : List AOper := [
 op (.t 17) .mv [.v 6],
 op (.t 18) (.bin .sub) [.t 17,.c (.int .i64 1)],
 op (.t 19) (.bin .quo) [.t 18,.c (.int .i64 2)],
 op (.v 7) .mv [.t 19]]
def a123s7 : ACode := .reg [] a123r6
def a123r8 : List AOper := [
 op (.t 20) .mv [.v 7],
 op (.t 21) (.bin .geq) [.t 20,.c (.int .i64 0)]]
def a123s9 : ACode := .test [] a123r8 (.t 21) .skip (.exit 0)
def a123r10 : List AOper := [
 op (.t 24) .mv [.v 0],
 op (.t 25) .mv [.v 7],
 op (.t 26) .mv [.v 6],
 op (.t 27) .mv [.v 4],
 op (.t 28) .mv [.v 3],
 op (.t 29) (.call 158) [.t 24,.t 25,.t 26,.t 27,.t 28]]
def a123s11 : ACode := .reg [] a123r10
def a123s12 : ACode := .blk 1 a123s11
def a123r13 : List AOper := [
 op (.t 22) .mv [.v 7],
 op (.t 23) (.bin .sub) [.t 22,.c (.int .i64 1)],
 op (.v 7) .mv [.t 23]]
def a123s14 : ACode := .reg [] a123r13
def a123s15 : ACode := .seq a123s12 a123s14
def a123s16 : ACode := .seq a123s9 a123s15
def a123s17 : ACode := .loop a123s16
def a123s18 : ACode := .blk 0 a123s17
def a123s19 : ACode := .seq a123s7 a123s18
def a123r20 : List AOper := [
 op (.t 30) .mv [.v 6],
 op (.t 31) (.bin .sub) [.t 30,.c (.int .i64 1)],
 op (.v 8) .mv [.t 31]]
def a123s21 : ACode := .reg [] a123r20
def a123r22 : List AOper := [
 op (.t 32) .mv [.v 8],
 op (.t 33) (.bin .geq) [.t 32,.c (.int .i64 0)]]
def a123s23 : ACode := .test [] a123r22 (.t 33) .skip (.exit 2)
def a123r24 : List AOper := [
 op (.t 36) .mv [.v 0],
 op (.t 37) .mv [.v 4],
 op (.t 38) .mv [.v 0],
 op (.t 39) .mv [.v 4],
 op (.t 40) .mv [.v 8],
 op (.t 41) (.bin .add) [.t 39,.t 40],
 op (.t 42) .mv [.v 0],
 op (.t 43) .mv [.v 4],
 op (.t 44) .mv [.v 8],
 op (.t 45) (.bin .add) [.t 43,.t 44],
 op (.t 46) (.iad 2) [.t 42,.t 45],
 op (.t 47) (.ldAn true 2) [.t 46],
 op (.t 48) .mv [.v 0],
 op (.t 49) .mv [.v 4],
 op (.t 50) (.iad 2) [.t 48,.t 49],
 op (.t 51) (.ldAn true 2) [.t 50],
 op (.t 52) (.iad 2) [.t 36,.t 37],
 op .none (.stSt 2) [.t 52,.t 47],
 op (.t 53) (.iad 2) [.t 38,.t 41],
 op .none (.stSt 2) [.t 53,.t 51]]
def a123s25 : ACode := .reg [] a123r24
def a123r26 : List AOper := [
 op (.t 54) .mv [.v 0],
 op (.t 55) .mv [.v 5],
 op (.t 56) .mv [.v 8],
 op (.t 57) .mv [.v 4],
 op (.t 58) .mv [.v 3],
 op (.t 59) (.call 158) [.t 54,.t 55,.t 56,.t 57,.t 58]]
def a123s27 : ACode := .reg [] a123r26
def a123s28 : ACode := .seq a123s25 a123s27
def a123s29 : ACode := .blk 3 a123s28
def a123r30 : List AOper := [
 op (.t 34) .mv [.v 8],
 op (.t 35) (.bin .sub) [.t 34,.c (.int .i64 1)],
 op (.v 8) .mv [.t 35]]
def a123s31 : ACode := .reg [] a123r30
def a123s32 : ACode := .seq a123s29 a123s31
def a123s33 : ACode := .seq a123s23 a123s32
def a123s34 : ACode := .loop a123s33
def a123s35 : ACode := .blk 2 a123s34
def a123s36 : ACode := .seq a123s21 a123s35
def a123s37 : ACode := .seq a123s19 a123s36
def a123s38 : ACode := .seq a123s5 a123s37
def a123s39 : ACode := .seq a123s3 a123s38
def a123s40 : ACode := .seq a123s1 a123s39
def a123c : ACode :=
  a123s40
def a123 : AFn := { np := 4,nv := 9,results := [],code := a123c }
def a123v : List Nat := [0,1,2,3,8,9,10,11,12]
def a123b : List Nat := []

def a124r0 : List AOper := [
 op (.t 13) .mv [.v 2],
 op (.t 14) .mv [.v 1],
 op (.t 15) (.bin .sub) [.t 13,.t 14],
 op (.v 4) .mv [.t 15]]
def a124s1 : ACode := .reg [] a124r0
def a124r2 : List AOper := [
 op (.t 16) .mv [.v 4],
 op (.t 17) (.bin .geq) [.t 16,.c (.int .i64 8)]]
def a124r3 : List AOper := [
 op (.t 18) .mv [.v 4],
 op (.t 19) (.conv .u64) [.t 18],
 op (.v 5) (.allocO [.int .u64 0]) [],
 op .none (.stSt 1) [.v 5,.t 19]]
def a124s4 : ACode := .reg [] a124r3
def a124r5 : List AOper := [
 op (.t 20) .mv [.v 4],
 op (.t 21) (.call 159) [.t 20],
 op (.v 6) .mv [.t 21]]
def a124s6 : ACode := .reg [] a124r5
def a124r7 : List AOper := [
 op (.t 22) .mv [.v 1],
 op (.t 23) .mv [.v 4],
 op (.t 24) (.bin .quo) [.t 23,.c (.int .i64 4)],
 op (.t 25) (.bin .mul) [.t 24,.c (.int .i64 2)],
 op (.t 26) (.bin .add) [.t 22,.t 25],
 op (.t 27) (.bin .sub) [.t 26,.c (.int .i64 1)],
 op (.v 7) .mv [.t 27]]
def a124s8 : ACode := .reg [] a124r7
def a124r9 : List AOper := [
 op (.t 28) .mv [.v 7],
 op (.t 29) .mv [.v 1],
 op (.t 30) .mv [.v 4],
 op (.t 31) (.bin .quo) [.t 30,.c (.int .i64 4)],
 op (.t 32) (.bin .mul) [.t 31,.c (.int .i64 2)],
 op (.t 33) (.bin .add) [.t 29,.t 32],
 op (.t 34) (.bin .add) [.t 33,.c (.int .i64 1)],
 op (.t 35) (.bin .leq) [.t 28,.t 34]]
def a124s10 : ACode := .test [] a124r9 (.t 35) .skip (.exit 0)
def a124r11 : List AOper := [
 op (.t 38) (.call 160) [.v 5],
 op (.t 39) .mv [.v 6],
 op (.t 40) (.bin .sub) [.t 39,.c (.int .u64 1)],
 op (.t 41) (.bin .and) [.t 38,.t 40],
 op (.t 42) (.conv .i64) [.t 41],
 op (.v 8) .mv [.t 42]]
def a124s12 : ACode := .reg [] a124r11
def a124r13 : List AOper := [
 op (.t 43) .mv [.v 8],
 op (.t 44) .mv [.v 4],
 op (.t 45) (.bin .geq) [.t 43,.t 44]]
def a124r14 : List AOper := [
 op (.t 46) .mv [.v 8],
 op (.t 47) .mv [.v 4],
 op (.t 48) (.bin .sub) [.t 46,.t 47],
 op (.v 8) .mv [.t 48]]
def a124s15 : ACode := .reg [] a124r14
def a124s16 : ACode := .test [] a124r13 (.t 45) a124s15 .skip
def a124r17 : List AOper := [
 op (.t 49) .mv [.v 0],
 op (.t 50) .mv [.v 7],
 op (.t 51) .mv [.v 0],
 op (.t 52) .mv [.v 1],
 op (.t 53) .mv [.v 8],
 op (.t 54) (.bin .add) [.t 52,.t 53],
 op (.t 55) .mv [.v 0],
 op (.t 56) .mv [.v 1],
 op (.t 57) .mv [.v 8],
 op (.t 58) (.bin .add) [.t 56,.t 57],
 op (.t 59) (.iad 2) [.t 55,.t 58],
 op (.t 60) (.ldAn true 2) [.t 59],
 op (.t 61) .mv [.v 0],
 op (.t 62) .mv [.v 7],
 op (.t 63) (.iad 2) [.t 61,.t 62],
 op (.t 64) (.ldAn true 2) [.t 63],
 op (.t 65) (.iad 2) [.t 49,.t 50],
 op .none (.stSt 2) [.t 65,.t 60],
 op (.t 66) (.iad 2) [.t 51,.t 54],
 op .none (.stSt 2) [.t 66,.t 64]]
def a124s18 : ACode := .reg [] a124r17
def a124s19 : ACode := .seq a124s16 a124s18
def a124s20 : ACode := .seq a124s12 a124s19
def a124s21 : ACode := .blk 1 a124s20
def a124r22 : List AOper := [
 op (.t 36) .mv [.v 7],
 op (.t 37) (.bin .add) [.t 36,.c (.int .i64 1)],
 op (.v 7) .mv [.t 37]]
def a124s23 : ACode := .reg [] a124r22
def a124s24 : ACode := .seq a124s21 a124s23
def a124s25 : ACode := .seq a124s10 a124s24
def a124s26 : ACode := .loop a124s25
def a124s27 : ACode := .blk 0 a124s26
def a124s28 : ACode := .seq a124s8 a124s27
def a124s29 : ACode := .seq a124s6 a124s28
def a124s30 : ACode := .seq a124s4 a124s29
def a124s31 : ACode := .test [] a124r2 (.t 17) a124s30 .skip
def a124s32 : ACode := .seq a124s1 a124s31
def a124c : ACode :=
  a124s32
def a124 : AFn := { np := 4,nv := 9,results := [],code := a124c }
def a124v : List Nat := [0,1,2,3,8,9,10,11,12]
def a124b : List Nat := []

def a125r0 : List AOper := [
 op (.v 4) .mv [.c (.int .i64 0)],
 op (.v 5) .mv [.c (.int .i64 0)]]
def a125s1 : ACode := .reg [] a125r0
def a125r2 : List AOper := [
 op (.t 15) .mv [.v 2],
 op (.t 16) .mv [.v 1],
 op (.t 17) (.bin .sub) [.t 15,.t 16],
 op (.v 6) .mv [.t 17]]
def a125s3 : ACode := .reg [] a125r2
def a125r4 : List AOper := [
 op (.v 7) (.allocO [.int .i64 0]) []]
def a125s5 : ACode := .reg [] a125r4
def a125r6 : List AOper := [
 op (.t 18) .mv [.v 1],
 op (.t 19) .mv [.v 6],
 op (.t 20) (.bin .quo) [.t 19,.c (.int .i64 4)],
 op (.t 21) (.bin .mul) [.t 20,.c (.int .i64 1)],
 op (.t 22) (.bin .add) [.t 18,.t 21],
 op (.v 8) .mv [.t 22]]
def a125s7 : ACode := .reg [] a125r6
def a125r8 : List AOper := [
 op (.t 23) .mv [.v 1],
 op (.t 24) .mv [.v 6],
 op (.t 25) (.bin .quo) [.t 24,.c (.int .i64 4)],
 op (.t 26) (.bin .mul) [.t 25,.c (.int .i64 2)],
 op (.t 27) (.bin .add) [.t 23,.t 26],
 op (.v 9) .mv [.t 27]]
def a125s9 : ACode := .reg [] a125r8
def a125r10 : List AOper := [
 op (.t 28) .mv [.v 1],
 op (.t 29) .mv [.v 6],
 op (.t 30) (.bin .quo) [.t 29,.c (.int .i64 4)],
 op (.t 31) (.bin .mul) [.t 30,.c (.int .i64 3)],
 op (.t 32) (.bin .add) [.t 28,.t 31],
 op (.v 10) .mv [.t 32]]
def a125s11 : ACode := .reg [] a125r10
def a125r12 : List AOper := [
 op (.t 33) .mv [.v 6],
 op (.t 34) (.bin .geq) [.t 33,.c (.int .i64 8)]]
def a125r13 : List AOper := [
 op (.t 35) .mv [.v 6],
 op (.t 36) (.bin .geq) [.t 35,.c (.int .i64 50)]]
def a125r14 : List AOper := [
 op (.t 37) .mv [.v 0],
 op (.t 38) .mv [.v 8],
 op (.t 39) .mv [.v 3],
 op (.t 40) (.call 161) [.t 37,.t 38,.v 7,.t 39],
 op (.v 8) .mv [.t 40]]
def a125s15 : ACode := .reg [] a125r14
def a125r16 : List AOper := [
 op (.t 41) .mv [.v 0],
 op (.t 42) .mv [.v 9],
 op (.t 43) .mv [.v 3],
 op (.t 44) (.call 161) [.t 41,.t 42,.v 7,.t 43],
 op (.v 9) .mv [.t 44]]
def a125s17 : ACode := .reg [] a125r16
def a125r18 : List AOper := [
 op (.t 45) .mv [.v 0],
 op (.t 46) .mv [.v 10],
 op (.t 47) .mv [.v 3],
 op (.t 48) (.call 161) [.t 45,.t 46,.v 7,.t 47],
 op (.v 10) .mv [.t 48]]
def a125s19 : ACode := .reg [] a125r18
def a125s20 : ACode := .seq a125s17 a125s19
def a125s21 : ACode := .seq a125s15 a125s20
def a125s22 : ACode := .test [] a125r13 (.t 36) a125s21 .skip
def a125r23 : List AOper := [
 op (.t 49) .mv [.v 0],
 op (.t 50) .mv [.v 8],
 op (.t 51) .mv [.v 9],
 op (.t 52) .mv [.v 10],
 op (.t 53) .mv [.v 3],
 op (.t 54) (.call 162) [.t 49,.t 50,.t 51,.t 52,.v 7,.t 53],
 op (.v 9) .mv [.t 54]]
def a125s24 : ACode := .reg [] a125r23
def a125s25 : ACode := .seq a125s22 a125s24
def a125s26 : ACode := .test [] a125r12 (.t 34) a125s25 .skip
def a125r27 : List AOper := [
 op (.v 11) (.ldSt false 1) [.v 7]]
def a125s28 : ACode := .reg [] a125r27
def a125r29 : List AOper := [
 op (.t 58) (.bin .eql) [.v 11,.c (.int .i64 0)],
 op (.t 57) .mv [.t 58]]
def a125r30 : List AOper := [
 op (.t 59) .mv [.v 9],
 op (.v 4) .mv [.t 59],
 op (.v 5) .mv [.c (.int .i64 1)]]
def a125s31 : ACode := .reg [] a125r30
def a125s32 : ACode := .seq a125s31 .ret
def a125r33 : List AOper := [
 op (.t 61) (.bin .eql) [.v 11,.c (.int .i64 12)],
 op (.t 60) .mv [.t 61]]
def a125r34 : List AOper := [
 op (.t 62) .mv [.v 9],
 op (.v 4) .mv [.t 62],
 op (.v 5) .mv [.c (.int .i64 2)]]
def a125s35 : ACode := .reg [] a125r34
def a125s36 : ACode := .seq a125s35 .ret
def a125r37 : List AOper := [
 op (.t 56) .mv [.v 9],
 op (.v 4) .mv [.t 56],
 op (.v 5) .mv [.c (.int .i64 0)]]
def a125s38 : ACode := .reg [] a125r37
def a125s39 : ACode := .seq a125s38 .ret
def a125s40 : ACode := .test [] a125r33 (.t 60) a125s36 a125s39
def a125s41 : ACode := .test [] a125r29 (.t 57) a125s32 a125s40
def a125s42 : ACode := .blk 0 a125s41
def a125s43 : ACode := .seq a125s28 a125s42
def a125s44 : ACode := .seq a125s26 a125s43
def a125s45 : ACode := .seq a125s11 a125s44
def a125s46 : ACode := .seq a125s9 a125s45
def a125s47 : ACode := .seq a125s7 a125s46
def a125s48 : ACode := .seq a125s5 a125s47
def a125s49 : ACode := .seq a125s3 a125s48
def a125s50 : ACode := .seq a125s1 a125s49
def a125c : ACode :=
  a125s50
def a125 : AFn := { np := 4,nv := 12,results := [.v 4,.v 5],code := a125c }
def a125v : List Nat := [0,1,2,3,8,9,10,11,12,13,14,55]
def a125b : List Nat := []

def a126r0 : List AOper := [
 op (.t 10) .mv [.v 1],
 op (.v 4) .mv [.t 10]]
def a126s1 : ACode := .reg [] a126r0
def a126r2 : List AOper := [
 op (.t 11) .mv [.v 2],
 op (.t 12) (.bin .sub) [.t 11,.c (.int .i64 1)],
 op (.v 5) .mv [.t 12]]
def a126s3 : ACode := .reg [] a126r2
def a126r4 : List AOper := [
 op (.t 13) .mv [.v 4],
 op (.t 14) .mv [.v 5],
 op (.t 15) (.bin .lss) [.t 13,.t 14]]
def a126s5 : ACode := .test [] a126r4 (.t 15) .skip (.exit 0)
def a126r6 : List AOper := [
 op (.t 16) .mv [.v 0],
 op (.t 17) .mv [.v 4],
 op (.t 18) .mv [.v 0],
 op (.t 19) .mv [.v 5],
 op (.t 20) .mv [.v 0],
 op (.t 21) .mv [.v 5],
 op (.t 22) (.iad 2) [.t 20,.t 21],
 op (.t 23) (.ldAn true 2) [.t 22],
 op (.t 24) .mv [.v 0],
 op (.t 25) .mv [.v 4],
 op (.t 26) (.iad 2) [.t 24,.t 25],
 op (.t 27) (.ldAn true 2) [.t 26],
 op (.t 28) (.iad 2) [.t 16,.t 17],
 op .none (.stSt 2) [.t 28,.t 23],
 op (.t 29) (.iad 2) [.t 18,.t 19],
 op .none (.stSt 2) [.t 29,.t 27]]
def a126s7 : ACode := .reg [] a126r6
def a126r8 : List AOper := [
 op (.t 30) .mv [.v 4],
 op (.t 31) (.bin .add) [.t 30,.c (.int .i64 1)],
 op (.v 4) .mv [.t 31]]
def a126s9 : ACode := .reg [] a126r8
def a126r10 : List AOper := [
 op (.t 32) .mv [.v 5],
 op (.t 33) (.bin .sub) [.t 32,.c (.int .i64 1)],
 op (.v 5) .mv [.t 33]]
def a126s11 : ACode := .reg [] a126r10
def a126s12 : ACode := .seq a126s9 a126s11
def a126s13 : ACode := .seq a126s7 a126s12
def a126s14 : ACode := .blk 1 a126s13
def a126s15 : ACode := .seq a126s5 a126s14
def a126s16 : ACode := .loop a126s15
def a126s17 : ACode := .blk 0 a126s16
def a126s18 : ACode := .seq a126s3 a126s17
def a126s19 : ACode := .seq a126s1 a126s18
def a126c : ACode :=
  a126s19
def a126 : AFn := { np := 4,nv := 6,results := [],code := a126c }
def a126v : List Nat := [0,1,2,3,8,9]
def a126b : List Nat := []

def a127r0 : List AOper := [
 op (.v 4) .mv [.c (.bool false)]]
def a127s1 : ACode := .reg [] a127r0
def a127r2 : List AOper := [
 op (.t 13) .mv [.v 1],
 op (.t 14) (.bin .add) [.t 13,.c (.int .i64 1)],
 op (.v 5) .mv [.t 14]]
def a127s3 : ACode := .reg [] a127r2
def a127r4 : List AOper := [
 op (.v 6) .mv [.c (.int .i64 0)]]
def a127s5 : ACode := .reg [] a127r4
def a127r6 : List AOper := [
 op (.t 15) .mv [.v 6],
 op (.t 16) (.bin .lss) [.t 15,.c (.int .i64 5)]]
def a127s7 : ACode := .test [] a127r6 (.t 16) .skip (.exit 0)
def a127r8 : List AOper := [
 op (.t 19) .mv [.v 5],
 op (.t 20) .mv [.v 2],
 op (.t 21) (.bin .lss) [.t 19,.t 20],
 op (.t 22) .mv [.t 21],
 ⟨.t 23,.mv,[.v 3],none,some (.t 22,true)⟩,
 ⟨.t 24,.mv,[.v 0],none,some (.t 22,true)⟩,
 ⟨.t 25,.mv,[.v 5],none,some (.t 22,true)⟩,
 ⟨.t 26,.iad 2,[.t 24,.t 25],none,some (.t 22,true)⟩,
 ⟨.t 27,.ldAn true 2,[.t 26],none,some (.t 22,true)⟩,
 ⟨.t 28,.mv,[.v 0],none,some (.t 22,true)⟩,
 ⟨.t 29,.mv,[.v 5],none,some (.t 22,true)⟩,
 ⟨.t 30,.bin .sub,[.t 29,.c (.int .i64 1)],none,some (.t 22,true)⟩,
 ⟨.t 31,.iad 2,[.t 28,.t 30],none,some (.t 22,true)⟩,
 ⟨.t 32,.ldAn true 2,[.t 31],none,some (.t 22,true)⟩,
 ⟨.t 33,.callV,[.t 23,.t 27,.t 32],none,some (.t 22,true)⟩,
 ⟨.t 34,.bin .lss,[.t 33,.c (.int .i64 0)],none,some (.t 22,true)⟩,
 ⟨.t 35,.un .not,[.t 34],none,some (.t 22,true)⟩,
 op (.t 36) .pick [.t 22,.t 35,.c (.bool false)]]
def a127s9 : ACode := .test [] a127r8 (.t 36) .skip (.exit 2)
def a127r10 : List AOper := [
 op (.t 37) .mv [.v 5],
 op (.t 38) (.bin .add) [.t 37,.c (.int .i64 1)],
 op (.v 5) .mv [.t 38]]
def a127s11 : ACode := .reg [] a127r10
def a127s12 : ACode := .blk 3 a127s11
def a127s13 : ACode := .seq a127s9 a127s12
def a127s14 : ACode := .loop a127s13
def a127s15 : ACode := .blk 2 a127s14
def a127r16 : List AOper := [
 op (.t 39) .mv [.v 5],
 op (.t 40) .mv [.v 2],
 op (.t 41) (.bin .eql) [.t 39,.t 40]]
def a127r17 : List AOper := [
 op (.v 4) .mv [.c (.bool true)]]
def a127s18 : ACode := .reg [] a127r17
def a127s19 : ACode := .seq a127s18 .ret
def a127s20 : ACode := .test [] a127r16 (.t 41) a127s19 .skip
def a127r21 : List AOper := [
 op (.t 42) .mv [.v 2],
 op (.t 43) .mv [.v 1],
 op (.t 44) (.bin .sub) [.t 42,.t 43],
 op (.t 45) (.bin .lss) [.t 44,.c (.int .i64 50)]]
def a127r22 : List AOper := [
 op (.v 4) .mv [.c (.bool false)]]
def a127s23 : ACode := .reg [] a127r22
def a127s24 : ACode := .seq a127s23 .ret
def a127s25 : ACode := .test [] a127r21 (.t 45) a127s24 .skip
def a127r26 : List AOper := [
 op (.t 46) .mv [.v 0],
 op (.t 47) .mv [.v 5],
 op (.t 48) .mv [.v 0],
 op (.t 49) .mv [.v 5],
 op (.t 50) (.bin .sub) [.t 49,.c (.int .i64 1)],
 op (.t 51) .mv [.v 0],
 op (.t 52) .mv [.v 5],
 op (.t 53) (.bin .sub) [.t 52,.c (.int .i64 1)],
 op (.t 54) (.iad 2) [.t 51,.t 53],
 op (.t 55) (.ldAn true 2) [.t 54],
 op (.t 56) .mv [.v 0],
 op (.t 57) .mv [.v 5],
 op (.t 58) (.iad 2) [.t 56,.t 57],
 op (.t 59) (.ldAn true 2) [.t 58],
 op (.t 60) (.iad 2) [.t 46,.t 47],
 op .none (.stSt 2) [.t 60,.t 55],
 op (.t 61) (.iad 2) [.t 48,.t 50],
 op .none (.stSt 2) [.t 61,.t 59]]
def a127s27 : ACode := .reg [] a127r26
def a127r28 : List AOper := [
 op (.t 62) .mv [.v 5],
 op (.t 63) .mv [.v 1],
 op (.t 64) (.bin .sub) [.t 62,.t 63],
 op (.t 65) (.bin .geq) [.t 64,.c (.int .i64 2)]]
def a127r29 : List AOper := [
 op (.t 66) .mv [.v 5],
 op (.t 67) (.bin .sub) [.t 66,.c (.int .i64 1)],
 op (.v 7) .mv [.t 67]]
def a127s30 : ACode := .reg [] a127r29
def a127r31 : List AOper := [
 op (.t 68) .mv [.v 7],
 op (.t 69) (.bin .geq) [.t 68,.c (.int .i64 1)]]
def a127s32 : ACode := .test [] a127r31 (.t 69) .skip (.exit 4)
def a127r33 : List AOper := [
 op (.t 72) .mv [.v 3],
 op (.t 73) .mv [.v 0],
 op (.t 74) .mv [.v 7],
 op (.t 75) (.iad 2) [.t 73,.t 74],
 op (.t 76) (.ldAn true 2) [.t 75],
 op (.t 77) .mv [.v 0],
 op (.t 78) .mv [.v 7],
 op (.t 79) (.bin .sub) [.t 78,.c (.int .i64 1)],
 op (.t 80) (.iad 2) [.t 77,.t 79],
 op (.t 81) (.ldAn true 2) [.t 80],
 op (.t 82) .callV [.t 72,.t 76,.t 81],
 op (.t 83) (.bin .lss) [.t 82,.c (.int .i64 0)],
 op (.t 84) (.un .not) [.t 83]]
def a127s34 : ACode := .test [] a127r33 (.t 84) (.exit 4) .skip
def a127r35 : List AOper := [
 op (.t 85) .mv [.v 0],
 op (.t 86) .mv [.v 7],
 op (.t 87) .mv [.v 0],
 op (.t 88) .mv [.v 7],
 op (.t 89) (.bin .sub) [.t 88,.c (.int .i64 1)],
 op (.t 90) .mv [.v 0],
 op (.t 91) .mv [.v 7],
 op (.t 92) (.bin .sub) [.t 91,.c (.int .i64 1)],
 op (.t 93) (.iad 2) [.t 90,.t 92],
 op (.t 94) (.ldAn true 2) [.t 93],
 op (.t 95) .mv [.v 0],
 op (.t 96) .mv [.v 7],
 op (.t 97) (.iad 2) [.t 95,.t 96],
 op (.t 98) (.ldAn true 2) [.t 97],
 op (.t 99) (.iad 2) [.t 85,.t 86],
 op .none (.stSt 2) [.t 99,.t 94],
 op (.t 100) (.iad 2) [.t 87,.t 89],
 op .none (.stSt 2) [.t 100,.t 98]]
def a127s36 : ACode := .reg [] a127r35
def a127s37 : ACode := .seq a127s34 a127s36
def a127s38 : ACode := .blk 5 a127s37
def a127r39 : List AOper := [
 op (.t 70) .mv [.v 7],
 op (.t 71) (.bin .sub) [.t 70,.c (.int .i64 1)],
 op (.v 7) .mv [.t 71]]
def a127s40 : ACode := .reg [] a127r39
def a127s41 : ACode := .seq a127s38 a127s40
def a127s42 : ACode := .seq a127s32 a127s41
def a127s43 : ACode := .loop a127s42
def a127s44 : ACode := .blk 4 a127s43
def a127s45 : ACode := .seq a127s30 a127s44
def a127s46 : ACode := .test [] a127r28 (.t 65) a127s45 .skip
def a127r47 : List AOper := [
 op (.t 101) .mv [.v 2],
 op (.t 102) .mv [.v 5],
 op (.t 103) (.bin .sub) [.t 101,.t 102],
 op (.t 104) (.bin .geq) [.t 103,.c (.int .i64 2)]]
def a127r48 : List AOper := [
 op (.t 105) .mv [.v 5],
 op (.t 106) (.bin .add) [.t 105,.c (.int .i64 1)],
 op (.v 8) .mv [.t 106]]
def a127s49 : ACode := .reg [] a127r48
def a127r50 : List AOper := [
 op (.t 107) .mv [.v 8],
 op (.t 108) .mv [.v 2],
 op (.t 109) (.bin .lss) [.t 107,.t 108]]
def a127s51 : ACode := .test [] a127r50 (.t 109) .skip (.exit 6)
def a127r52 : List AOper := [
 op (.t 112) .mv [.v 3],
 op (.t 113) .mv [.v 0],
 op (.t 114) .mv [.v 8],
 op (.t 115) (.iad 2) [.t 113,.t 114],
 op (.t 116) (.ldAn true 2) [.t 115],
 op (.t 117) .mv [.v 0],
 op (.t 118) .mv [.v 8],
 op (.t 119) (.bin .sub) [.t 118,.c (.int .i64 1)],
 op (.t 120) (.iad 2) [.t 117,.t 119],
 op (.t 121) (.ldAn true 2) [.t 120],
 op (.t 122) .callV [.t 112,.t 116,.t 121],
 op (.t 123) (.bin .lss) [.t 122,.c (.int .i64 0)],
 op (.t 124) (.un .not) [.t 123]]
def a127s53 : ACode := .test [] a127r52 (.t 124) (.exit 6) .skip
def a127r54 : List AOper := [
 op (.t 125) .mv [.v 0],
 op (.t 126) .mv [.v 8],
 op (.t 127) .mv [.v 0],
 op (.t 128) .mv [.v 8],
 op (.t 129) (.bin .sub) [.t 128,.c (.int .i64 1)],
 op (.t 130) .mv [.v 0],
 op (.t 131) .mv [.v 8],
 op (.t 132) (.bin .sub) [.t 131,.c (.int .i64 1)],
 op (.t 133) (.iad 2) [.t 130,.t 132],
 op (.t 134) (.ldAn true 2) [.t 133],
 op (.t 135) .mv [.v 0],
 op (.t 136) .mv [.v 8],
 op (.t 137) (.iad 2) [.t 135,.t 136],
 op (.t 138) (.ldAn true 2) [.t 137],
 op (.t 139) (.iad 2) [.t 125,.t 126],
 op .none (.stSt 2) [.t 139,.t 134],
 op (.t 140) (.iad 2) [.t 127,.t 129],
 op .none (.stSt 2) [.t 140,.t 138]]
def a127s55 : ACode := .reg [] a127r54
def a127s56 : ACode := .seq a127s53 a127s55
def a127s57 : ACode := .blk 7 a127s56
def a127r58 : List AOper := [
 op (.t 110) .mv [.v 8],
 op (.t 111) (.bin .add) [.t 110,.c (.int .i64 1)],
 op (.v 8) .mv [.t 111]]
def a127s59 : ACode := .reg [] a127r58
def a127s60 : ACode := .seq a127s57 a127s59
def a127s61 : ACode := .seq a127s51 a127s60
def a127s62 : ACode := .loop a127s61
def a127s63 : ACode := .blk 6 a127s62
def a127s64 : ACode := .seq a127s49 a127s63
def a127s65 : ACode := .test [] a127r47 (.t 104) a127s64 .skip
def a127s66 : ACode := .seq a127s46 a127s65
def a127s67 : ACode := .seq a127s27 a127s66
def a127s68 : ACode := .seq a127s25 a127s67
def a127s69 : ACode := .seq a127s20 a127s68
def a127s70 : ACode := .seq a127s15 a127s69
def a127s71 : ACode := .blk 1 a127s70
def a127r72 : List AOper := [
 op (.t 17) .mv [.v 6],
 op (.t 18) (.bin .add) [.t 17,.c (.int .i64 1)],
 op (.v 6) .mv [.t 18]]
def a127s73 : ACode := .reg [] a127r72
def a127s74 : ACode := .seq a127s71 a127s73
def a127s75 : ACode := .seq a127s7 a127s74
def a127s76 : ACode := .loop a127s75
def a127s77 : ACode := .blk 0 a127s76
def a127s78 : ACode := .seq a127s5 a127s77
def a127r79 : List AOper := [
 op (.v 4) .mv [.c (.bool false)]]
def a127s80 : ACode := .reg [] a127r79
def a127s81 : ACode := .seq a127s80 .ret
def a127s82 : ACode := .seq a127s78 a127s81
def a127s83 : ACode := .seq a127s3 a127s82
def a127s84 : ACode := .seq a127s1 a127s83
def a127c : ACode :=
  a127s84
def a127 : AFn := { np := 4,nv := 9,results := [.v 4],code := a127c }
def a127v : List Nat := [0,1,2,3,8,9,10,11,12]
def a127b : List Nat := []

def a128r0 : List AOper := [
 op (.v 5) .mv [.c (.int .i64 0)]]
def a128s1 : ACode := .reg [] a128r0
def a128r2 : List AOper := [
 op (.t 13) .mv [.v 0],
 op (.t 14) .mv [.v 1],
 op (.t 15) .mv [.v 0],
 op (.t 16) .mv [.v 3],
 op (.t 17) .mv [.v 0],
 op (.t 18) .mv [.v 3],
 op (.t 19) (.iad 2) [.t 17,.t 18],
 op (.t 20) (.ldAn true 2) [.t 19],
 op (.t 21) .mv [.v 0],
 op (.t 22) .mv [.v 1],
 op (.t 23) (.iad 2) [.t 21,.t 22],
 op (.t 24) (.ldAn true 2) [.t 23],
 op (.t 25) (.iad 2) [.t 13,.t 14],
 op .none (.stSt 2) [.t 25,.t 20],
 op (.t 26) (.iad 2) [.t 15,.t 16],
 op .none (.stSt 2) [.t 26,.t 24]]
def a128s3 : ACode := .reg [] a128r2
def a128r4 : List AOper := [
 op (.t 27) .mv [.v 1],
 op (.t 28) (.bin .add) [.t 27,.c (.int .i64 1)],
 op (.t 29) .mv [.v 2],
 op (.t 30) (.bin .sub) [.t 29,.c (.int .i64 1)],
 op (.v 6) .mv [.t 28],
 op (.v 7) .mv [.t 30]]
def a128s5 : ACode := .reg [] a128r4
def a128r6 : List AOper := [
 op (.t 31) .mv [.v 6],
 op (.t 32) .mv [.v 7],
 op (.t 33) (.bin .leq) [.t 31,.t 32],
 op (.t 34) .mv [.t 33],
 ⟨.t 35,.mv,[.v 4],none,some (.t 34,true)⟩,
 ⟨.t 36,.mv,[.v 0],none,some (.t 34,true)⟩,
 ⟨.t 37,.mv,[.v 1],none,some (.t 34,true)⟩,
 ⟨.t 38,.iad 2,[.t 36,.t 37],none,some (.t 34,true)⟩,
 ⟨.t 39,.ldAn true 2,[.t 38],none,some (.t 34,true)⟩,
 ⟨.t 40,.mv,[.v 0],none,some (.t 34,true)⟩,
 ⟨.t 41,.mv,[.v 6],none,some (.t 34,true)⟩,
 ⟨.t 42,.iad 2,[.t 40,.t 41],none,some (.t 34,true)⟩,
 ⟨.t 43,.ldAn true 2,[.t 42],none,some (.t 34,true)⟩,
 ⟨.t 44,.callV,[.t 35,.t 39,.t 43],none,some (.t 34,true)⟩,
 ⟨.t 45,.bin .lss,[.t 44,.c (.int .i64 0)],none,some (.t 34,true)⟩,
 ⟨.t 46,.un .not,[.t 45],none,some (.t 34,true)⟩,
 op (.t 47) .pick [.t 34,.t 46,.c (.bool false)]]
def a128s7 : ACode := .test [] a128r6 (.t 47) .skip (.exit 2)
def a128r8 : List AOper := [
 op (.t 48) .mv [.v 6],
 op (.t 49) (.bin .add) [.t 48,.c (.int .i64 1)],
 op (.v 6) .mv [.t 49]]
def a128s9 : ACode := .reg [] a128r8
def a128s10 : ACode := .blk 3 a128s9
def a128s11 : ACode := .seq a128s7 a128s10
def a128s12 : ACode := .loop a128s11
def a128s13 : ACode := .blk 2 a128s12
def a128r14 : List AOper := [
 op (.t 50) .mv [.v 6],
 op (.t 51) .mv [.v 7],
 op (.t 52) (.bin .leq) [.t 50,.t 51],
 op (.t 53) .mv [.t 52],
 ⟨.t 54,.mv,[.v 4],none,some (.t 53,true)⟩,
 ⟨.t 55,.mv,[.v 0],none,some (.t 53,true)⟩,
 ⟨.t 56,.mv,[.v 1],none,some (.t 53,true)⟩,
 ⟨.t 57,.iad 2,[.t 55,.t 56],none,some (.t 53,true)⟩,
 ⟨.t 58,.ldAn true 2,[.t 57],none,some (.t 53,true)⟩,
 ⟨.t 59,.mv,[.v 0],none,some (.t 53,true)⟩,
 ⟨.t 60,.mv,[.v 7],none,some (.t 53,true)⟩,
 ⟨.t 61,.iad 2,[.t 59,.t 60],none,some (.t 53,true)⟩,
 ⟨.t 62,.ldAn true 2,[.t 61],none,some (.t 53,true)⟩,
 ⟨.t 63,.callV,[.t 54,.t 58,.t 62],none,some (.t 53,true)⟩,
 ⟨.t 64,.bin .lss,[.t 63,.c (.int .i64 0)],none,some (.t 53,true)⟩,
 op (.t 65) .pick [.t 53,.t 64,.c (.bool false)]]
def a128s15 : ACode := .test [] a128r14 (.t 65) .skip (.exit 4)
def a128r16 : List AOper := [
 op (.t 66) .mv [.v 7],
 op (.t 67) (.bin .sub) [.t 66,.c (.int .i64 1)],
 op (.v 7) .mv [.t 67]]
def a128s17 : ACode := .reg [] a128r16
def a128s18 : ACode := .blk 5 a128s17
def a128s19 : ACode := .seq a128s15 a128s18
def a128s20 : ACode := .loop a128s19
def a128s21 : ACode := .blk 4 a128s20
def a128r22 : List AOper := [
 op (.t 68) .mv [.v 6],
 op (.t 69) .mv [.v 7],
 op (.t 70) (.bin .gtr) [.t 68,.t 69]]
def a128s23 : ACode := .test [] a128r22 (.t 70) (.exit 0) .skip
def a128r24 : List AOper := [
 op (.t 71) .mv [.v 0],
 op (.t 72) .mv [.v 6],
 op (.t 73) .mv [.v 0],
 op (.t 74) .mv [.v 7],
 op (.t 75) .mv [.v 0],
 op (.t 76) .mv [.v 7],
 op (.t 77) (.iad 2) [.t 75,.t 76],
 op (.t 78) (.ldAn true 2) [.t 77],
 op (.t 79) .mv [.v 0],
 op (.t 80) .mv [.v 6],
 op (.t 81) (.iad 2) [.t 79,.t 80],
 op (.t 82) (.ldAn true 2) [.t 81],
 op (.t 83) (.iad 2) [.t 71,.t 72],
 op .none (.stSt 2) [.t 83,.t 78],
 op (.t 84) (.iad 2) [.t 73,.t 74],
 op .none (.stSt 2) [.t 84,.t 82]]
def a128s25 : ACode := .reg [] a128r24
def a128r26 : List AOper := [
 op (.t 85) .mv [.v 6],
 op (.t 86) (.bin .add) [.t 85,.c (.int .i64 1)],
 op (.v 6) .mv [.t 86]]
def a128s27 : ACode := .reg [] a128r26
def a128r28 : List AOper := [
 op (.t 87) .mv [.v 7],
 op (.t 88) (.bin .sub) [.t 87,.c (.int .i64 1)],
 op (.v 7) .mv [.t 88]]
def a128s29 : ACode := .reg [] a128r28
def a128s30 : ACode := .seq a128s27 a128s29
def a128s31 : ACode := .seq a128s25 a128s30
def a128s32 : ACode := .seq a128s23 a128s31
def a128s33 : ACode := .seq a128s21 a128s32
def a128s34 : ACode := .seq a128s13 a128s33
def a128s35 : ACode := .blk 1 a128s34
def a128s36 : ACode := .loop a128s35
def a128s37 : ACode := .blk 0 a128s36
def a128r38 : List AOper := [
 op (.t 89) .mv [.v 6],
 op (.v 5) .mv [.t 89]]
def a128s39 : ACode := .reg [] a128r38
def a128s40 : ACode := .seq a128s39 .ret
def a128s41 : ACode := .seq a128s37 a128s40
def a128s42 : ACode := .seq a128s5 a128s41
def a128s43 : ACode := .seq a128s3 a128s42
def a128s44 : ACode := .seq a128s1 a128s43
def a128c : ACode :=
  a128s44
def a128 : AFn := { np := 5,nv := 8,results := [.v 5],code := a128c }
def a128v : List Nat := [0,1,2,3,4,10,11,12]
def a128b : List Nat := []

def a129r0 : List AOper := [
 op (.v 5) .mv [.c (.int .i64 0)],
 op (.v 6) .mv [.c (.bool false)]]
def a129s1 : ACode := .reg [] a129r0
def a129r2 : List AOper := [
 op (.t 14) .mv [.v 0],
 op (.t 15) .mv [.v 1],
 op (.t 16) .mv [.v 0],
 op (.t 17) .mv [.v 3],
 op (.t 18) .mv [.v 0],
 op (.t 19) .mv [.v 3],
 op (.t 20) (.iad 2) [.t 18,.t 19],
 op (.t 21) (.ldAn true 2) [.t 20],
 op (.t 22) .mv [.v 0],
 op (.t 23) .mv [.v 1],
 op (.t 24) (.iad 2) [.t 22,.t 23],
 op (.t 25) (.ldAn true 2) [.t 24],
 op (.t 26) (.iad 2) [.t 14,.t 15],
 op .none (.stSt 2) [.t 26,.t 21],
 op (.t 27) (.iad 2) [.t 16,.t 17],
 op .none (.stSt 2) [.t 27,.t 25]]
def a129s3 : ACode := .reg [] a129r2
def a129r4 : List AOper := [
 op (.t 28) .mv [.v 1],
 op (.t 29) (.bin .add) [.t 28,.c (.int .i64 1)],
 op (.t 30) .mv [.v 2],
 op (.t 31) (.bin .sub) [.t 30,.c (.int .i64 1)],
 op (.v 7) .mv [.t 29],
 op (.v 8) .mv [.t 31]]
def a129s5 : ACode := .reg [] a129r4
def a129r6 : List AOper := [
 op (.t 32) .mv [.v 7],
 op (.t 33) .mv [.v 8],
 op (.t 34) (.bin .leq) [.t 32,.t 33],
 op (.t 35) .mv [.t 34],
 ⟨.t 36,.mv,[.v 4],none,some (.t 35,true)⟩,
 ⟨.t 37,.mv,[.v 0],none,some (.t 35,true)⟩,
 ⟨.t 38,.mv,[.v 7],none,some (.t 35,true)⟩,
 ⟨.t 39,.iad 2,[.t 37,.t 38],none,some (.t 35,true)⟩,
 ⟨.t 40,.ldAn true 2,[.t 39],none,some (.t 35,true)⟩,
 ⟨.t 41,.mv,[.v 0],none,some (.t 35,true)⟩,
 ⟨.t 42,.mv,[.v 1],none,some (.t 35,true)⟩,
 ⟨.t 43,.iad 2,[.t 41,.t 42],none,some (.t 35,true)⟩,
 ⟨.t 44,.ldAn true 2,[.t 43],none,some (.t 35,true)⟩,
 ⟨.t 45,.callV,[.t 36,.t 40,.t 44],none,some (.t 35,true)⟩,
 ⟨.t 46,.bin .lss,[.t 45,.c (.int .i64 0)],none,some (.t 35,true)⟩,
 op (.t 47) .pick [.t 35,.t 46,.c (.bool false)]]
def a129s7 : ACode := .test [] a129r6 (.t 47) .skip (.exit 0)
def a129r8 : List AOper := [
 op (.t 48) .mv [.v 7],
 op (.t 49) (.bin .add) [.t 48,.c (.int .i64 1)],
 op (.v 7) .mv [.t 49]]
def a129s9 : ACode := .reg [] a129r8
def a129s10 : ACode := .blk 1 a129s9
def a129s11 : ACode := .seq a129s7 a129s10
def a129s12 : ACode := .loop a129s11
def a129s13 : ACode := .blk 0 a129s12
def a129r14 : List AOper := [
 op (.t 50) .mv [.v 7],
 op (.t 51) .mv [.v 8],
 op (.t 52) (.bin .leq) [.t 50,.t 51],
 op (.t 53) .mv [.t 52],
 ⟨.t 54,.mv,[.v 4],none,some (.t 53,true)⟩,
 ⟨.t 55,.mv,[.v 0],none,some (.t 53,true)⟩,
 ⟨.t 56,.mv,[.v 8],none,some (.t 53,true)⟩,
 ⟨.t 57,.iad 2,[.t 55,.t 56],none,some (.t 53,true)⟩,
 ⟨.t 58,.ldAn true 2,[.t 57],none,some (.t 53,true)⟩,
 ⟨.t 59,.mv,[.v 0],none,some (.t 53,true)⟩,
 ⟨.t 60,.mv,[.v 1],none,some (.t 53,true)⟩,
 ⟨.t 61,.iad 2,[.t 59,.t 60],none,some (.t 53,true)⟩,
 ⟨.t 62,.ldAn true 2,[.t 61],none,some (.t 53,true)⟩,
 ⟨.t 63,.callV,[.t 54,.t 58,.t 62],none,some (.t 53,true)⟩,
 ⟨.t 64,.bin .lss,[.t 63,.c (.int .i64 0)],none,some (.t 53,true)⟩,
 ⟨.t 65,.un .not,[.t 64],none,some (.t 53,true)⟩,
 op (.t 66) .pick [.t 53,.t 65,.c (.bool false)]]
def a129s15 : ACode := .test [] a129r14 (.t 66) .skip (.exit 2)
def a129r16 : List AOper := [
 op (.t 67) .mv [.v 8],
 op (.t 68) (.bin .sub) [.t 67,.c (.int .i64 1)],
 op (.v 8) .mv [.t 68]]
def a129s17 : ACode := .reg [] a129r16
def a129s18 : ACode := .blk 3 a129s17
def a129s19 : ACode := .seq a129s15 a129s18
def a129s20 : ACode := .loop a129s19
def a129s21 : ACode := .blk 2 a129s20
def a129r22 : List AOper := [
 op (.t 69) .mv [.v 7],
 op (.t 70) .mv [.v 8],
 op (.t 71) (.bin .gtr) [.t 69,.t 70]]
def a129r23 : List AOper := [
 op (.t 72) .mv [.v 0],
 op (.t 73) .mv [.v 8],
 op (.t 74) .mv [.v 0],
 op (.t 75) .mv [.v 1],
 op (.t 76) .mv [.v 0],
 op (.t 77) .mv [.v 1],
 op (.t 78) (.iad 2) [.t 76,.t 77],
 op (.t 79) (.ldAn true 2) [.t 78],
 op (.t 80) .mv [.v 0],
 op (.t 81) .mv [.v 8],
 op (.t 82) (.iad 2) [.t 80,.t 81],
 op (.t 83) (.ldAn true 2) [.t 82],
 op (.t 84) (.iad 2) [.t 72,.t 73],
 op .none (.stSt 2) [.t 84,.t 79],
 op (.t 85) (.iad 2) [.t 74,.t 75],
 op .none (.stSt 2) [.t 85,.t 83]]
def a129s24 : ACode := .reg [] a129r23
def a129r25 : List AOper := [
 op (.t 86) .mv [.v 8],
 op (.v 5) .mv [.t 86],
 op (.v 6) .mv [.c (.bool true)]]
def a129s26 : ACode := .reg [] a129r25
def a129s27 : ACode := .seq a129s26 .ret
def a129s28 : ACode := .seq a129s24 a129s27
def a129s29 : ACode := .test [] a129r22 (.t 71) a129s28 .skip
def a129r30 : List AOper := [
 op (.t 87) .mv [.v 0],
 op (.t 88) .mv [.v 7],
 op (.t 89) .mv [.v 0],
 op (.t 90) .mv [.v 8],
 op (.t 91) .mv [.v 0],
 op (.t 92) .mv [.v 8],
 op (.t 93) (.iad 2) [.t 91,.t 92],
 op (.t 94) (.ldAn true 2) [.t 93],
 op (.t 95) .mv [.v 0],
 op (.t 96) .mv [.v 7],
 op (.t 97) (.iad 2) [.t 95,.t 96],
 op (.t 98) (.ldAn true 2) [.t 97],
 op (.t 99) (.iad 2) [.t 87,.t 88],
 op .none (.stSt 2) [.t 99,.t 94],
 op (.t 100) (.iad 2) [.t 89,.t 90],
 op .none (.stSt 2) [.t 100,.t 98]]
def a129s31 : ACode := .reg [] a129r30
def a129r32 : List AOper := [
 op (.t 101) .mv [.v 7],
 op (.t 102) (.bin .add) [.t 101,.c (.int .i64 1)],
 op (.v 7) .mv [.t 102]]
def a129s33 : ACode := .reg [] a129r32
def a129r34 : List AOper := [
 op (.t 103) .mv [.v 8],
 op (.t 104) (.bin .sub) [.t 103,.c (.int .i64 1)],
 op (.v 8) .mv [.t 104]]
def a129s35 : ACode := .reg [] a129r34
def a129r36 : List AOper := [
 op (.t 105) .mv [.v 7],
 op (.t 106) .mv [.v 8],
 op (.t 107) (.bin .leq) [.t 105,.t 106],
 op (.t 108) .mv [.t 107],
 ⟨.t 109,.mv,[.v 4],none,some (.t 108,true)⟩,
 ⟨.t 110,.mv,[.v 0],none,some (.t 108,true)⟩,
 ⟨.t 111,.mv,[.v 7],none,some (.t 108,true)⟩,
 ⟨.t 112,.iad 2,[.t 110,.t 111],none,some (.t 108,true)⟩,
 ⟨.t 113,.ldAn true 2,[.t 112],none,some (.t 108,true)⟩,
 ⟨.t 114,.mv,[.v 0],none,some (.t 108,true)⟩,
 ⟨.t 115,.mv,[.v 1],none,some (.t 108,true)⟩,
 ⟨.t 116,.iad 2,[.t 114,.t 115],none,some (.t 108,true)⟩,
 ⟨.t 117,.ldAn true 2,[.t 116],none,some (.t 108,true)⟩,
 ⟨.t 118,.callV,[.t 109,.t 113,.t 117],none,some (.t 108,true)⟩,
 ⟨.t 119,.bin .lss,[.t 118,.c (.int .i64 0)],none,some (.t 108,true)⟩,
 op (.t 120) .pick [.t 108,.t 119,.c (.bool false)]]
def a129s37 : ACode := .test [] a129r36 (.t 120) .skip (.exit 6)
def a129r38 : List AOper := [
 op (.t 121) .mv [.v 7],
 op (.t 122) (.bin .add) [.t 121,.c (.int .i64 1)],
 op (.v 7) .mv [.t 122]]
def a129s39 : ACode := .reg [] a129r38
def a129s40 : ACode := .blk 7 a129s39
def a129s41 : ACode := .seq a129s37 a129s40
def a129s42 : ACode := .loop a129s41
def a129s43 : ACode := .blk 6 a129s42
def a129r44 : List AOper := [
 op (.t 123) .mv [.v 7],
 op (.t 124) .mv [.v 8],
 op (.t 125) (.bin .leq) [.t 123,.t 124],
 op (.t 126) .mv [.t 125],
 ⟨.t 127,.mv,[.v 4],none,some (.t 126,true)⟩,
 ⟨.t 128,.mv,[.v 0],none,some (.t 126,true)⟩,
 ⟨.t 129,.mv,[.v 8],none,some (.t 126,true)⟩,
 ⟨.t 130,.iad 2,[.t 128,.t 129],none,some (.t 126,true)⟩,
 ⟨.t 131,.ldAn true 2,[.t 130],none,some (.t 126,true)⟩,
 ⟨.t 132,.mv,[.v 0],none,some (.t 126,true)⟩,
 ⟨.t 133,.mv,[.v 1],none,some (.t 126,true)⟩,
 ⟨.t 134,.iad 2,[.t 132,.t 133],none,some (.t 126,true)⟩,
 ⟨.t 135,.ldAn true 2,[.t 134],none,some (.t 126,true)⟩,
 ⟨.t 136,.callV,[.t 127,.t 131,.t 135],none,some (.t 126,true)⟩,
 ⟨.t 137,.bin .lss,[.t 136,.c (.int .i64 0)],none,some (.t 126,true)⟩,
 ⟨.t 138,.un .not,[.t 137],none,some (.t 126,true)⟩,
 op (.t 139) .pick [.t 126,.t 138,.c (.bool false)]]
def a129s45 : ACode := .test [] a129r44 (.t 139) .skip (.exit 8)
def a129r46 : List AOper := [
 op (.t 140) .mv [.v 8],
 op (.t 141) (.bin .sub) [.t 140,.c (.int .i64 1)],
 op (.v 8) .mv [.t 141]]
def a129s47 : ACode := .reg [] a129r46
def a129s48 : ACode := .blk 9 a129s47
def a129s49 : ACode := .seq a129s45 a129s48
def a129s50 : ACode := .loop a129s49
def a129s51 : ACode := .blk 8 a129s50
def a129r52 : List AOper := [
 op (.t 142) .mv [.v 7],
 op (.t 143) .mv [.v 8],
 op (.t 144) (.bin .gtr) [.t 142,.t 143]]
def a129s53 : ACode := .test [] a129r52 (.t 144) (.exit 4) .skip
def a129r54 : List AOper := [
 op (.t 145) .mv [.v 0],
 op (.t 146) .mv [.v 7],
 op (.t 147) .mv [.v 0],
 op (.t 148) .mv [.v 8],
 op (.t 149) .mv [.v 0],
 op (.t 150) .mv [.v 8],
 op (.t 151) (.iad 2) [.t 149,.t 150],
 op (.t 152) (.ldAn true 2) [.t 151],
 op (.t 153) .mv [.v 0],
 op (.t 154) .mv [.v 7],
 op (.t 155) (.iad 2) [.t 153,.t 154],
 op (.t 156) (.ldAn true 2) [.t 155],
 op (.t 157) (.iad 2) [.t 145,.t 146],
 op .none (.stSt 2) [.t 157,.t 152],
 op (.t 158) (.iad 2) [.t 147,.t 148],
 op .none (.stSt 2) [.t 158,.t 156]]
def a129s55 : ACode := .reg [] a129r54
def a129r56 : List AOper := [
 op (.t 159) .mv [.v 7],
 op (.t 160) (.bin .add) [.t 159,.c (.int .i64 1)],
 op (.v 7) .mv [.t 160]]
def a129s57 : ACode := .reg [] a129r56
def a129r58 : List AOper := [
 op (.t 161) .mv [.v 8],
 op (.t 162) (.bin .sub) [.t 161,.c (.int .i64 1)],
 op (.v 8) .mv [.t 162]]
def a129s59 : ACode := .reg [] a129r58
def a129s60 : ACode := .seq a129s57 a129s59
def a129s61 : ACode := .seq a129s55 a129s60
def a129s62 : ACode := .seq a129s53 a129s61
def a129s63 : ACode := .seq a129s51 a129s62
def a129s64 : ACode := .seq a129s43 a129s63
def a129s65 : ACode := .blk 5 a129s64
def a129s66 : ACode := .loop a129s65
def a129s67 : ACode := .blk 4 a129s66
def a129r68 : List AOper := [
 op (.t 163) .mv [.v 0],
 op (.t 164) .mv [.v 8],
 op (.t 165) .mv [.v 0],
 op (.t 166) .mv [.v 1],
 op (.t 167) .mv [.v 0],
 op (.t 168) .mv [.v 1],
 op (.t 169) (.iad 2) [.t 167,.t 168],
 op (.t 170) (.ldAn true 2) [.t 169],
 op (.t 171) .mv [.v 0],
 op (.t 172) .mv [.v 8],
 op (.t 173) (.iad 2) [.t 171,.t 172],
 op (.t 174) (.ldAn true 2) [.t 173],
 op (.t 175) (.iad 2) [.t 163,.t 164],
 op .none (.stSt 2) [.t 175,.t 170],
 op (.t 176) (.iad 2) [.t 165,.t 166],
 op .none (.stSt 2) [.t 176,.t 174]]
def a129s69 : ACode := .reg [] a129r68
def a129r70 : List AOper := [
 op (.t 177) .mv [.v 8],
 op (.v 5) .mv [.t 177],
 op (.v 6) .mv [.c (.bool false)]]
def a129s71 : ACode := .reg [] a129r70
def a129s72 : ACode := .seq a129s71 .ret
def a129s73 : ACode := .seq a129s69 a129s72
def a129s74 : ACode := .seq a129s67 a129s73
def a129s75 : ACode := .seq a129s35 a129s74
def a129s76 : ACode := .seq a129s33 a129s75
def a129s77 : ACode := .seq a129s31 a129s76
def a129s78 : ACode := .seq a129s29 a129s77
def a129s79 : ACode := .seq a129s21 a129s78
def a129s80 : ACode := .seq a129s13 a129s79
def a129s81 : ACode := .seq a129s5 a129s80
def a129s82 : ACode := .seq a129s3 a129s81
def a129s83 : ACode := .seq a129s1 a129s82
def a129c : ACode :=
  a129s83
def a129 : AFn := { np := 5,nv := 9,results := [.v 5,.v 6],code := a129c }
def a129v : List Nat := [0,1,2,3,4,10,11,12,13]
def a129b : List Nat := []

def a130r0 : List AOper := [
 op (.v 1) .mv [.c (.int .i64 0)]]
def a130s1 : ACode := .reg [] a130r0
def a130r2 : List AOper := [
 op (.t 3) .mv [.v 0],
 op (.t 4) (.bin .geq) [.t 3,.c (.int .u32 65536)]]
def a130r3 : List AOper := [
 op (.t 5) .mv [.v 0],
 op (.t 6) (.bin .shr) [.t 5,.c (.int .u64 16)],
 op (.v 0) .mv [.t 6]]
def a130s4 : ACode := .reg [] a130r3
def a130r5 : List AOper := [
 op (.v 1) .mv [.c (.int .i64 16)]]
def a130s6 : ACode := .reg [] a130r5
def a130s7 : ACode := .seq a130s4 a130s6
def a130s8 : ACode := .test [] a130r2 (.t 4) a130s7 .skip
def a130r9 : List AOper := [
 op (.t 7) .mv [.v 0],
 op (.t 8) (.bin .geq) [.t 7,.c (.int .u32 256)]]
def a130r10 : List AOper := [
 op (.t 9) .mv [.v 0],
 op (.t 10) (.bin .shr) [.t 9,.c (.int .u64 8)],
 op (.v 0) .mv [.t 10]]
def a130s11 : ACode := .reg [] a130r10
def a130r12 : List AOper := [
 op (.t 11) .mv [.v 1],
 op (.t 12) (.bin .add) [.t 11,.c (.int .i64 8)],
 op (.v 1) .mv [.t 12]]
def a130s13 : ACode := .reg [] a130r12
def a130s14 : ACode := .seq a130s11 a130s13
def a130s15 : ACode := .test [] a130r9 (.t 8) a130s14 .skip
def a130r16 : List AOper := [
 op (.t 13) .mv [.v 1],
 op (.t 14) .mv [.v 0],
 op (.t 15) (.conv .u8) [.t 14],
 op (.t 16) .idxS [.c (.str [0,1,2,2,3,3,3,3,4,4,4,4,4,4,4,4,5,5,5,5,5,5,5,5,5,5,5,5,5,5,5,5,6,6,6,6,6,6,6,6,6,6,6,6,6,6,6,6,6,6,6,6,6,6,6,6,6,6,6,6,6,6,6,6,7,7,7,7,7,7,7,7,7,7,7,7,7,7,7,7,7,7,7,7,7,7,7,7,7,7,7,7,7,7,7,7,7,7,7,7,7,7,7,7,7,7,7,7,7,7,7,7,7,7,7,7,7,7,7,7,7,7,7,7,7,7,7,7,8,8,8,8,8,8,8,8,8,8,8,8,8,8,8,8,8,8,8,8,8,8,8,8,8,8,8,8,8,8,8,8,8,8,8,8,8,8,8,8,8,8,8,8,8,8,8,8,8,8,8,8,8,8,8,8,8,8,8,8,8,8,8,8,8,8,8,8,8,8,8,8,8,8,8,8,8,8,8,8,8,8,8,8,8,8,8,8,8,8,8,8,8,8,8,8,8,8,8,8,8,8,8,8,8,8,8,8,8,8,8,8,8,8,8,8,8,8,8,8,8,8,8,8,8,8,8,8]),.t 15],
 op (.t 17) (.conv .i64) [.t 16],
 op (.t 18) (.bin .add) [.t 13,.t 17],
 op (.v 1) .mv [.t 18]]
def a130s17 : ACode := .reg [] a130r16
def a130s18 : ACode := .seq a130s17 .ret
def a130s19 : ACode := .seq a130s15 a130s18
def a130s20 : ACode := .seq a130s8 a130s19
def a130s21 : ACode := .seq a130s1 a130s20
def a130c : ACode :=
  a130s21
def a130 : AFn := { np := 1,nv := 2,results := [.v 1],code := a130c }
def a130v : List Nat := [0,2]
def a130b : List Nat := []

def a131r0 : List AOper := [
 op (.v 1) .mv [.c (.int .i64 0)]]
def a131s1 : ACode := .reg [] a131r0
def a131r2 : List AOper := [
 op (.t 3) .mv [.v 0],
 op (.t 4) (.bin .geq) [.t 3,.c (.int .u64 4294967296)]]
def a131r3 : List AOper := [
 op (.t 5) .mv [.v 0],
 op (.t 6) (.bin .shr) [.t 5,.c (.int .u64 32)],
 op (.v 0) .mv [.t 6]]
def a131s4 : ACode := .reg [] a131r3
def a131r5 : List AOper := [
 op (.v 1) .mv [.c (.int .i64 32)]]
def a131s6 : ACode := .reg [] a131r5
def a131s7 : ACode := .seq a131s4 a131s6
def a131s8 : ACode := .test [] a131r2 (.t 4) a131s7 .skip
def a131r9 : List AOper := [
 op (.t 7) .mv [.v 0],
 op (.t 8) (.bin .geq) [.t 7,.c (.int .u64 65536)]]
def a131r10 : List AOper := [
 op (.t 9) .mv [.v 0],
 op (.t 10) (.bin .shr) [.t 9,.c (.int .u64 16)],
 op (.v 0) .mv [.t 10]]
def a131s11 : ACode := .reg [] a131r10
def a131r12 : List AOper := [
 op (.t 11) .mv [.v 1],
 op (.t 12) (.bin .add) [.t 11,.c (.int .i64 16)],
 op (.v 1) .mv [.t 12]]
def a131s13 : ACode := .reg [] a131r12
def a131s14 : ACode := .seq a131s11 a131s13
def a131s15 : ACode := .test [] a131r9 (.t 8) a131s14 .skip
def a131r16 : List AOper := [
 op (.t 13) .mv [.v 0],
 op (.t 14) (.bin .geq) [.t 13,.c (.int .u64 256)]]
def a131r17 : List AOper := [
 op (.t 15) .mv [.v 0],
 op (.t 16) (.bin .shr) [.t 15,.c (.int .u64 8)],
 op (.v 0) .mv [.t 16]]
def a131s18 : ACode := .reg [] a131r17
def a131r19 : List AOper := [
 op (.t 17) .mv [.v 1],
 op (.t 18) (.bin .add) [.t 17,.c (.int .i64 8)],
 op (.v 1) .mv [.t 18]]
def a131s20 : ACode := .reg [] a131r19
def a131s21 : ACode := .seq a131s18 a131s20
def a131s22 : ACode := .test [] a131r16 (.t 14) a131s21 .skip
def a131r23 : List AOper := [
 op (.t 19) .mv [.v 1],
 op (.t 20) .mv [.v 0],
 op (.t 21) (.conv .u8) [.t 20],
 op (.t 22) .idxS [.c (.str [0,1,2,2,3,3,3,3,4,4,4,4,4,4,4,4,5,5,5,5,5,5,5,5,5,5,5,5,5,5,5,5,6,6,6,6,6,6,6,6,6,6,6,6,6,6,6,6,6,6,6,6,6,6,6,6,6,6,6,6,6,6,6,6,7,7,7,7,7,7,7,7,7,7,7,7,7,7,7,7,7,7,7,7,7,7,7,7,7,7,7,7,7,7,7,7,7,7,7,7,7,7,7,7,7,7,7,7,7,7,7,7,7,7,7,7,7,7,7,7,7,7,7,7,7,7,7,7,8,8,8,8,8,8,8,8,8,8,8,8,8,8,8,8,8,8,8,8,8,8,8,8,8,8,8,8,8,8,8,8,8,8,8,8,8,8,8,8,8,8,8,8,8,8,8,8,8,8,8,8,8,8,8,8,8,8,8,8,8,8,8,8,8,8,8,8,8,8,8,8,8,8,8,8,8,8,8,8,8,8,8,8,8,8,8,8,8,8,8,8,8,8,8,8,8,8,8,8,8,8,8,8,8,8,8,8,8,8,8,8,8,8,8,8,8,8,8,8,8,8,8,8,8,8,8,8]),.t 21],
 op (.t 23) (.conv .i64) [.t 22],
 op (.t 24) (.bin .add) [.t 19,.t 23],
 op (.v 1) .mv [.t 24]]
def a131s24 : ACode := .reg [] a131r23
def a131s25 : ACode := .seq a131s24 .ret
def a131s26 : ACode := .seq a131s22 a131s25
def a131s27 : ACode := .seq a131s15 a131s26
def a131s28 : ACode := .seq a131s8 a131s27
def a131s29 : ACode := .seq a131s1 a131s28
def a131c : ACode :=
  a131s29
def a131 : AFn := { np := 1,nv := 2,results := [.v 1],code := a131c }
def a131v : List Nat := [0,2]
def a131b : List Nat := []

def a132r0 : List AOper := [
 op (.v 2) .mv [.c (.bool false)]]
def a132s1 : ACode := .reg [] a132r0
def a132r2 : List AOper := [
 op (.t 5) .mv [.v 0],
 op (.t 6) .mv [.v 1],
 op (.t 7) (.call 146) [.t 5,.t 6],
 op (.t 8) (.bin .geq) [.t 7,.c (.int .i64 0)],
 op (.v 2) .mv [.t 8]]
def a132s3 : ACode := .reg [] a132r2
def a132s4 : ACode := .seq a132s3 .ret
def a132s5 : ACode := .seq a132s1 a132s4
def a132c : ACode :=
  a132s5
def a132 : AFn := { np := 2,nv := 3,results := [.v 2],code := a132c }
def a132v : List Nat := [0,1,4]
def a132b : List Nat := []

def a133r0 : List AOper := [
 ⟨.bx,.boxV,[.v 0],some 2,none⟩,
 op (.v 3) .mv [.c (.bool false)]]
def a133s1 : ACode := .reg [2] a133r0
def a133r2 : List AOper := [
 op (.t 5) (.fad 2) [.v 1],
 op (.t 6) (.ldSt false 1) [.t 5],
 op (.t 7) (.call 80) [.t 6],
 op (.t 8) (.fad 0) [.l 2],
 ⟨.t 9,.ldLc 2 false 1,[.t 8],some 2,none⟩,
 op (.t 10) (.call 67) [.t 7,.t 9],
 op (.v 4) .mv [.t 10]]
def a133s3 : ACode := .reg [] a133r2
def a133r4 : List AOper := [
 op (.t 11) .mv [.v 4],
 op (.t 12) (.bin .lss) [.t 11,.c (.int .i64 0)],
 op (.t 13) .mv [.t 12],
 ⟨.t 14,.fad 2,[.v 1],none,some (.t 13,false)⟩,
 ⟨.t 15,.ldSt false 1,[.t 14],none,some (.t 13,false)⟩,
 ⟨.t 16,.mv,[.v 4],none,some (.t 13,false)⟩,
 ⟨.t 17,.iad 11,[.t 15,.t 16],none,some (.t 13,false)⟩,
 ⟨.t 18,.fad 2,[.t 17],none,some (.t 13,false)⟩,
 ⟨.t 19,.ldRo true 3,[.t 18],none,some (.t 13,false)⟩,
 ⟨.t 20,.fad 2,[.l 2],none,some (.t 13,false)⟩,
 ⟨.t 21,.ldLc 2 true 3,[.t 20],some 2,some (.t 13,false)⟩,
 ⟨.t 22,.call 134,[.t 19,.t 21],none,some (.t 13,false)⟩,
 ⟨.t 23,.un .not,[.t 22],none,some (.t 13,false)⟩,
 op (.t 24) .pick [.t 13,.c (.bool true),.t 23],
 op (.v 3) .mv [.t 24]]
def a133s5 : ACode := .reg [] a133r4
def a133s6 : ACode := .seq a133s5 .ret
def a133s7 : ACode := .seq a133s3 a133s6
def a133s8 : ACode := .seq a133s1 a133s7
def a133c : ACode :=
  a133s8
def a133 : AFn := { np := 2,nv := 5,results := [.v 3],code := a133c }
def a133v : List Nat := [0,1,2,3,4]
def a133b : List Nat := [2]

def a134r0 : List AOper := [
 ⟨.bx,.boxV,[.v 0],some 2,none⟩,
 ⟨.bx,.boxV,[.v 1],some 3,none⟩,
 op (.v 4) .mv [.c (.bool false)]]
def a134s1 : ACode := .reg [2,3] a134r0
def a134r2 : List AOper := [
 op (.t 5) (.fad 0) [.l 2],
 ⟨.t 6,.ldLc 2 false 1,[.t 5],some 2,none⟩,
 op (.t 7) (.fad 0) [.l 3],
 ⟨.t 8,.ldLc 3 false 1,[.t 7],some 3,none⟩,
 op (.t 9) (.bin .eql) [.t 6,.t 8],
 op (.t 10) .mv [.t 9],
 ⟨.t 11,.fad 2,[.l 2],none,some (.t 10,true)⟩,
 ⟨.t 12,.ldLc 2 false 1,[.t 11],some 2,some (.t 10,true)⟩,
 ⟨.t 13,.fad 2,[.l 3],none,some (.t 10,true)⟩,
 ⟨.t 14,.ldLc 3 false 1,[.t 13],some 3,some (.t 10,true)⟩,
 ⟨.t 15,.binB .eql,[.t 12,.t 14],none,some (.t 10,true)⟩,
 op (.t 16) .pick [.t 10,.t 15,.c (.bool false)],
 op (.t 17) .mv [.t 16],
 ⟨.t 18,.fad 1,[.l 2],none,some (.t 17,true)⟩,
 ⟨.t 19,.ldLc 2 false 1,[.t 18],some 2,some (.t 17,true)⟩,
 ⟨.t 20,.fad 1,[.l 3],none,some (.t 17,true)⟩,
 ⟨.t 21,.ldLc 3 false 1,[.t 20],some 3,some (.t 17,true)⟩,
 ⟨.t 22,.call 163,[.t 19,.t 21,.c (.func 134 [] [])],none,some (.t 17,true)⟩,
 op (.t 23) .pick [.t 17,.t 22,.c (.bool false)],
 op (.v 4) .mv [.t 23]]
def a134s3 : ACode := .reg [] a134r2
def a134s4 : ACode := .seq a134s3 .ret
def a134s5 : ACode := .seq a134s1 a134s4
def a134c : ACode :=
  a134s5
def a134 : AFn := { np := 2,nv := 5,results := [.v 4],code := a134c }
def a134v : List Nat := [0,1,2,3,4]
def a134b : List Nat := [2,3]

def a135r0 : List AOper := [
 ⟨.bx,.boxV,[.v 0],some 1,none⟩,
 op (.v 2) .mv [.c (.bool false)]]
def a135s1 : ACode := .reg [1] a135r0
def a135r2 : List AOper := [
 op (.t 3) (.fad 0) [.l 1],
 ⟨.t 4,.ldLc 1 false 1,[.t 3],some 1,none⟩,
 op (.t 5) (.bin .eql) [.t 4,.c (.str [105,100])],
 op (.t 6) .mv [.t 5],
 ⟨.t 7,.fad 5,[.l 1],none,some (.t 6,true)⟩,
 ⟨.t 8,.ldLc 1 false 1,[.t 7],some 1,some (.t 6,true)⟩,
 ⟨.t 9,.un .not,[.t 8],none,some (.t 6,true)⟩,
 op (.t 10) .pick [.t 6,.t 9,.c (.bool false)],
 op (.t 11) .mv [.t 10],
 ⟨.t 12,.fad 2,[.l 1],none,some (.t 11,true)⟩,
 ⟨.t 13,.ldLc 1 true 3,[.t 12],some 1,some (.t 11,true)⟩,
 ⟨.t 14,(.build [.str [],.list true [],.bool false] [(0,1),(2,1)]),[.c (.str [73,68]),.c (.bool true)],none,some (.t 11,true)⟩,
 ⟨.t 15,.call 134,[.t 13,.t 14],none,some (.t 11,true)⟩,
 op (.t 16) .pick [.t 11,.t 15,.c (.bool false)],
 op (.v 2) .mv [.t 16]]
def a135s3 : ACode := .reg [] a135r2
def a135s4 : ACode := .seq a135s3 .ret
def a135s5 : ACode := .seq a135s1 a135s4
def a135c : ACode :=
  a135s5
def a135 : AFn := { np := 1,nv := 3,results := [.v 2],code := a135c }
def a135v : List Nat := [0,1,2]
def a135b : List Nat := [1]

def a136r0 : List AOper := [
 op (.v 2) .mv [.c (.bool false)]]
def a136s1 : ACode := .reg [] a136r0
def a136r2 : List AOper := [
 op (.t 5) .mv [.v 1],
 op (.t 6) (.call 82) [.t 5],
 op (.t 7) (.un .not) [.t 6],
 op (.t 8) .mv [.t 7],
 ⟨.t 9,.mv,[.v 0],none,some (.t 8,true)⟩,
 ⟨.t 10,.mv,[.v 1],none,some (.t 8,true)⟩,
 ⟨.t 11,.call 106,[.t 9,.t 10,.c (.int .u8 1)],none,some (.t 8,true)⟩,
 ⟨.t 12,.mv,[.t 11],none,some (.t 8,true)⟩,
 ⟨.t 13,.mv,[.v 0],none,some (.t 12,false)⟩,
 ⟨.t 14,.mv,[.v 1],none,some (.t 12,false)⟩,
 ⟨.t 15,.call 106,[.t 13,.t 14,.c (.int .u8 2)],none,some (.t 12,false)⟩,
 ⟨.t 16,.pick,[.t 12,.c (.bool true),.t 15],none,some (.t 8,true)⟩,
 ⟨.t 17,.mv,[.t 16],none,some (.t 8,true)⟩,
 ⟨.t 18,.mv,[.v 0],none,some (.t 17,false)⟩,
 ⟨.t 19,.mv,[.v 1],none,some (.t 17,false)⟩,
 ⟨.t 20,.call 106,[.t 18,.t 19,.c (.int .u8 3)],none,some (.t 17,false)⟩,
 ⟨.t 21,.pick,[.t 17,.c (.bool true),.t 20],none,some (.t 8,true)⟩,
 op (.t 22) .pick [.t 8,.t 21,.c (.bool false)],
 op (.v 2) .mv [.t 22]]
def a136s3 : ACode := .reg [] a136r2
def a136s4 : ACode := .seq a136s3 .ret
def a136s5 : ACode := .seq a136s1 a136s4
def a136c : ACode :=
  a136s5
def a136 : AFn := { np := 2,nv := 3,results := [.v 2],code := a136c }
def a136v : List Nat := [0,1,4]
def a136b : List Nat := []

def a137r0 : List AOper := [
 op (.v 1) .mv [.c (.str [])],
 op (.v 2) .mv [.c (.str [])]]
def a137s1 : ACode := .reg [] a137r0
def a137r2 : List AOper := [
 op (.v 6) (.bslice 1 [[.str []],[.str []],[.str []]] [0,1,2]) [.c (.str [99,114,101,97,116,101]),.c (.str [117,112,100,97,116,101]),.c (.str [100,101,108,101,116,101])],
 op (.v 7) .lenL [.v 6],
 op (.v 8) .mv [.c (.int .i64 0)]]
def a137s3 : ACode := .reg [] a137r2
def a137r4 : List AOper := [
 op (.t 11) (.bin .lss) [.v 8,.v 7]]
def a137s5 : ACode := .test [] a137r4 (.t 11) .skip (.exit 0)
def a137r6 : List AOper := [
 op (.t 12) (.iad 1) [.v 6,.v 8],
 op (.t 13) (.ldRo false 1) [.t 12],
 op (.v 3) .mv [.t 13]]
def a137s7 : ACode := .reg [] a137r6
def a137r8 : List AOper := [
 op (.t 15) .mv [.v 0],
 op (.t 16) .mv [.v 3],
 op (.t 17) (.call 164) [.t 15,.t 16],
 op (.t 14) .mv [.t 17],
 op (.t 18) (.ext 0) [.t 14],
 op (.t 19) (.ext 1) [.t 14],
 op (.v 4) .mv [.t 18],
 op (.v 5) .mv [.t 19]]
def a137s9 : ACode := .reg [] a137r8
def a137r10 : List AOper := [
 op (.t 20) .mv [.v 5]]
def a137r11 : List AOper := [
 op (.t 21) .mv [.v 3],
 op (.t 22) .mv [.v 4],
 op (.v 1) .mv [.t 21],
 op (.v 2) .mv [.t 22]]
def a137s12 : ACode := .reg [] a137r11
def a137s13 : ACode := .seq a137s12 .ret
def a137s14 : ACode := .test [] a137r10 (.t 20) a137s13 .skip
def a137s15 : ACode := .seq a137s9 a137s14
def a137s16 : ACode := .seq a137s7 a137s15
def a137s17 : ACode := .blk 1 a137s16
def a137r18 : List AOper := [
 op (.t 23) (.bin .add) [.v 8,.c (.int .i64 1)],
 op (.v 8) .mv [.t 23]]
def a137s19 : ACode := .reg [] a137r18
def a137s20 : ACode := .seq a137s17 a137s19
def a137s21 : ACode := .seq a137s5 a137s20
def a137s22 : ACode := .loop a137s21
def a137s23 : ACode := .blk 0 a137s22
def a137s24 : ACode := .seq a137s3 a137s23
def a137r25 : List AOper := [
 op (.v 1) .mv [.c (.str [])],
 op (.v 2) .mv [.c (.str [])]]
def a137s26 : ACode := .reg [] a137r25
def a137s27 : ACode := .seq a137s26 .ret
def a137s28 : ACode := .seq a137s24 a137s27
def a137s29 : ACode := .seq a137s1 a137s28
def a137c : ACode :=
  a137s29
def a137 : AFn := { np := 1,nv := 9,results := [.v 1,.v 2],code := a137c }
def a137v : List Nat := [0,2,3,5,6,7,8,9,10]
def a137b : List Nat := []

def a138r0 : List AOper := [
 ⟨.bx,.boxV,[.v 0],some 3,none⟩,
 op (.v 4) .mv [.c (.bool false)]]
def a138s1 : ACode := .reg [3] a138r0
def a138r2 : List AOper := [
 op (.t 6) (.fad 2) [.v 1],
 op (.t 7) (.ldSt false 1) [.t 6],
 op (.t 8) (.call 80) [.t 7],
 op (.t 9) (.fad 0) [.l 3],
 ⟨.t 10,.ldLc 3 false 1,[.t 9],some 3,none⟩,
 op (.t 11) (.call 67) [.t 8,.t 10],
 op (.v 5) .mv [.t 11]]
def a138s3 : ACode := .reg [] a138r2
def a138r4 : List AOper := [
 op (.t 12) .mv [.v 5],
 op (.t 13) (.bin .lss) [.t 12,.c (.int .i64 0)],
 op (.t 14) .mv [.t 13],
 ⟨.t 15,.ldSt false 1,[.v 2],none,some (.t 14,false)⟩,
 ⟨.t 16,.fad 2,[.v 1],none,some (.t 14,false)⟩,
 ⟨.t 17,.ldSt false 1,[.t 16],none,some (.t 14,false)⟩,
 ⟨.t 18,.mv,[.v 5],none,some (.t 14,false)⟩,
 ⟨.t 19,.iad 11,[.t 17,.t 18],none,some (.t 14,false)⟩,
 ⟨.t 20,.fad 2,[.t 19],none,some (.t 14,false)⟩,
 ⟨.t 21,.ldRo true 3,[.t 20],none,some (.t 14,false)⟩,
 ⟨.t 22,.fad 2,[.l 3],none,some (.t 14,false)⟩,
 ⟨.t 23,.ldLc 3 true 3,[.t 22],some 3,some (.t 14,false)⟩,
 ⟨.t 24,.call 139,[.t 15,.t 21,.t 23],none,some (.t 14,false)⟩,
 ⟨.t 25,.un .not,[.t 24],none,some (.t 14,false)⟩,
 op (.t 26) .pick [.t 14,.c (.bool true),.t 25],
 op (.v 4) .mv [.t 26]]
def a138s5 : ACode := .reg [] a138r4
def a138s6 : ACode := .seq a138s5 .ret
def a138s7 : ACode := .seq a138s3 a138s6
def a138s8 : ACode := .seq a138s1 a138s7
def a138c : ACode :=
  a138s8
def a138 : AFn := { np := 3,nv := 6,results := [.v 4],code := a138c }
def a138v : List Nat := [0,1,2,3,4,5]
def a138b : List Nat := [3]

def a139r0 : List AOper := [
 ⟨.bx,.boxV,[.v 1],some 3,none⟩,
 ⟨.bx,.boxV,[.v 2],some 4,none⟩,
 op (.v 5) .mv [.c (.bool false)]]
def a139s1 : ACode := .reg [3,4] a139r0
def a139r2 : List AOper := [
 op (.t 7) (.fad 1) [.l 3],
 ⟨.t 8,.ldLc 3 false 1,[.t 7],some 3,none⟩,
 op (.t 9) .lenL [.t 8],
 op (.t 10) (.fad 1) [.l 4],
 ⟨.t 11,.ldLc 4 false 1,[.t 10],some 4,none⟩,
 op (.t 12) .lenL [.t 11],
 op (.t 13) (.bin .neq) [.t 9,.t 12]]
def a139r3 : List AOper := [
 op (.v 5) .mv [.c (.bool false)]]
def a139s4 : ACode := .reg [] a139r3
def a139s5 : ACode := .seq a139s4 .ret
def a139s6 : ACode := .test [] a139r2 (.t 13) a139s5 .skip
def a139r7 : List AOper := [
 op (.t 14) (.fad 1) [.l 3],
 ⟨.t 15,.ldLc 3 false 1,[.t 14],some 3,none⟩,
 op (.t 16) .lenL [.t 15],
 op (.t 17) (.bin .gtr) [.t 16,.c (.int .i64 0)]]
def a139r8 : List AOper := [
 op (.t 18) .mv [.v 0],
 op (.t 19) (.fad 1) [.l 3],
 ⟨.t 20,.ldLc 3 false 1,[.t 19],some 3,none⟩,
 op (.t 21) (.iad 3) [.t 20,.c (.int .i64 0)],
 op (.t 22) (.ldRo true 3) [.t 21],
 op (.t 23) (.fad 1) [.l 4],
 ⟨.t 24,.ldLc 4 false 1,[.t 23],some 4,none⟩,
 op (.t 25) (.iad 3) [.t 24,.c (.int .i64 0)],
 op (.t 26) (.ldRo true 3) [.t 25],
 op (.t 27) (.call 139) [.t 18,.t 22,.t 26],
 op (.v 5) .mv [.t 27]]
def a139s9 : ACode := .reg [] a139r8
def a139s10 : ACode := .seq a139s9 .ret
def a139s11 : ACode := .test [] a139r7 (.t 17) a139s10 .skip
def a139r12 : List AOper := [
 op (.t 28) (.fad 0) [.l 3],
 ⟨.t 29,.ldLc 3 false 1,[.t 28],some 3,none⟩,
 op (.t 30) (.fad 0) [.l 4],
 ⟨.t 31,.ldLc 4 false 1,[.t 30],some 4,none⟩,
 op (.t 32) (.bin .eql) [.t 29,.t 31],
 op (.t 33) .mv [.t 32],
 ⟨.t 34,.mv,[.v 0],none,some (.t 33,false)⟩,
 ⟨.t 35,.fad 0,[.l 3],none,some (.t 33,false)⟩,
 ⟨.t 36,.ldLc 3 false 1,[.t 35],some 3,some (.t 33,false)⟩,
 ⟨.t 37,.call 136,[.t 34,.t 36],none,some (.t 33,false)⟩,
 ⟨.t 38,.mv,[.t 37],none,some (.t 33,false)⟩,
 ⟨.t 39,.fad 0,[.l 4],none,some (.t 38,true)⟩,
 ⟨.t 40,.ldLc 4 false 1,[.t 39],some 4,some (.t 38,true)⟩,
 ⟨.t 41,.bin .eql,[.t 40,.c (.str [73,68])],none,some (.t 38,true)⟩,
 ⟨.t 42,.pick,[.t 38,.t 41,.c (.bool false)],none,some (.t 33,false)⟩,
 op (.t 43) .pick [.t 33,.c (.bool true),.t 42],
 op (.v 5) .mv [.t 43]]
def a139s13 : ACode := .reg [] a139r12
def a139s14 : ACode := .seq a139s13 .ret
def a139s15 : ACode := .seq a139s11 a139s14
def a139s16 : ACode := .seq a139s6 a139s15
def a139s17 : ACode := .seq a139s1 a139s16
def a139c : ACode :=
  a139s17
def a139 : AFn := { np := 3,nv := 6,results := [.v 5],code := a139c }
def a139v : List Nat := [0,1,2,4,5,6]
def a139b : List Nat := [3,4]

def a140r0 : List AOper := [
 op (.v 2) .mv [.c (.bool false)]]
def a140s1 : ACode := .reg [] a140r0
def a140r2 : List AOper := [
 op (.t 5) .mv [.v 1],
 op (.t 6) (.call 47) [.t 5],
 op (.t 7) .mv [.t 6],
 ⟨.t 8,.mv,[.v 0],none,some (.t 7,false)⟩,
 ⟨.t 9,.mv,[.v 1],none,some (.t 7,false)⟩,
 ⟨.t 10,.call 51,[.t 8,.t 9],none,some (.t 7,false)⟩,
 ⟨.t 11,.fld 0 1 false,[.t 10],none,some (.t 7,false)⟩,
 ⟨.t 12,.bin .eql,[.t 11,.c (.int .u8 4)],none,some (.t 7,false)⟩,
 op (.t 13) .pick [.t 7,.c (.bool true),.t 12],
 op (.v 2) .mv [.t 13]]
def a140s3 : ACode := .reg [] a140r2
def a140s4 : ACode := .seq a140s3 .ret
def a140s5 : ACode := .seq a140s1 a140s4
def a140c : ACode :=
  a140s5
def a140 : AFn := { np := 2,nv := 3,results := [.v 2],code := a140c }
def a140v : List Nat := [0,1,4]
def a140b : List Nat := []

def a141r0 : List AOper := [
 ⟨.bx,.boxV,[.v 1],some 4,none⟩,
 ⟨.bx,.boxV,[.v 2],some 5,none⟩,
 op (.v 6) .mv [.c (.bool false)]]
def a141s1 : ACode := .reg [4,5] a141r0
def a141r2 : List AOper := [
 op (.t 14) (.fad 0) [.l 5],
 ⟨.t 15,.ldLc 5 false 1,[.t 14],some 5,none⟩,
 op (.t 16) (.bin .eql) [.t 15,.c (.int .u8 7)],
 op (.t 17) .mv [.t 16],
 ⟨.t 18,.mv,[.v 3],none,some (.t 17,true)⟩,
 op (.t 19) .pick [.t 17,.t 18,.c (.bool false)]]
def a141r3 : List AOper := [
 op (.v 6) .mv [.c (.bool true)]]
def a141s4 : ACode := .reg [] a141r3
def a141s5 : ACode := .seq a141s4 .ret
def a141s6 : ACode := .test [] a141r2 (.t 19) a141s5 .skip
def a141r7 : List AOper := [
 op (.t 20) (.fad 0) [.l 5],
 ⟨.t 21,.ldLc 5 false 1,[.t 20],some 5,none⟩,
 op (.t 22) (.bin .eql) [.t 21,.c (.int .u8 0)]]
def a141r8 : List AOper := [
 op (.t 23) (.fad 2) [.l 4],
 ⟨.t 24,.ldLc 4 false 1,[.t 23],some 4,none⟩,
 op (.t 25) (.un .not) [.t 24],
 op (.v 6) .mv [.t 25]]
def a141s9 : ACode := .reg [] a141r8
def a141s10 : ACode := .seq a141s9 .ret
def a141s11 : ACode := .test [] a141r7 (.t 22) a141s10 .skip
def a141r12 : List AOper := [
 op (.t 26) (.fad 1) [.l 4],
 ⟨.t 27,.ldLc 4 false 1,[.t 26],some 4,none⟩,
 op (.t 28) .lenL [.t 27],
 op (.t 29) (.bin .gtr) [.t 28,.c (.int .i64 0)]]
def a141r13 : List AOper := [
 op (.t 30) (.fad 0) [.l 5],
 ⟨.t 31,.ldLc 5 false 1,[.t 30],some 5,none⟩,
 op (.t 32) (.bin .neq) [.t 31,.c (.int .u8 5)]]
def a141r14 : List AOper := [
 op (.t 33) .mv [.v 0],
 op (.t 34) (.fad 1) [.l 4],
 ⟨.t 35,.ldLc 4 false 1,[.t 34],some 4,none⟩,
 op (.t 36) (.iad 3) [.t 35,.c (.int .i64 0)],
 op (.t 37) (.ldRo true 3) [.t 36],
 ⟨.t 38,.ldLc 5 true 5,[.l 5],some 5,none⟩,
 op (.t 39) .mv [.v 3],
 op (.t 40) (.call 141) [.t 33,.t 37,.t 38,.t 39],
 op (.v 6) .mv [.t 40]]
def a141s15 : ACode := .reg [] a141r14
def a141s16 : ACode := .seq a141s15 .ret
def a141s17 : ACode := .test [] a141r13 (.t 32) a141s16 .skip
def a141r18 : List AOper := [
 op (.v 7) .mv [.c (.int .i64 0)]]
def a141s19 : ACode := .reg [] a141r18
def a141r20 : List AOper := [
 op (.t 41) .mv [.v 7],
 op (.t 42) (.fad 4) [.l 5],
 ⟨.t 43,.ldLc 5 false 1,[.t 42],some 5,none⟩,
 op (.t 44) .lenL [.t 43],
 op (.t 45) (.bin .lss) [.t 41,.t 44]]
def a141s21 : ACode := .test [] a141r20 (.t 45) .skip (.exit 0)
def a141r22 : List AOper := [
 op (.t 48) .mv [.v 0],
 op (.t 49) (.fad 1) [.l 4],
 ⟨.t 50,.ldLc 4 false 1,[.t 49],some 4,none⟩,
 op (.t 51) (.iad 3) [.t 50,.c (.int .i64 0)],
 op (.t 52) (.ldRo true 3) [.t 51],
 op (.t 53) (.fad 4) [.l 5],
 ⟨.t 54,.ldLc 5 false 1,[.t 53],some 5,none⟩,
 op (.t 55) .mv [.v 7],
 op (.t 56) (.iad 5) [.t 54,.t 55],
 op (.t 57) (.ldAn true 5) [.t 56],
 op (.t 58) .mv [.v 3],
 op (.t 59) (.call 141) [.t 48,.t 52,.t 57,.t 58],
 op (.t 60) (.un .not) [.t 59]]
def a141r23 : List AOper := [
 op (.v 6) .mv [.c (.bool false)]]
def a141s24 : ACode := .reg [] a141r23
def a141s25 : ACode := .seq a141s24 .ret
def a141s26 : ACode := .test [] a141r22 (.t 60) a141s25 .skip
def a141s27 : ACode := .blk 1 a141s26
def a141r28 : List AOper := [
 op (.t 46) .mv [.v 7],
 op (.t 47) (.bin .add) [.t 46,.c (.int .i64 1)],
 op (.v 7) .mv [.t 47]]
def a141s29 : ACode := .reg [] a141r28
def a141s30 : ACode := .seq a141s27 a141s29
def a141s31 : ACode := .seq a141s21 a141s30
def a141s32 : ACode := .loop a141s31
def a141s33 : ACode := .blk 0 a141s32
def a141s34 : ACode := .seq a141s19 a141s33
def a141r35 : List AOper := [
 op (.v 6) .mv [.c (.bool true)]]
def a141s36 : ACode := .reg [] a141r35
def a141s37 : ACode := .seq a141s36 .ret
def a141s38 : ACode := .seq a141s34 a141s37
def a141s39 : ACode := .seq a141s17 a141s38
def a141s40 : ACode := .test [] a141r12 (.t 29) a141s39 .skip
def a141r41 : List AOper := [
 op (.t 61) (.fad 0) [.l 4],
 ⟨.v 12,.ldLc 4 false 1,[.t 61],some 4,none⟩]
def a141s42 : ACode := .reg [] a141r41
def a141r43 : List AOper := [
 op (.t 64) (.bin .eql) [.v 12,.c (.str [73,110,116])],
 op (.t 63) .mv [.t 64]]
def a141r44 : List AOper := [
 op (.t 65) (.fad 0) [.l 5],
 ⟨.t 66,.ldLc 5 false 1,[.t 65],some 5,none⟩,
 op (.t 67) (.bin .eql) [.t 66,.c (.int .u8 1)],
 op (.t 68) .mv [.t 67],
 ⟨.t 69,.fad 1,[.l 5],none,some (.t 68,true)⟩,
 ⟨.t 70,.ldLc 5 false 1,[.t 69],some 5,some (.t 68,true)⟩,
 ⟨.t 71,.bin .geq,[.t 70,.c (.int .i64 (-2147483648))],none,some (.t 68,true)⟩,
 op (.t 72) .pick [.t 68,.t 71,.c (.bool false)],
 op (.t 73) .mv [.t 72],
 ⟨.t 74,.fad 1,[.l 5],none,some (.t 73,true)⟩,
 ⟨.t 75,.ldLc 5 false 1,[.t 74],some 5,some (.t 73,true)⟩,
 ⟨.t 76,.bin .leq,[.t 75,.c (.int .i64 2147483647)],none,some (.t 73,true)⟩,
 op (.t 77) .pick [.t 73,.t 76,.c (.bool false)],
 op (.v 6) .mv [.t 77]]
def a141s45 : ACode := .reg [] a141r44
def a141s46 : ACode := .seq a141s45 .ret
def a141r47 : List AOper := [
 op (.t 79) (.bin .eql) [.v 12,.c (.str [83,116,114,105,110,103])],
 op (.t 78) .mv [.t 79]]
def a141r48 : List AOper := [
 op (.t 80) (.fad 0) [.l 5],
 ⟨.t 81,.ldLc 5 false 1,[.t 80],some 5,none⟩,
 op (.t 82) (.bin .eql) [.t 81,.c (.int .u8 2)],
 op (.v 6) .mv [.t 82]]
def a141s49 : ACode := .reg [] a141r48
def a141s50 : ACode := .seq a141s49 .ret
def a141r51 : List AOper := [
 op (.t 84) (.bin .eql) [.v 12,.c (.str [66,111,111,108,101,97,110])],
 op (.t 83) .mv [.t 84]]
def a141r52 : List AOper := [
 op (.t 85) (.fad 0) [.l 5],
 ⟨.t 86,.ldLc 5 false 1,[.t 85],some 5,none⟩,
 op (.t 87) (.bin .eql) [.t 86,.c (.int .u8 3)],
 op (.v 6) .mv [.t 87]]
def a141s53 : ACode := .reg [] a141r52
def a141s54 : ACode := .seq a141s53 .ret
def a141r55 : List AOper := [
 op (.t 89) (.bin .eql) [.v 12,.c (.str [73,68])],
 op (.t 88) .mv [.t 89]]
def a141r56 : List AOper := [
 op (.t 90) (.fad 0) [.l 5],
 ⟨.t 91,.ldLc 5 false 1,[.t 90],some 5,none⟩,
 op (.t 92) (.bin .eql) [.t 91,.c (.int .u8 2)],
 op (.t 93) .mv [.t 92],
 ⟨.t 94,.fad 0,[.l 5],none,some (.t 93,false)⟩,
 ⟨.t 95,.ldLc 5 false 1,[.t 94],some 5,some (.t 93,false)⟩,
 ⟨.t 96,.bin .eql,[.t 95,.c (.int .u8 1)],none,some (.t 93,false)⟩,
 op (.t 97) .pick [.t 93,.c (.bool true),.t 96],
 op (.v 6) .mv [.t 97]]
def a141s57 : ACode := .reg [] a141r56
def a141s58 : ACode := .seq a141s57 .ret
def a141s59 : ACode := .test [] a141r55 (.t 88) a141s58 .skip
def a141s60 : ACode := .test [] a141r51 (.t 83) a141s54 a141s59
def a141s61 : ACode := .test [] a141r47 (.t 78) a141s50 a141s60
def a141s62 : ACode := .test [] a141r43 (.t 63) a141s46 a141s61
def a141s63 : ACode := .blk 2 a141s62
def a141s64 : ACode := .seq a141s42 a141s63
def a141r65 : List AOper := [
 op (.t 98) .mv [.v 0],
 op (.t 99) (.fad 0) [.l 4],
 ⟨.t 100,.ldLc 4 false 1,[.t 99],some 4,none⟩,
 op (.t 101) (.call 51) [.t 98,.t 100],
 ⟨.bx,.alloc [.int .u8 0,.str [],.list true [],.list true []],[],some 8,none⟩,
 ⟨.none,.stLc 8 4,[.l 8,.ts 101],some 8,none⟩]
def a141s66 : ACode := .reg [8] a141r65
def a141r67 : List AOper := [
 op (.t 102) (.fad 0) [.l 8],
 ⟨.t 103,.ldLc 8 false 1,[.t 102],some 8,none⟩,
 op (.t 104) (.bin .eql) [.t 103,.c (.int .u8 4)]]
def a141r68 : List AOper := [
 op (.t 105) (.fad 0) [.l 5],
 ⟨.t 106,.ldLc 5 false 1,[.t 105],some 5,none⟩,
 op (.t 107) (.bin .eql) [.t 106,.c (.int .u8 4)],
 op (.t 108) .mv [.t 107],
 ⟨.t 109,.fad 3,[.l 8],none,some (.t 108,true)⟩,
 ⟨.t 110,.ldLc 8 false 1,[.t 109],some 8,some (.t 108,true)⟩,
 ⟨.t 111,.fad 2,[.l 5],none,some (.t 108,true)⟩,
 ⟨.t 112,.ldLc 5 false 1,[.t 111],some 5,some (.t 108,true)⟩,
 ⟨.t 113,.call 48,[.t 110,.t 112],none,some (.t 108,true)⟩,
 op (.t 114) .pick [.t 108,.t 113,.c (.bool false)],
 op (.v 6) .mv [.t 114]]
def a141s69 : ACode := .reg [] a141r68
def a141s70 : ACode := .seq a141s69 .ret
def a141s71 : ACode := .test [] a141r67 (.t 104) a141s70 .skip
def a141r72 : List AOper := [
 op (.t 115) (.fad 0) [.l 8],
 ⟨.t 116,.ldLc 8 false 1,[.t 115],some 8,none⟩,
 op (.t 117) (.bin .neq) [.t 116,.c (.int .u8 5)],
 op (.t 118) .mv [.t 117],
 ⟨.t 119,.fad 0,[.l 5],none,some (.t 118,false)⟩,
 ⟨.t 120,.ldLc 5 false 1,[.t 119],some 5,some (.t 118,false)⟩,
 ⟨.t 121,.bin .neq,[.t 120,.c (.int .u8 6)],none,some (.t 118,false)⟩,
 op (.t 122) .pick [.t 118,.c (.bool true),.t 121]]
def a141r73 : List AOper := [
 op (.v 6) .mv [.c (.bool false)]]
def a141s74 : ACode := .reg [] a141r73
def a141s75 : ACode := .seq a141s74 .ret
def a141s76 : ACode := .test [] a141r72 (.t 122) a141s75 .skip
def a141r77 : List AOper := [
 op (.v 9) .mv [.c (.int .i64 0)]]
def a141s78 : ACode := .reg [] a141r77
def a141r79 : List AOper := [
 op (.t 123) .mv [.v 9],
 op (.t 124) (.fad 3) [.l 5],
 ⟨.t 125,.ldLc 5 false 1,[.t 124],some 5,none⟩,
 op (.t 126) .lenL [.t 125],
 op (.t 127) (.bin .lss) [.t 123,.t 126]]
def a141s80 : ACode := .test [] a141r79 (.t 127) .skip (.exit 3)
def a141r81 : List AOper := [
 op (.t 130) (.fad 2) [.l 8],
 ⟨.t 131,.ldLc 8 false 1,[.t 130],some 8,none⟩,
 op (.t 132) (.fad 3) [.l 5],
 ⟨.t 133,.ldLc 5 false 1,[.t 132],some 5,none⟩,
 op (.t 134) .mv [.v 9],
 op (.t 135) (.iad 1) [.t 133,.t 134],
 op (.t 136) (.ldRo false 1) [.t 135],
 op (.t 137) (.call 91) [.t 131,.t 136],
 op (.v 10) .mv [.t 137]]
def a141s82 : ACode := .reg [] a141r81
def a141r83 : List AOper := [
 op (.t 138) .mv [.v 10],
 op (.t 139) (.bin .lss) [.t 138,.c (.int .i64 0)],
 op (.t 140) .mv [.t 139],
 ⟨.t 141,.fad 3,[.l 5],none,some (.t 140,false)⟩,
 ⟨.t 142,.ldLc 5 false 1,[.t 141],some 5,some (.t 140,false)⟩,
 ⟨.t 143,.mv,[.v 9],none,some (.t 140,false)⟩,
 ⟨.t 144,.slL 1 false true,[.t 142,.t 143],none,some (.t 140,false)⟩,
 ⟨.t 145,.fad 3,[.l 5],none,some (.t 140,false)⟩,
 ⟨.t 146,.ldLc 5 false 1,[.t 145],some 5,some (.t 140,false)⟩,
 ⟨.t 147,.mv,[.v 9],none,some (.t 140,false)⟩,
 ⟨.t 148,.iad 1,[.t 146,.t 147],none,some (.t 140,false)⟩,
 ⟨.t 149,.ldRo false 1,[.t 148],none,some (.t 140,false)⟩,
 ⟨.t 150,.call 48,[.t 144,.t 149],none,some (.t 140,false)⟩,
 op (.t 151) .pick [.t 140,.c (.bool true),.t 150],
 op (.t 152) .mv [.t 151],
 ⟨.t 153,.mv,[.v 0],none,some (.t 152,false)⟩,
 ⟨.t 154,.fad 2,[.l 8],none,some (.t 152,false)⟩,
 ⟨.t 155,.ldLc 8 false 1,[.t 154],some 8,some (.t 152,false)⟩,
 ⟨.t 156,.mv,[.v 10],none,some (.t 152,false)⟩,
 ⟨.t 157,.iad 11,[.t 155,.t 156],none,some (.t 152,false)⟩,
 ⟨.t 158,.fad 2,[.t 157],none,some (.t 152,false)⟩,
 ⟨.t 159,.ldRo true 3,[.t 158],none,some (.t 152,false)⟩,
 ⟨.t 160,.fad 4,[.l 5],none,some (.t 152,false)⟩,
 ⟨.t 161,.ldLc 5 false 1,[.t 160],some 5,some (.t 152,false)⟩,
 ⟨.t 162,.mv,[.v 9],none,some (.t 152,false)⟩,
 ⟨.t 163,.iad 5,[.t 161,.t 162],none,some (.t 152,false)⟩,
 ⟨.t 164,.ldAn true 5,[.t 163],none,some (.t 152,false)⟩,
 ⟨.t 165,.mv,[.v 3],none,some (.t 152,false)⟩,
 ⟨.t 166,.call 141,[.t 153,.t 159,.t 164,.t 165],none,some (.t 152,false)⟩,
 ⟨.t 167,.un .not,[.t 166],none,some (.t 152,false)⟩,
 op (.t 168) .pick [.t 152,.c (.bool true),.t 167]]
def a141r84 : List AOper := [
 op (.v 6) .mv [.c (.bool false)]]
def a141s85 : ACode := .reg [] a141r84
def a141s86 : ACode := .seq a141s85 .ret
def a141s87 : ACode := .test [] a141r83 (.t 168) a141s86 .skip
def a141s88 : ACode := .seq a141s82 a141s87
def a141s89 : ACode := .blk 4 a141s88
def a141r90 : List AOper := [
 op (.t 128) .mv [.v 9],
 op (.t 129) (.bin .add) [.t 128,.c (.int .i64 1)],
 op (.v 9) .mv [.t 129]]
def a141s91 : ACode := .reg [] a141r90
def a141s92 : ACode := .seq a141s89 a141s91
def a141s93 : ACode := .seq a141s80 a141s92
def a141s94 : ACode := .loop a141s93
def a141s95 : ACode := .blk 3 a141s94
def a141s96 : ACode := .seq a141s78 a141s95
def a141r97 : List AOper := [
 op (.v 11) .mv [.c (.int .i64 0)]]
def a141s98 : ACode := .reg [] a141r97
def a141r99 : List AOper := [
 op (.t 169) .mv [.v 11],
 op (.t 170) (.fad 2) [.l 8],
 ⟨.t 171,.ldLc 8 false 1,[.t 170],some 8,none⟩,
 op (.t 172) .lenL [.t 171],
 op (.t 173) (.bin .lss) [.t 169,.t 172]]
def a141s100 : ACode := .test [] a141r99 (.t 173) .skip (.exit 5)
def a141r101 : List AOper := [
 op (.t 176) (.fad 2) [.l 8],
 ⟨.t 177,.ldLc 8 false 1,[.t 176],some 8,none⟩,
 op (.t 178) .mv [.v 11],
 op (.t 179) (.iad 11) [.t 177,.t 178],
 op (.t 180) (.fad 2) [.t 179],
 op (.t 181) (.fad 2) [.t 180],
 op (.t 182) (.ldRo false 1) [.t 181],
 op (.t 183) .mv [.t 182],
 ⟨.t 184,.fad 2,[.l 8],none,some (.t 183,true)⟩,
 ⟨.t 185,.ldLc 8 false 1,[.t 184],some 8,some (.t 183,true)⟩,
 ⟨.t 186,.mv,[.v 11],none,some (.t 183,true)⟩,
 ⟨.t 187,.iad 11,[.t 185,.t 186],none,some (.t 183,true)⟩,
 ⟨.t 188,.fad 5,[.t 187],none,some (.t 183,true)⟩,
 ⟨.t 189,.ldRo false 1,[.t 188],none,some (.t 183,true)⟩,
 ⟨.t 190,.un .not,[.t 189],none,some (.t 183,true)⟩,
 op (.t 191) .pick [.t 183,.t 190,.c (.bool false)],
 op (.t 192) .mv [.t 191],
 ⟨.t 193,.fad 3,[.l 5],none,some (.t 192,true)⟩,
 ⟨.t 194,.ldLc 5 false 1,[.t 193],some 5,some (.t 192,true)⟩,
 ⟨.t 195,.fad 2,[.l 8],none,some (.t 192,true)⟩,
 ⟨.t 196,.ldLc 8 false 1,[.t 195],some 8,some (.t 192,true)⟩,
 ⟨.t 197,.mv,[.v 11],none,some (.t 192,true)⟩,
 ⟨.t 198,.iad 11,[.t 196,.t 197],none,some (.t 192,true)⟩,
 ⟨.t 199,.fad 0,[.t 198],none,some (.t 192,true)⟩,
 ⟨.t 200,.ldRo false 1,[.t 199],none,some (.t 192,true)⟩,
 ⟨.t 201,.call 48,[.t 194,.t 200],none,some (.t 192,true)⟩,
 ⟨.t 202,.un .not,[.t 201],none,some (.t 192,true)⟩,
 op (.t 203) .pick [.t 192,.t 202,.c (.bool false)]]
def a141r102 : List AOper := [
 op (.v 6) .mv [.c (.bool false)]]
def a141s103 : ACode := .reg [] a141r102
def a141s104 : ACode := .seq a141s103 .ret
def a141s105 : ACode := .test [] a141r101 (.t 203) a141s104 .skip
def a141s106 : ACode := .blk 6 a141s105
def a141r107 : List AOper := [
 op (.t 174) .mv [.v 11],
 op (.t 175) (.bin .add) [.t 174,.c (.int .i64 1)],
 op (.v 11) .mv [.t 175]]
def a141s108 : ACode := .reg [] a141r107
def a141s109 : ACode := .seq a141s106 a141s108
def a141s110 : ACode := .seq a141s100 a141s109
def a141s111 : ACode := .loop a141s110
def a141s112 : ACode := .blk 5 a141s111
def a141s113 : ACode := .seq a141s98 a141s112
def a141r114 : List AOper := [
 op (.v 6) .mv [.c (.bool true)]]
def a141s115 : ACode := .reg [] a141r114
def a141s116 : ACode := .seq a141s115 .ret
def a141s117 : ACode := .seq a141s113 a141s116
def a141s118 : ACode := .seq a141s96 a141s117
def a141s119 : ACode := .seq a141s76 a141s118
def a141s120 : ACode := .seq a141s71 a141s119
def a141s121 : ACode := .seq a141s66 a141s120
def a141s122 : ACode := .seq a141s64 a141s121
def a141s123 : ACode := .seq a141s40 a141s122
def a141s124 : ACode := .seq a141s11 a141s123
def a141s125 : ACode := .seq a141s6 a141s124
def a141s126 : ACode := .seq a141s1 a141s125
def a141c : ACode :=
  a141s126
def a141 : AFn := { np := 4,nv := 13,results := [.v 6],code := a141c }
def a141v : List Nat := [0,1,2,3,5,6,8,9,10,11,12,13,62]
def a141b : List Nat := [4,5,8]

def a142r0 : List AOper := [
 op (.v 1) .mv [.c (.str [])],
 op (.v 2) .mv [.c (.str [])]]
def a142s1 : ACode := .reg [] a142r0
def a142r2 : List AOper := [
 op (.t 6) (.bslice 1 [[.str []],[.str []],[.str []]] [0,1,2]) [.c (.str [99,114,101,97,116,101]),.c (.str [117,112,100,97,116,101]),.c (.str [100,101,108,101,116,101])],
 op (.v 3) .mv [.ts 6]]
def a142s3 : ACode := .reg [] a142r2
def a142r4 : List AOper := [
 op (.v 4) .mv [.c (.int .i64 0)]]
def a142s5 : ACode := .reg [] a142r4
def a142r6 : List AOper := [
 op (.t 7) .mv [.v 4],
 op (.t 8) (.bin .lss) [.t 7,.c (.int .i64 3)]]
def a142s7 : ACode := .test [] a142r6 (.t 8) .skip (.exit 0)
def a142r8 : List AOper := [
 op (.t 11) .mv [.v 0],
 op (.t 12) .mv [.v 3],
 op (.t 13) .mv [.v 4],
 op (.t 14) (.iad 1) [.t 12,.t 13],
 op (.t 15) (.ldRo false 1) [.t 14],
 op (.t 16) (.call 49) [.t 11,.t 15]]
def a142r9 : List AOper := [
 op (.t 17) .mv [.v 3],
 op (.t 18) .mv [.v 4],
 op (.t 19) (.iad 1) [.t 17,.t 18],
 op (.t 20) (.ldRo false 1) [.t 19],
 op (.t 21) .mv [.v 0],
 op (.t 22) (.slS true false) [.t 21,.c (.int .i64 6)],
 op (.v 1) .mv [.t 20],
 op (.v 2) .mv [.t 22]]
def a142s10 : ACode := .reg [] a142r9
def a142s11 : ACode := .seq a142s10 .ret
def a142s12 : ACode := .test [] a142r8 (.t 16) a142s11 .skip
def a142s13 : ACode := .blk 1 a142s12
def a142r14 : List AOper := [
 op (.t 9) .mv [.v 4],
 op (.t 10) (.bin .add) [.t 9,.c (.int .i64 1)],
 op (.v 4) .mv [.t 10]]
def a142s15 : ACode := .reg [] a142r14
def a142s16 : ACode := .seq a142s13 a142s15
def a142s17 : ACode := .seq a142s7 a142s16
def a142s18 : ACode := .loop a142s17
def a142s19 : ACode := .blk 0 a142s18
def a142s20 : ACode := .seq a142s5 a142s19
def a142r21 : List AOper := [
 op (.v 1) .mv [.c (.str [])],
 op (.v 2) .mv [.c (.str [])]]
def a142s22 : ACode := .reg [] a142r21
def a142s23 : ACode := .seq a142s22 .ret
def a142s24 : ACode := .seq a142s20 a142s23
def a142s25 : ACode := .seq a142s3 a142s24
def a142s26 : ACode := .seq a142s1 a142s25
def a142c : ACode :=
  a142s26
def a142 : AFn := { np := 1,nv := 5,results := [.v 1,.v 2],code := a142c }
def a142v : List Nat := [0,2,3,4,5]
def a142b : List Nat := []

def a143r0 : List AOper := [
 ⟨.bx,.boxV,[.v 1],some 3,none⟩,
 ⟨.bx,.boxV,[.v 2],some 4,none⟩,
 op (.v 5) .mv [.c (.bool false)]]
def a143s1 : ACode := .reg [3,4] a143r0
def a143r2 : List AOper := [
 op (.t 7) (.fad 1) [.l 3],
 ⟨.t 8,.ldLc 3 false 1,[.t 7],some 3,none⟩,
 op (.t 9) .lenL [.t 8],
 op (.t 10) (.bin .gtr) [.t 9,.c (.int .i64 0)],
 op (.t 11) .mv [.t 10],
 ⟨.t 12,.fad 1,[.l 4],none,some (.t 11,false)⟩,
 ⟨.t 13,.ldLc 4 false 1,[.t 12],some 4,some (.t 11,false)⟩,
 ⟨.t 14,.lenL,[.t 13],none,some (.t 11,false)⟩,
 ⟨.t 15,.bin .gtr,[.t 14,.c (.int .i64 0)],none,some (.t 11,false)⟩,
 op (.t 16) .pick [.t 11,.c (.bool true),.t 15]]
def a143r3 : List AOper := [
 op (.t 17) (.fad 1) [.l 3],
 ⟨.t 18,.ldLc 3 false 1,[.t 17],some 3,none⟩,
 op (.t 19) .lenL [.t 18],
 op (.t 20) (.bin .gtr) [.t 19,.c (.int .i64 0)],
 op (.t 21) .mv [.t 20],
 ⟨.t 22,.fad 1,[.l 4],none,some (.t 21,true)⟩,
 ⟨.t 23,.ldLc 4 false 1,[.t 22],some 4,some (.t 21,true)⟩,
 ⟨.t 24,.lenL,[.t 23],none,some (.t 21,true)⟩,
 ⟨.t 25,.bin .gtr,[.t 24,.c (.int .i64 0)],none,some (.t 21,true)⟩,
 op (.t 26) .pick [.t 21,.t 25,.c (.bool false)],
 op (.t 27) .mv [.t 26],
 ⟨.t 28,.mv,[.v 0],none,some (.t 27,true)⟩,
 ⟨.t 29,.fad 1,[.l 3],none,some (.t 27,true)⟩,
 ⟨.t 30,.ldLc 3 false 1,[.t 29],some 3,some (.t 27,true)⟩,
 ⟨.t 31,.iad 3,[.t 30,.c (.int .i64 0)],none,some (.t 27,true)⟩,
 ⟨.t 32,.ldRo true 3,[.t 31],none,some (.t 27,true)⟩,
 ⟨.t 33,.fad 1,[.l 4],none,some (.t 27,true)⟩,
 ⟨.t 34,.ldLc 4 false 1,[.t 33],some 4,some (.t 27,true)⟩,
 ⟨.t 35,.iad 3,[.t 34,.c (.int .i64 0)],none,some (.t 27,true)⟩,
 ⟨.t 36,.ldRo true 3,[.t 35],none,some (.t 27,true)⟩,
 ⟨.t 37,.call 143,[.t 28,.t 32,.t 36],none,some (.t 27,true)⟩,
 op (.t 38) .pick [.t 27,.t 37,.c (.bool false)],
 op (.v 5) .mv [.t 38]]
def a143s4 : ACode := .reg [] a143r3
def a143s5 : ACode := .seq a143s4 .ret
def a143s6 : ACode := .test [] a143r2 (.t 16) a143s5 .skip
def a143r7 : List AOper := [
 op (.t 39) (.fad 0) [.l 3],
 ⟨.t 40,.ldLc 3 false 1,[.t 39],some 3,none⟩,
 op (.t 41) (.fad 0) [.l 4],
 ⟨.t 42,.ldLc 4 false 1,[.t 41],some 4,none⟩,
 op (.t 43) (.bin .eql) [.t 40,.t 42],
 op (.t 44) .mv [.t 43],
 ⟨.t 45,.fad 0,[.l 4],none,some (.t 44,false)⟩,
 ⟨.t 46,.ldLc 4 false 1,[.t 45],some 4,some (.t 44,false)⟩,
 ⟨.t 47,.bin .eql,[.t 46,.c (.str [73,68])],none,some (.t 44,false)⟩,
 ⟨.t 48,.mv,[.t 47],none,some (.t 44,false)⟩,
 ⟨.t 49,.mv,[.v 0],none,some (.t 48,true)⟩,
 ⟨.t 50,.fad 0,[.l 3],none,some (.t 48,true)⟩,
 ⟨.t 51,.ldLc 3 false 1,[.t 50],some 3,some (.t 48,true)⟩,
 ⟨.t 52,.call 94,[.t 49,.t 51],none,some (.t 48,true)⟩,
 ⟨.t 53,.pick,[.t 48,.t 52,.c (.bool false)],none,some (.t 44,false)⟩,
 op (.t 54) .pick [.t 44,.c (.bool true),.t 53],
 op (.v 5) .mv [.t 54]]
def a143s8 : ACode := .reg [] a143r7
def a143s9 : ACode := .seq a143s8 .ret
def a143s10 : ACode := .seq a143s6 a143s9
def a143s11 : ACode := .seq a143s1 a143s10
def a143c : ACode :=
  a143s11
def a143 : AFn := { np := 3,nv := 6,results := [.v 5],code := a143c }
def a143v : List Nat := [0,1,2,4,5,6]
def a143b : List Nat := [3,4]

def a144r0 : List AOper := [
 op (.v 2) .mv [.c (.int .i64 0)]]
def a144s1 : ACode := .reg [] a144r0
def a144r2 : List AOper := [
 op (.t 6) .mv [.v 0],
 op (.v 4) .lenL [.t 6],
 op (.v 5) .mv [.c (.int .i64 0)]]
def a144s3 : ACode := .reg [] a144r2
def a144r4 : List AOper := [
 op (.t 9) (.bin .lss) [.v 5,.v 4]]
def a144s5 : ACode := .test [] a144r4 (.t 9) .skip (.exit 0)
def a144r6 : List AOper := [
 op (.t 10) .mv [.v 5],
 op (.v 3) .mv [.t 10]]
def a144s7 : ACode := .reg [] a144r6
def a144r8 : List AOper := [
 op (.t 11) .mv [.v 1],
 op (.t 12) .mv [.v 0],
 op (.t 13) .mv [.v 3],
 op (.t 14) (.iad 5) [.t 12,.t 13],
 op (.t 15) (.ldAn true 5) [.t 14],
 op (.t 16) .callV [.t 11,.t 15]]
def a144r9 : List AOper := [
 op (.t 17) .mv [.v 3],
 op (.v 2) .mv [.t 17]]
def a144s10 : ACode := .reg [] a144r9
def a144s11 : ACode := .seq a144s10 .ret
def a144s12 : ACode := .test [] a144r8 (.t 16) a144s11 .skip
def a144s13 : ACode := .seq a144s7 a144s12
def a144s14 : ACode := .blk 1 a144s13
def a144r15 : List AOper := [
 op (.t 18) (.bin .add) [.v 5,.c (.int .i64 1)],
 op (.v 5) .mv [.t 18]]
def a144s16 : ACode := .reg [] a144r15
def a144s17 : ACode := .seq a144s14 a144s16
def a144s18 : ACode := .seq a144s5 a144s17
def a144s19 : ACode := .loop a144s18
def a144s20 : ACode := .blk 0 a144s19
def a144s21 : ACode := .seq a144s3 a144s20
def a144r22 : List AOper := [
 op (.v 2) .mv [.c (.int .i64 (-1))]]
def a144s23 : ACode := .reg [] a144r22
def a144s24 : ACode := .seq a144s23 .ret
def a144s25 : ACode := .seq a144s21 a144s24
def a144s26 : ACode := .seq a144s1 a144s25
def a144c : ACode :=
  a144s26
def a144 : AFn := { np := 2,nv := 6,results := [.v 2],code := a144c }
def a144v : List Nat := [0,1,4,5,7,8]
def a144b : List Nat := []

def a145r0 : List AOper := [
 ⟨.bx,.boxV,[.v 0],some 2,none⟩,
 op (.v 3) .mv [.c (.bool false)]]
def a145s1 : ACode := .reg [2] a145r0
def a145r2 : List AOper := [
 op (.t 4) (.fad 2) [.l 2],
 op (.t 5) (.fad 2) [.t 4],
 ⟨.t 6,.ldLc 2 false 1,[.t 5],some 2,none⟩,
 op (.t 7) .mv [.t 6],
 ⟨.t 8,.fad 5,[.l 2],none,some (.t 7,true)⟩,
 ⟨.t 9,.ldLc 2 false 1,[.t 8],some 2,some (.t 7,true)⟩,
 ⟨.t 10,.un .not,[.t 9],none,some (.t 7,true)⟩,
 op (.t 11) .pick [.t 7,.t 10,.c (.bool false)],
 op (.t 12) .mv [.t 11],
 ⟨.t 13,.fad 3,[.v 1],none,some (.t 12,true)⟩,
 ⟨.t 14,.ldSt false 1,[.t 13],none,some (.t 12,true)⟩,
 ⟨.t 15,.fad 0,[.l 2],none,some (.t 12,true)⟩,
 ⟨.t 16,.ldLc 2 false 1,[.t 15],some 2,some (.t 12,true)⟩,
 ⟨.t 17,.call 32,[.t 14,.t 16],none,some (.t 12,true)⟩,
 ⟨.t 18,.un .not,[.t 17],none,some (.t 12,true)⟩,
 op (.t 19) .pick [.t 12,.t 18,.c (.bool false)],
 op (.v 3) .mv [.t 19]]
def a145s3 : ACode := .reg [] a145r2
def a145s4 : ACode := .seq a145s3 .ret
def a145s5 : ACode := .seq a145s1 a145s4
def a145c : ACode :=
  a145s5
def a145 : AFn := { np := 2,nv := 4,results := [.v 3],code := a145c }
def a145v : List Nat := [0,1,2,3]
def a145b : List Nat := [2]

def a146r0 : List AOper := [
 op (.v 2) .mv [.c (.int .i64 0)]]
def a146s1 : ACode := .reg [] a146r0
def a146r2 : List AOper := [
 op (.t 6) .mv [.v 0],
 op (.v 4) .lenL [.t 6],
 op (.v 5) .mv [.c (.int .i64 0)]]
def a146s3 : ACode := .reg [] a146r2
def a146r4 : List AOper := [
 op (.t 9) (.bin .lss) [.v 5,.v 4]]
def a146s5 : ACode := .test [] a146r4 (.t 9) .skip (.exit 0)
def a146r6 : List AOper := [
 op (.t 10) .mv [.v 5],
 op (.v 3) .mv [.t 10]]
def a146s7 : ACode := .reg [] a146r6
def a146r8 : List AOper := [
 op (.t 11) .mv [.v 1],
 op (.t 12) .mv [.v 0],
 op (.t 13) .mv [.v 3],
 op (.t 14) (.iad 11) [.t 12,.t 13],
 op (.t 15) (.ldRo true 11) [.t 14],
 op (.t 16) .callV [.t 11,.t 15]]
def a146r9 : List AOper := [
 op (.t 17) .mv [.v 3],
 op (.v 2) .mv [.t 17]]
def a146s10 : ACode := .reg [] a146r9
def a146s11 : ACode := .seq a146s10 .ret
def a146s12 : ACode := .test [] a146r8 (.t 16) a146s11 .skip
def a146s13 : ACode := .seq a146s7 a146s12
def a146s14 : ACode := .blk 1 a146s13
def a146r15 : List AOper := [
 op (.t 18) (.bin .add) [.v 5,.c (.int .i64 1)],
 op (.v 5) .mv [.t 18]]
def a146s16 : ACode := .reg [] a146r15
def a146s17 : ACode := .seq a146s14 a146s16
def a146s18 : ACode := .seq a146s5 a146s17
def a146s19 : ACode := .loop a146s18
def a146s20 : ACode := .blk 0 a146s19
def a146s21 : ACode := .seq a146s3 a146s20
def a146r22 : List AOper := [
 op (.v 2) .mv [.c (.int .i64 (-1))]]
def a146s23 : ACode := .reg [] a146r22
def a146s24 : ACode := .seq a146s23 .ret
def a146s25 : ACode := .seq a146s21 a146s24
def a146s26 : ACode := .seq a146s1 a146s25
def a146c : ACode :=
  a146s26
def a146 : AFn := { np := 2,nv := 6,results := [.v 2],code := a146c }
def a146v : List Nat := [0,1,4,5,7,8]
def a146b : List Nat := []

def a147r0 : List AOper := [
 ⟨.bx,.boxV,[.v 0],some 2,none⟩,
 op (.v 3) .mv [.c (.bool false)]]
def a147s1 : ACode := .reg [2] a147r0
def a147r2 : List AOper := [
 op (.t 4) (.fad 0) [.l 2],
 ⟨.t 5,.ldLc 2 false 1,[.t 4],some 2,none⟩,
 op (.t 6) (.fad 0) [.v 1],
 op (.t 7) (.ldSt false 1) [.t 6],
 op (.t 8) (.bin .eql) [.t 5,.t 7],
 op (.v 3) .mv [.t 8]]
def a147s3 : ACode := .reg [] a147r2
def a147s4 : ACode := .seq a147s3 .ret
def a147s5 : ACode := .seq a147s1 a147s4
def a147c : ACode :=
  a147s5
def a147 : AFn := { np := 2,nv := 4,results := [.v 3],code := a147c }
def a147v : List Nat := [0,1,2,3]
def a147b : List Nat := [2]

def a148r0 : List AOper := [
 op (.v 4) .boxO [.v 3]]
def a148s1 : ACode := .reg [] a148r0
def a148r2 : List AOper := [
 op (.t 15) (.fad 0) [.v 4],
 op (.t 16) (.ldSt false 1) [.t 15],
 op (.t 17) (.bin .eql) [.t 16,.c (.int .u8 7)]]
def a148r3 : List AOper := [
 op (.t 18) .mv [.v 0],
 op (.t 19) .mv [.v 1],
 op (.t 20) .mv [.v 2],
 op (.t 21) (.fad 2) [.v 4],
 op (.t 22) (.ldSt false 1) [.t 21],
 op (.t 23) (.call 165) [.t 18,.t 19,.t 20,.t 22]]
def a148s4 : ACode := .reg [] a148r3
def a148s5 : ACode := .test [] a148r2 (.t 17) a148s4 .skip
def a148r6 : List AOper := [
 op (.t 24) (.fad 4) [.v 4],
 op (.v 11) (.ldSt false 1) [.t 24],
 op (.v 12) .lenL [.v 11],
 op (.v 13) .mv [.c (.int .i64 0)]]
def a148s7 : ACode := .reg [] a148r6
def a148r8 : List AOper := [
 op (.t 28) (.bin .lss) [.v 13,.v 12]]
def a148s9 : ACode := .test [] a148r8 (.t 28) .skip (.exit 0)
def a148r10 : List AOper := [
 op (.t 29) .mv [.v 13],
 op (.t 30) (.iad 5) [.v 11,.v 13],
 op (.t 31) (.ldAn true 5) [.t 30],
 op (.v 5) (.allocO [.int .i64 0]) [],
 ⟨.bx,.alloc [.int .u8 0,.int .i64 0,.str [],.list true [],.list true []],[],some 6,none⟩,
 op .none (.stSt 1) [.v 5,.t 29],
 ⟨.none,.stLc 6 5,[.l 6,.ts 31],some 6,none⟩]
def a148s11 : ACode := .reg [6] a148r10
def a148r12 : List AOper := [
 op (.v 7) .mv [.c (.nilp)]]
def a148s13 : ACode := .reg [] a148r12
def a148r14 : List AOper := [
 op (.v 8) .mv [.c (.bool false)]]
def a148s15 : ACode := .reg [] a148r14
def a148r16 : List AOper := [
 op (.t 33) .mv [.v 1],
 op (.t 34) (.binP .eql) [.t 33,.c (.nilp)],
 op (.t 32) .mv [.t 34]]
def a148r17 : List AOper := [
 op (.t 36) (.fad 0) [.v 4],
 op (.t 37) (.ldSt false 1) [.t 36],
 op (.t 38) (.bin .eql) [.t 37,.c (.int .u8 5)],
 op (.t 39) .mv [.t 38],
 ⟨.t 40,.mv,[.v 1],none,some (.t 39,true)⟩,
 ⟨.t 41,.nilchk,[.t 40],none,some (.t 39,true)⟩,
 ⟨.t 42,.fad 1,[.t 41],none,some (.t 39,true)⟩,
 ⟨.t 43,.ldSt false 1,[.t 42],none,some (.t 39,true)⟩,
 ⟨.t 44,.lenL,[.t 43],none,some (.t 39,true)⟩,
 ⟨.t 45,.bin .gtr,[.t 44,.c (.int .i64 0)],none,some (.t 39,true)⟩,
 op (.t 46) .pick [.t 39,.t 45,.c (.bool false)],
 op (.t 35) .mv [.t 46]]
def a148r18 : List AOper := [
 op (.t 47) .mv [.v 1],
 op (.t 48) .nilchk [.t 47],
 op (.t 49) (.fad 1) [.t 48],
 op (.t 50) (.ldSt false 1) [.t 49],
 op (.t 51) (.iad 3) [.t 50,.c (.int .i64 0)],
 op (.v 7) .mv [.t 51]]
def a148s19 : ACode := .reg [] a148r18
def a148r20 : List AOper := [
 op (.t 53) (.fad 0) [.v 4],
 op (.t 54) (.ldSt false 1) [.t 53],
 op (.t 55) (.bin .eql) [.t 54,.c (.int .u8 6)],
 op (.t 56) .mv [.t 55],
 ⟨.t 57,.mv,[.v 1],none,some (.t 56,true)⟩,
 ⟨.t 58,.nilchk,[.t 57],none,some (.t 56,true)⟩,
 ⟨.t 59,.fad 1,[.t 58],none,some (.t 56,true)⟩,
 ⟨.t 60,.ldSt false 1,[.t 59],none,some (.t 56,true)⟩,
 ⟨.t 61,.lenL,[.t 60],none,some (.t 56,true)⟩,
 ⟨.t 62,.bin .eql,[.t 61,.c (.int .i64 0)],none,some (.t 56,true)⟩,
 op (.t 63) .pick [.t 56,.t 62,.c (.bool false)],
 op (.t 52) .mv [.t 63]]
def a148r21 : List AOper := [
 op (.t 65) .mv [.v 0],
 op (.t 66) .nilchk [.t 65],
 op (.t 67) (.fad 0) [.t 66],
 op (.t 68) (.ldSt false 1) [.t 67],
 op (.t 69) .nilchk [.t 68],
 op (.t 70) (.fad 0) [.t 69],
 op (.t 71) (.ldSt false 1) [.t 70],
 op (.t 72) .mv [.v 1],
 op (.t 73) .nilchk [.t 72],
 op (.t 74) (.fad 0) [.t 73],
 op (.t 75) (.ldSt false 1) [.t 74],
 op (.t 76) (.call 45) [.t 71,.t 75],
 op (.t 64) .mv [.t 76],
 op (.t 77) (.ext 0) [.t 64],
 op (.t 78) (.ext 1) [.t 64],
 ⟨.bx,.alloc [.int .u8 0,.str [],.list true [],.list true []],[],some 9,none⟩,
 ⟨.none,.stLc 9 4,[.l 9,.ts 77],some 9,none⟩,
 op (.t 13) .mv [.t 78]]
def a148s22 : ACode := .reg [9] a148r21
def a148r23 : List AOper := [
 op (.t 79) (.fad 2) [.l 9],
 ⟨.t 80,.ldLc 9 false 1,[.t 79],some 9,none⟩,
 op (.t 81) (.mkF 166 0) [.v 4,.v 5],
 op (.t 82) (.call 146) [.t 80,.t 81],
 op (.v 10) .mv [.t 82]]
def a148s24 : ACode := .reg [] a148r23
def a148r25 : List AOper := [
 op (.t 83) .mv [.v 10],
 op (.t 84) (.bin .geq) [.t 83,.c (.int .i64 0)],
 op (.t 85) .mv [.t 84],
 ⟨.t 86,.fad 0,[.l 9],none,some (.t 85,true)⟩,
 ⟨.t 87,.ldLc 9 false 1,[.t 86],some 9,some (.t 85,true)⟩,
 ⟨.t 88,.bin .eql,[.t 87,.c (.int .u8 5)],none,some (.t 85,true)⟩,
 op (.t 89) .pick [.t 85,.t 88,.c (.bool false)]]
def a148r26 : List AOper := [
 op (.t 90) (.fad 2) [.l 9],
 ⟨.t 91,.ldLc 9 false 1,[.t 90],some 9,none⟩,
 op (.t 92) .mv [.v 10],
 op (.t 93) (.iad 11) [.t 91,.t 92],
 op (.t 94) (.fad 2) [.t 93],
 op (.t 95) (.fad 2) [.l 9],
 ⟨.t 96,.ldLc 9 false 1,[.t 95],some 9,none⟩,
 op (.t 97) .mv [.v 10],
 op (.t 98) (.iad 11) [.t 96,.t 97],
 op (.t 99) (.fad 5) [.t 98],
 op (.t 100) (.ldRo false 1) [.t 99],
 op (.v 7) .mv [.t 94],
 op (.v 8) .mv [.t 100]]
def a148s27 : ACode := .reg [] a148r26
def a148s28 : ACode := .test [] a148r25 (.t 89) a148s27 .skip
def a148s29 : ACode := .seq a148s24 a148s28
def a148s30 : ACode := .seq a148s22 a148s29
def a148s31 : ACode := .test [] a148r20 (.t 52) a148s30 .skip
def a148s32 : ACode := .test [] a148r17 (.t 35) a148s19 a148s31
def a148s33 : ACode := .test [] a148r16 (.t 32) .skip a148s32
def a148s34 : ACode := .blk 2 a148s33
def a148r35 : List AOper := [
 op (.t 101) .mv [.v 0],
 op (.t 102) .mv [.v 7],
 op (.t 103) .mv [.v 8],
 ⟨.t 104,.ldLc 6 true 5,[.l 6],some 6,none⟩,
 op (.t 105) (.call 148) [.t 101,.t 102,.t 103,.t 104]]
def a148s36 : ACode := .reg [] a148r35
def a148s37 : ACode := .seq a148s34 a148s36
def a148s38 : ACode := .seq a148s15 a148s37
def a148s39 : ACode := .seq a148s13 a148s38
def a148s40 : ACode := .seq a148s11 a148s39
def a148s41 : ACode := .blk 1 a148s40
def a148r42 : List AOper := [
 op (.t 106) (.bin .add) [.v 13,.c (.int .i64 1)],
 op (.v 13) .mv [.t 106]]
def a148s43 : ACode := .reg [] a148r42
def a148s44 : ACode := .seq a148s41 a148s43
def a148s45 : ACode := .seq a148s9 a148s44
def a148s46 : ACode := .loop a148s45
def a148s47 : ACode := .blk 0 a148s46
def a148s48 : ACode := .seq a148s7 a148s47
def a148s49 : ACode := .seq a148s5 a148s48
def a148s50 : ACode := .seq a148s1 a148s49
def a148c : ACode :=
  a148s50
def a148 : AFn := { np := 4,nv := 14,results := [],code := a148c }
def a148v : List Nat := [0,1,2,3,7,8,9,10,11,12,14,25,26,27]
def a148b : List Nat := [6,9]

def a149r0 : List AOper := [
 op (.v 2) .boxO [.v 1],
 op (.v 3) .mv [.c (.bool false)]]
def a149s1 : ACode := .reg [] a149r0
def a149r2 : List AOper := [
 op (.t 5) .mv [.v 0],
 op (.t 6) .lenL [.t 5],
 op (.t 7) (.ldSt false 1) [.v 2],
 op (.t 8) .lenL [.t 7],
 op (.t 9) (.bin .eql) [.t 6,.t 8],
 op (.t 10) .mv [.t 9],
 ⟨.t 11,.mv,[.v 0],none,some (.t 10,true)⟩,
 ⟨.t 12,.mkF 168 0,[.v 2],none,some (.t 10,true)⟩,
 ⟨.t 13,.call 167,[.t 11,.t 12],none,some (.t 10,true)⟩,
 ⟨.t 14,.un .not,[.t 13],none,some (.t 10,true)⟩,
 op (.t 15) .pick [.t 10,.t 14,.c (.bool false)],
 op (.v 3) .mv [.t 15]]
def a149s3 : ACode := .reg [] a149r2
def a149s4 : ACode := .seq a149s3 .ret
def a149s5 : ACode := .seq a149s1 a149s4
def a149c : ACode :=
  a149s5
def a149 : AFn := { np := 2,nv := 4,results := [.v 3],code := a149c }
def a149v : List Nat := [0,1,3,4]
def a149b : List Nat := []

def a150r0 : List AOper := [
 op (.v 3) .mv [.c (.bool false)]]
def a150s1 : ACode := .reg [] a150r0
def a150r2 : List AOper := [
 op (.t 10) .mv [.v 0],
 op (.t 11) .lenL [.t 10],
 op (.t 12) .mv [.v 1],
 op (.t 13) .lenL [.t 12],
 op (.t 14) (.bin .neq) [.t 11,.t 13]]
def a150r3 : List AOper := [
 op (.v 3) .mv [.c (.bool false)]]
def a150s4 : ACode := .reg [] a150r3
def a150s5 : ACode := .seq a150s4 .ret
def a150s6 : ACode := .test [] a150r2 (.t 14) a150s5 .skip
def a150r7 : List AOper := [
 op (.v 7) .mv [.v 0],
 op (.v 8) .lenL [.v 7],
 op (.v 9) .mv [.c (.int .i64 0)]]
def a150s8 : ACode := .reg [] a150r7
def a150r9 : List AOper := [
 op (.t 18) (.bin .lss) [.v 9,.v 8]]
def a150s10 : ACode := .test [] a150r9 (.t 18) .skip (.exit 0)
def a150r11 : List AOper := [
 op (.t 19) .mv [.v 9],
 op (.t 20) (.iad 7) [.v 7,.v 9],
 op (.t 21) (.ldAn true 7) [.t 20],
 ⟨.bx,.alloc [.int .u8 0,.str [],.str [],.str [],.list true [],.list true [],.list true []],[],some 5,none⟩,
 op (.v 4) .mv [.t 19],
 ⟨.none,.stLc 5 7,[.l 5,.ts 21],some 5,none⟩]
def a150s12 : ACode := .reg [5] a150r11
def a150r13 : List AOper := [
 op (.t 22) .mv [.v 1],
 op (.t 23) .mv [.v 4],
 op (.t 24) (.iad 7) [.t 22,.t 23],
 op (.t 25) (.ldAn true 7) [.t 24],
 ⟨.bx,.alloc [.int .u8 0,.str [],.str [],.str [],.list true [],.list true [],.list true []],[],some 6,none⟩,
 ⟨.none,.stLc 6 7,[.l 6,.ts 25],some 6,none⟩]
def a150s14 : ACode := .reg [6] a150r13
def a150r15 : List AOper := [
 op (.t 26) .mv [.v 2],
 ⟨.t 27,.ldLc 5 true 7,[.l 5],some 5,none⟩,
 ⟨.t 28,.ldLc 6 true 7,[.l 6],some 6,none⟩,
 op (.t 29) .callV [.t 26,.t 27,.t 28],
 op (.t 30) (.un .not) [.t 29]]
def a150r16 : List AOper := [
 op (.v 3) .mv [.c (.bool false)]]
def a150s17 : ACode := .reg [] a150r16
def a150s18 : ACode := .seq a150s17 .ret
def a150s19 : ACode := .test [] a150r15 (.t 30) a150s18 .skip
def a150s20 : ACode := .seq a150s14 a150s19
def a150s21 : ACode := .seq a150s12 a150s20
def a150s22 : ACode := .blk 1 a150s21
def a150r23 : List AOper := [
 op (.t 31) (.bin .add) [.v 9,.c (.int .i64 1)],
 op (.v 9) .mv [.t 31]]
def a150s24 : ACode := .reg [] a150r23
def a150s25 : ACode := .seq a150s22 a150s24
def a150s26 : ACode := .seq a150s10 a150s25
def a150s27 : ACode := .loop a150s26
def a150s28 : ACode := .blk 0 a150s27
def a150s29 : ACode := .seq a150s8 a150s28
def a150r30 : List AOper := [
 op (.v 3) .mv [.c (.bool true)]]
def a150s31 : ACode := .reg [] a150r30
def a150s32 : ACode := .seq a150s31 .ret
def a150s33 : ACode := .seq a150s29 a150s32
def a150s34 : ACode := .seq a150s6 a150s33
def a150s35 : ACode := .seq a150s1 a150s34
def a150c : ACode :=
  a150s35
def a150 : AFn := { np := 3,nv := 10,results := [.v 3],code := a150c }
def a150v : List Nat := [0,1,2,6,7,8,9,15,16,17]
def a150b : List Nat := [5,6]

def a151r0 : List AOper := [
 ⟨.bx,.boxV,[.v 0],some 2,none⟩,
 ⟨.bx,.boxV,[.v 1],some 3,none⟩,
 op (.v 4) .mv [.c (.bool false)]]
def a151s1 : ACode := .reg [2,3] a151r0
def a151r2 : List AOper := [
 op (.t 5) (.fad 0) [.l 2],
 ⟨.t 6,.ldLc 2 false 1,[.t 5],some 2,none⟩,
 op (.t 7) (.fad 0) [.l 3],
 ⟨.t 8,.ldLc 3 false 1,[.t 7],some 3,none⟩,
 op (.t 9) (.bin .eql) [.t 6,.t 8],
 op (.t 10) .mv [.t 9],
 ⟨.t 11,.fad 1,[.l 2],none,some (.t 10,true)⟩,
 ⟨.t 12,.ldLc 2 false 1,[.t 11],some 2,some (.t 10,true)⟩,
 ⟨.t 13,.fad 1,[.l 3],none,some (.t 10,true)⟩,
 ⟨.t 14,.ldLc 3 false 1,[.t 13],some 3,some (.t 10,true)⟩,
 ⟨.t 15,.bin .eql,[.t 12,.t 14],none,some (.t 10,true)⟩,
 op (.t 16) .pick [.t 10,.t 15,.c (.bool false)],
 op (.t 17) .mv [.t 16],
 ⟨.t 18,.fad 3,[.l 2],none,some (.t 17,true)⟩,
 ⟨.t 19,.ldLc 2 false 1,[.t 18],some 2,some (.t 17,true)⟩,
 ⟨.t 20,.fad 3,[.l 3],none,some (.t 17,true)⟩,
 ⟨.t 21,.ldLc 3 false 1,[.t 20],some 3,some (.t 17,true)⟩,
 ⟨.t 22,.bin .eql,[.t 19,.t 21],none,some (.t 17,true)⟩,
 op (.t 23) .pick [.t 17,.t 22,.c (.bool false)],
 op (.t 24) .mv [.t 23],
 ⟨.t 25,.fad 5,[.l 2],none,some (.t 24,true)⟩,
 ⟨.t 26,.ldLc 2 false 1,[.t 25],some 2,some (.t 24,true)⟩,
 ⟨.t 27,.fad 5,[.l 3],none,some (.t 24,true)⟩,
 ⟨.t 28,.ldLc 3 false 1,[.t 27],some 3,some (.t 24,true)⟩,
 ⟨.t 29,.call 171,[.t 26,.t 28,.c (.func 172 [] [])],none,some (.t 24,true)⟩,
 op (.t 30) .pick [.t 24,.t 29,.c (.bool false)],
 op (.t 31) .mv [.t 30],
 ⟨.t 32,.ldLc 2 true 7,[.l 2],some 2,some (.t 31,true)⟩,
 ⟨.t 33,.ldLc 3 true 7,[.l 3],some 3,some (.t 31,true)⟩,
 ⟨.t 34,.call 115,[.t 32,.t 33],none,some (.t 31,true)⟩,
 op (.t 35) .pick [.t 31,.t 34,.c (.bool false)],
 op (.v 4) .mv [.t 35]]
def a151s3 : ACode := .reg [] a151r2
def a151s4 : ACode := .seq a151s3 .ret
def a151s5 : ACode := .seq a151s1 a151s4
def a151c : ACode :=
  a151s5
def a151 : AFn := { np := 2,nv := 5,results := [.v 4],code := a151c }
def a151v : List Nat := [0,1,2,3,4]
def a151b : List Nat := [2,3]

def a152r0 : List AOper := [
 op (.v 2) .mv [.c (.list true [])]]
def a152s1 : ACode := .reg [] a152r0
def a152r2 : List AOper := [
 op (.v 3) .mv [.c (.list true [])]]
def a152s3 : ACode := .reg [] a152r2
def a152r4 : List AOper := [
 op (.v 5) .mv [.v 0],
 op (.v 6) .lenL [.v 5],
 op (.v 7) .mv [.c (.int .i64 0)]]
def a152s5 : ACode := .reg [] a152r4
def a152r6 : List AOper := [
 op (.t 11) (.bin .lss) [.v 7,.v 6]]
def a152s7 : ACode := .test [] a152r6 (.t 11) .skip (.exit 0)
def a152r8 : List AOper := [
 op (.t 12) (.iad 6) [.v 5,.v 7],
 op (.t 13) (.ldRo true 6) [.t 12],
 ⟨.bx,.alloc [.str [],.int .u8 0,.int .i64 0,.str [],.list true [],.list true []],[],some 4,none⟩,
 ⟨.none,.stLc 4 6,[.l 4,.ts 13],some 4,none⟩]
def a152s9 : ACode := .reg [4] a152r8
def a152r10 : List AOper := [
 op (.t 14) .mv [.vs 3],
 op (.t 15) .mv [.v 1],
 ⟨.t 16,.ldLc 4 true 6,[.l 4],some 4,none⟩,
 op (.t 17) .callV [.t 15,.t 16],
 op (.t 18) (.bslice 1 [[.str []]] [0]) [.t 17],
 op (.t 19) (.app 1 16) [.ts 14,.t 18],
 op (.v 3) .mv [.ts 19]]
def a152s11 : ACode := .reg [] a152r10
def a152s12 : ACode := .seq a152s9 a152s11
def a152s13 : ACode := .blk 1 a152s12
def a152r14 : List AOper := [
 op (.t 20) (.bin .add) [.v 7,.c (.int .i64 1)],
 op (.v 7) .mv [.t 20]]
def a152s15 : ACode := .reg [] a152r14
def a152s16 : ACode := .seq a152s13 a152s15
def a152s17 : ACode := .seq a152s7 a152s16
def a152s18 : ACode := .loop a152s17
def a152s19 : ACode := .blk 0 a152s18
def a152s20 : ACode := .seq a152s5 a152s19
def a152r21 : List AOper := [
 op (.t 21) .mv [.v 3],
 op (.v 2) .mv [.ts 21]]
def a152s22 : ACode := .reg [] a152r21
def a152s23 : ACode := .seq a152s22 .ret
def a152s24 : ACode := .seq a152s20 a152s23
def a152s25 : ACode := .seq a152s3 a152s24
def a152s26 : ACode := .seq a152s1 a152s25
def a152c : ACode :=
  a152s26
def a152 : AFn := { np := 2,nv := 8,results := [.v 2],code := a152c }
def a152v : List Nat := [0,1,4,5,7,8,9,10]
def a152b : List Nat := [4]

def a153r0 : List AOper := [
 ⟨.bx,.boxV,[.v 0],some 1,none⟩,
 op (.v 2) .mv [.c (.str [])]]
def a153s1 : ACode := .reg [1] a153r0
def a153r2 : List AOper := [
 op (.t 3) (.fad 0) [.l 1],
 ⟨.t 4,.ldLc 1 false 1,[.t 3],some 1,none⟩,
 op (.v 2) .mv [.t 4]]
def a153s3 : ACode := .reg [] a153r2
def a153s4 : ACode := .seq a153s3 .ret
def a153s5 : ACode := .seq a153s1 a153s4
def a153c : ACode :=
  a153s5
def a153 : AFn := { np := 1,nv := 3,results := [.v 2],code := a153c }
def a153v : List Nat := [0,1,2]
def a153b : List Nat := [1]

def a154r0 : List AOper := [
 ⟨.bx,.boxV,[.v 0],some 2,none⟩,
 op (.v 3) .mv [.c (.bool false)]]
def a154s1 : ACode := .reg [2] a154r0
def a154r2 : List AOper := [
 op (.t 4) (.fad 0) [.l 2],
 ⟨.t 5,.ldLc 2 false 1,[.t 4],some 2,none⟩,
 op (.t 6) (.fad 0) [.v 1],
 op (.t 7) (.ldSt false 1) [.t 6],
 op (.t 8) (.bin .eql) [.t 5,.t 7],
 op (.v 3) .mv [.t 8]]
def a154s3 : ACode := .reg [] a154r2
def a154s4 : ACode := .seq a154s3 .ret
def a154s5 : ACode := .seq a154s1 a154s4
def a154c : ACode :=
  a154s5
def a154 : AFn := { np := 2,nv := 4,results := [.v 3],code := a154c }
def a154v : List Nat := [0,1,2,3]
def a154b : List Nat := [2]

def a155r0 : List AOper := [
 op (.v 3) .boxO [.v 0],
 op (.v 4) .boxO [.v 1],
 op (.v 5) .boxO [.v 2],
 op (.v 6) .mv [.c (.bool false)]]
def a155s1 : ACode := .reg [] a155r0
def a155r2 : List AOper := [
 op (.t 13) (.fad 0) [.v 5],
 op (.t 14) (.ldSt false 1) [.t 13],
 op (.t 15) (.bin .eql) [.t 14,.c (.int .u8 7)],
 op (.t 12) .mv [.t 15]]
def a155r3 : List AOper := [
 op (.v 6) .mv [.c (.bool true)]]
def a155s4 : ACode := .reg [] a155r3
def a155s5 : ACode := .seq a155s4 .ret
def a155r6 : List AOper := [
 op (.t 17) (.fad 0) [.v 5],
 op (.t 18) (.ldSt false 1) [.t 17],
 op (.t 19) (.bin .eql) [.t 18,.c (.int .u8 5)],
 op (.t 20) .mv [.t 19],
 ⟨.t 21,.fad 1,[.v 4],none,some (.t 20,true)⟩,
 ⟨.t 22,.ldSt false 1,[.t 21],none,some (.t 20,true)⟩,
 ⟨.t 23,.lenL,[.t 22],none,some (.t 20,true)⟩,
 ⟨.t 24,.bin .gtr,[.t 23,.c (.int .i64 0)],none,some (.t 20,true)⟩,
 op (.t 25) .pick [.t 20,.t 24,.c (.bool false)],
 op (.t 16) .mv [.t 25]]
def a155r7 : List AOper := [
 op (.t 26) (.fad 4) [.v 5],
 op (.t 27) (.ldSt false 1) [.t 26],
 op (.t 28) (.mkF 173 0) [.v 3,.v 4],
 op (.t 29) (.call 107) [.t 27,.t 28],
 op (.t 30) (.un .not) [.t 29],
 op (.v 6) .mv [.t 30]]
def a155s8 : ACode := .reg [] a155r7
def a155s9 : ACode := .seq a155s8 .ret
def a155r10 : List AOper := [
 op (.t 32) (.fad 1) [.v 4],
 op (.t 33) (.ldSt false 1) [.t 32],
 op (.t 34) .lenL [.t 33],
 op (.t 35) (.bin .gtr) [.t 34,.c (.int .i64 0)],
 op (.t 36) .mv [.t 35],
 ⟨.t 37,.fad 0,[.v 5],none,some (.t 36,true)⟩,
 ⟨.t 38,.ldSt false 1,[.t 37],none,some (.t 36,true)⟩,
 ⟨.t 39,.bin .neq,[.t 38,.c (.int .u8 0)],none,some (.t 36,true)⟩,
 op (.t 40) .pick [.t 36,.t 39,.c (.bool false)],
 op (.t 31) .mv [.t 40]]
def a155r11 : List AOper := [
 op (.t 41) (.ldSt false 1) [.v 3],
 op (.t 42) (.fad 1) [.v 4],
 op (.t 43) (.ldSt false 1) [.t 42],
 op (.t 44) (.iad 3) [.t 43,.c (.int .i64 0)],
 op (.t 45) (.ldRo true 3) [.t 44],
 op (.t 46) (.ldSt true 5) [.v 5],
 op (.t 47) (.call 155) [.t 41,.t 45,.t 46],
 op (.v 6) .mv [.t 47]]
def a155s12 : ACode := .reg [] a155r11
def a155s13 : ACode := .seq a155s12 .ret
def a155r14 : List AOper := [
 op (.t 49) (.fad 0) [.v 5],
 op (.t 50) (.ldSt false 1) [.t 49],
 op (.t 51) (.bin .neq) [.t 50,.c (.int .u8 6)],
 op (.t 52) .mv [.t 51],
 ⟨.t 53,.ldSt false 1,[.v 3],none,some (.t 52,false)⟩,
 ⟨.t 54,.nilchk,[.t 53],none,some (.t 52,false)⟩,
 ⟨.t 55,.fad 0,[.t 54],none,some (.t 52,false)⟩,
 ⟨.t 56,.ldSt false 1,[.t 55],none,some (.t 52,false)⟩,
 ⟨.t 57,.fad 0,[.v 4],none,some (.t 52,false)⟩,
 ⟨.t 58,.ldSt false 1,[.t 57],none,some (.t 52,false)⟩,
 ⟨.t 59,.call 64,[.t 56,.t 58],none,some (.t 52,false)⟩,
 ⟨.t 60,.un .not,[.t 59],none,some (.t 52,false)⟩,
 op (.t 61) .pick [.t 52,.c (.bool true),.t 60],
 op (.t 48) .mv [.t 61]]
def a155r15 : List AOper := [
 op (.t 62) (.ldSt false 1) [.v 3],
 op (.t 63) .nilchk [.t 62],
 op (.t 64) (.fad 0) [.t 63],
 op (.t 65) (.ldSt false 1) [.t 64],
 op (.t 66) (.ldSt true 3) [.v 4],
 op (.t 67) (.ldSt true 5) [.v 5],
 op (.t 68) (.call 65) [.t 65,.t 66,.t 67],
 op (.v 6) .mv [.t 68]]
def a155s16 : ACode := .reg [] a155r15
def a155s17 : ACode := .seq a155s16 .ret
def a155s18 : ACode := .test [] a155r14 (.t 48) a155s17 .skip
def a155s19 : ACode := .test [] a155r10 (.t 31) a155s13 a155s18
def a155s20 : ACode := .test [] a155r6 (.t 16) a155s9 a155s19
def a155s21 : ACode := .test [] a155r2 (.t 12) a155s5 a155s20
def a155s22 : ACode := .blk 0 a155s21
def a155r23 : List AOper := [
 op (.t 70) (.ldSt false 1) [.v 3],
 op (.t 71) .nilchk [.t 70],
 op (.t 72) (.fad 0) [.t 71],
 op (.t 73) (.ldSt false 1) [.t 72],
 op (.t 74) (.fad 0) [.v 4],
 op (.t 75) (.ldSt false 1) [.t 74],
 op (.t 76) (.call 45) [.t 73,.t 75],
 op (.t 69) .mv [.t 76],
 op (.t 77) (.ext 0) [.t 69],
 op (.t 78) (.ext 1) [.t 69],
 ⟨.bx,.alloc [.int .u8 0,.str [],.list true [],.list true []],[],some 7,none⟩,
 ⟨.none,.stLc 7 4,[.l 7,.ts 77],some 7,none⟩,
 op (.t 8) .mv [.t 78]]
def a155s24 : ACode := .reg [7] a155r23
def a155r25 : List AOper := [
 op (.t 79) (.fad 3) [.v 5],
 op (.v 11) (.ldSt false 1) [.t 79],
 op (.v 12) .lenL [.v 11],
 op (.v 13) .mv [.c (.int .i64 0)]]
def a155s26 : ACode := .reg [] a155r25
def a155r27 : List AOper := [
 op (.t 83) (.bin .lss) [.v 13,.v 12]]
def a155s28 : ACode := .test [] a155r27 (.t 83) .skip (.exit 1)
def a155r29 : List AOper := [
 op (.t 84) .mv [.v 13],
 op (.t 85) (.iad 1) [.v 11,.v 13],
 op (.t 86) (.ldRo false 1) [.t 85],
 op (.v 9) (.allocO [.str []]) [],
 op (.v 8) .mv [.t 84],
 op .none (.stSt 1) [.v 9,.t 86]]
def a155s30 : ACode := .reg [] a155r29
def a155r31 : List AOper := [
 op (.t 87) (.fad 2) [.l 7],
 ⟨.t 88,.ldLc 7 false 1,[.t 87],some 7,none⟩,
 op (.t 89) (.mkF 174 0) [.v 9],
 op (.t 90) (.call 146) [.t 88,.t 89],
 op (.v 10) .mv [.t 90]]
def a155s32 : ACode := .reg [] a155r31
def a155r33 : List AOper := [
 op (.t 91) .mv [.v 10],
 op (.t 92) (.bin .lss) [.t 91,.c (.int .i64 0)],
 op (.t 93) .mv [.t 92],
 ⟨.t 94,.fad 3,[.v 5],none,some (.t 93,false)⟩,
 ⟨.t 95,.ldSt false 1,[.t 94],none,some (.t 93,false)⟩,
 ⟨.t 96,.mv,[.v 8],none,some (.t 93,false)⟩,
 ⟨.t 97,.slL 1 false true,[.t 95,.t 96],none,some (.t 93,false)⟩,
 ⟨.t 98,.ldSt false 1,[.v 9],none,some (.t 93,false)⟩,
 ⟨.t 99,.call 32,[.t 97,.t 98],none,some (.t 93,false)⟩,
 op (.t 100) .pick [.t 93,.c (.bool true),.t 99],
 op (.t 101) .mv [.t 100],
 ⟨.t 102,.ldSt false 1,[.v 3],none,some (.t 101,false)⟩,
 ⟨.t 103,.fad 2,[.l 7],none,some (.t 101,false)⟩,
 ⟨.t 104,.ldLc 7 false 1,[.t 103],some 7,some (.t 101,false)⟩,
 ⟨.t 105,.mv,[.v 10],none,some (.t 101,false)⟩,
 ⟨.t 106,.iad 11,[.t 104,.t 105],none,some (.t 101,false)⟩,
 ⟨.t 107,.fad 2,[.t 106],none,some (.t 101,false)⟩,
 ⟨.t 108,.ldRo true 3,[.t 107],none,some (.t 101,false)⟩,
 ⟨.t 109,.fad 4,[.v 5],none,some (.t 101,false)⟩,
 ⟨.t 110,.ldSt false 1,[.t 109],none,some (.t 101,false)⟩,
 ⟨.t 111,.mv,[.v 8],none,some (.t 101,false)⟩,
 ⟨.t 112,.iad 5,[.t 110,.t 111],none,some (.t 101,false)⟩,
 ⟨.t 113,.ldAn true 5,[.t 112],none,some (.t 101,false)⟩,
 ⟨.t 114,.call 155,[.t 102,.t 108,.t 113],none,some (.t 101,false)⟩,
 ⟨.t 115,.un .not,[.t 114],none,some (.t 101,false)⟩,
 op (.t 116) .pick [.t 101,.c (.bool true),.t 115]]
def a155r34 : List AOper := [
 op (.v 6) .mv [.c (.bool false)]]
def a155s35 : ACode := .reg [] a155r34
def a155s36 : ACode := .seq a155s35 .ret
def a155s37 : ACode := .test [] a155r33 (.t 116) a155s36 .skip
def a155s38 : ACode := .seq a155s32 a155s37
def a155s39 : ACode := .seq a155s30 a155s38
def a155s40 : ACode := .blk 2 a155s39
def a155r41 : List AOper := [
 op (.t 117) (.bin .add) [.v 13,.c (.int .i64 1)],
 op (.v 13) .mv [.t 117]]
def a155s42 : ACode := .reg [] a155r41
def a155s43 : ACode := .seq a155s40 a155s42
def a155s44 : ACode := .seq a155s28 a155s43
def a155s45 : ACode := .loop a155s44
def a155s46 : ACode := .blk 1 a155s45
def a155s47 : ACode := .seq a155s26 a155s46
def a155r48 : List AOper := [
 op (.t 118) (.fad 2) [.l 7],
 ⟨.t 119,.ldLc 7 false 1,[.t 118],some 7,none⟩,
 op (.t 120) (.mkF 175 0) [.v 5],
 op (.t 121) (.call 132) [.t 119,.t 120],
 op (.t 122) (.un .not) [.t 121],
 op (.v 6) .mv [.t 122]]
def a155s49 : ACode := .reg [] a155r48
def a155s50 : ACode := .seq a155s49 .ret
def a155s51 : ACode := .seq a155s47 a155s50
def a155s52 : ACode := .seq a155s24 a155s51
def a155s53 : ACode := .seq a155s22 a155s52
def a155s54 : ACode := .seq a155s1 a155s53
def a155c : ACode :=
  a155s54
def a155 : AFn := { np := 3,nv := 14,results := [.v 6],code := a155c }
def a155v : List Nat := [0,1,2,3,4,5,6,7,9,10,11,80,81,82]
def a155b : List Nat := [7]

def a156r0 : List AOper := [
 op (.v 2) .mv [.c (.list true [])]]
def a156s1 : ACode := .reg [] a156r0
def a156r2 : List AOper := [
 op (.t 11) .mv [.v 0],
 op (.t 12) .mv [.v 1],
 op (.t 13) (.call 45) [.t 11,.t 12],
 op (.t 10) .mv [.t 13],
 op (.t 14) (.ext 0) [.t 10],
 op (.t 15) (.ext 1) [.t 10],
 ⟨.bx,.alloc [.int .u8 0,.str [],.list true [],.list true []],[],some 3,none⟩,
 ⟨.none,.stLc 3 4,[.l 3,.ts 14],some 3,none⟩,
 op (.v 4) .mv [.t 15]]
def a156s3 : ACode := .reg [3] a156r2
def a156r4 : List AOper := [
 op (.t 17) .mv [.v 4],
 op (.t 18) (.un .not) [.t 17],
 op (.t 16) .mv [.t 18]]
def a156r5 : List AOper := [
 op (.v 2) .mv [.c (.list true [])]]
def a156s6 : ACode := .reg [] a156r5
def a156s7 : ACode := .seq a156s6 .ret
def a156r8 : List AOper := [
 op (.t 20) (.fad 0) [.l 3],
 ⟨.t 21,.ldLc 3 false 1,[.t 20],some 3,none⟩,
 op (.t 22) (.bin .eql) [.t 21,.c (.int .u8 1)],
 op (.t 19) .mv [.t 22]]
def a156r9 : List AOper := [
 op (.t 23) .mv [.v 1],
 op (.t 24) (.bslice 1 [[.str []]] [0]) [.t 23],
 op (.v 2) .mv [.ts 24]]
def a156s10 : ACode := .reg [] a156r9
def a156s11 : ACode := .seq a156s10 .ret
def a156r12 : List AOper := [
 op (.t 26) (.fad 0) [.l 3],
 ⟨.t 27,.ldLc 3 false 1,[.t 26],some 3,none⟩,
 op (.t 28) (.bin .eql) [.t 27,.c (.int .u8 3)],
 op (.t 25) .mv [.t 28]]
def a156r13 : List AOper := [
 op (.t 29) (.fad 3) [.l 3],
 ⟨.t 30,.ldLc 3 false 1,[.t 29],some 3,none⟩,
 op (.t 31) (.call 176) [.t 30],
 op (.v 2) .mv [.ts 31]]
def a156s14 : ACode := .reg [] a156r13
def a156s15 : ACode := .seq a156s14 .ret
def a156r16 : List AOper := [
 op (.t 33) (.fad 0) [.l 3],
 ⟨.t 34,.ldLc 3 false 1,[.t 33],some 3,none⟩,
 op (.t 35) (.bin .neq) [.t 34,.c (.int .u8 2)],
 op (.t 32) .mv [.t 35]]
def a156r17 : List AOper := [
 op (.v 2) .mv [.c (.list true [])]]
def a156s18 : ACode := .reg [] a156r17
def a156s19 : ACode := .seq a156s18 .ret
def a156s20 : ACode := .test [] a156r16 (.t 32) a156s19 .skip
def a156s21 : ACode := .test [] a156r12 (.t 25) a156s15 a156s20
def a156s22 : ACode := .test [] a156r8 (.t 19) a156s11 a156s21
def a156s23 : ACode := .test [] a156r4 (.t 16) a156s7 a156s22
def a156s24 : ACode := .blk 0 a156s23
def a156r25 : List AOper := [
 op (.v 5) .mv [.c (.list true [])]]
def a156s26 : ACode := .reg [] a156r25
def a156r27 : List AOper := [
 op (.t 36) .mv [.v 0],
 op (.t 37) .nilchk [.t 36],
 op (.t 38) (.fad 0) [.t 37],
 op (.v 7) (.ldSt false 1) [.t 38],
 op (.v 8) .lenL [.v 7],
 op (.v 9) .mv [.c (.int .i64 0)]]
def a156s28 : ACode := .reg [] a156r27
def a156r29 : List AOper := [
 op (.t 42) (.bin .lss) [.v 9,.v 8]]
def a156s30 : ACode := .test [] a156r29 (.t 42) .skip (.exit 1)
def a156r31 : List AOper := [
 op (.t 43) (.iad 4) [.v 7,.v 9],
 op (.t 44) (.ldRo true 4) [.t 43],
 ⟨.bx,.alloc [.int .u8 0,.str [],.list true [],.list true []],[],some 6,none⟩,
 ⟨.none,.stLc 6 4,[.l 6,.ts 44],some 6,none⟩]
def a156s32 : ACode := .reg [6] a156r31
def a156r33 : List AOper := [
 op (.t 45) (.fad 0) [.l 6],
 ⟨.t 46,.ldLc 6 false 1,[.t 45],some 6,none⟩,
 op (.t 47) (.bin .eql) [.t 46,.c (.int .u8 1)],
 op (.t 48) .mv [.t 47],
 ⟨.t 49,.fad 3,[.l 6],none,some (.t 48,true)⟩,
 ⟨.t 50,.ldLc 6 false 1,[.t 49],some 6,some (.t 48,true)⟩,
 ⟨.t 51,.mv,[.v 1],none,some (.t 48,true)⟩,
 ⟨.t 52,.call 32,[.t 50,.t 51],none,some (.t 48,true)⟩,
 op (.t 53) .pick [.t 48,.t 52,.c (.bool false)]]
def a156r34 : List AOper := [
 op (.t 54) .mv [.vs 5],
 op (.t 55) (.fad 1) [.l 6],
 ⟨.t 56,.ldLc 6 false 1,[.t 55],some 6,none⟩,
 op (.t 57) (.bslice 1 [[.str []]] [0]) [.t 56],
 op (.t 58) (.app 1 16) [.ts 54,.t 57],
 op (.v 5) .mv [.ts 58]]
def a156s35 : ACode := .reg [] a156r34
def a156s36 : ACode := .test [] a156r33 (.t 53) a156s35 .skip
def a156s37 : ACode := .seq a156s32 a156s36
def a156s38 : ACode := .blk 2 a156s37
def a156r39 : List AOper := [
 op (.t 59) (.bin .add) [.v 9,.c (.int .i64 1)],
 op (.v 9) .mv [.t 59]]
def a156s40 : ACode := .reg [] a156r39
def a156s41 : ACode := .seq a156s38 a156s40
def a156s42 : ACode := .seq a156s30 a156s41
def a156s43 : ACode := .loop a156s42
def a156s44 : ACode := .blk 1 a156s43
def a156s45 : ACode := .seq a156s28 a156s44
def a156r46 : List AOper := [
 op (.t 60) .mv [.v 5],
 op (.v 2) .mv [.ts 60]]
def a156s47 : ACode := .reg [] a156r46
def a156s48 : ACode := .seq a156s47 .ret
def a156s49 : ACode := .seq a156s45 a156s48
def a156s50 : ACode := .seq a156s26 a156s49
def a156s51 : ACode := .seq a156s24 a156s50
def a156s52 : ACode := .seq a156s3 a156s51
def a156s53 : ACode := .seq a156s1 a156s52
def a156c : ACode :=
  a156s53
def a156 : AFn := { np := 2,nv := 10,results := [.v 2],code := a156c }
def a156v : List Nat := [0,1,4,5,6,7,9,39,40,41]
def a156b : List Nat := [3,6]

def a157r0 : List AOper := [
 op (.v 2) .mv [.c (.int .i64 0)]]
def a157s1 : ACode := .reg [] a157r0
def a157r2 : List AOper := [
 op (.t 6) .mv [.v 0],
 op (.v 4) .lenL [.t 6],
 op (.v 5) .mv [.c (.int .i64 0)]]
def a157s3 : ACode := .reg [] a157r2
def a157r4 : List AOper := [
 op (.t 9) (.bin .lss) [.v 5,.v 4]]
def a157s5 : ACode := .test [] a157r4 (.t 9) .skip (.exit 0)
def a157r6 : List AOper := [
 op (.t 10) .mv [.v 5],
 op (.v 3) .mv [.t 10]]
def a157s7 : ACode := .reg [] a157r6
def a157r8 : List AOper := [
 op (.t 11) .mv [.v 1],
 op (.t 12) .mv [.v 0],
 op (.t 13) .mv [.v 3],
 op (.t 14) (.iad 1) [.t 12,.t 13],
 op (.t 15) (.ldRo false 1) [.t 14],
 op (.t 16) .callV [.t 11,.t 15]]
def a157r9 : List AOper := [
 op (.t 17) .mv [.v 3],
 op (.v 2) .mv [.t 17]]
def a157s10 : ACode := .reg [] a157r9
def a157s11 : ACode := .seq a157s10 .ret
def a157s12 : ACode := .test [] a157r8 (.t 16) a157s11 .skip
def a157s13 : ACode := .seq a157s7 a157s12
def a157s14 : ACode := .blk 1 a157s13
def a157r15 : List AOper := [
 op (.t 18) (.bin .add) [.v 5,.c (.int .i64 1)],
 op (.v 5) .mv [.t 18]]
def a157s16 : ACode := .reg [] a157r15
def a157s17 : ACode := .seq a157s14 a157s16
def a157s18 : ACode := .seq a157s5 a157s17
def a157s19 : ACode := .loop a157s18
def a157s20 : ACode := .blk 0 a157s19
def a157s21 : ACode := .seq a157s3 a157s20
def a157r22 : List AOper := [
 op (.v 2) .mv [.c (.int .i64 (-1))]]
def a157s23 : ACode := .reg [] a157r22
def a157s24 : ACode := .seq a157s23 .ret
def a157s25 : ACode := .seq a157s21 a157s24
def a157s26 : ACode := .seq a157s1 a157s25
def a157c : ACode :=
  a157s26
def a157 : AFn := { np := 2,nv := 6,results := [.v 2],code := a157c }
def a157v : List Nat := [0,1,4,5,7,8]
def a157b : List Nat := []

def a158r0 : List AOper := [
 op (.t 12) .mv [.v 1],
 op (.v 5) .mv [.t 12]]
def a158s1 : ACode := .reg [] a158r0
def a158r2 : List AOper := [
 op (.t 13) .mv [.v 5],
 op (.t 14) (.bin .mul) [.c (.int .i64 2),.t 13],
 op (.t 15) (.bin .add) [.t 14,.c (.int .i64 1)],
 op (.v 6) .mv [.t 15]]
def a158s3 : ACode := .reg [] a158r2
def a158r4 : List AOper := [
 op (.t 16) .mv [.v 6],
 op (.t 17) .mv [.v 2],
 op (.t 18) (.bin .geq) [.t 16,.t 17]]
def a158s5 : ACode := .test [] a158r4 (.t 18) (.exit 0) .skip
def a158r6 : List AOper := [
 op (.t 19) .mv [.v 6],
 op (.t 20) (.bin .add) [.t 19,.c (.int .i64 1)],
 op (.t 21) .mv [.v 2],
 op (.t 22) (.bin .lss) [.t 20,.t 21],
 op (.t 23) .mv [.t 22],
 ⟨.t 24,.mv,[.v 4],none,some (.t 23,true)⟩,
 ⟨.t 25,.mv,[.v 0],none,some (.t 23,true)⟩,
 ⟨.t 26,.mv,[.v 3],none,some (.t 23,true)⟩,
 ⟨.t 27,.mv,[.v 6],none,some (.t 23,true)⟩,
 ⟨.t 28,.bin .add,[.t 26,.t 27],none,some (.t 23,true)⟩,
 ⟨.t 29,.iad 2,[.t 25,.t 28],none,some (.t 23,true)⟩,
 ⟨.t 30,.ldAn true 2,[.t 29],none,some (.t 23,true)⟩,
 ⟨.t 31,.mv,[.v 0],none,some (.t 23,true)⟩,
 ⟨.t 32,.mv,[.v 3],none,some (.t 23,true)⟩,
 ⟨.t 33,.mv,[.v 6],none,some (.t 23,true)⟩,
 ⟨.t 34,.bin .add,[.t 32,.t 33],none,some (.t 23,true)⟩,
 ⟨.t 35,.bin .add,[.t 34,.c (.int .i64 1)],none,some (.t 23,true)⟩,
 ⟨.t 36,.iad 2,[.t 31,.t 35],none,some (.t 23,true)⟩,
 ⟨.t 37,.ldAn true 2,[.t 36],none,some (.t 23,true)⟩,
 ⟨.t 38,.callV,[.t 24,.t 30,.t 37],none,some (.t 23,true)⟩,
 ⟨.t 39,.bin .lss,[.t 38,.c (.int .i64 0)],none,some (.t 23,true)⟩,
 op (.t 40) .pick [.t 23,.t 39,.c (.bool false)]]
def a158r7 : List AOper := [
 op (.t 41) .mv [.v 6],
 op (.t 42) (.bin .add) [.t 41,.c (.int .i64 1)],
 op (.v 6) .mv [.t 42]]
def a158s8 : ACode := .reg [] a158r7
def a158s9 : ACode := .test [] a158r6 (.t 40) a158s8 .skip
def a158r10 : List AOper := [
 op (.t 43) .mv [.v 4],
 op (.t 44) .mv [.v 0],
 op (.t 45) .mv [.v 3],
 op (.t 46) .mv [.v 5],
 op (.t 47) (.bin .add) [.t 45,.t 46],
 op (.t 48) (.iad 2) [.t 44,.t 47],
 op (.t 49) (.ldAn true 2) [.t 48],
 op (.t 50) .mv [.v 0],
 op (.t 51) .mv [.v 3],
 op (.t 52) .mv [.v 6],
 op (.t 53) (.bin .add) [.t 51,.t 52],
 op (.t 54) (.iad 2) [.t 50,.t 53],
 op (.t 55) (.ldAn true 2) [.t 54],
 op (.t 56) .callV [.t 43,.t 49,.t 55],
 op (.t 57) (.bin .lss) [.t 56,.c (.int .i64 0)],
 op (.t 58) (.un .not) [.t 57]]
def a158s11 : ACode := .test [] a158r10 (.t 58) .ret .skip
def a158r12 : List AOper := [
 op (.t 59) .mv [.v 0],
 op (.t 60) .mv [.v 3],
 op (.t 61) .mv [.v 5],
 op (.t 62) (.bin .add) [.t 60,.t 61],
 op (.t 63) .mv [.v 0],
 op (.t 64) .mv [.v 3],
 op (.t 65) .mv [.v 6],
 op (.t 66) (.bin .add) [.t 64,.t 65],
 op (.t 67) .mv [.v 0],
 op (.t 68) .mv [.v 3],
 op (.t 69) .mv [.v 6],
 op (.t 70) (.bin .add) [.t 68,.t 69],
 op (.t 71) (.iad 2) [.t 67,.t 70],
 op (.t 72) (.ldAn true 2) [.t 71],
 op (.t 73) .mv [.v 0],
 op (.t 74) .mv [.v 3],
 op (.t 75) .mv [.v 5],
 op (.t 76) (.bin .add) [.t 74,.t 75],
 op (.t 77) (.iad 2) [.t 73,.t 76],
 op (.t 78) (.ldAn true 2) [.t 77],
 op (.t 79) (.iad 2) [.t 59,.t 62],
 op .none (.stSt 2) [.t 79,.t 72],
 op (.t 80) (.iad 2) [.t 63,.t 66],
 op .none (.stSt 2) [.t 80,.t 78]]
def a158s13 : ACode := .reg [] a158r12
def a158r14 : List AOper := [
 op (.t 81) .mv [.v 6],
 op (.v 5) .mv [.t 81]]
def a158s15 : ACode := .reg [] a158r14
def a158s16 : ACode := .seq a158s13 a158s15
def a158s17 : ACode := .seq a158s11 a158s16
def a158s18 : ACode := .seq a158s9 a158s17
def a158s19 : ACode := .seq a158s5 a158s18
def a158s20 : ACode := .seq a158s3 a158s19
def a158s21 : ACode := .blk 1 a158s20
def a158s22 : ACode := .loop a158s21
def a158s23 : ACode := .blk 0 a158s22
def a158s24 : ACode := .seq a158s1 a158s23
def a158c : ACode :=
  a158s24
def a158 : AFn := { np := 5,nv := 7,results := [],code := a158c }
def a158v : List Nat := [0,1,2,3,4,10,11]
def a158b : List Nat := []

def a159r0 : List AOper := [
 op (.v 1) .mv [.c (.int .u64 0)]]
def a159s1 : ACode := .reg [] a159r0
def a159r2 : List AOper := [
 op (.t 3) .mv [.v 0],
 op (.t 4) (.conv .u64) [.t 3],
 op (.t 5) (.call 73) [.t 4],
 op (.t 6) (.bin .shl) [.c (.int .u64 1),.t 5],
 op (.v 1) .mv [.t 6]]
def a159s3 : ACode := .reg [] a159r2
def a159s4 : ACode := .seq a159s3 .ret
def a159s5 : ACode := .seq a159s1 a159s4
def a159c : ACode :=
  a159s5
def a159 : AFn := { np := 1,nv := 2,results := [.v 1],code := a159c }
def a159v : List Nat := [0,2]
def a159b : List Nat := []

def a160r0 : List AOper := [
 op (.v 1) .mv [.c (.int .u64 0)]]
def a160s1 : ACode := .reg [] a160r0
def a160r2 : List AOper := [
 op (.t 3) .mv [.v 0],
 op (.t 4) .nilchk [.t 3],
 op (.t 5) (.ldSt false 1) [.t 4],
 op (.t 6) .mv [.v 0],
 op (.t 7) .nilchk [.t 6],
 op (.t 8) (.ldSt false 1) [.t 7],
 op (.t 9) (.bin .shl) [.t 8,.c (.int .u64 13)],
 op (.t 10) (.bin .xor) [.t 5,.t 9],
 op (.t 11) .nilchk [.t 3],
 op .none (.stSt 1) [.t 11,.t 10]]
def a160s3 : ACode := .reg [] a160r2
def a160r4 : List AOper := [
 op (.t 12) .mv [.v 0],
 op (.t 13) .nilchk [.t 12],
 op (.t 14) (.ldSt false 1) [.t 13],
 op (.t 15) .mv [.v 0],
 op (.t 16) .nilchk [.t 15],
 op (.t 17) (.ldSt false 1) [.t 16],
 op (.t 18) (.bin .shr) [.t 17,.c (.int .u64 7)],
 op (.t 19) (.bin .xor) [.t 14,.t 18],
 op (.t 20) .nilchk [.t 12],
 op .none (.stSt 1) [.t 20,.t 19]]
def a160s5 : ACode := .reg [] a160r4
def a160r6 : List AOper := [
 op (.t 21) .mv [.v 0],
 op (.t 22) .nilchk [.t 21],
 op (.t 23) (.ldSt false 1) [.t 22],
 op (.t 24) .mv [.v 0],
 op (.t 25) .nilchk [.t 24],
 op (.t 26) (.ldSt false 1) [.t 25],
 op (.t 27) (.bin .shl) [.t 26,.c (.int .u64 17)],
 op (.t 28) (.bin .xor) [.t 23,.t 27],
 op (.t 29) .nilchk [.t 21],
 op .none (.stSt 1) [.t 29,.t 28]]
def a160s7 : ACode := .reg [] a160r6
def a160r8 : List AOper := [
 op (.t 30) .mv [.v 0],
 op (.t 31) .nilchk [.t 30],
 op (.t 32) (.ldSt false 1) [.t 31],
 op (.v 1) .mv [.t 32]]
def a160s9 : ACode := .reg [] a160r8
def a160s10 : ACode := .seq a160s9 .ret
def a160s11 : ACode := .seq a160s7 a160s10
def a160s12 : ACode := .seq a160s5 a160s11
def a160s13 : ACode := .seq a160s3 a160s12
def a160s14 : ACode := .seq a160s1 a160s13
def a160c : ACode :=
  a160s14
def a160 : AFn := { np := 1,nv := 2,results := [.v 1],code := a160c }
def a160v : List Nat := [0,2]
def a160b : List Nat := []

def a161r0 : List AOper := [
 op (.v 4) .mv [.c (.int .i64 0)]]
def a161s1 : ACode := .reg [] a161r0
def a161r2 : List AOper := [
 op (.t 9) .mv [.v 0],
 op (.t 10) .mv [.v 1],
 op (.t 11) (.bin .sub) [.t 10,.c (.int .i64 1)],
 op (.t 12) .mv [.v 1],
 op (.t 13) .mv [.v 1],
 op (.t 14) (.bin .add) [.t 13,.c (.int .i64 1)],
 op (.t 15) .mv [.v 2],
 op (.t 16) .mv [.v 3],
 op (.t 17) (.call 162) [.t 9,.t 11,.t 12,.t 14,.t 15,.t 16],
 op (.v 4) .mv [.t 17]]
def a161s3 : ACode := .reg [] a161r2
def a161s4 : ACode := .seq a161s3 .ret
def a161s5 : ACode := .seq a161s1 a161s4
def a161c : ACode :=
  a161s5
def a161 : AFn := { np := 4,nv := 5,results := [.v 4],code := a161c }
def a161v : List Nat := [0,1,2,3,8]
def a161b : List Nat := []

def a162r0 : List AOper := [
 op (.v 6) .mv [.c (.int .i64 0)]]
def a162s1 : ACode := .reg [] a162r0
def a162r2 : List AOper := [
 op (.t 14) .mv [.v 0],
 op (.t 15) .mv [.v 1],
 op (.t 16) .mv [.v 2],
 op (.t 17) .mv [.v 4],
 op (.t 18) .mv [.v 5],
 op (.t 19) (.call 177) [.t 14,.t 15,.t 16,.t 17,.t 18],
 op (.t 13) .mv [.t 19],
 op (.t 20) (.ext 0) [.t 13],
 op (.t 21) (.ext 1) [.t 13],
 op (.v 1) .mv [.t 20],
 op (.v 2) .mv [.t 21]]
def a162s3 : ACode := .reg [] a162r2
def a162r4 : List AOper := [
 op (.t 23) .mv [.v 0],
 op (.t 24) .mv [.v 2],
 op (.t 25) .mv [.v 3],
 op (.t 26) .mv [.v 4],
 op (.t 27) .mv [.v 5],
 op (.t 28) (.call 177) [.t 23,.t 24,.t 25,.t 26,.t 27],
 op (.t 22) .mv [.t 28],
 op (.t 29) (.ext 0) [.t 22],
 op (.t 30) (.ext 1) [.t 22],
 op (.v 2) .mv [.t 29],
 op (.v 3) .mv [.t 30]]
def a162s5 : ACode := .reg [] a162r4
def a162r6 : List AOper := [
 op (.t 32) .mv [.v 0],
 op (.t 33) .mv [.v 1],
 op (.t 34) .mv [.v 2],
 op (.t 35) .mv [.v 4],
 op (.t 36) .mv [.v 5],
 op (.t 37) (.call 177) [.t 32,.t 33,.t 34,.t 35,.t 36],
 op (.t 31) .mv [.t 37],
 op (.t 38) (.ext 0) [.t 31],
 op (.t 39) (.ext 1) [.t 31],
 op (.v 1) .mv [.t 38],
 op (.v 2) .mv [.t 39]]
def a162s7 : ACode := .reg [] a162r6
def a162r8 : List AOper := [
 op (.t 40) .mv [.v 2],
 op (.v 6) .mv [.t 40]]
def a162s9 : ACode := .reg [] a162r8
def a162s10 : ACode := .seq a162s9 .ret
def a162s11 : ACode := .seq a162s7 a162s10
def a162s12 : ACode := .seq a162s5 a162s11
def a162s13 : ACode := .seq a162s3 a162s12
def a162s14 : ACode := .seq a162s1 a162s13
def a162c : ACode :=
  a162s14
def a162 : AFn := { np := 6,nv := 7,results := [.v 6],code := a162c }
def a162v : List Nat := [0,1,2,3,4,5,12]
def a162b : List Nat := []

def a163r0 : List AOper := [
 op (.v 3) .mv [.c (.bool false)]]
def a163s1 : ACode := .reg [] a163r0
def a163r2 : List AOper := [
 op (.t 10) .mv [.v 0],
 op (.t 11) .lenL [.t 10],
 op (.t 12) .mv [.v 1],
 op (.t 13) .lenL [.t 12],
 op (.t 14) (.bin .neq) [.t 11,.t 13]]
def a163r3 : List AOper := [
 op (.v 3) .mv [.c (.bool false)]]
def a163s4 : ACode := .reg [] a163r3
def a163s5 : ACode := .seq a163s4 .ret
def a163s6 : ACode := .test [] a163r2 (.t 14) a163s5 .skip
def a163r7 : List AOper := [
 op (.v 7) .mv [.v 0],
 op (.v 8) .lenL [.v 7],
 op (.v 9) .mv [.c (.int .i64 0)]]
def a163s8 : ACode := .reg [] a163r7
def a163r9 : List AOper := [
 op (.t 18) (.bin .lss) [.v 9,.v 8]]
def a163s10 : ACode := .test [] a163r9 (.t 18) .skip (.exit 0)
def a163r11 : List AOper := [
 op (.t 19) .mv [.v 9],
 op (.t 20) (.iad 3) [.v 7,.v 9],
 op (.t 21) (.ldRo true 3) [.t 20],
 ⟨.bx,.alloc [.str [],.list true [],.bool false],[],some 5,none⟩,
 op (.v 4) .mv [.t 19],
 ⟨.none,.stLc 5 3,[.l 5,.ts 21],some 5,none⟩]
def a163s12 : ACode := .reg [5] a163r11
def a163r13 : List AOper := [
 op (.t 22) .mv [.v 1],
 op (.t 23) .mv [.v 4],
 op (.t 24) (.iad 3) [.t 22,.t 23],
 op (.t 25) (.ldRo true 3) [.t 24],
 ⟨.bx,.alloc [.str [],.list true [],.bool false],[],some 6,none⟩,
 ⟨.none,.stLc 6 3,[.l 6,.ts 25],some 6,none⟩]
def a163s14 : ACode := .reg [6] a163r13
def a163r15 : List AOper := [
 op (.t 26) .mv [.v 2],
 ⟨.t 27,.ldLc 5 true 3,[.l 5],some 5,none⟩,
 ⟨.t 28,.ldLc 6 true 3,[.l 6],some 6,none⟩,
 op (.t 29) .callV [.t 26,.t 27,.t 28],
 op (.t 30) (.un .not) [.t 29]]
def a163r16 : List AOper := [
 op (.v 3) .mv [.c (.bool false)]]
def a163s17 : ACode := .reg [] a163r16
def a163s18 : ACode := .seq a163s17 .ret
def a163s19 : ACode := .test [] a163r15 (.t 30) a163s18 .skip
def a163s20 : ACode := .seq a163s14 a163s19
def a163s21 : ACode := .seq a163s12 a163s20
def a163s22 : ACode := .blk 1 a163s21
def a163r23 : List AOper := [
 op (.t 31) (.bin .add) [.v 9,.c (.int .i64 1)],
 op (.v 9) .mv [.t 31]]
def a163s24 : ACode := .reg [] a163r23
def a163s25 : ACode := .seq a163s22 a163s24
def a163s26 : ACode := .seq a163s10 a163s25
def a163s27 : ACode := .loop a163s26
def a163s28 : ACode := .blk 0 a163s27
def a163s29 : ACode := .seq a163s8 a163s28
def a163r30 : List AOper := [
 op (.v 3) .mv [.c (.bool true)]]
def a163s31 : ACode := .reg [] a163r30
def a163s32 : ACode := .seq a163s31 .ret
def a163s33 : ACode := .seq a163s29 a163s32
def a163s34 : ACode := .seq a163s6 a163s33
def a163s35 : ACode := .seq a163s1 a163s34
def a163c : ACode :=
  a163s35
def a163 : AFn := { np := 3,nv := 10,results := [.v 3],code := a163c }
def a163v : List Nat := [0,1,2,6,7,8,9,15,16,17]
def a163b : List Nat := [5,6]

def a164r0 : List AOper := [
 op (.v 2) .mv [.c (.str [])],
 op (.v 3) .mv [.c (.bool false)]]
def a164s1 : ACode := .reg [] a164r0
def a164r2 : List AOper := [
 op (.t 6) .mv [.v 0],
 op (.t 7) .mv [.v 1],
 op (.t 8) (.call 178) [.t 6,.t 7],
 op (.t 9) (.ext 0) [.t 8],
 op (.t 10) (.ext 1) [.t 8],
 op (.v 2) .mv [.t 9],
 op (.v 3) .mv [.t 10]]
def a164s3 : ACode := .reg [] a164r2
def a164s4 : ACode := .seq a164s3 .ret
def a164s5 : ACode := .seq a164s1 a164s4
def a164c : ACode :=
  a164s5
def a164 : AFn := { np := 2,nv := 4,results := [.v 2,.v 3],code := a164c }
def a164v : List Nat := [0,1,4,5]
def a164b : List Nat := []

def a165r0 : List AOper := [
 op (.v 4) .boxO [.v 3]]
def a165s1 : ACode := .reg [] a165r0
def a165r2 : List AOper := [
 op (.t 11) .mv [.v 0],
 op (.t 12) .mv [.v 0],
 op (.t 13) .nilchk [.t 12],
 op (.t 14) (.fad 5) [.t 13],
 op (.t 15) .ldStS [.t 14],
 op (.t 16) (.ldSt false 1) [.v 4],
 op (.t 17) (.bslice 1 [[.str []]] [0]) [.t 16],
 op (.t 18) (.app 1 16) [.ts 15,.t 17],
 op (.t 19) .nilchk [.t 11],
 op (.t 20) (.fad 5) [.t 19],
 op .none (.stSt 1) [.t 20,.ts 18]]
def a165s3 : ACode := .reg [] a165r2
def a165r4 : List AOper := [
 op (.t 21) .mv [.v 0],
 op (.t 22) .nilchk [.t 21],
 op (.t 23) (.fad 1) [.t 22],
 op (.t 24) (.fad 2) [.t 23],
 op (.t 25) (.ldSt false 1) [.t 24],
 op (.t 26) (.mkF 180 0) [.v 4],
 op (.t 27) (.call 179) [.t 25,.t 26],
 op (.v 5) .mv [.t 27]]
def a165s5 : ACode := .reg [] a165r4
def a165r6 : List AOper := [
 op (.t 28) .mv [.v 5],
 op (.t 29) (.bin .lss) [.t 28,.c (.int .i64 0)]]
def a165r7 : List AOper := [
 op (.t 30) .mv [.v 0],
 op (.t 31) .nilchk [.t 30],
 op (.t 32) (.fad 0) [.t 31],
 op (.t 33) (.ldSt false 1) [.t 32],
 op (.t 34) (.ldSt false 1) [.v 4],
 op (.t 35) (.call 26) [.t 33,.c (.int .i64 16),.t 34]]
def a165s8 : ACode := .reg [] a165r7
def a165s9 : ACode := .seq a165s8 .ret
def a165s10 : ACode := .test [] a165r6 (.t 29) a165s9 .skip
def a165r11 : List AOper := [
 op (.t 36) .mv [.v 1],
 op (.t 37) (.binP .eql) [.t 36,.c (.nilp)]]
def a165s12 : ACode := .test [] a165r11 (.t 37) .ret .skip
def a165r13 : List AOper := [
 op (.t 38) .mv [.v 0],
 op (.t 39) .nilchk [.t 38],
 op (.t 40) (.fad 1) [.t 39],
 op (.t 41) (.fad 2) [.t 40],
 op (.t 42) (.ldSt false 1) [.t 41],
 op (.t 43) .mv [.v 5],
 op (.t 44) (.iad 10) [.t 42,.t 43],
 op (.t 45) (.ldRo true 10) [.t 44],
 ⟨.bx,.alloc [.str [],.str [],.list true [],.bool false,.bool false,.int .u8 0,.int .i64 0,.str [],.list true [],.list true []],[],some 6,none⟩,
 ⟨.none,.stLc 6 10,[.l 6,.ts 45],some 6,none⟩]
def a165s14 : ACode := .reg [6] a165r13
def a165r15 : List AOper := [
 op (.t 46) .mv [.v 1],
 op (.t 47) .nilchk [.t 46],
 op (.t 48) (.ldSt true 3) [.t 47],
 ⟨.bx,.alloc [.str [],.list true [],.bool false],[],some 7,none⟩,
 ⟨.none,.stLc 7 3,[.l 7,.ts 48],some 7,none⟩]
def a165s16 : ACode := .reg [7] a165r15
def a165r17 : List AOper := [
 op (.t 49) (.fad 2) [.l 7],
 ⟨.t 50,.ldLc 7 false 1,[.t 49],some 7,none⟩,
 op (.t 51) .mv [.t 50],
 ⟨.t 52,.fad 1,[.l 6],none,some (.t 51,true)⟩,
 ⟨.t 53,.fad 2,[.t 52],none,some (.t 51,true)⟩,
 ⟨.t 54,.ldLc 6 false 1,[.t 53],some 6,some (.t 51,true)⟩,
 ⟨.t 55,.un .not,[.t 54],none,some (.t 51,true)⟩,
 op (.t 56) .pick [.t 51,.t 55,.c (.bool false)],
 op (.t 57) .mv [.t 56],
 ⟨.t 58,.mv,[.v 2],none,some (.t 57,true)⟩,
 ⟨.t 59,.mv,[.t 58],none,some (.t 57,true)⟩,
 ⟨.t 60,.fad 4,[.l 6],none,some (.t 59,false)⟩,
 ⟨.t 61,.ldLc 6 false 1,[.t 60],some 6,some (.t 59,false)⟩,
 ⟨.t 62,.mv,[.t 61],none,some (.t 59,false)⟩,
 ⟨.t 63,.fad 5,[.l 6],none,some (.t 62,true)⟩,
 ⟨.t 64,.fad 0,[.t 63],none,some (.t 62,true)⟩,
 ⟨.t 65,.ldLc 6 false 1,[.t 64],some 6,some (.t 62,true)⟩,
 ⟨.t 66,.bin .neq,[.t 65,.c (.int .u8 0)],none,some (.t 62,true)⟩,
 ⟨.t 67,.pick,[.t 62,.t 66,.c (.bool false)],none,some (.t 59,false)⟩,
 ⟨.t 68,.pick,[.t 59,.c (.bool true),.t 67],none,some (.t 57,true)⟩,
 op (.t 69) .pick [.t 57,.t 68,.c (.bool false)]]
def a165r18 : List AOper := [
 op (.t 70) (.fad 2) [.l 7],
 ⟨.none,.stLc 7 1,[.t 70,.c (.bool false)],some 7,none⟩]
def a165s19 : ACode := .reg [] a165r18
def a165s20 : ACode := .test [] a165r17 (.t 69) a165s19 .skip
def a165r21 : List AOper := [
 op (.t 71) (.fad 1) [.l 6],
 ⟨.t 72,.ldLc 6 true 3,[.t 71],some 6,none⟩,
 ⟨.t 73,.ldLc 7 true 3,[.l 7],some 7,none⟩,
 op (.t 74) (.call 181) [.t 72,.t 73],
 op (.t 75) (.un .not) [.t 74]]
def a165r22 : List AOper := [
 op (.t 76) .mv [.v 0],
 op (.t 77) .nilchk [.t 76],
 op (.t 78) (.fad 0) [.t 77],
 op (.t 79) (.ldSt false 1) [.t 78],
 op (.t 80) (.ldSt false 1) [.v 4],
 op (.t 81) (.call 26) [.t 79,.c (.int .i64 18),.t 80]]
def a165s23 : ACode := .reg [] a165r22
def a165s24 : ACode := .test [] a165r21 (.t 75) a165s23 .skip
def a165s25 : ACode := .seq a165s20 a165s24
def a165s26 : ACode := .seq a165s16 a165s25
def a165s27 : ACode := .seq a165s14 a165s26
def a165s28 : ACode := .seq a165s12 a165s27
def a165s29 : ACode := .seq a165s10 a165s28
def a165s30 : ACode := .seq a165s5 a165s29
def a165s31 : ACode := .seq a165s3 a165s30
def a165s32 : ACode := .seq a165s1 a165s31
def a165c : ACode :=
  a165s32
def a165 : AFn := { np := 4,nv := 8,results := [],code := a165c }
def a165v : List Nat := [0,1,2,3,7,8,9,10]
def a165b : List Nat := [6,7]

def a166r0 : List AOper := [
 ⟨.bx,.boxV,[.v 0],some 3,none⟩,
 op (.v 4) .mv [.c (.bool false)]]
def a166s1 : ACode := .reg [3] a166r0
def a166r2 : List AOper := [
 op (.t 5) (.fad 0) [.l 3],
 ⟨.t 6,.ldLc 3 false 1,[.t 5],some 3,none⟩,
 op (.t 7) (.fad 3) [.v 1],
 op (.t 8) (.ldSt false 1) [.t 7],
 op (.t 9) (.ldSt false 1) [.v 2],
 op (.t 10) (.iad 1) [.t 8,.t 9],
 op (.t 11) (.ldRo false 1) [.t 10],
 op (.t 12) (.bin .eql) [.t 6,.t 11],
 op (.v 4) .mv [.t 12]]
def a166s3 : ACode := .reg [] a166r2
def a166s4 : ACode := .seq a166s3 .ret
def a166s5 : ACode := .seq a166s1 a166s4
def a166c : ACode :=
  a166s5
def a166 : AFn := { np := 3,nv := 5,results := [.v 4],code := a166c }
def a166v : List Nat := [0,1,2,3,4]
def a166b : List Nat := [3]

def a167r0 : List AOper := [
 op (.v 2) .mv [.c (.bool false)]]
def a167s1 : ACode := .reg [] a167r0
def a167r2 : List AOper := [
 op (.t 5) .mv [.v 0],
 op (.t 6) .mv [.v 1],
 op (.t 7) (.call 182) [.t 5,.t 6],
 op (.t 8) (.bin .geq) [.t 7,.c (.int .i64 0)],
 op (.v 2) .mv [.t 8]]
def a167s3 : ACode := .reg [] a167r2
def a167s4 : ACode := .seq a167s3 .ret
def a167s5 : ACode := .seq a167s1 a167s4
def a167c : ACode :=
  a167s5
def a167 : AFn := { np := 2,nv := 3,results := [.v 2],code := a167c }
def a167v : List Nat := [0,1,4]
def a167b : List Nat := []

def a168r0 : List AOper := [
 op (.v 2) .boxO [.v 0],
 op (.v 3) .mv [.c (.bool false)]]
def a168s1 : ACode := .reg [] a168r0
def a168r2 : List AOper := [
 op (.t 4) (.ldSt false 1) [.v 1],
 op (.t 5) (.mkF 169 0) [.v 2],
 op (.t 6) (.call 167) [.t 4,.t 5],
 op (.t 7) (.un .not) [.t 6],
 op (.v 3) .mv [.t 7]]
def a168s3 : ACode := .reg [] a168r2
def a168s4 : ACode := .seq a168s3 .ret
def a168s5 : ACode := .seq a168s1 a168s4
def a168c : ACode :=
  a168s5
def a168 : AFn := { np := 2,nv := 4,results := [.v 3],code := a168c }
def a168v : List Nat := [0,1,2,3]
def a168b : List Nat := []

def a169r0 : List AOper := [
 ⟨.bx,.boxV,[.v 0],some 2,none⟩,
 op (.v 3) .mv [.c (.bool false)]]
def a169s1 : ACode := .reg [2] a169r0
def a169r2 : List AOper := [
 op (.t 4) (.fad 0) [.v 1],
 op (.t 5) (.ldSt false 1) [.t 4],
 op (.t 6) (.fad 0) [.l 2],
 ⟨.t 7,.ldLc 2 false 1,[.t 6],some 2,none⟩,
 op (.t 8) (.bin .eql) [.t 5,.t 7],
 op (.t 9) .mv [.t 8],
 ⟨.t 10,.fad 1,[.v 1],none,some (.t 9,true)⟩,
 ⟨.t 11,.ldSt true 5,[.t 10],none,some (.t 9,true)⟩,
 ⟨.t 12,.fad 1,[.l 2],none,some (.t 9,true)⟩,
 ⟨.t 13,.ldLc 2 true 5,[.t 12],some 2,some (.t 9,true)⟩,
 ⟨.t 14,.call 170,[.t 11,.t 13],none,some (.t 9,true)⟩,
 op (.t 15) .pick [.t 9,.t 14,.c (.bool false)],
 op (.v 3) .mv [.t 15]]
def a169s3 : ACode := .reg [] a169r2
def a169s4 : ACode := .seq a169s3 .ret
def a169s5 : ACode := .seq a169s1 a169s4
def a169c : ACode :=
  a169s5
def a169 : AFn := { np := 2,nv := 4,results := [.v 3],code := a169c }
def a169v : List Nat := [0,1,2,3]
def a169b : List Nat := [2]

def a170r0 : List AOper := [
 ⟨.bx,.boxV,[.v 0],some 2,none⟩,
 ⟨.bx,.boxV,[.v 1],some 3,none⟩,
 op (.v 4) .mv [.c (.bool false)]]
def a170s1 : ACode := .reg [2,3] a170r0
def a170r2 : List AOper := [
 op (.t 5) (.fad 0) [.l 2],
 ⟨.t 6,.ldLc 2 false 1,[.t 5],some 2,none⟩,
 op (.t 7) (.fad 0) [.l 3],
 ⟨.t 8,.ldLc 3 false 1,[.t 7],some 3,none⟩,
 op (.t 9) (.bin .eql) [.t 6,.t 8],
 op (.t 10) .mv [.t 9],
 ⟨.t 11,.fad 1,[.l 2],none,some (.t 10,true)⟩,
 ⟨.t 12,.ldLc 2 false 1,[.t 11],some 2,some (.t 10,true)⟩,
 ⟨.t 13,.fad 1,[.l 3],none,some (.t 10,true)⟩,
 ⟨.t 14,.ldLc 3 false 1,[.t 13],some 3,some (.t 10,true)⟩,
 ⟨.t 15,.bin .eql,[.t 12,.t 14],none,some (.t 10,true)⟩,
 op (.t 16) .pick [.t 10,.t 15,.c (.bool false)],
 op (.t 17) .mv [.t 16],
 ⟨.t 18,.fad 2,[.l 2],none,some (.t 17,true)⟩,
 ⟨.t 19,.ldLc 2 false 1,[.t 18],some 2,some (.t 17,true)⟩,
 ⟨.t 20,.fad 2,[.l 3],none,some (.t 17,true)⟩,
 ⟨.t 21,.ldLc 3 false 1,[.t 20],some 3,some (.t 17,true)⟩,
 ⟨.t 22,.bin .eql,[.t 19,.t 21],none,some (.t 17,true)⟩,
 op (.t 23) .pick [.t 17,.t 22,.c (.bool false)],
 op (.t 24) .mv [.t 23],
 ⟨.t 25,.fad 3,[.l 2],none,some (.t 24,true)⟩,
 ⟨.t 26,.ldLc 2 false 1,[.t 25],some 2,some (.t 24,true)⟩,
 ⟨.t 27,.fad 3,[.l 3],none,some (.t 24,true)⟩,
 ⟨.t 28,.ldLc 3 false 1,[.t 27],some 3,some (.t 24,true)⟩,
 ⟨.t 29,.call 183,[.t 26,.t 28],none,some (.t 24,true)⟩,
 op (.t 30) .pick [.t 24,.t 29,.c (.bool false)],
 op (.t 31) .mv [.t 30],
 ⟨.t 32,.fad 4,[.l 2],none,some (.t 31,true)⟩,
 ⟨.t 33,.ldLc 2 false 1,[.t 32],some 2,some (.t 31,true)⟩,
 ⟨.t 34,.fad 4,[.l 3],none,some (.t 31,true)⟩,
 ⟨.t 35,.ldLc 3 false 1,[.t 34],some 3,some (.t 31,true)⟩,
 ⟨.t 36,.call 184,[.t 33,.t 35,.c (.func 170 [] [])],none,some (.t 31,true)⟩,
 op (.t 37) .pick [.t 31,.t 36,.c (.bool false)],
 op (.v 4) .mv [.t 37]]
def a170s3 : ACode := .reg [] a170r2
def a170s4 : ACode := .seq a170s3 .ret
def a170s5 : ACode := .seq a170s1 a170s4
def a170c : ACode :=
  a170s5
def a170 : AFn := { np := 2,nv := 5,results := [.v 4],code := a170c }
def a170v : List Nat := [0,1,2,3,4]
def a170b : List Nat := [2,3]

def a171r0 : List AOper := [
 op (.v 3) .mv [.c (.bool false)]]
def a171s1 : ACode := .reg [] a171r0
def a171r2 : List AOper := [
 op (.t 10) .mv [.v 0],
 op (.t 11) .lenL [.t 10],
 op (.t 12) .mv [.v 1],
 op (.t 13) .lenL [.t 12],
 op (.t 14) (.bin .neq) [.t 11,.t 13]]
def a171r3 : List AOper := [
 op (.v 3) .mv [.c (.bool false)]]
def a171s4 : ACode := .reg [] a171r3
def a171s5 : ACode := .seq a171s4 .ret
def a171s6 : ACode := .test [] a171r2 (.t 14) a171s5 .skip
def a171r7 : List AOper := [
 op (.v 7) .mv [.v 0],
 op (.v 8) .lenL [.v 7],
 op (.v 9) .mv [.c (.int .i64 0)]]
def a171s8 : ACode := .reg [] a171r7
def a171r9 : List AOper := [
 op (.t 18) (.bin .lss) [.v 9,.v 8]]
def a171s10 : ACode := .test [] a171r9 (.t 18) .skip (.exit 0)
def a171r11 : List AOper := [
 op (.t 19) .mv [.v 9],
 op (.t 20) (.iad 2) [.v 7,.v 9],
 op (.t 21) (.ldRo true 2) [.t 20],
 ⟨.bx,.alloc [.str [],.list true []],[],some 5,none⟩,
 op (.v 4) .mv [.t 19],
 ⟨.none,.stLc 5 2,[.l 5,.ts 21],some 5,none⟩]
def a171s12 : ACode := .reg [5] a171r11
def a171r13 : List AOper := [
 op (.t 22) .mv [.v 1],
 op (.t 23) .mv [.v 4],
 op (.t 24) (.iad 2) [.t 22,.t 23],
 op (.t 25) (.ldRo true 2) [.t 24],
 ⟨.bx,.alloc [.str [],.list true []],[],some 6,none⟩,
 ⟨.none,.stLc 6 2,[.l 6,.ts 25],some 6,none⟩]
def a171s14 : ACode := .reg [6] a171r13
def a171r15 : List AOper := [
 op (.t 26) .mv [.v 2],
 ⟨.t 27,.ldLc 5 true 2,[.l 5],some 5,none⟩,
 ⟨.t 28,.ldLc 6 true 2,[.l 6],some 6,none⟩,
 op (.t 29) .callV [.t 26,.t 27,.t 28],
 op (.t 30) (.un .not) [.t 29]]
def a171r16 : List AOper := [
 op (.v 3) .mv [.c (.bool false)]]
def a171s17 : ACode := .reg [] a171r16
def a171s18 : ACode := .seq a171s17 .ret
def a171s19 : ACode := .test [] a171r15 (.t 30) a171s18 .skip
def a171s20 : ACode := .seq a171s14 a171s19
def a171s21 : ACode := .seq a171s12 a171s20
def a171s22 : ACode := .blk 1 a171s21
def a171r23 : List AOper := [
 op (.t 31) (.bin .add) [.v 9,.c (.int .i64 1)],
 op (.v 9) .mv [.t 31]]
def a171s24 : ACode := .reg [] a171r23
def a171s25 : ACode := .seq a171s22 a171s24
def a171s26 : ACode := .seq a171s10 a171s25
def a171s27 : ACode := .loop a171s26
def a171s28 : ACode := .blk 0 a171s27
def a171s29 : ACode := .seq a171s8 a171s28
def a171r30 : List AOper := [
 op (.v 3) .mv [.c (.bool true)]]
def a171s31 : ACode := .reg [] a171r30
def a171s32 : ACode := .seq a171s31 .ret
def a171s33 : ACode := .seq a171s29 a171s32
def a171s34 : ACode := .seq a171s6 a171s33
def a171s35 : ACode := .seq a171s1 a171s34
def a171c : ACode :=
  a171s35
def a171 : AFn := { np := 3,nv := 10,results := [.v 3],code := a171c }
def a171v : List Nat := [0,1,2,6,7,8,9,15,16,17]
def a171b : List Nat := [5,6]

def a172r0 : List AOper := [
 ⟨.bx,.boxV,[.v 0],some 2,none⟩,
 ⟨.bx,.boxV,[.v 1],some 3,none⟩,
 op (.v 4) .mv [.c (.bool false)]]
def a172s1 : ACode := .reg [2,3] a172r0
def a172r2 : List AOper := [
 op (.t 5) (.fad 0) [.l 2],
 ⟨.t 6,.ldLc 2 false 1,[.t 5],some 2,none⟩,
 op (.t 7) (.fad 0) [.l 3],
 ⟨.t 8,.ldLc 3 false 1,[.t 7],some 3,none⟩,
 op (.t 9) (.bin .eql) [.t 6,.t 8],
 op (.t 10) .mv [.t 9],
 ⟨.t 11,.fad 1,[.l 2],none,some (.t 10,true)⟩,
 ⟨.t 12,.ldLc 2 false 1,[.t 11],some 2,some (.t 10,true)⟩,
 ⟨.t 13,.fad 1,[.l 3],none,some (.t 10,true)⟩,
 ⟨.t 14,.ldLc 3 false 1,[.t 13],some 3,some (.t 10,true)⟩,
 ⟨.t 15,.call 149,[.t 12,.t 14],none,some (.t 10,true)⟩,
 op (.t 16) .pick [.t 10,.t 15,.c (.bool false)],
 op (.v 4) .mv [.t 16]]
def a172s3 : ACode := .reg [] a172r2
def a172s4 : ACode := .seq a172s3 .ret
def a172s5 : ACode := .seq a172s1 a172s4
def a172c : ACode :=
  a172s5
def a172 : AFn := { np := 2,nv := 5,results := [.v 4],code := a172c }
def a172v : List Nat := [0,1,2,3,4]
def a172b : List Nat := [2,3]

def a173r0 : List AOper := [
 ⟨.bx,.boxV,[.v 0],some 3,none⟩,
 op (.v 4) .mv [.c (.bool false)]]
def a173s1 : ACode := .reg [3] a173r0
def a173r2 : List AOper := [
 op (.t 5) (.ldSt false 1) [.v 1],
 op (.t 6) (.fad 1) [.v 2],
 op (.t 7) (.ldSt false 1) [.t 6],
 op (.t 8) (.iad 3) [.t 7,.c (.int .i64 0)],
 op (.t 9) (.ldRo true 3) [.t 8],
 ⟨.t 10,.ldLc 3 true 5,[.l 3],some 3,none⟩,
 op (.t 11) (.call 155) [.t 5,.t 9,.t 10],
 op (.t 12) (.un .not) [.t 11],
 op (.v 4) .mv [.t 12]]
def a173s3 : ACode := .reg [] a173r2
def a173s4 : ACode := .seq a173s3 .ret
def a173s5 : ACode := .seq a173s1 a173s4
def a173c : ACode :=
  a173s5
def a173 : AFn := { np := 3,nv := 5,results := [.v 4],code := a173c }
def a173v : List Nat := [0,1,2,3,4]
def a173b : List Nat := [3]

def a174r0 : List AOper := [
 ⟨.bx,.boxV,[.v 0],some 2,none⟩,
 op (.v 3) .mv [.c (.bool false)]]
def a174s1 : ACode := .reg [2] a174r0
def a174r2 : List AOper := [
 op (.t 4) (.fad 0) [.l 2],
 ⟨.t 5,.ldLc 2 false 1,[.t 4],some 2,none⟩,
 op (.t 6) (.ldSt false 1) [.v 1],
 op (.t 7) (.bin .eql) [.t 5,.t 6],
 op (.v 3) .mv [.t 7]]
def a174s3 : ACode := .reg [] a174r2
def a174s4 : ACode := .seq a174s3 .ret
def a174s5 : ACode := .seq a174s1 a174s4
def a174c : ACode :=
  a174s5
def a174 : AFn := { np := 2,nv := 4,results := [.v 3],code := a174c }
def a174v : List Nat := [0,1,2,3]
def a174b : List Nat := [2]

def a175r0 : List AOper := [
 ⟨.bx,.boxV,[.v 0],some 2,none⟩,
 op (.v 3) .mv [.c (.bool false)]]
def a175s1 : ACode := .reg [2] a175r0
def a175r2 : List AOper := [
 op (.t 4) (.fad 2) [.l 2],
 op (.t 5) (.fad 2) [.t 4],
 ⟨.t 6,.ldLc 2 false 1,[.t 5],some 2,none⟩,
 op (.t 7) .mv [.t 6],
 ⟨.t 8,.fad 5,[.l 2],none,some (.t 7,true)⟩,
 ⟨.t 9,.ldLc 2 false 1,[.t 8],some 2,some (.t 7,true)⟩,
 ⟨.t 10,.un .not,[.t 9],none,some (.t 7,true)⟩,
 op (.t 11) .pick [.t 7,.t 10,.c (.bool false)],
 op (.t 12) .mv [.t 11],
 ⟨.t 13,.fad 3,[.v 1],none,some (.t 12,true)⟩,
 ⟨.t 14,.ldSt false 1,[.t 13],none,some (.t 12,true)⟩,
 ⟨.t 15,.fad 0,[.l 2],none,some (.t 12,true)⟩,
 ⟨.t 16,.ldLc 2 false 1,[.t 15],some 2,some (.t 12,true)⟩,
 ⟨.t 17,.call 32,[.t 14,.t 16],none,some (.t 12,true)⟩,
 ⟨.t 18,.un .not,[.t 17],none,some (.t 12,true)⟩,
 op (.t 19) .pick [.t 12,.t 18,.c (.bool false)],
 op (.v 3) .mv [.t 19]]
def a175s3 : ACode := .reg [] a175r2
def a175s4 : ACode := .seq a175s3 .ret
def a175s5 : ACode := .seq a175s1 a175s4
def a175c : ACode :=
  a175s5
def a175 : AFn := { np := 2,nv := 4,results := [.v 3],code := a175c }
def a175v : List Nat := [0,1,2,3]
def a175b : List Nat := [2]

def a176 : AFn := { np := 1,nv := 0,results := [],code := .skip,ext := some (cloneX 1 16) }
def a177r0 : List AOper := [
 op (.v 5) .mv [.c (.int .i64 0)],
 op (.v 6) .mv [.c (.int .i64 0)]]
def a177s1 : ACode := .reg [] a177r0
def a177r2 : List AOper := [
 op (.t 12) .mv [.v 4],
 op (.t 13) .mv [.v 0],
 op (.t 14) .mv [.v 2],
 op (.t 15) (.iad 2) [.t 13,.t 14],
 op (.t 16) (.ldAn true 2) [.t 15],
 op (.t 17) .mv [.v 0],
 op (.t 18) .mv [.v 1],
 op (.t 19) (.iad 2) [.t 17,.t 18],
 op (.t 20) (.ldAn true 2) [.t 19],
 op (.t 21) .callV [.t 12,.t 16,.t 20],
 op (.t 22) (.bin .lss) [.t 21,.c (.int .i64 0)]]
def a177r3 : List AOper := [
 op (.t 23) .mv [.v 3],
 op (.t 24) .nilchk [.t 23],
 op (.t 25) (.ldSt false 1) [.t 24],
 op (.t 26) (.bin .add) [.t 25,.c (.int .i64 1)],
 op (.t 27) .nilchk [.t 23],
 op .none (.stSt 1) [.t 27,.t 26]]
def a177s4 : ACode := .reg [] a177r3
def a177r5 : List AOper := [
 op (.t 28) .mv [.v 2],
 op (.t 29) .mv [.v 1],
 op (.v 5) .mv [.t 28],
 op (.v 6) .mv [.t 29]]
def a177s6 : ACode := .reg [] a177r5
def a177s7 : ACode := .seq a177s6 .ret
def a177s8 : ACode := .seq a177s4 a177s7
def a177s9 : ACode := .test [] a177r2 (.t 22) a177s8 .skip
def a177r10 : List AOper := [
 op (.t 30) .mv [.v 1],
 op (.t 31) .mv [.v 2],
 op (.v 5) .mv [.t 30],
 op (.v 6) .mv [.t 31]]
def a177s11 : ACode := .reg [] a177r10
def a177s12 : ACode := .seq a177s11 .ret
def a177s13 : ACode := .seq a177s9 a177s12
def a177s14 : ACode := .seq a177s1 a177s13
def a177c : ACode :=
  a177s14
def a177 : AFn := { np := 5,nv := 7,results := [.v 5,.v 6],code := a177c }
def a177v : List Nat := [0,1,2,3,4,10,11]
def a177b : List Nat := []

def a178r0 : List AOper := [
 op (.v 2) .mv [.c (.str [])],
 op (.v 3) .mv [.c (.bool false)]]
def a178s1 : ACode := .reg [] a178r0
def a178r2 : List AOper := [
 op (.t 6) .mv [.v 0],
 op (.t 7) .mv [.v 1],
 op (.t 8) (.call 78) [.t 6,.t 7],
 op (.t 9) (.un .not) [.t 8]]
def a178r3 : List AOper := [
 op (.t 10) .mv [.v 0],
 op (.v 2) .mv [.t 10],
 op (.v 3) .mv [.c (.bool false)]]
def a178s4 : ACode := .reg [] a178r3
def a178s5 : ACode := .seq a178s4 .ret
def a178s6 : ACode := .test [] a178r2 (.t 9) a178s5 .skip
def a178r7 : List AOper := [
 op (.t 11) .mv [.v 0],
 op (.t 12) .mv [.v 1],
 op (.t 13) .lenS [.t 12],
 op (.t 14) (.slS true false) [.t 11,.t 13],
 op (.v 2) .mv [.t 14],
 op (.v 3) .mv [.c (.bool true)]]
def a178s8 : ACode := .reg [] a178r7
def a178s9 : ACode := .seq a178s8 .ret
def a178s10 : ACode := .seq a178s6 a178s9
def a178s11 : ACode := .seq a178s1 a178s10
def a178c : ACode :=
  a178s11
def a178 : AFn := { np := 2,nv := 4,results := [.v 2,.v 3],code := a178c }
def a178v : List Nat := [0,1,4,5]
def a178b : List Nat := []

def a179r0 : List AOper := [
 op (.v 2) .mv [.c (.int .i64 0)]]
def a179s1 : ACode := .reg [] a179r0
def a179r2 : List AOper := [
 op (.t 6) .mv [.v 0],
 op (.v 4) .lenL [.t 6],
 op (.v 5) .mv [.c (.int .i64 0)]]
def a179s3 : ACode := .reg [] a179r2
def a179r4 : List AOper := [
 op (.t 9) (.bin .lss) [.v 5,.v 4]]
def a179s5 : ACode := .test [] a179r4 (.t 9) .skip (.exit 0)
def a179r6 : List AOper := [
 op (.t 10) .mv [.v 5],
 op (.v 3) .mv [.t 10]]
def a179s7 : ACode := .reg [] a179r6
def a179r8 : List AOper := [
 op (.t 11) .mv [.v 1],
 op (.t 12) .mv [.v 0],
 op (.t 13) .mv [.v 3],
 op (.t 14) (.iad 10) [.t 12,.t 13],
 op (.t 15) (.ldRo true 10) [.t 14],
 op (.t 16) .callV [.t 11,.t 15]]
def a179r9 : List AOper := [
 op (.t 17) .mv [.v 3],
 op (.v 2) .mv [.t 17]]
def a179s10 : ACode := .reg [] a179r9
def a179s11 : ACode := .seq a179s10 .ret
def a179s12 : ACode := .test [] a179r8 (.t 16) a179s11 .skip
def a179s13 : ACode := .seq a179s7 a179s12
def a179s14 : ACode := .blk 1 a179s13
def a179r15 : List AOper := [
 op (.t 18) (.bin .add) [.v 5,.c (.int .i64 1)],
 op (.v 5) .mv [.t 18]]
def a179s16 : ACode := .reg [] a179r15
def a179s17 : ACode := .seq a179s14 a179s16
def a179s18 : ACode := .seq a179s5 a179s17
def a179s19 : ACode := .loop a179s18
def a179s20 : ACode := .blk 0 a179s19
def a179s21 : ACode := .seq a179s3 a179s20
def a179r22 : List AOper := [
 op (.v 2) .mv [.c (.int .i64 (-1))]]
def a179s23 : ACode := .reg [] a179r22
def a179s24 : ACode := .seq a179s23 .ret
def a179s25 : ACode := .seq a179s21 a179s24
def a179s26 : ACode := .seq a179s1 a179s25
def a179c : ACode :=
  a179s26
def a179 : AFn := { np := 2,nv := 6,results := [.v 2],code := a179c }
def a179v : List Nat := [0,1,4,5,7,8]
def a179b : List Nat := []

def a180r0 : List AOper := [
 ⟨.bx,.boxV,[.v 0],some 2,none⟩,
 op (.v 3) .mv [.c (.bool false)]]
def a180s1 : ACode := .reg [2] a180r0
def a180r2 : List AOper := [
 op (.t 4) (.fad 0) [.l 2],
 ⟨.t 5,.ldLc 2 false 1,[.t 4],some 2,none⟩,
 op (.t 6) (.ldSt false 1) [.v 1],
 op (.t 7) (.bin .eql) [.t 5,.t 6],
 op (.v 3) .mv [.t 7]]
def a180s3 : ACode := .reg [] a180r2
def a180s4 : ACode := .seq a180s3 .ret
def a180s5 : ACode := .seq a180s1 a180s4
def a180c : ACode :=
  a180s5
def a180 : AFn := { np := 2,nv := 4,results := [.v 3],code := a180c }
def a180v : List Nat := [0,1,2,3]
def a180b : List Nat := [2]

def a181r0 : List AOper := [
 ⟨.bx,.boxV,[.v 0],some 2,none⟩,
 ⟨.bx,.boxV,[.v 1],some 3,none⟩,
 op (.v 4) .mv [.c (.bool false)]]
def a181s1 : ACode := .reg [2,3] a181r0
def a181r2 : List AOper := [
 op (.t 5) (.fad 2) [.l 3],
 ⟨.t 6,.ldLc 3 false 1,[.t 5],some 3,none⟩,
 op (.t 7) .mv [.t 6],
 ⟨.t 8,.fad 2,[.l 2],none,some (.t 7,true)⟩,
 ⟨.t 9,.ldLc 2 false 1,[.t 8],some 2,some (.t 7,true)⟩,
 ⟨.t 10,.un .not,[.t 9],none,some (.t 7,true)⟩,
 op (.t 11) .pick [.t 7,.t 10,.c (.bool false)],
 op (.t 12) .mv [.t 11],
 ⟨.t 13,.fad 1,[.l 2],none,some (.t 12,false)⟩,
 ⟨.t 14,.ldLc 2 false 1,[.t 13],some 2,some (.t 12,false)⟩,
 ⟨.t 15,.lenL,[.t 14],none,some (.t 12,false)⟩,
 ⟨.t 16,.fad 1,[.l 3],none,some (.t 12,false)⟩,
 ⟨.t 17,.ldLc 3 false 1,[.t 16],some 3,some (.t 12,false)⟩,
 ⟨.t 18,.lenL,[.t 17],none,some (.t 12,false)⟩,
 ⟨.t 19,.bin .neq,[.t 15,.t 18],none,some (.t 12,false)⟩,
 op (.t 20) .pick [.t 12,.c (.bool true),.t 19]]
def a181r3 : List AOper := [
 op (.v 4) .mv [.c (.bool false)]]
def a181s4 : ACode := .reg [] a181r3
def a181s5 : ACode := .seq a181s4 .ret
def a181s6 : ACode := .test [] a181r2 (.t 20) a181s5 .skip
def a181r7 : List AOper := [
 op (.t 21) (.fad 1) [.l 2],
 ⟨.t 22,.ldLc 2 false 1,[.t 21],some 2,none⟩,
 op (.t 23) .lenL [.t 22],
 op (.t 24) (.bin .gtr) [.t 23,.c (.int .i64 0)]]
def a181r8 : List AOper := [
 op (.t 25) (.fad 1) [.l 2],
 ⟨.t 26,.ldLc 2 false 1,[.t 25],some 2,none⟩,
 op (.t 27) (.iad 3) [.t 26,.c (.int .i64 0)],
 op (.t 28) (.ldRo true 3) [.t 27],
 op (.t 29) (.fad 1) [.l 3],
 ⟨.t 30,.ldLc 3 false 1,[.t 29],some 3,none⟩,
 op (.t 31) (.iad 3) [.t 30,.c (.int .i64 0)],
 op (.t 32) (.ldRo true 3) [.t 31],
 op (.t 33) (.call 181) [.t 28,.t 32],
 op (.v 4) .mv [.t 33]]
def a181s9 : ACode := .reg [] a181r8
def a181s10 : ACode := .seq a181s9 .ret
def a181s11 : ACode := .test [] a181r7 (.t 24) a181s10 .skip
def a181r12 : List AOper := [
 op (.t 34) (.fad 0) [.l 2],
 ⟨.t 35,.ldLc 2 false 1,[.t 34],some 2,none⟩,
 op (.t 36) (.fad 0) [.l 3],
 ⟨.t 37,.ldLc 3 false 1,[.t 36],some 3,none⟩,
 op (.t 38) (.bin .eql) [.t 35,.t 37],
 op (.v 4) .mv [.t 38]]
def a181s13 : ACode := .reg [] a181r12
def a181s14 : ACode := .seq a181s13 .ret
def a181s15 : ACode := .seq a181s11 a181s14
def a181s16 : ACode := .seq a181s6 a181s15
def a181s17 : ACode := .seq a181s1 a181s16
def a181c : ACode :=
  a181s17
def a181 : AFn := { np := 2,nv := 5,results := [.v 4],code := a181c }
def a181v : List Nat := [0,1,2,3,4]
def a181b : List Nat := [2,3]

def a182r0 : List AOper := [
 op (.v 2) .mv [.c (.int .i64 0)]]
def a182s1 : ACode := .reg [] a182r0
def a182r2 : List AOper := [
 op (.t 6) .mv [.v 0],
 op (.v 4) .lenL [.t 6],
 op (.v 5) .mv [.c (.int .i64 0)]]
def a182s3 : ACode := .reg [] a182r2
def a182r4 : List AOper := [
 op (.t 9) (.bin .lss) [.v 5,.v 4]]
def a182s5 : ACode := .test [] a182r4 (.t 9) .skip (.exit 0)
def a182r6 : List AOper := [
 op (.t 10) .mv [.v 5],
 op (.v 3) .mv [.t 10]]
def a182s7 : ACode := .reg [] a182r6
def a182r8 : List AOper := [
 op (.t 11) .mv [.v 1],
 op (.t 12) .mv [.v 0],
 op (.t 13) .mv [.v 3],
 op (.t 14) (.iad 6) [.t 12,.t 13],
 op (.t 15) (.ldRo true 6) [.t 14],
 op (.t 16) .callV [.t 11,.t 15]]
def a182r9 : List AOper := [
 op (.t 17) .mv [.v 3],
 op (.v 2) .mv [.t 17]]
def a182s10 : ACode := .reg [] a182r9
def a182s11 : ACode := .seq a182s10 .ret
def a182s12 : ACode := .test [] a182r8 (.t 16) a182s11 .skip
def a182s13 : ACode := .seq a182s7 a182s12
def a182s14 : ACode := .blk 1 a182s13
def a182r15 : List AOper := [
 op (.t 18) (.bin .add) [.v 5,.c (.int .i64 1)],
 op (.v 5) .mv [.t 18]]
def a182s16 : ACode := .reg [] a182r15
def a182s17 : ACode := .seq a182s14 a182s16
def a182s18 : ACode := .seq a182s5 a182s17
def a182s19 : ACode := .loop a182s18
def a182s20 : ACode := .blk 0 a182s19
def a182s21 : ACode := .seq a182s3 a182s20
def a182r22 : List AOper := [
 op (.v 2) .mv [.c (.int .i64 (-1))]]
def a182s23 : ACode := .reg [] a182r22
def a182s24 : ACode := .seq a182s23 .ret
def a182s25 : ACode := .seq a182s21 a182s24
def a182s26 : ACode := .seq a182s1 a182s25
def a182c : ACode :=
  a182s26
def a182 : AFn := { np := 2,nv := 6,results := [.v 2],code := a182c }
def a182v : List Nat := [0,1,4,5,7,8]
def a182b : List Nat := []

def a183r0 : List AOper := [
 op (.v 2) .mv [.c (.bool false)]]
def a183s1 : ACode := .reg [] a183r0
def a183r2 : List AOper := [
 op (.t 6) .mv [.v 0],
 op (.t 7) .lenL [.t 6],
 op (.t 8) .mv [.v 1],
 op (.t 9) .lenL [.t 8],
 op (.t 10) (.bin .neq) [.t 7,.t 9]]
def a183r3 : List AOper := [
 op (.v 2) .mv [.c (.bool false)]]
def a183s4 : ACode := .reg [] a183r3
def a183s5 : ACode := .seq a183s4 .ret
def a183s6 : ACode := .test [] a183r2 (.t 10) a183s5 .skip
def a183r7 : List AOper := [
 op (.t 11) .mv [.v 0],
 op (.v 4) .lenL [.t 11],
 op (.v 5) .mv [.c (.int .i64 0)]]
def a183s8 : ACode := .reg [] a183r7
def a183r9 : List AOper := [
 op (.t 14) (.bin .lss) [.v 5,.v 4]]
def a183s10 : ACode := .test [] a183r9 (.t 14) .skip (.exit 0)
def a183r11 : List AOper := [
 op (.t 15) .mv [.v 5],
 op (.v 3) .mv [.t 15]]
def a183s12 : ACode := .reg [] a183r11
def a183r13 : List AOper := [
 op (.t 16) .mv [.v 0],
 op (.t 17) .mv [.v 3],
 op (.t 18) (.iad 1) [.t 16,.t 17],
 op (.t 19) (.ldRo false 1) [.t 18],
 op (.t 20) .mv [.v 1],
 op (.t 21) .mv [.v 3],
 op (.t 22) (.iad 1) [.t 20,.t 21],
 op (.t 23) (.ldRo false 1) [.t 22],
 op (.t 24) (.bin .neq) [.t 19,.t 23]]
def a183r14 : List AOper := [
 op (.v 2) .mv [.c (.bool false)]]
def a183s15 : ACode := .reg [] a183r14
def a183s16 : ACode := .seq a183s15 .ret
def a183s17 : ACode := .test [] a183r13 (.t 24) a183s16 .skip
def a183s18 : ACode := .seq a183s12 a183s17
def a183s19 : ACode := .blk 1 a183s18
def a183r20 : List AOper := [
 op (.t 25) (.bin .add) [.v 5,.c (.int .i64 1)],
 op (.v 5) .mv [.t 25]]
def a183s21 : ACode := .reg [] a183r20
def a183s22 : ACode := .seq a183s19 a183s21
def a183s23 : ACode := .seq a183s10 a183s22
def a183s24 : ACode := .loop a183s23
def a183s25 : ACode := .blk 0 a183s24
def a183s26 : ACode := .seq a183s8 a183s25
def a183r27 : List AOper := [
 op (.v 2) .mv [.c (.bool true)]]
def a183s28 : ACode := .reg [] a183r27
def a183s29 : ACode := .seq a183s28 .ret
def a183s30 : ACode := .seq a183s26 a183s29
def a183s31 : ACode := .seq a183s6 a183s30
def a183s32 : ACode := .seq a183s1 a183s31
def a183c : ACode :=
  a183s32
def a183 : AFn := { np := 2,nv := 6,results := [.v 2],code := a183c }
def a183v : List Nat := [0,1,4,5,12,13]
def a183b : List Nat := []

def a184r0 : List AOper := [
 op (.v 3) .mv [.c (.bool false)]]
def a184s1 : ACode := .reg [] a184r0
def a184r2 : List AOper := [
 op (.t 10) .mv [.v 0],
 op (.t 11) .lenL [.t 10],
 op (.t 12) .mv [.v 1],
 op (.t 13) .lenL [.t 12],
 op (.t 14) (.bin .neq) [.t 11,.t 13]]
def a184r3 : List AOper := [
 op (.v 3) .mv [.c (.bool false)]]
def a184s4 : ACode := .reg [] a184r3
def a184s5 : ACode := .seq a184s4 .ret
def a184s6 : ACode := .test [] a184r2 (.t 14) a184s5 .skip
def a184r7 : List AOper := [
 op (.v 7) .mv [.v 0],
 op (.v 8) .lenL [.v 7],
 op (.v 9) .mv [.c (.int .i64 0)]]
def a184s8 : ACode := .reg [] a184r7
def a184r9 : List AOper := [
 op (.t 18) (.bin .lss) [.v 9,.v 8]]
def a184s10 : ACode := .test [] a184r9 (.t 18) .skip (.exit 0)
def a184r11 : List AOper := [
 op (.t 19) .mv [.v 9],
 op (.t 20) (.iad 5) [.v 7,.v 9],
 op (.t 21) (.ldAn true 5) [.t 20],
 ⟨.bx,.alloc [.int .u8 0,.int .i64 0,.str [],.list true [],.list true []],[],some 5,none⟩,
 op (.v 4) .mv [.t 19],
 ⟨.none,.stLc 5 5,[.l 5,.ts 21],some 5,none⟩]
def a184s12 : ACode := .reg [5] a184r11
def a184r13 : List AOper := [
 op (.t 22) .mv [.v 1],
 op (.t 23) .mv [.v 4],
 op (.t 24) (.iad 5) [.t 22,.t 23],
 op (.t 25) (.ldAn true 5) [.t 24],
 ⟨.bx,.alloc [.int .u8 0,.int .i64 0,.str [],.list true [],.list true []],[],some 6,none⟩,
 ⟨.none,.stLc 6 5,[.l 6,.ts 25],some 6,none⟩]
def a184s14 : ACode := .reg [6] a184r13
def a184r15 : List AOper := [
 op (.t 26) .mv [.v 2],
 ⟨.t 27,.ldLc 5 true 5,[.l 5],some 5,none⟩,
 ⟨.t 28,.ldLc 6 true 5,[.l 6],some 6,none⟩,
 op (.t 29) .callV [.t 26,.t 27,.t 28],
 op (.t 30) (.un .not) [.t 29]]
def a184r16 : List AOper := [
 op (.v 3) .mv [.c (.bool false)]]
def a184s17 : ACode := .reg [] a184r16
def a184s18 : ACode := .seq a184s17 .ret
def a184s19 : ACode := .test [] a184r15 (.t 30) a184s18 .skip
def a184s20 : ACode := .seq a184s14 a184s19
def a184s21 : ACode := .seq a184s12 a184s20
def a184s22 : ACode := .blk 1 a184s21
def a184r23 : List AOper := [
 op (.t 31) (.bin .add) [.v 9,.c (.int .i64 1)],
 op (.v 9) .mv [.t 31]]
def a184s24 : ACode := .reg [] a184r23
def a184s25 : ACode := .seq a184s22 a184s24
def a184s26 : ACode := .seq a184s10 a184s25
def a184s27 : ACode := .loop a184s26
def a184s28 : ACode := .blk 0 a184s27
def a184s29 : ACode := .seq a184s8 a184s28
def a184r30 : List AOper := [
 op (.v 3) .mv [.c (.bool true)]]
def a184s31 : ACode := .reg [] a184r30
def a184s32 : ACode := .seq a184s31 .ret
def a184s33 : ACode := .seq a184s29 a184s32
def a184s34 : ACode := .seq a184s6 a184s33
def a184s35 : ACode := .seq a184s1 a184s34
def a184c : ACode :=
  a184s35
def a184 : AFn := { np := 3,nv := 10,results := [.v 3],code := a184c }
def a184v : List Nat := [0,1,2,6,7,8,9,15,16,17]
def a184b : List Nat := [5,6]

def tblL : List (List (Option AFn)) := [
  [none,none,none,some a3,none,some a5,some a6,some a7,some a8,some a9],
  [some a10,none,some a12,some a13,some a14,some a15,some a16,some a17,some a18,some a19],
  [some a20,some a21,some a22,some a23,some a24,some a25,some a26,some a27,some a28,some a29],
  [some a30,some a31,some a32,some a33,some a34,some a35,some a36,some a37,some a38,some a39],
  [some a40,some a41,some a42,some a43,some a44,some a45,some a46,some a47,some a48,some a49],
  [some a50,some a51,some a52,some a53,some a54,some a55,some a56,some a57,some a58,some a59],
  [some a60,some a61,some a62,some a63,some a64,some a65,some a66,some a67,some a68,some a69],
  [some a70,some a71,some a72,some a73,some a74,some a75,some a76,some a77,some a78,some a79],
  [some a80,some a81,some a82,some a83,some a84,some a85,some a86,some a87,some a88,some a89],
  [some a90,some a91,some a92,some a93,some a94,some a95,some a96,some a97,some a98,some a99],
  [some a100,some a101,some a102,some a103,some a104,some a105,some a106,some a107,some a108,some a109],
  [some a110,some a111,some a112,some a113,some a114,some a115,some a116,some a117,some a118,some a119],
  [some a120,some a121,some a122,some a123,some a124,some a125,some a126,some a127,some a128,some a129],
  [some a130,some a131,some a132,some a133,some a134,some a135,some a136,some a137,some a138,some a139],
  [some a140,some a141,some a142,some a143,some a144,some a145,some a146,some a147,some a148,some a149],
  [some a150,some a151,some a152,some a153,some a154,some a155,some a156,some a157,some a158,some a159],
  [some a160,some a161,some a162,some a163,some a164,some a165,some a166,some a167,some a168,some a169],
  [some a170,some a171,some a172,some a173,some a174,some a175,some a176,some a177,some a178,some a179],
  [some a180,some a181,some a182,some a183,some a184,none,none,none,none,none],
  [none,none,none,none,none,none,none,none,none,none],
  [none,none,none,none,none,none,none,none,none,none]]
def tbl : Nat → Option AFn := nth2 tblL
def gts : List (Nat × List AV) := [(0,[.str [66,111,111,108,101,97,110],.str [73,68],.str [73,110,116],.str [83,116,114,105,110,103]])]
end Go.Cb.CodeA
