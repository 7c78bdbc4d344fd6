/- The functions of the seat, told as code of the abstract machine. No conditions. -/
import Derived.Test.YtendfdoplhhjbaaGreatDoorXAm1
namespace Go.Cb.CodeA
open Go Go.Cb

abbrev op (d : Dst) (k : Kind) (a : List Opd) : AOper := ⟨d,k,a,none,none⟩
def a3r0 : List AOper := [
 op (.v 2) .mv [.c (.bool false)]]
def a3s1 : ACode := .reg [] a3r0
def a3r2 : List AOper := [
 op (.t 19) (.call 5) [],
 op (.t 20) (.un .not) [.t 19]]
def a3r3 : List AOper := [
 op (.v 2) .mv [.c (.bool false)]]
def a3s4 : ACode := .reg [] a3r3
def a3s5 : ACode := .seq a3s4 .ret
def a3s6 : ACode := .test [] a3r2 (.t 20) a3s5 .skip
def a3r7 : List AOper := [
 op (.t 21) (.bslice 1 [[.str []],[.str []],[.str []],[.str []],[.str []],[.str []],[.str []]] [0,1,2,3,4,5,6]) [.c (.str [112,101,114,115,111,110,40,105,100,58,32,49,41,32,123,32,110,97,109,101,32,125]),.c (.str [110,97,109,101,100,40,105,100,58,32,34,120,34,41,32,123,32,95,95,116,121,112,101,110,97,109,101,32,125]),.c (.str [112,101,111,112,108,101,32,123,32,102,114,105,101,110,100,115,32,123,32,97,103,101,32,109,111,111,100,32,125,32,125]),.c (.str [112,101,116,115,32,123,32,46,46,46,32,111,110,32,67,97,116,32,123,32,108,105,118,101,115,32,125,32,46,46,46,32,111,110,32,68,111,103,32,123,32,98,97,114,107,115,32,125,32,125]),.c (.str [97,108,108,32,123,32,110,97,109,101,32,46,46,46,32,111,110,32,80,101,114,115,111,110,32,123,32,116,97,103,115,32,125,32,125]),.c (.str [95,95,116,121,112,101,110,97,109,101]),.c (.str [120,58,32,112,101,111,112,108,101,32,123,32,112,101,116,32,123,32,95,95,116,121,112,101,110,97,109,101,32,125,32,125])],
 op (.v 3) .mv [.ts 21]]
def a3s8 : ACode := .reg [] a3r7
def a3r9 : List AOper := [
 op (.t 22) (.bslice 1 [[.str []],[.str []],[.str []],[.str []],[.str []],[.str []],[.str []]] [0,1,2,3,4,5,6]) [.c (.str [112,101,114,115,111,110,32,123,32,110,97,109,101,32,125]),.c (.str [112,101,111,112,108,101]),.c (.str [112,101,111,112,108,101,32,123,32,110,97,109,101,32,123,32,97,32,125,32,125]),.c (.str [112,101,116,115,32,123,32,110,97,109,101,32,125]),.c (.str [112,101,114,115,111,110,40,105,100,58,32,49,44,32,120,58,32,50,41,32,123,32,110,97,109,101,32,125]),.c (.str [112,101,114,115,111,110,40,105,100,58,32,116,114,117,101,41,32,123,32,110,97,109,101,32,125]),.c (.str [112,101,111,112,108,101,32,123,32,46,46,46,32,111,110,32,68,111,103,32,123,32,98,97,114,107,115,32,125,32,125])],
 op (.v 4) .mv [.ts 22]]
def a3s10 : ACode := .reg [] a3r9
def a3r11 : List AOper := [
 op (.t 23) (.build [.int .i64 0,.str []] [(0,1),(1,1)]) [.c (.int .i64 12),.c (.str [105,100])],
 op (.t 24) (.build [.int .i64 0,.str []] [(0,1),(1,1)]) [.c (.int .i64 9),.c (.str [112,101,111,112,108,101])],
 op (.t 25) (.build [.int .i64 0,.str []] [(0,1),(1,1)]) [.c (.int .i64 9),.c (.str [110,97,109,101])],
 op (.t 26) (.build [.int .i64 0,.str []] [(0,1),(1,1)]) [.c (.int .i64 8),.c (.str [110,97,109,101])],
 op (.t 27) (.build [.int .i64 0,.str []] [(0,1),(1,1)]) [.c (.int .i64 10),.c (.str [120])],
 op (.t 28) (.build [.int .i64 0,.str []] [(0,1),(1,1)]) [.c (.int .i64 13),.c (.str [105,100])],
 op (.t 29) (.build [.int .i64 0,.str []] [(0,1),(1,1)]) [.c (.int .i64 20),.c (.str [68,111,103])],
 op (.t 30) (.bslice 2 [[.int .i64 0,.str []],[.int .i64 0,.str []],[.int .i64 0,.str []],[.int .i64 0,.str []],[.int .i64 0,.str []],[.int .i64 0,.str []],[.int .i64 0,.str []]] [0,1,2,3,4,5,6]) [.t 23,.t 24,.t 25,.t 26,.t 27,.t 28,.t 29],
 op (.v 5) .mv [.ts 30]]
def a3s12 : ACode := .reg [] a3r11
def a3r13 : List AOper := [
 op (.t 32) (.call 6) [],
 op (.t 31) .mv [.t 32],
 op (.t 33) (.ext 0) [.t 31],
 op (.t 34) (.ext 1) [.t 31],
 op (.v 6) .mv [.t 33],
 op (.t 9) .mv [.t 34]]
def a3s14 : ACode := .reg [] a3r13
def a3r15 : List AOper := [
 op (.t 36) .mv [.v 3],
 op (.t 37) .mv [.v 0],
 op (.t 38) (.conv .i64) [.t 37],
 op (.t 39) (.bin .rem) [.t 38,.c (.int .i64 7)],
 op (.t 40) (.iad 1) [.t 36,.t 39],
 op (.t 41) (.ldRo false 1) [.t 40],
 op (.t 42) (.bin .add) [.c (.str [123]),.t 41],
 op (.t 43) (.bin .add) [.t 42,.c (.str [125])],
 op (.t 44) (.call 7) [.t 43],
 op (.t 35) .mv [.t 44],
 op (.t 45) (.ext 0) [.t 35],
 op (.t 46) (.ext 1) [.t 35],
 op (.t 47) (.ext 2) [.t 35],
 ⟨.bx,.alloc [.list true [],.list true []],[],some 7,none⟩,
 ⟨.none,.stLc 7 2,[.l 7,.ts 45],some 7,none⟩,
 op (.t 11) .mv [.t 46],
 op (.v 8) .mv [.t 47]]
def a3s16 : ACode := .reg [7] a3r15
def a3r17 : List AOper := [
 op (.t 49) .mv [.v 4],
 op (.t 50) .mv [.v 1],
 op (.t 51) (.conv .i64) [.t 50],
 op (.t 52) (.bin .rem) [.t 51,.c (.int .i64 7)],
 op (.t 53) (.iad 1) [.t 49,.t 52],
 op (.t 54) (.ldRo false 1) [.t 53],
 op (.t 55) (.bin .add) [.c (.str [123]),.t 54],
 op (.t 56) (.bin .add) [.t 55,.c (.str [125])],
 op (.t 57) (.call 7) [.t 56],
 op (.t 48) .mv [.t 57],
 op (.t 58) (.ext 0) [.t 48],
 op (.t 59) (.ext 1) [.t 48],
 op (.t 60) (.ext 2) [.t 48],
 ⟨.bx,.alloc [.list true [],.list true []],[],some 9,none⟩,
 ⟨.none,.stLc 9 2,[.l 9,.ts 58],some 9,none⟩,
 op (.t 14) .mv [.t 59],
 op (.v 10) .mv [.t 60]]
def a3s18 : ACode := .reg [9] a3r17
def a3r19 : List AOper := [
 op (.t 61) .mv [.v 8],
 op (.t 62) (.bin .neq) [.t 61,.c (.int .i64 0)],
 op (.t 63) .mv [.t 62],
 ⟨.t 64,.mv,[.v 10],none,some (.t 63,false)⟩,
 ⟨.t 65,.bin .neq,[.t 64,.c (.int .i64 0)],none,some (.t 63,false)⟩,
 op (.t 66) .pick [.t 63,.c (.bool true),.t 65]]
def a3r20 : List AOper := [
 op (.v 2) .mv [.c (.bool false)]]
def a3s21 : ACode := .reg [] a3r20
def a3s22 : ACode := .seq a3s21 .ret
def a3s23 : ACode := .test [] a3r19 (.t 66) a3s22 .skip
def a3r24 : List AOper := [
 op (.t 67) .mv [.v 6],
 ⟨.t 68,.ldLc 9 true 2,[.l 9],some 9,none⟩,
 op (.t 69) (.call 8) [.t 67,.t 68],
 op (.v 11) .mv [.ts 69]]
def a3s25 : ACode := .reg [] a3r24
def a3r26 : List AOper := [
 op (.v 12) .mv [.c (.bool false)]]
def a3s27 : ACode := .reg [] a3r26
def a3r28 : List AOper := [
 op (.v 13) .mv [.c (.int .i64 0)]]
def a3s29 : ACode := .reg [] a3r28
def a3r30 : List AOper := [
 op (.t 70) .mv [.v 13],
 op (.t 71) .mv [.v 11],
 op (.t 72) .lenL [.t 71],
 op (.t 73) (.bin .lss) [.t 70,.t 72]]
def a3s31 : ACode := .test [] a3r30 (.t 73) .skip (.exit 0)
def a3r32 : List AOper := [
 op (.t 76) .mv [.v 12],
 op (.t 77) .mv [.t 76],
 ⟨.t 78,.mv,[.v 11],none,some (.t 77,false)⟩,
 ⟨.t 79,.mv,[.v 13],none,some (.t 77,false)⟩,
 ⟨.t 80,.iad 2,[.t 78,.t 79],none,some (.t 77,false)⟩,
 ⟨.t 81,.ldAn true 2,[.t 80],none,some (.t 77,false)⟩,
 ⟨.t 82,.mv,[.v 5],none,some (.t 77,false)⟩,
 ⟨.t 83,.mv,[.v 1],none,some (.t 77,false)⟩,
 ⟨.t 84,.conv .i64,[.t 83],none,some (.t 77,false)⟩,
 ⟨.t 85,.bin .rem,[.t 84,.c (.int .i64 7)],none,some (.t 77,false)⟩,
 ⟨.t 86,.iad 2,[.t 82,.t 85],none,some (.t 77,false)⟩,
 ⟨.t 87,.ldAn true 2,[.t 86],none,some (.t 77,false)⟩,
 ⟨.t 88,.eqIS false,[.t 81,.t 87],none,some (.t 77,false)⟩,
 op (.t 89) .pick [.t 77,.c (.bool true),.t 88],
 op (.v 12) .mv [.t 89]]
def a3s33 : ACode := .reg [] a3r32
def a3s34 : ACode := .blk 1 a3s33
def a3r35 : List AOper := [
 op (.t 74) .mv [.v 13],
 op (.t 75) (.bin .add) [.t 74,.c (.int .i64 1)],
 op (.v 13) .mv [.t 75]]
def a3s36 : ACode := .reg [] a3r35
def a3s37 : ACode := .seq a3s34 a3s36
def a3s38 : ACode := .seq a3s31 a3s37
def a3s39 : ACode := .loop a3s38
def a3s40 : ACode := .blk 0 a3s39
def a3s41 : ACode := .seq a3s29 a3s40
def a3r42 : List AOper := [
 op (.t 90) .mv [.v 6],
 ⟨.t 91,.ldLc 7 true 2,[.l 7],some 7,none⟩,
 op (.t 92) (.call 8) [.t 90,.t 91],
 op (.t 93) .lenL [.t 92],
 op (.t 94) (.bin .eql) [.t 93,.c (.int .i64 0)],
 op (.t 95) .mv [.t 94],
 ⟨.t 96,.mv,[.v 12],none,some (.t 95,true)⟩,
 op (.t 97) .pick [.t 95,.t 96,.c (.bool false)],
 op (.t 98) .mv [.t 97],
 ⟨.t 99,.fad 0,[.l 7],none,some (.t 98,true)⟩,
 ⟨.t 100,.ldLc 7 false 1,[.t 99],some 7,some (.t 98,true)⟩,
 ⟨.t 101,.iad 4,[.t 100,.c (.int .i64 0)],none,some (.t 98,true)⟩,
 ⟨.t 102,.fad 3,[.t 101],none,some (.t 98,true)⟩,
 ⟨.t 103,.ldRo false 1,[.t 102],none,some (.t 98,true)⟩,
 ⟨.t 104,.iad 7,[.t 103,.c (.int .i64 0)],none,some (.t 98,true)⟩,
 ⟨.t 105,.ldRo true 7,[.t 104],none,some (.t 98,true)⟩,
 ⟨.t 106,.call 9,[.t 105],none,some (.t 98,true)⟩,
 ⟨.t 107,.fad 0,[.l 7],none,some (.t 98,true)⟩,
 ⟨.t 108,.ldLc 7 false 1,[.t 107],some 7,some (.t 98,true)⟩,
 ⟨.t 109,.iad 4,[.t 108,.c (.int .i64 0)],none,some (.t 98,true)⟩,
 ⟨.t 110,.fad 3,[.t 109],none,some (.t 98,true)⟩,
 ⟨.t 111,.ldRo false 1,[.t 110],none,some (.t 98,true)⟩,
 ⟨.t 112,.iad 7,[.t 111,.c (.int .i64 0)],none,some (.t 98,true)⟩,
 ⟨.t 113,.ldRo true 7,[.t 112],none,some (.t 98,true)⟩,
 ⟨.t 114,.call 10,[.t 113],none,some (.t 98,true)⟩,
 ⟨.t 115,.bin .eql,[.t 106,.t 114],none,some (.t 98,true)⟩,
 op (.t 116) .pick [.t 98,.t 115,.c (.bool false)],
 op (.v 2) .mv [.t 116]]
def a3s43 : ACode := .reg [] a3r42
def a3s44 : ACode := .seq a3s43 .ret
def a3s45 : ACode := .seq a3s41 a3s44
def a3s46 : ACode := .seq a3s27 a3s45
def a3s47 : ACode := .seq a3s25 a3s46
def a3s48 : ACode := .seq a3s23 a3s47
def a3s49 : ACode := .seq a3s18 a3s48
def a3s50 : ACode := .seq a3s16 a3s49
def a3s51 : ACode := .seq a3s14 a3s50
def a3s52 : ACode := .seq a3s12 a3s51
def a3s53 : ACode := .seq a3s10 a3s52
def a3s54 : ACode := .seq a3s8 a3s53
def a3s55 : ACode := .seq a3s6 a3s54
def a3s56 : ACode := .seq a3s1 a3s55
def a3c : ACode :=
  a3s56
def a3 : AFn := { np := 2,nv := 14,results := [.v 2],code := a3c }
def a3v : List Nat := [0,1,4,5,6,7,8,10,12,13,15,16,17,18]
def a3b : List Nat := [7,9]

def a5r0 : List AOper := [
 op (.v 0) .mv [.c (.bool false)]]
def a5s1 : ACode := .reg [] a5r0
def a5r2 : List AOper := [
 op (.t 8) (.call 6) [],
 op (.t 7) .mv [.t 8],
 op (.t 9) (.ext 0) [.t 7],
 op (.t 10) (.ext 1) [.t 7],
 op (.v 1) .mv [.t 9],
 op (.t 2) .mv [.t 10]]
def a5s3 : ACode := .reg [] a5r2
def a5r4 : List AOper := [
 op (.t 12) (.call 7) [.c (.str [123,97,125])],
 op (.t 11) .mv [.t 12],
 op (.t 13) (.ext 0) [.t 11],
 op (.t 14) (.ext 1) [.t 11],
 op (.t 15) (.ext 2) [.t 11],
 ⟨.bx,.alloc [.list true [],.list true []],[],some 2,none⟩,
 ⟨.none,.stLc 2 2,[.l 2,.ts 13],some 2,none⟩,
 op (.t 4) .mv [.t 14],
 op (.t 5) .mv [.t 15]]
def a5s5 : ACode := .reg [2] a5r4
def a5r6 : List AOper := [
 op (.t 16) .mv [.v 1],
 ⟨.t 17,.ldLc 2 true 2,[.l 2],some 2,none⟩,
 op (.t 18) (.call 8) [.t 16,.t 17],
 op (.v 3) .mv [.ts 18]]
def a5s7 : ACode := .reg [] a5r6
def a5r8 : List AOper := [
 op (.t 19) .mv [.v 3],
 op (.t 20) .lenL [.t 19],
 op (.t 21) (.bin .eql) [.t 20,.c (.int .i64 1)],
 op (.t 22) .mv [.t 21],
 ⟨.t 23,.mv,[.v 3],none,some (.t 22,true)⟩,
 ⟨.t 24,.iad 2,[.t 23,.c (.int .i64 0)],none,some (.t 22,true)⟩,
 ⟨.t 25,.ldAn true 2,[.t 24],none,some (.t 22,true)⟩,
 ⟨.t 26,(.build [.int .i64 0,.str []] [(0,1),(1,1)]),[.c (.int .i64 8),.c (.str [97])],none,some (.t 22,true)⟩,
 ⟨.t 27,.eqIS false,[.t 25,.t 26],none,some (.t 22,true)⟩,
 op (.t 28) .pick [.t 22,.t 27,.c (.bool false)],
 op (.t 29) .mv [.t 28],
 op (.t 30) .pick [.t 29,.c (.bool true),.c (.bool false)],
 op (.v 0) .mv [.t 30]]
def a5s9 : ACode := .reg [] a5r8
def a5s10 : ACode := .seq a5s9 .ret
def a5s11 : ACode := .seq a5s7 a5s10
def a5s12 : ACode := .seq a5s5 a5s11
def a5s13 : ACode := .seq a5s3 a5s12
def a5s14 : ACode := .seq a5s1 a5s13
def a5c : ACode :=
  a5s14
def a5 : AFn := { np := 0,nv := 4,results := [.v 0],code := a5c }
def a5v : List Nat := [0,1,3,6]
def a5b : List Nat := [2]

def a6r0 : List AOper := [
 op (.v 0) .mv [.c (.nilp)],
 op (.v 1) .mv [.c (.nilp)]]
def a6s1 : ACode := .reg [] a6r0
def a6r2 : List AOper := [
 op (.t 12) (.call 12) [.c (.str [105,110,116,101,114,102,97,99,101,32,78,97,109,101,100,32,123,32,110,97,109,101,58,32,83,116,114,105,110,103,33,32,125,32,101,110,117,109,32,77,111,111,100,32,123,32,72,65,80,80,89,32,83,65,68,32,125,32,116,121,112,101,32,80,101,114,115,111,110,32,105,109,112,108,101,109,101,110,116,115,32,78,97,109,101,100,32,123,32,110,97,109,101,58,32,83,116,114,105,110,103,33,32,97,103,101,58,32,73,110,116,32,109,111,111,100,58,32,77,111,111,100,32,102,114,105,101,110,100,115,58,32,91,80,101,114,115,111,110,33,93,32,112,101,116,58,32,80,101,116,32,116,97,103,115,58,32,91,83,116,114,105,110,103,93,32,125,32,116,121,112,101,32,67,97,116,32,105,109,112,108,101,109,101,110,116,115,32,78,97,109,101,100,32,123,32,110,97,109,101,58,32,83,116,114,105,110,103,33,32,108,105,118,101,115,58,32,73,110,116,33,32,111,119,110,101,114,58,32,80,101,114,115,111,110,32,125,32,116,121,112,101,32,68,111,103,32,123,32,98,97,114,107,115,58,32,66,111,111,108,101,97,110,32,125,32,117,110,105,111,110,32,80,101,116,32,61,32,67,97,116,32,124,32,68,111,103,32,105,110,112,117,116,32,80,101,114,115,111,110,73,110,32,123,32,110,97,109,101,58,32,83,116,114,105,110,103,32,97,103,101,58,32,73,110,116,32,61,32,55,32,109,111,111,100,58,32,77,111,111,100,32,102,114,105,101,110,100,115,58,32,91,73,68,33,93,32,112,101,116,58,32,73,68,32,116,97,103,115,58,32,91,83,116,114,105,110,103,93,32,125,32,105,110,112,117,116,32,67,97,116,73,110,32,123,32,110,97,109,101,58,32,83,116,114,105,110,103,33,32,108,105,118,101,115,58,32,73,110,116,32,111,119,110,101,114,58,32,73,68,32,125,32,105,110,112,117,116,32,68,111,103,73,110,32,123,32,98,97,114,107,115,58,32,66,111,111,108,101,97,110,32,125,32,116,121,112,101,32,81,117,101,114,121,32,123,32,112,101,114,115,111,110,40,105,100,58,32,73,68,33,41,58,32,80,101,114,115,111,110,32,110,97,109,101,100,40,105,100,58,32,73,68,33,41,58,32,78,97,109,101,100,32,112,101,111,112,108,101,58,32,91,80,101,114,115,111,110,33,93,33,32,112,101,116,115,58,32,91,80,101,116,33,93,33,32,97,108,108,58,32,91,78,97,109,101,100,33,93,33,32,125,32,116,121,112,101,32,77,117,116,97,116,105,111,110,32,123,32,99,114,101,97,116,101,80,101,114,115,111,110,40,105,100,58,32,73,68,33,44,32,105,110,112,117,116,58,32,80,101,114,115,111,110,73,110,33,41,58,32,80,101,114,115,111,110,32,117,112,100,97,116,101,80,101,114,115,111,110,40,105,100,58,32,73,68,33,44,32,105,110,112,117,116,58,32,80,101,114,115,111,110,73,110,33,41,58,32,80,101,114,115,111,110,32,100,101,108,101,116,101,80,101,114,115,111,110,40,105,100,58,32,73,68,33,41,58,32,80,101,114,115,111,110,32,99,114,101,97,116,101,67,97,116,40,105,100,58,32,73,68,33,44,32,105,110,112,117,116,58,32,67,97,116,73,110,33,41,58,32,67,97,116,32,99,114,101,97,116,101,68,111,103,40,105,100,58,32,73,68,33,44,32,105,110,112,117,116,58,32,68,111,103,73,110,33,41,58,32,68,111,103,32,100,101,108,101,116,101,67,97,116,40,105,100,58,32,73,68,33,41,58,32,67,97,116,32,125])],
 op (.t 11) .mv [.t 12],
 op (.t 13) (.ext 0) [.t 11],
 op (.t 14) (.ext 1) [.t 11],
 op (.t 15) (.ext 2) [.t 11],
 op (.v 2) .mv [.ts 13],
 op (.t 3) .mv [.t 14],
 op (.v 3) .mv [.t 15]]
def a6s3 : ACode := .reg [] a6r2
def a6r4 : List AOper := [
 op (.t 16) .mv [.v 3],
 op (.t 17) (.bin .neq) [.t 16,.c (.int .i64 0)]]
def a6r5 : List AOper := [
 op (.v 0) .mv [.c (.nilp)],
 op (.v 1) .mv [.c (.nilp)]]
def a6s6 : ACode := .reg [] a6r5
def a6s7 : ACode := .seq a6s6 .ret
def a6s8 : ACode := .test [] a6r4 (.t 17) a6s7 .skip
def a6r9 : List AOper := [
 op (.t 19) .mv [.v 2],
 op (.t 20) (.call 13) [.t 19],
 op (.t 18) .mv [.t 20],
 op (.t 21) (.ext 0) [.t 18],
 op (.t 22) (.ext 1) [.t 18],
 op (.t 23) (.ext 2) [.t 18],
 op (.v 4) .mv [.t 21],
 op (.t 6) .mv [.t 22],
 op (.t 7) .mv [.t 23]]
def a6s10 : ACode := .reg [] a6r9
def a6r11 : List AOper := [
 op (.t 25) .mv [.v 2],
 op (.t 26) (.call 14) [.t 25],
 op (.t 24) .mv [.t 26],
 op (.t 27) (.ext 0) [.t 24],
 op (.t 28) (.ext 1) [.t 24],
 op (.t 29) (.ext 2) [.t 24],
 op (.v 5) .mv [.t 27],
 op (.t 9) .mv [.t 28],
 op (.t 10) .mv [.t 29]]
def a6s12 : ACode := .reg [] a6r11
def a6r13 : List AOper := [
 op (.t 30) .mv [.v 4],
 op (.t 31) .mv [.v 5],
 op (.v 0) .mv [.t 30],
 op (.v 1) .mv [.t 31]]
def a6s14 : ACode := .reg [] a6r13
def a6s15 : ACode := .seq a6s14 .ret
def a6s16 : ACode := .seq a6s12 a6s15
def a6s17 : ACode := .seq a6s10 a6s16
def a6s18 : ACode := .seq a6s8 a6s17
def a6s19 : ACode := .seq a6s3 a6s18
def a6s20 : ACode := .seq a6s1 a6s19
def a6c : ACode :=
  a6s20
def a6 : AFn := { np := 0,nv := 6,results := [.v 0,.v 1],code := a6c }
def a6v : List Nat := [0,1,2,4,5,8]
def a6b : List Nat := []

def a7r0 : List AOper := [
 ⟨.bx,.alloc [.list true [],.list true []],[],some 1,none⟩,
 op (.v 2) .mv [.c (.int .i64 0)],
 op (.v 3) .mv [.c (.int .i64 0)]]
def a7s1 : ACode := .reg [1] a7r0
def a7r2 : List AOper := [
 op (.t 14) .mv [.v 0],
 op (.t 15) (.call 15) [.t 14],
 op (.t 13) .mv [.t 15],
 op (.t 16) (.ext 0) [.t 13],
 op (.t 17) (.ext 1) [.t 13],
 op (.t 18) (.ext 2) [.t 13],
 op (.v 4) .mv [.ts 16],
 op (.v 5) .mv [.t 17],
 op (.v 6) .mv [.t 18]]
def a7s3 : ACode := .reg [] a7r2
def a7r4 : List AOper := [
 op (.t 19) .mv [.v 6],
 op (.t 20) (.bin .neq) [.t 19,.c (.int .i64 0)]]
def a7r5 : List AOper := [
 op (.t 21) (.build [.list true [],.list true []] []) [],
 op (.t 22) .mv [.v 5],
 op (.t 23) .mv [.v 6],
 ⟨.none,.stLc 1 2,[.l 1,.ts 21],some 1,none⟩,
 op (.v 2) .mv [.t 22],
 op (.v 3) .mv [.t 23]]
def a7s6 : ACode := .reg [] a7r5
def a7s7 : ACode := .seq a7s6 .ret
def a7s8 : ACode := .test [] a7r4 (.t 20) a7s7 .skip
def a7r9 : List AOper := [
 op (.t 24) .mv [.v 4],
 op (.t 25) (.build [.list true [],.int .i64 0,.int .i64 0,.int .i64 0,.int .i64 0] [(0,1)]) [.t 24],
 op (.t 26) .boxO [.ts 25],
 op (.v 7) .mv [.t 26]]
def a7s10 : ACode := .reg [] a7r9
def a7r11 : List AOper := [
 ⟨.bx,.alloc [.list true [],.list true []],[],some 8,none⟩]
def a7s12 : ACode := .reg [8] a7r11
def a7r13 : List AOper := [
 op (.v 9) .mv [.c (.bool true)]]
def a7s14 : ACode := .reg [] a7r13
def a7r15 : List AOper := [
 op (.t 27) .mv [.v 9],
 op (.t 28) .mv [.t 27],
 ⟨.t 29,.mv,[.v 7],none,some (.t 28,false)⟩,
 ⟨.t 30,.nilchk,[.t 29],none,some (.t 28,false)⟩,
 ⟨.t 31,.fad 4,[.t 30],none,some (.t 28,false)⟩,
 ⟨.t 32,.ldSt false 1,[.t 31],none,some (.t 28,false)⟩,
 ⟨.t 33,.bin .eql,[.t 32,.c (.int .i64 0)],none,some (.t 28,false)⟩,
 ⟨.t 34,.mv,[.t 33],none,some (.t 28,false)⟩,
 ⟨.t 35,.mv,[.v 7],none,some (.t 34,true)⟩,
 ⟨.t 36,.call 16,[.t 35,.c (.int .u8 0)],none,some (.t 34,true)⟩,
 ⟨.t 37,.un .not,[.t 36],none,some (.t 34,true)⟩,
 ⟨.t 38,.pick,[.t 34,.t 37,.c (.bool false)],none,some (.t 28,false)⟩,
 op (.t 39) .pick [.t 28,.c (.bool true),.t 38]]
def a7s16 : ACode := .test [] a7r15 (.t 39) .skip (.exit 0)
def a7r17 : List AOper := [
 op (.t 40) .mv [.v 7],
 op (.t 41) (.call 17) [.t 40,.c (.str [102,114,97,103,109,101,110,116])]]
def a7r18 : List AOper := [
 op (.t 42) .mv [.v 7],
 op (.t 43) .nilchk [.t 42],
 op (.t 44) (.fad 1) [.t 43],
 op (.t 45) (.ldSt false 1) [.t 44],
 op (.t 46) (.bin .add) [.t 45,.c (.int .i64 1)],
 op (.t 47) .nilchk [.t 42],
 op (.t 48) (.fad 1) [.t 47],
 op .none (.stSt 1) [.t 48,.t 46]]
def a7s19 : ACode := .reg [] a7r18
def a7r20 : List AOper := [
 op (.t 49) .mv [.v 7],
 op (.t 50) (.call 17) [.t 49,.c (.str [111,110])]]
def a7r21 : List AOper := [
 op (.t 51) .mv [.v 7],
 op (.t 52) (.call 18) [.t 51,.c (.int .i64 4)]]
def a7s22 : ACode := .reg [] a7r21
def a7s23 : ACode := .test [] a7r20 (.t 50) a7s22 .skip
def a7r24 : List AOper := [
 op (.t 53) .mv [.v 7],
 op (.t 54) (.call 19) [.t 53],
 op (.t 55) (.build [.str [],.str [],.list true []] [(0,1)]) [.t 54],
 ⟨.bx,.alloc [.str [],.str [],.list true []],[],some 10,none⟩,
 ⟨.none,.stLc 10 3,[.l 10,.ts 55],some 10,none⟩]
def a7s25 : ACode := .reg [10] a7r24
def a7r26 : List AOper := [
 op (.t 56) .mv [.v 7],
 op (.t 57) (.call 20) [.t 56,.c (.str [111,110])]]
def a7s27 : ACode := .reg [] a7r26
def a7r28 : List AOper := [
 op (.t 58) .mv [.v 7],
 op (.t 59) (.call 19) [.t 58],
 op (.t 60) (.fad 1) [.l 10],
 ⟨.none,.stLc 10 1,[.t 60,.t 59],some 10,none⟩]
def a7s29 : ACode := .reg [] a7r28
def a7r30 : List AOper := [
 op (.t 61) .mv [.v 7],
 op (.t 62) (.call 21) [.t 61],
 op (.t 63) (.fad 2) [.l 10],
 ⟨.none,.stLc 10 1,[.t 63,.ts 62],some 10,none⟩]
def a7s31 : ACode := .reg [] a7r30
def a7r32 : List AOper := [
 op (.t 64) (.fad 1) [.l 8],
 ⟨.t 65,.ldLcS 8,[.t 64],some 8,none⟩,
 ⟨.t 66,.ldLc 10 true 3,[.l 10],some 10,none⟩,
 op (.t 67) (.bslice 3 [[.str [],.str [],.list true []]] [0]) [.t 66],
 op (.t 68) (.app 3 56) [.ts 65,.t 67],
 op (.t 69) (.fad 1) [.l 8],
 ⟨.none,.stLc 8 1,[.t 69,.ts 68],some 8,none⟩]
def a7s33 : ACode := .reg [] a7r32
def a7s34 : ACode := .seq a7s33 (.exit 1)
def a7s35 : ACode := .seq a7s31 a7s34
def a7s36 : ACode := .seq a7s29 a7s35
def a7s37 : ACode := .seq a7s27 a7s36
def a7s38 : ACode := .seq a7s25 a7s37
def a7s39 : ACode := .seq a7s23 a7s38
def a7s40 : ACode := .seq a7s19 a7s39
def a7s41 : ACode := .test [] a7r17 (.t 41) a7s40 .skip
def a7r42 : List AOper := [
 ⟨.bx,.alloc [.bool false,.str [],.list true [],.list true []],[],some 11,none⟩]
def a7s43 : ACode := .reg [11] a7r42
def a7r44 : List AOper := [
 op (.t 70) .mv [.v 7],
 op (.t 71) (.call 22) [.t 70,.c (.str [123])],
 op (.t 72) (.un .not) [.t 71]]
def a7r45 : List AOper := [
 op (.t 73) .mv [.v 7],
 op (.t 74) (.call 23) [.t 73,.c (.str [109,117,116,97,116,105,111,110])],
 op (.t 75) (.fad 0) [.l 11],
 ⟨.none,.stLc 11 1,[.t 75,.t 74],some 11,none⟩]
def a7s46 : ACode := .reg [] a7r45
def a7r47 : List AOper := [
 op (.t 76) (.fad 0) [.l 11],
 ⟨.t 77,.ldLc 11 false 1,[.t 76],some 11,none⟩,
 op (.t 78) (.un .not) [.t 77]]
def a7r48 : List AOper := [
 op (.t 79) .mv [.v 7],
 op (.t 80) (.call 24) [.t 79,.c (.str [113,117,101,114,121])]]
def a7s49 : ACode := .reg [] a7r48
def a7s50 : ACode := .test [] a7r47 (.t 78) a7s49 .skip
def a7r51 : List AOper := [
 op (.t 81) .mv [.v 7],
 op (.t 82) (.call 16) [.t 81,.c (.int .u8 1)]]
def a7r52 : List AOper := [
 op (.t 83) .mv [.v 7],
 op (.t 84) (.call 19) [.t 83],
 op (.t 85) (.fad 1) [.l 11],
 ⟨.none,.stLc 11 1,[.t 85,.t 84],some 11,none⟩]
def a7s53 : ACode := .reg [] a7r52
def a7s54 : ACode := .test [] a7r51 (.t 82) a7s53 .skip
def a7r55 : List AOper := [
 op (.t 86) .mv [.v 7],
 op (.t 87) (.call 23) [.t 86,.c (.str [40])]]
def a7r56 : List AOper := [
 op (.t 88) (.fad 2) [.l 11],
 ⟨.t 89,.ldLcS 11,[.t 88],some 11,none⟩,
 op (.t 90) .mv [.v 7],
 op (.t 91) (.call 25) [.t 90],
 op (.t 92) (.bslice 10 [[.str [],.str [],.list true [],.bool false,.bool false,.int .u8 0,.int .i64 0,.str [],.list true [],.list true []]] [0]) [.t 91],
 op (.t 93) (.app 10 152) [.ts 89,.t 92],
 op (.t 94) (.fad 2) [.l 11],
 ⟨.none,.stLc 11 1,[.t 94,.ts 93],some 11,none⟩]
def a7s57 : ACode := .reg [] a7r56
def a7r58 : List AOper := [
 op (.t 95) .mv [.v 7],
 op (.t 96) .nilchk [.t 95],
 op (.t 97) (.fad 4) [.t 96],
 op (.t 98) (.ldSt false 1) [.t 97],
 op (.t 99) (.bin .eql) [.t 98,.c (.int .i64 0)],
 op (.t 100) .mv [.t 99],
 ⟨.t 101,.mv,[.v 7],none,some (.t 100,true)⟩,
 ⟨.t 102,.call 23,[.t 101,.c (.str [41])],none,some (.t 100,true)⟩,
 ⟨.t 103,.un .not,[.t 102],none,some (.t 100,true)⟩,
 op (.t 104) .pick [.t 100,.t 103,.c (.bool false)]]
def a7s59 : ACode := .test [] a7r58 (.t 104) .skip (.exit 2)
def a7r60 : List AOper := [
 op (.t 105) (.fad 2) [.l 11],
 ⟨.t 106,.ldLcS 11,[.t 105],some 11,none⟩,
 op (.t 107) .mv [.v 7],
 op (.t 108) (.call 25) [.t 107],
 op (.t 109) (.bslice 10 [[.str [],.str [],.list true [],.bool false,.bool false,.int .u8 0,.int .i64 0,.str [],.list true [],.list true []]] [0]) [.t 108],
 op (.t 110) (.app 10 152) [.ts 106,.t 109],
 op (.t 111) (.fad 2) [.l 11],
 ⟨.none,.stLc 11 1,[.t 111,.ts 110],some 11,none⟩]
def a7s61 : ACode := .reg [] a7r60
def a7s62 : ACode := .blk 3 a7s61
def a7s63 : ACode := .seq a7s59 a7s62
def a7s64 : ACode := .loop a7s63
def a7s65 : ACode := .blk 2 a7s64
def a7s66 : ACode := .seq a7s57 a7s65
def a7s67 : ACode := .test [] a7r55 (.t 87) a7s66 .skip
def a7s68 : ACode := .seq a7s54 a7s67
def a7s69 : ACode := .seq a7s50 a7s68
def a7s70 : ACode := .seq a7s46 a7s69
def a7s71 : ACode := .test [] a7r44 (.t 72) a7s70 .skip
def a7r72 : List AOper := [
 op (.t 112) .mv [.v 7],
 op (.t 113) (.call 21) [.t 112],
 op (.t 114) (.fad 3) [.l 11],
 ⟨.none,.stLc 11 1,[.t 114,.ts 113],some 11,none⟩]
def a7s73 : ACode := .reg [] a7r72
def a7r74 : List AOper := [
 op (.t 115) (.fad 0) [.l 8],
 ⟨.t 116,.ldLcS 8,[.t 115],some 8,none⟩,
 ⟨.t 117,.ldLc 11 true 4,[.l 11],some 11,none⟩,
 op (.t 118) (.bslice 4 [[.bool false,.str [],.list true [],.list true []]] [0]) [.t 117],
 op (.t 119) (.app 4 72) [.ts 116,.t 118],
 op (.t 120) (.fad 0) [.l 8],
 ⟨.none,.stLc 8 1,[.t 120,.ts 119],some 8,none⟩]
def a7s75 : ACode := .reg [] a7r74
def a7s76 : ACode := .seq a7s73 a7s75
def a7s77 : ACode := .seq a7s71 a7s76
def a7s78 : ACode := .seq a7s43 a7s77
def a7s79 : ACode := .seq a7s41 a7s78
def a7s80 : ACode := .blk 1 a7s79
def a7r81 : List AOper := [
 op (.v 9) .mv [.c (.bool false)]]
def a7s82 : ACode := .reg [] a7r81
def a7s83 : ACode := .seq a7s80 a7s82
def a7s84 : ACode := .seq a7s16 a7s83
def a7s85 : ACode := .loop a7s84
def a7s86 : ACode := .blk 0 a7s85
def a7s87 : ACode := .seq a7s14 a7s86
def a7r88 : List AOper := [
 op (.t 121) .mv [.v 7],
 op (.t 122) .nilchk [.t 121],
 op (.t 123) (.fad 4) [.t 122],
 op (.t 124) (.ldSt false 1) [.t 123],
 op (.t 125) (.bin .neq) [.t 124,.c (.int .i64 0)]]
def a7r89 : List AOper := [
 op (.t 126) (.build [.list true [],.list true []] []) [],
 op (.t 127) .mv [.v 7],
 op (.t 128) .nilchk [.t 127],
 op (.t 129) (.fad 3) [.t 128],
 op (.t 130) (.ldSt false 1) [.t 129],
 op (.t 131) .mv [.v 7],
 op (.t 132) .nilchk [.t 131],
 op (.t 133) (.fad 4) [.t 132],
 op (.t 134) (.ldSt false 1) [.t 133],
 ⟨.none,.stLc 1 2,[.l 1,.ts 126],some 1,none⟩,
 op (.v 2) .mv [.t 130],
 op (.v 3) .mv [.t 134]]
def a7s90 : ACode := .reg [] a7r89
def a7s91 : ACode := .seq a7s90 .ret
def a7s92 : ACode := .test [] a7r88 (.t 125) a7s91 .skip
def a7r93 : List AOper := [
 ⟨.t 135,.ldLc 8 true 2,[.l 8],some 8,none⟩,
 ⟨.none,.stLc 1 2,[.l 1,.ts 135],some 1,none⟩,
 op (.v 2) .mv [.c (.int .i64 0)],
 op (.v 3) .mv [.c (.int .i64 0)]]
def a7s94 : ACode := .reg [] a7r93
def a7s95 : ACode := .seq a7s94 .ret
def a7s96 : ACode := .seq a7s92 a7s95
def a7s97 : ACode := .seq a7s87 a7s96
def a7s98 : ACode := .seq a7s12 a7s97
def a7s99 : ACode := .seq a7s10 a7s98
def a7s100 : ACode := .seq a7s8 a7s99
def a7s101 : ACode := .seq a7s3 a7s100
def a7s102 : ACode := .seq a7s1 a7s101
def a7c : ACode :=
  a7s102
def a7 : AFn := { np := 1,nv := 12,results := [.bx 1 true 2,.v 2,.v 3],code := a7c }
def a7v : List Nat := [0,2,3,4,5,6,7,8,9,10,11,12]
def a7b : List Nat := [1,8,10,11]

def a8r0 : List AOper := [
 ⟨.bx,.boxV,[.v 1],some 2,none⟩,
 op (.v 3) .mv [.c (.list true [])]]
def a8s1 : ACode := .reg [2] a8r0
def a8r2 : List AOper := [
 op (.t 14) .mv [.v 0],
 ⟨.t 15,.ldLc 2 true 2,[.l 2],some 2,none⟩,
 op (.t 16) (.build [.nilp,.list true [],.list true [],.list true []] [(0,1),(1,2)]) [.t 14,.t 15],
 op (.t 17) .boxO [.ts 16],
 op (.v 4) .mv [.t 17]]
def a8s3 : ACode := .reg [] a8r2
def a8r4 : List AOper := [
 op (.v 5) .mv [.c (.list true [])]]
def a8s5 : ACode := .reg [] a8r4
def a8r6 : List AOper := [
 op (.t 18) (.fad 0) [.l 2],
 ⟨.v 10,.ldLc 2 false 1,[.t 18],some 2,none⟩,
 op (.v 11) .lenL [.v 10],
 op (.v 12) .mv [.c (.int .i64 0)]]
def a8s7 : ACode := .reg [] a8r6
def a8r8 : List AOper := [
 op (.t 22) (.bin .lss) [.v 12,.v 11]]
def a8s9 : ACode := .test [] a8r8 (.t 22) .skip (.exit 0)
def a8r10 : List AOper := [
 op (.t 23) (.iad 4) [.v 10,.v 12],
 op (.t 24) (.ldRo true 4) [.t 23],
 ⟨.bx,.alloc [.bool false,.str [],.list true [],.list true []],[],some 6,none⟩,
 ⟨.none,.stLc 6 4,[.l 6,.ts 24],some 6,none⟩]
def a8s11 : ACode := .reg [6] a8r10
def a8r12 : List AOper := [
 op (.t 25) (.fad 1) [.l 6],
 ⟨.t 26,.ldLc 6 false 1,[.t 25],some 6,none⟩,
 op (.t 27) (.bin .eql) [.t 26,.c (.str [])],
 op (.t 28) .mv [.t 27],
 ⟨.t 29,.fad 0,[.l 2],none,some (.t 28,true)⟩,
 ⟨.t 30,.ldLc 2 false 1,[.t 29],some 2,some (.t 28,true)⟩,
 ⟨.t 31,.lenL,[.t 30],none,some (.t 28,true)⟩,
 ⟨.t 32,.bin .gtr,[.t 31,.c (.int .i64 1)],none,some (.t 28,true)⟩,
 op (.t 33) .pick [.t 28,.t 32,.c (.bool false)]]
def a8r13 : List AOper := [
 op (.t 34) .mv [.v 4],
 op (.t 35) (.call 26) [.t 34,.c (.int .i64 2),.c (.str [])]]
def a8s14 : ACode := .reg [] a8r13
def a8s15 : ACode := .test [] a8r12 (.t 33) a8s14 .skip
def a8r16 : List AOper := [
 op (.t 36) (.fad 1) [.l 6],
 ⟨.t 37,.ldLc 6 false 1,[.t 36],some 6,none⟩,
 op (.t 38) (.bin .neq) [.t 37,.c (.str [])]]
def a8r17 : List AOper := [
 op (.t 39) .mv [.vs 5],
 op (.t 40) (.fad 1) [.l 6],
 ⟨.t 41,.ldLc 6 false 1,[.t 40],some 6,none⟩,
 op (.t 42) (.bslice 1 [[.str []]] [0]) [.t 41],
 op (.t 43) (.app 1 16) [.ts 39,.t 42],
 op (.v 5) .mv [.ts 43]]
def a8s18 : ACode := .reg [] a8r17
def a8s19 : ACode := .test [] a8r16 (.t 38) a8s18 .skip
def a8s20 : ACode := .seq a8s15 a8s19
def a8s21 : ACode := .seq a8s11 a8s20
def a8s22 : ACode := .blk 1 a8s21
def a8r23 : List AOper := [
 op (.t 44) (.bin .add) [.v 12,.c (.int .i64 1)],
 op (.v 12) .mv [.t 44]]
def a8s24 : ACode := .reg [] a8r23
def a8s25 : ACode := .seq a8s22 a8s24
def a8s26 : ACode := .seq a8s9 a8s25
def a8s27 : ACode := .loop a8s26
def a8s28 : ACode := .blk 0 a8s27
def a8s29 : ACode := .seq a8s7 a8s28
def a8r30 : List AOper := [
 op (.t 45) .mv [.v 4],
 op (.t 46) .mv [.v 5],
 op (.t 47) (.call 27) [.t 45,.c (.int .i64 1),.t 46]]
def a8s31 : ACode := .reg [] a8r30
def a8r32 : List AOper := [
 op (.t 48) .mv [.v 4],
 op (.t 49) (.fad 1) [.l 2],
 ⟨.t 50,.ldLc 2 false 1,[.t 49],some 2,none⟩,
 op (.t 51) (.call 28) [.t 50,.c (.func 29 [] [])],
 op (.t 52) (.call 27) [.t 48,.c (.int .i64 3),.t 51]]
def a8s33 : ACode := .reg [] a8r32
def a8r34 : List AOper := [
 op (.v 7) .mv [.c (.list true [])]]
def a8s35 : ACode := .reg [] a8r34
def a8r36 : List AOper := [
 op (.t 53) (.fad 0) [.l 2],
 ⟨.v 13,.ldLc 2 false 1,[.t 53],some 2,none⟩,
 op (.v 14) .lenL [.v 13],
 op (.v 15) .mv [.c (.int .i64 0)]]
def a8s37 : ACode := .reg [] a8r36
def a8r38 : List AOper := [
 op (.t 57) (.bin .lss) [.v 15,.v 14]]
def a8s39 : ACode := .test [] a8r38 (.t 57) .skip (.exit 2)
def a8r40 : List AOper := [
 op (.t 58) (.iad 4) [.v 13,.v 15],
 op (.t 59) (.ldRo true 4) [.t 58],
 ⟨.bx,.alloc [.bool false,.str [],.list true [],.list true []],[],some 8,none⟩,
 ⟨.none,.stLc 8 4,[.l 8,.ts 59],some 8,none⟩]
def a8s41 : ACode := .reg [8] a8r40
def a8r42 : List AOper := [
 op (.t 60) .mv [.vs 7],
 op (.t 61) .mv [.v 4],
 op (.t 62) (.fad 3) [.l 8],
 ⟨.t 63,.ldLc 8 false 1,[.t 62],some 8,none⟩,
 op (.t 64) (.call 30) [.t 61,.t 63,.c (.list true [])],
 op (.t 65) (.app 1 16) [.ts 60,.t 64],
 op (.v 7) .mv [.ts 65]]
def a8s43 : ACode := .reg [] a8r42
def a8r44 : List AOper := [
 op (.t 66) .mv [.v 4],
 ⟨.t 67,.ldLc 8 true 4,[.l 8],some 8,none⟩,
 op (.t 68) (.call 31) [.t 66,.t 67]]
def a8s45 : ACode := .reg [] a8r44
def a8s46 : ACode := .seq a8s43 a8s45
def a8s47 : ACode := .seq a8s41 a8s46
def a8s48 : ACode := .blk 3 a8s47
def a8r49 : List AOper := [
 op (.t 69) (.bin .add) [.v 15,.c (.int .i64 1)],
 op (.v 15) .mv [.t 69]]
def a8s50 : ACode := .reg [] a8r49
def a8s51 : ACode := .seq a8s48 a8s50
def a8s52 : ACode := .seq a8s39 a8s51
def a8s53 : ACode := .loop a8s52
def a8s54 : ACode := .blk 2 a8s53
def a8s55 : ACode := .seq a8s37 a8s54
def a8r56 : List AOper := [
 op (.t 70) (.fad 1) [.l 2],
 ⟨.v 16,.ldLc 2 false 1,[.t 70],some 2,none⟩,
 op (.v 17) .lenL [.v 16],
 op (.v 18) .mv [.c (.int .i64 0)]]
def a8s57 : ACode := .reg [] a8r56
def a8r58 : List AOper := [
 op (.t 74) (.bin .lss) [.v 18,.v 17]]
def a8s59 : ACode := .test [] a8r58 (.t 74) .skip (.exit 4)
def a8r60 : List AOper := [
 op (.t 75) (.iad 3) [.v 16,.v 18],
 op (.t 76) (.ldRo true 3) [.t 75],
 ⟨.bx,.alloc [.str [],.str [],.list true []],[],some 9,none⟩,
 ⟨.none,.stLc 9 3,[.l 9,.ts 76],some 9,none⟩]
def a8s61 : ACode := .reg [9] a8r60
def a8r62 : List AOper := [
 op (.t 77) .mv [.v 7],
 op (.t 78) (.fad 0) [.l 9],
 ⟨.t 79,.ldLc 9 false 1,[.t 78],some 9,none⟩,
 op (.t 80) (.call 32) [.t 77,.t 79],
 op (.t 81) (.un .not) [.t 80]]
def a8r63 : List AOper := [
 op (.t 82) .mv [.v 4],
 op (.t 83) (.fad 0) [.l 9],
 ⟨.t 84,.ldLc 9 false 1,[.t 83],some 9,none⟩,
 op (.t 85) (.call 26) [.t 82,.c (.int .i64 6),.t 84]]
def a8s64 : ACode := .reg [] a8r63
def a8s65 : ACode := .test [] a8r62 (.t 81) a8s64 .skip
def a8r66 : List AOper := [
 op (.t 86) .mv [.v 4],
 op (.t 87) (.fad 2) [.l 9],
 ⟨.t 88,.ldLc 9 false 1,[.t 87],some 9,none⟩,
 op (.t 89) (.call 30) [.t 86,.t 88,.c (.list true [])],
 op (.t 90) (.fad 0) [.l 9],
 ⟨.t 91,.ldLc 9 false 1,[.t 90],some 9,none⟩,
 op (.t 92) (.call 32) [.t 89,.t 91]]
def a8r67 : List AOper := [
 op (.t 93) .mv [.v 4],
 op (.t 94) (.fad 0) [.l 9],
 ⟨.t 95,.ldLc 9 false 1,[.t 94],some 9,none⟩,
 op (.t 96) (.call 26) [.t 93,.c (.int .i64 7),.t 95]]
def a8s68 : ACode := .reg [] a8r67
def a8s69 : ACode := .test [] a8r66 (.t 92) a8s68 .skip
def a8r70 : List AOper := [
 op (.t 97) .mv [.v 4],
 op (.t 98) (.fad 1) [.l 9],
 ⟨.t 99,.ldLc 9 false 1,[.t 98],some 9,none⟩,
 op (.t 100) (.call 33) [.t 97,.t 99],
 op (.t 101) (.un .not) [.t 100]]
def a8r71 : List AOper := [
 op (.t 102) .mv [.v 4],
 op (.t 103) (.fad 1) [.l 9],
 ⟨.t 104,.ldLc 9 false 1,[.t 103],some 9,none⟩,
 op (.t 105) (.call 26) [.t 102,.c (.int .i64 4),.t 104]]
def a8s72 : ACode := .reg [] a8r71
def a8s73 : ACode := .test [] a8r70 (.t 101) a8s72 .skip
def a8r74 : List AOper := [
 op (.t 106) .mv [.v 4],
 op (.t 107) (.fad 1) [.l 9],
 ⟨.t 108,.ldLc 9 false 1,[.t 107],some 9,none⟩,
 op (.t 109) (.fad 2) [.l 9],
 ⟨.t 110,.ldLc 9 false 1,[.t 109],some 9,none⟩,
 op (.t 111) (.call 34) [.t 106,.t 108,.t 110]]
def a8s75 : ACode := .reg [] a8r74
def a8s76 : ACode := .seq a8s73 a8s75
def a8s77 : ACode := .seq a8s69 a8s76
def a8s78 : ACode := .seq a8s65 a8s77
def a8s79 : ACode := .seq a8s61 a8s78
def a8s80 : ACode := .blk 5 a8s79
def a8r81 : List AOper := [
 op (.t 112) (.bin .add) [.v 18,.c (.int .i64 1)],
 op (.v 18) .mv [.t 112]]
def a8s82 : ACode := .reg [] a8r81
def a8s83 : ACode := .seq a8s80 a8s82
def a8s84 : ACode := .seq a8s59 a8s83
def a8s85 : ACode := .loop a8s84
def a8s86 : ACode := .blk 4 a8s85
def a8s87 : ACode := .seq a8s57 a8s86
def a8r88 : List AOper := [
 op (.t 113) .mv [.v 4],
 op (.t 114) .nilchk [.t 113],
 op (.t 115) (.fad 3) [.t 114],
 op (.t 116) (.ldSt false 1) [.t 115],
 op (.t 117) (.call 35) [.t 116,.c (.func 36 [] [])]]
def a8s89 : ACode := .reg [] a8r88
def a8r90 : List AOper := [
 op (.t 118) .mv [.v 4],
 op (.t 119) .mv [.v 4],
 op (.t 120) .nilchk [.t 119],
 op (.t 121) (.fad 3) [.t 120],
 op (.t 122) (.ldSt false 1) [.t 121],
 op (.t 123) (.call 40) [.t 122],
 op (.t 124) .nilchk [.t 118],
 op (.t 125) (.fad 3) [.t 124],
 op .none (.stSt 1) [.t 125,.t 123]]
def a8s91 : ACode := .reg [] a8r90
def a8r92 : List AOper := [
 op (.t 126) .mv [.v 4],
 op (.t 127) .nilchk [.t 126],
 op (.t 128) (.fad 3) [.t 127],
 op (.t 129) (.ldSt false 1) [.t 128],
 op (.t 130) .mv [.v 4],
 op (.t 131) .nilchk [.t 130],
 op (.t 132) (.fad 3) [.t 131],
 op (.t 133) (.ldSt false 1) [.t 132],
 op (.t 134) .lenL [.t 133],
 op (.t 135) .min2 [.t 134,.c (.int .i64 50)],
 op (.t 136) (.slL 2 false true) [.t 129,.t 135],
 op (.v 3) .mv [.ts 136]]
def a8s93 : ACode := .reg [] a8r92
def a8s94 : ACode := .seq a8s93 .ret
def a8s95 : ACode := .seq a8s91 a8s94
def a8s96 : ACode := .seq a8s89 a8s95
def a8s97 : ACode := .seq a8s87 a8s96
def a8s98 : ACode := .seq a8s55 a8s97
def a8s99 : ACode := .seq a8s35 a8s98
def a8s100 : ACode := .seq a8s33 a8s99
def a8s101 : ACode := .seq a8s31 a8s100
def a8s102 : ACode := .seq a8s29 a8s101
def a8s103 : ACode := .seq a8s5 a8s102
def a8s104 : ACode := .seq a8s3 a8s103
def a8s105 : ACode := .seq a8s1 a8s104
def a8c : ACode :=
  a8s105
def a8 : AFn := { np := 2,nv := 19,results := [.v 3],code := a8c }
def a8v : List Nat := [0,1,3,4,5,6,8,9,11,13,19,20,21,54,55,56,71,72,73]
def a8b : List Nat := [2,6,8,9]

def a9r0 : List AOper := [
 ⟨.bx,.boxV,[.v 0],some 1,none⟩,
 op (.v 2) .mv [.c (.str [])]]
def a9s1 : ACode := .reg [1] a9r0
def a9r2 : List AOper := [
 op (.t 3) (.fad 1) [.l 1],
 ⟨.t 4,.ldLc 1 false 1,[.t 3],some 1,none⟩,
 op (.t 5) (.bin .neq) [.t 4,.c (.str [])]]
def a9r3 : List AOper := [
 op (.t 6) (.fad 1) [.l 1],
 ⟨.t 7,.ldLc 1 false 1,[.t 6],some 1,none⟩,
 op (.v 2) .mv [.t 7]]
def a9s4 : ACode := .reg [] a9r3
def a9s5 : ACode := .seq a9s4 .ret
def a9s6 : ACode := .test [] a9r2 (.t 5) a9s5 .skip
def a9r7 : List AOper := [
 op (.t 8) (.fad 2) [.l 1],
 ⟨.t 9,.ldLc 1 false 1,[.t 8],some 1,none⟩,
 op (.v 2) .mv [.t 9]]
def a9s8 : ACode := .reg [] a9r7
def a9s9 : ACode := .seq a9s8 .ret
def a9s10 : ACode := .seq a9s6 a9s9
def a9s11 : ACode := .seq a9s1 a9s10
def a9c : ACode :=
  a9s11
def a9 : AFn := { np := 1,nv := 3,results := [.v 2],code := a9c }
def a9v : List Nat := [0,1,2]
def a9b : List Nat := [1]

def a10r0 : List AOper := [
 ⟨.bx,.boxV,[.v 0],some 1,none⟩,
 op (.v 2) .mv [.c (.str [])]]
def a10s1 : ACode := .reg [1] a10r0
def a10r2 : List AOper := [
 op (.t 3) (.fad 1) [.l 1],
 ⟨.t 4,.ldLc 1 false 1,[.t 3],some 1,none⟩,
 op (.t 5) (.bin .eql) [.t 4,.c (.str [])]]
def a10r3 : List AOper := [
 op (.t 6) (.fad 2) [.l 1],
 ⟨.t 7,.ldLc 1 false 1,[.t 6],some 1,none⟩,
 op (.v 2) .mv [.t 7]]
def a10s4 : ACode := .reg [] a10r3
def a10s5 : ACode := .seq a10s4 .ret
def a10s6 : ACode := .test [] a10r2 (.t 5) a10s5 .skip
def a10r7 : List AOper := [
 op (.t 8) (.fad 1) [.l 1],
 ⟨.t 9,.ldLc 1 false 1,[.t 8],some 1,none⟩,
 op (.v 2) .mv [.t 9]]
def a10s8 : ACode := .reg [] a10r7
def a10s9 : ACode := .seq a10s8 .ret
def a10s10 : ACode := .seq a10s6 a10s9
def a10s11 : ACode := .seq a10s1 a10s10
def a10c : ACode :=
  a10s11
def a10 : AFn := { np := 1,nv := 3,results := [.v 2],code := a10c }
def a10v : List Nat := [0,1,2]
def a10b : List Nat := [1]

def a12r0 : List AOper := [
 op (.v 1) .mv [.c (.list true [])],
 op (.v 2) .mv [.c (.int .i64 0)],
 op (.v 3) .mv [.c (.int .i64 0)]]
def a12s1 : ACode := .reg [] a12r0
def a12r2 : List AOper := [
 op (.t 13) .mv [.v 0],
 op (.t 14) (.call 15) [.t 13],
 op (.t 12) .mv [.t 14],
 op (.t 15) (.ext 0) [.t 12],
 op (.t 16) (.ext 1) [.t 12],
 op (.t 17) (.ext 2) [.t 12],
 op (.v 4) .mv [.ts 15],
 op (.v 5) .mv [.t 16],
 op (.v 6) .mv [.t 17]]
def a12s3 : ACode := .reg [] a12r2
def a12r4 : List AOper := [
 op (.t 18) .mv [.v 6],
 op (.t 19) (.bin .neq) [.t 18,.c (.int .i64 0)]]
def a12r5 : List AOper := [
 op (.t 20) .mv [.v 5],
 op (.t 21) .mv [.v 6],
 op (.v 1) .mv [.c (.list true [])],
 op (.v 2) .mv [.t 20],
 op (.v 3) .mv [.t 21]]
def a12s6 : ACode := .reg [] a12r5
def a12s7 : ACode := .seq a12s6 .ret
def a12s8 : ACode := .test [] a12r4 (.t 19) a12s7 .skip
def a12r9 : List AOper := [
 op (.t 22) .mv [.v 4],
 op (.t 23) (.build [.list true [],.int .i64 0,.int .i64 0,.int .i64 0,.int .i64 0] [(0,1)]) [.t 22],
 op (.t 24) .boxO [.ts 23],
 op (.v 7) .mv [.t 24]]
def a12s10 : ACode := .reg [] a12r9
def a12r11 : List AOper := [
 op (.v 8) .mv [.c (.list true [])]]
def a12s12 : ACode := .reg [] a12r11
def a12r13 : List AOper := [
 op (.v 9) .mv [.c (.bool true)]]
def a12s14 : ACode := .reg [] a12r13
def a12r15 : List AOper := [
 op (.t 25) .mv [.v 9],
 op (.t 26) .mv [.t 25],
 ⟨.t 27,.mv,[.v 7],none,some (.t 26,false)⟩,
 ⟨.t 28,.nilchk,[.t 27],none,some (.t 26,false)⟩,
 ⟨.t 29,.fad 4,[.t 28],none,some (.t 26,false)⟩,
 ⟨.t 30,.ldSt false 1,[.t 29],none,some (.t 26,false)⟩,
 ⟨.t 31,.bin .eql,[.t 30,.c (.int .i64 0)],none,some (.t 26,false)⟩,
 ⟨.t 32,.mv,[.t 31],none,some (.t 26,false)⟩,
 ⟨.t 33,.mv,[.v 7],none,some (.t 32,true)⟩,
 ⟨.t 34,.call 16,[.t 33,.c (.int .u8 0)],none,some (.t 32,true)⟩,
 ⟨.t 35,.un .not,[.t 34],none,some (.t 32,true)⟩,
 ⟨.t 36,.pick,[.t 32,.t 35,.c (.bool false)],none,some (.t 26,false)⟩,
 op (.t 37) .pick [.t 26,.c (.bool true),.t 36]]
def a12s16 : ACode := .test [] a12r15 (.t 37) .skip (.exit 0)
def a12r17 : List AOper := [
 op (.t 38) .mv [.v 7],
 op (.t 39) (.call 41) [.t 38],
 ⟨.bx,.alloc [.int .u8 0,.str [],.list true [],.list true []],[],some 10,none⟩,
 ⟨.none,.stLc 10 4,[.l 10,.ts 39],some 10,none⟩]
def a12s18 : ACode := .reg [10] a12r17
def a12r19 : List AOper := [
 op (.t 40) .mv [.vs 8],
 ⟨.t 41,.ldLc 10 true 4,[.l 10],some 10,none⟩,
 op (.t 42) (.bslice 4 [[.int .u8 0,.str [],.list true [],.list true []]] [0]) [.t 41],
 op (.t 43) (.app 4 72) [.ts 40,.t 42],
 op (.v 8) .mv [.ts 43]]
def a12s20 : ACode := .reg [] a12r19
def a12s21 : ACode := .seq a12s18 a12s20
def a12s22 : ACode := .blk 1 a12s21
def a12r23 : List AOper := [
 op (.v 9) .mv [.c (.bool false)]]
def a12s24 : ACode := .reg [] a12r23
def a12s25 : ACode := .seq a12s22 a12s24
def a12s26 : ACode := .seq a12s16 a12s25
def a12s27 : ACode := .loop a12s26
def a12s28 : ACode := .blk 0 a12s27
def a12s29 : ACode := .seq a12s14 a12s28
def a12r30 : List AOper := [
 op (.t 44) .mv [.v 7],
 op (.t 45) .nilchk [.t 44],
 op (.t 46) (.fad 4) [.t 45],
 op (.t 47) (.ldSt false 1) [.t 46],
 op (.t 48) (.bin .neq) [.t 47,.c (.int .i64 0)]]
def a12r31 : List AOper := [
 op (.t 49) .mv [.v 7],
 op (.t 50) .nilchk [.t 49],
 op (.t 51) (.fad 3) [.t 50],
 op (.t 52) (.ldSt false 1) [.t 51],
 op (.t 53) .mv [.v 7],
 op (.t 54) .nilchk [.t 53],
 op (.t 55) (.fad 4) [.t 54],
 op (.t 56) (.ldSt false 1) [.t 55],
 op (.v 1) .mv [.c (.list true [])],
 op (.v 2) .mv [.t 52],
 op (.v 3) .mv [.t 56]]
def a12s32 : ACode := .reg [] a12r31
def a12s33 : ACode := .seq a12s32 .ret
def a12s34 : ACode := .test [] a12r30 (.t 48) a12s33 .skip
def a12r35 : List AOper := [
 op (.t 57) .mv [.v 8],
 op (.v 1) .mv [.ts 57],
 op (.v 2) .mv [.c (.int .i64 0)],
 op (.v 3) .mv [.c (.int .i64 0)]]
def a12s36 : ACode := .reg [] a12r35
def a12s37 : ACode := .seq a12s36 .ret
def a12s38 : ACode := .seq a12s34 a12s37
def a12s39 : ACode := .seq a12s29 a12s38
def a12s40 : ACode := .seq a12s12 a12s39
def a12s41 : ACode := .seq a12s10 a12s40
def a12s42 : ACode := .seq a12s8 a12s41
def a12s43 : ACode := .seq a12s3 a12s42
def a12s44 : ACode := .seq a12s1 a12s43
def a12c : ACode :=
  a12s44
def a12 : AFn := { np := 1,nv := 11,results := [.v 1,.v 2,.v 3],code := a12c }
def a12v : List Nat := [0,2,3,4,5,6,7,8,9,10,11]
def a12b : List Nat := [10]

def a13r0 : List AOper := [
 op (.v 1) .mv [.c (.nilp)],
 op (.v 2) .mv [.c (.str [])],
 op (.v 3) .mv [.c (.int .i64 0)]]
def a13s1 : ACode := .reg [] a13r0
def a13r2 : List AOper := [
 op (.t 18) .mv [.v 0],
 op (.t 19) (.call 42) [.t 18],
 op (.t 20) .mkM [],
 op (.t 21) (.build [.list true [],.nilm] [(0,1),(1,1)]) [.t 19,.t 20],
 op (.t 22) .boxO [.ts 21],
 op (.v 4) .mv [.t 22]]
def a13s3 : ACode := .reg [] a13r2
def a13r4 : List AOper := [
 op (.v 14) .mv [.v 0],
 op (.v 15) .lenL [.v 14],
 op (.v 16) .mv [.c (.int .i64 0)]]
def a13s5 : ACode := .reg [] a13r4
def a13r6 : List AOper := [
 op (.t 26) (.bin .lss) [.v 16,.v 15]]
def a13s7 : ACode := .test [] a13r6 (.t 26) .skip (.exit 0)
def a13r8 : List AOper := [
 op (.t 27) .mv [.v 16],
 op (.t 28) (.iad 4) [.v 14,.v 16],
 op (.t 29) (.ldRo true 4) [.t 28],
 ⟨.bx,.alloc [.int .u8 0,.str [],.list true [],.list true []],[],some 6,none⟩,
 op (.v 5) .mv [.t 27],
 ⟨.none,.stLc 6 4,[.l 6,.ts 29],some 6,none⟩]
def a13s9 : ACode := .reg [6] a13r8
def a13r10 : List AOper := [
 op (.t 31) .mv [.v 4],
 op (.t 32) .nilchk [.t 31],
 op (.t 33) (.fad 1) [.t 32],
 op (.t 34) (.ldSt false 1) [.t 33],
 op (.t 35) (.fad 1) [.l 6],
 ⟨.t 36,.ldLc 6 false 1,[.t 35],some 6,none⟩,
 op (.t 37) (.mget 1 [.int .i64 0] false true) [.t 34,.t 36],
 op (.t 30) .mv [.t 37],
 op (.t 38) (.ext 0) [.t 30],
 op (.t 39) (.ext 1) [.t 30],
 op (.t 8) .mv [.t 38],
 op (.v 7) .mv [.t 39]]
def a13s11 : ACode := .reg [] a13r10
def a13r12 : List AOper := [
 op (.t 40) .mv [.v 7],
 op (.t 41) .mv [.t 40],
 ⟨.t 42,.slA 4 1 false false,[.c (.ro [.str [66,111,111,108,101,97,110],.str [73,68],.str [73,110,116],.str [83,116,114,105,110,103]])],none,some (.t 41,false)⟩,
 ⟨.t 43,.fad 1,[.l 6],none,some (.t 41,false)⟩,
 ⟨.t 44,.ldLc 6 false 1,[.t 43],some 6,some (.t 41,false)⟩,
 ⟨.t 45,.call 32,[.t 42,.t 44],none,some (.t 41,false)⟩,
 op (.t 46) .pick [.t 41,.c (.bool true),.t 45]]
def a13r13 : List AOper := [
 op (.t 47) (.fad 1) [.l 6],
 ⟨.t 48,.ldLc 6 false 1,[.t 47],some 6,none⟩,
 op (.v 1) .mv [.c (.nilp)],
 op (.v 2) .mv [.t 48],
 op (.v 3) .mv [.c (.int .i64 7)]]
def a13s14 : ACode := .reg [] a13r13
def a13s15 : ACode := .seq a13s14 .ret
def a13s16 : ACode := .test [] a13r12 (.t 46) a13s15 .skip
def a13s17 : ACode := .seq a13s11 a13s16
def a13r18 : List AOper := [
 op (.t 49) (.fad 1) [.l 6],
 ⟨.t 50,.ldLc 6 false 1,[.t 49],some 6,none⟩,
 op (.t 51) (.call 43) [.t 50,.c (.str [95,95])]]
def a13r19 : List AOper := [
 op (.t 52) (.fad 1) [.l 6],
 ⟨.t 53,.ldLc 6 false 1,[.t 52],some 6,none⟩,
 op (.v 1) .mv [.c (.nilp)],
 op (.v 2) .mv [.t 53],
 op (.v 3) .mv [.c (.int .i64 1)]]
def a13s20 : ACode := .reg [] a13r19
def a13s21 : ACode := .seq a13s20 .ret
def a13s22 : ACode := .test [] a13r18 (.t 51) a13s21 .skip
def a13r23 : List AOper := [
 op (.t 54) .mv [.v 4],
 op (.t 55) .nilchk [.t 54],
 op (.t 56) (.fad 1) [.t 55],
 op (.t 57) (.ldSt false 1) [.t 56],
 op (.t 58) (.fad 1) [.l 6],
 ⟨.t 59,.ldLc 6 false 1,[.t 58],some 6,none⟩,
 op (.t 60) .mv [.v 5],
 op .none (.mset 1) [.t 57,.t 59,.t 60]]
def a13s24 : ACode := .reg [] a13r23
def a13s25 : ACode := .seq a13s22 a13s24
def a13s26 : ACode := .seq a13s17 a13s25
def a13s27 : ACode := .seq a13s9 a13s26
def a13s28 : ACode := .blk 1 a13s27
def a13r29 : List AOper := [
 op (.t 61) (.bin .add) [.v 16,.c (.int .i64 1)],
 op (.v 16) .mv [.t 61]]
def a13s30 : ACode := .reg [] a13r29
def a13s31 : ACode := .seq a13s28 a13s30
def a13s32 : ACode := .seq a13s7 a13s31
def a13s33 : ACode := .loop a13s32
def a13s34 : ACode := .blk 0 a13s33
def a13s35 : ACode := .seq a13s5 a13s34
def a13r36 : List AOper := [
 op (.v 17) .mv [.v 0],
 op (.v 18) .lenL [.v 17],
 op (.v 19) .mv [.c (.int .i64 0)]]
def a13s37 : ACode := .reg [] a13r36
def a13r38 : List AOper := [
 op (.t 65) (.bin .lss) [.v 19,.v 18]]
def a13s39 : ACode := .test [] a13r38 (.t 65) .skip (.exit 2)
def a13r40 : List AOper := [
 op (.t 66) (.iad 4) [.v 17,.v 19],
 op (.t 67) (.ldRo true 4) [.t 66],
 ⟨.bx,.alloc [.int .u8 0,.str [],.list true [],.list true []],[],some 8,none⟩,
 ⟨.none,.stLc 8 4,[.l 8,.ts 67],some 8,none⟩]
def a13s41 : ACode := .reg [8] a13r40
def a13r42 : List AOper := [
 op (.t 68) .mv [.v 4],
 ⟨.t 69,.ldLc 8 true 4,[.l 8],some 8,none⟩,
 op (.t 70) (.call 44) [.t 68,.t 69],
 ⟨.bx,.alloc [.int .i64 0,.str []],[],some 9,none⟩,
 ⟨.none,.stLc 9 2,[.l 9,.t 70],some 9,none⟩]
def a13s43 : ACode := .reg [9] a13r42
def a13r44 : List AOper := [
 op (.t 71) (.fad 0) [.l 9],
 ⟨.t 72,.ldLc 9 false 1,[.t 71],some 9,none⟩,
 op (.t 73) (.bin .neq) [.t 72,.c (.int .i64 0)]]
def a13r45 : List AOper := [
 op (.t 74) (.fad 1) [.l 9],
 ⟨.t 75,.ldLc 9 false 1,[.t 74],some 9,none⟩,
 op (.t 76) (.fad 0) [.l 9],
 ⟨.t 77,.ldLc 9 false 1,[.t 76],some 9,none⟩,
 op (.v 1) .mv [.c (.nilp)],
 op (.v 2) .mv [.t 75],
 op (.v 3) .mv [.t 77]]
def a13s46 : ACode := .reg [] a13r45
def a13s47 : ACode := .seq a13s46 .ret
def a13s48 : ACode := .test [] a13r44 (.t 73) a13s47 .skip
def a13s49 : ACode := .seq a13s43 a13s48
def a13s50 : ACode := .seq a13s41 a13s49
def a13s51 : ACode := .blk 3 a13s50
def a13r52 : List AOper := [
 op (.t 78) (.bin .add) [.v 19,.c (.int .i64 1)],
 op (.v 19) .mv [.t 78]]
def a13s53 : ACode := .reg [] a13r52
def a13s54 : ACode := .seq a13s51 a13s53
def a13s55 : ACode := .seq a13s39 a13s54
def a13s56 : ACode := .loop a13s55
def a13s57 : ACode := .blk 2 a13s56
def a13s58 : ACode := .seq a13s37 a13s57
def a13r59 : List AOper := [
 op (.t 80) .mv [.v 4],
 op (.t 81) (.call 45) [.t 80,.c (.str [81,117,101,114,121])],
 op (.t 79) .mv [.t 81],
 op (.t 82) (.ext 0) [.t 79],
 op (.t 83) (.ext 1) [.t 79],
 ⟨.bx,.alloc [.int .u8 0,.str [],.list true [],.list true []],[],some 10,none⟩,
 ⟨.none,.stLc 10 4,[.l 10,.ts 82],some 10,none⟩,
 op (.v 11) .mv [.t 83]]
def a13s60 : ACode := .reg [10] a13r59
def a13r61 : List AOper := [
 op (.t 84) .mv [.v 11],
 op (.t 85) (.un .not) [.t 84],
 op (.t 86) .mv [.t 85],
 ⟨.t 87,.fad 0,[.l 10],none,some (.t 86,false)⟩,
 ⟨.t 88,.ldLc 10 false 1,[.t 87],some 10,some (.t 86,false)⟩,
 ⟨.t 89,.bin .neq,[.t 88,.c (.int .u8 1)],none,some (.t 86,false)⟩,
 op (.t 90) .pick [.t 86,.c (.bool true),.t 89]]
def a13r62 : List AOper := [
 op (.v 1) .mv [.c (.nilp)],
 op (.v 2) .mv [.c (.str [81,117,101,114,121])],
 op (.v 3) .mv [.c (.int .i64 6)]]
def a13s63 : ACode := .reg [] a13r62
def a13s64 : ACode := .seq a13s63 .ret
def a13s65 : ACode := .test [] a13r61 (.t 90) a13s64 .skip
def a13s66 : ACode := .seq a13s60 a13s65
def a13r67 : List AOper := [
 op (.v 20) .mv [.v 0],
 op (.v 21) .lenL [.v 20],
 op (.v 22) .mv [.c (.int .i64 0)]]
def a13s68 : ACode := .reg [] a13r67
def a13r69 : List AOper := [
 op (.t 94) (.bin .lss) [.v 22,.v 21]]
def a13s70 : ACode := .test [] a13r69 (.t 94) .skip (.exit 4)
def a13r71 : List AOper := [
 op (.t 95) (.iad 4) [.v 20,.v 22],
 op (.t 96) (.ldRo true 4) [.t 95],
 ⟨.bx,.alloc [.int .u8 0,.str [],.list true [],.list true []],[],some 12,none⟩,
 ⟨.none,.stLc 12 4,[.l 12,.ts 96],some 12,none⟩]
def a13s72 : ACode := .reg [12] a13r71
def a13r73 : List AOper := [
 op (.t 97) .mv [.v 4],
 ⟨.t 98,.ldLc 12 true 4,[.l 12],some 12,none⟩,
 op (.t 99) (.call 46) [.t 97,.t 98],
 ⟨.bx,.alloc [.int .i64 0,.str []],[],some 13,none⟩,
 ⟨.none,.stLc 13 2,[.l 13,.t 99],some 13,none⟩]
def a13s74 : ACode := .reg [13] a13r73
def a13r75 : List AOper := [
 op (.t 100) (.fad 0) [.l 13],
 ⟨.t 101,.ldLc 13 false 1,[.t 100],some 13,none⟩,
 op (.t 102) (.bin .neq) [.t 101,.c (.int .i64 0)]]
def a13r76 : List AOper := [
 op (.t 103) (.fad 1) [.l 13],
 ⟨.t 104,.ldLc 13 false 1,[.t 103],some 13,none⟩,
 op (.t 105) (.fad 0) [.l 13],
 ⟨.t 106,.ldLc 13 false 1,[.t 105],some 13,none⟩,
 op (.v 1) .mv [.c (.nilp)],
 op (.v 2) .mv [.t 104],
 op (.v 3) .mv [.t 106]]
def a13s77 : ACode := .reg [] a13r76
def a13s78 : ACode := .seq a13s77 .ret
def a13s79 : ACode := .test [] a13r75 (.t 102) a13s78 .skip
def a13s80 : ACode := .seq a13s74 a13s79
def a13s81 : ACode := .seq a13s72 a13s80
def a13s82 : ACode := .blk 5 a13s81
def a13r83 : List AOper := [
 op (.t 107) (.bin .add) [.v 22,.c (.int .i64 1)],
 op (.v 22) .mv [.t 107]]
def a13s84 : ACode := .reg [] a13r83
def a13s85 : ACode := .seq a13s82 a13s84
def a13s86 : ACode := .seq a13s70 a13s85
def a13s87 : ACode := .loop a13s86
def a13s88 : ACode := .blk 4 a13s87
def a13s89 : ACode := .seq a13s68 a13s88
def a13r90 : List AOper := [
 op (.t 108) .mv [.v 4],
 op (.v 1) .mv [.t 108],
 op (.v 2) .mv [.c (.str [])],
 op (.v 3) .mv [.c (.int .i64 0)]]
def a13s91 : ACode := .reg [] a13r90
def a13s92 : ACode := .seq a13s91 .ret
def a13s93 : ACode := .seq a13s89 a13s92
def a13s94 : ACode := .seq a13s66 a13s93
def a13s95 : ACode := .seq a13s58 a13s94
def a13s96 : ACode := .seq a13s35 a13s95
def a13s97 : ACode := .seq a13s3 a13s96
def a13s98 : ACode := .seq a13s1 a13s97
def a13c : ACode :=
  a13s98
def a13 : AFn := { np := 1,nv := 23,results := [.v 1,.v 2,.v 3],code := a13c }
def a13v : List Nat := [0,2,3,4,5,6,7,9,11,12,13,14,16,17,23,24,25,62,63,64,91,92,93]
def a13b : List Nat := [6,8,9,10,12,13]

def a14r0 : List AOper := [
 op (.v 1) .mv [.c (.nilp)],
 op (.v 2) .mv [.c (.str [])],
 op (.v 3) .mv [.c (.int .i64 0)]]
def a14s1 : ACode := .reg [] a14r0
def a14r2 : List AOper := [
 op (.t 14) .mv [.v 0],
 op (.t 15) (.build [.list true []] [(0,1)]) [.t 14],
 op (.t 16) .boxO [.ts 15],
 op (.v 4) .mv [.t 16]]
def a14s3 : ACode := .reg [] a14r2
def a14r4 : List AOper := [
 op (.v 5) .mv [.c (.list true [])]]
def a14s5 : ACode := .reg [] a14r4
def a14r6 : List AOper := [
 op (.v 6) .mv [.c (.int .i64 0)]]
def a14s7 : ACode := .reg [] a14r6
def a14r8 : List AOper := [
 op (.t 17) .mv [.v 6],
 op (.t 18) .mv [.v 0],
 op (.t 19) .lenL [.t 18],
 op (.t 20) (.bin .lss) [.t 17,.t 19]]
def a14s9 : ACode := .test [] a14r8 (.t 20) .skip (.exit 0)
def a14r10 : List AOper := [
 op (.t 23) .mv [.v 0],
 op (.t 24) .mv [.v 6],
 op (.t 25) (.iad 4) [.t 23,.t 24],
 op (.t 26) (.fad 1) [.t 25],
 op (.t 27) (.ldRo false 1) [.t 26],
 op (.v 7) .mv [.t 27]]
def a14s11 : ACode := .reg [] a14r10
def a14r12 : List AOper := [
 op (.t 28) .mv [.v 7],
 op (.t 29) (.call 47) [.t 28],
 op (.t 30) .mv [.t 29],
 ⟨.t 31,.mv,[.v 5],none,some (.t 30,false)⟩,
 ⟨.t 32,.mv,[.v 7],none,some (.t 30,false)⟩,
 ⟨.t 33,.call 48,[.t 31,.t 32],none,some (.t 30,false)⟩,
 op (.t 34) .pick [.t 30,.c (.bool true),.t 33]]
def a14r13 : List AOper := [
 op (.t 35) .mv [.v 7],
 op (.v 1) .mv [.c (.nilp)],
 op (.v 2) .mv [.t 35],
 op (.v 3) .mv [.c (.int .i64 7)]]
def a14s14 : ACode := .reg [] a14r13
def a14s15 : ACode := .seq a14s14 .ret
def a14s16 : ACode := .test [] a14r12 (.t 34) a14s15 .skip
def a14r17 : List AOper := [
 op (.t 36) .mv [.v 7],
 op (.t 37) (.call 49) [.t 36,.c (.str [95,95])]]
def a14r18 : List AOper := [
 op (.t 38) .mv [.v 7],
 op (.v 1) .mv [.c (.nilp)],
 op (.v 2) .mv [.t 38],
 op (.v 3) .mv [.c (.int .i64 1)]]
def a14s19 : ACode := .reg [] a14r18
def a14s20 : ACode := .seq a14s19 .ret
def a14s21 : ACode := .test [] a14r17 (.t 37) a14s20 .skip
def a14r22 : List AOper := [
 op (.t 39) .mv [.vs 5],
 op (.t 40) .mv [.v 7],
 op (.t 41) (.bslice 1 [[.str []]] [0]) [.t 40],
 op (.t 42) (.app 1 16) [.ts 39,.t 41],
 op (.v 5) .mv [.ts 42]]
def a14s23 : ACode := .reg [] a14r22
def a14s24 : ACode := .seq a14s21 a14s23
def a14s25 : ACode := .seq a14s16 a14s24
def a14s26 : ACode := .seq a14s11 a14s25
def a14s27 : ACode := .blk 1 a14s26
def a14r28 : List AOper := [
 op (.t 21) .mv [.v 6],
 op (.t 22) (.bin .add) [.t 21,.c (.int .i64 1)],
 op (.v 6) .mv [.t 22]]
def a14s29 : ACode := .reg [] a14r28
def a14s30 : ACode := .seq a14s27 a14s29
def a14s31 : ACode := .seq a14s9 a14s30
def a14s32 : ACode := .loop a14s31
def a14s33 : ACode := .blk 0 a14s32
def a14s34 : ACode := .seq a14s7 a14s33
def a14r35 : List AOper := [
 op (.v 8) .mv [.c (.int .i64 0)]]
def a14s36 : ACode := .reg [] a14r35
def a14r37 : List AOper := [
 op (.t 43) .mv [.v 8],
 op (.t 44) .mv [.v 0],
 op (.t 45) .lenL [.t 44],
 op (.t 46) (.bin .lss) [.t 43,.t 45]]
def a14s38 : ACode := .test [] a14r37 (.t 46) .skip (.exit 2)
def a14r39 : List AOper := [
 op (.t 50) .mv [.v 4],
 op (.t 51) .mv [.v 0],
 op (.t 52) .mv [.v 8],
 op (.t 53) (.iad 4) [.t 51,.t 52],
 op (.t 54) (.ldRo true 4) [.t 53],
 op (.t 55) (.call 50) [.t 50,.t 54],
 op (.t 49) .mv [.t 55],
 op (.t 56) (.ext 0) [.t 49],
 op (.t 57) (.ext 1) [.t 49],
 op (.v 9) .mv [.t 56],
 op (.v 10) .mv [.t 57]]
def a14s40 : ACode := .reg [] a14r39
def a14r41 : List AOper := [
 op (.t 58) .mv [.v 10],
 op (.t 59) (.bin .neq) [.t 58,.c (.int .i64 0)]]
def a14r42 : List AOper := [
 op (.t 60) .mv [.v 9],
 op (.t 61) .mv [.v 10],
 op (.v 1) .mv [.c (.nilp)],
 op (.v 2) .mv [.t 60],
 op (.v 3) .mv [.t 61]]
def a14s43 : ACode := .reg [] a14r42
def a14s44 : ACode := .seq a14s43 .ret
def a14s45 : ACode := .test [] a14r41 (.t 59) a14s44 .skip
def a14s46 : ACode := .seq a14s40 a14s45
def a14s47 : ACode := .blk 3 a14s46
def a14r48 : List AOper := [
 op (.t 47) .mv [.v 8],
 op (.t 48) (.bin .add) [.t 47,.c (.int .i64 1)],
 op (.v 8) .mv [.t 48]]
def a14s49 : ACode := .reg [] a14r48
def a14s50 : ACode := .seq a14s47 a14s49
def a14s51 : ACode := .seq a14s38 a14s50
def a14s52 : ACode := .loop a14s51
def a14s53 : ACode := .blk 2 a14s52
def a14s54 : ACode := .seq a14s36 a14s53
def a14r55 : List AOper := [
 op (.t 62) .mv [.v 4],
 op (.t 63) (.call 51) [.t 62,.c (.str [81,117,101,114,121])],
 op (.t 64) (.fld 0 1 false) [.t 63],
 op (.t 65) (.bin .neq) [.t 64,.c (.int .u8 1)]]
def a14r56 : List AOper := [
 op (.v 1) .mv [.c (.nilp)],
 op (.v 2) .mv [.c (.str [81,117,101,114,121])],
 op (.v 3) .mv [.c (.int .i64 6)]]
def a14s57 : ACode := .reg [] a14r56
def a14s58 : ACode := .seq a14s57 .ret
def a14s59 : ACode := .test [] a14r55 (.t 65) a14s58 .skip
def a14r60 : List AOper := [
 op (.v 11) .mv [.c (.int .i64 0)]]
def a14s61 : ACode := .reg [] a14r60
def a14r62 : List AOper := [
 op (.t 66) .mv [.v 11],
 op (.t 67) .mv [.v 0],
 op (.t 68) .lenL [.t 67],
 op (.t 69) (.bin .lss) [.t 66,.t 68]]
def a14s63 : ACode := .test [] a14r62 (.t 69) .skip (.exit 4)
def a14r64 : List AOper := [
 op (.t 72) .mv [.v 0],
 op (.t 73) .mv [.v 11],
 op (.t 74) (.iad 4) [.t 72,.t 73],
 op (.t 75) (.fad 0) [.t 74],
 op (.t 76) (.ldRo false 1) [.t 75],
 op (.t 77) (.bin .neq) [.t 76,.c (.int .u8 1)],
 op (.t 78) .mv [.t 77],
 ⟨.t 79,.mv,[.v 0],none,some (.t 78,true)⟩,
 ⟨.t 80,.mv,[.v 11],none,some (.t 78,true)⟩,
 ⟨.t 81,.iad 4,[.t 79,.t 80],none,some (.t 78,true)⟩,
 ⟨.t 82,.fad 0,[.t 81],none,some (.t 78,true)⟩,
 ⟨.t 83,.ldRo false 1,[.t 82],none,some (.t 78,true)⟩,
 ⟨.t 84,.bin .neq,[.t 83,.c (.int .u8 2)],none,some (.t 78,true)⟩,
 op (.t 85) .pick [.t 78,.t 84,.c (.bool false)]]
def a14s65 : ACode := .test [] a14r64 (.t 85) (.exit 5) .skip
def a14r66 : List AOper := [
 op (.v 12) .mv [.c (.int .i64 0)]]
def a14s67 : ACode := .reg [] a14r66
def a14r68 : List AOper := [
 op (.t 86) .mv [.v 12],
 op (.t 87) .mv [.v 0],
 op (.t 88) .mv [.v 11],
 op (.t 89) (.iad 4) [.t 87,.t 88],
 op (.t 90) (.fad 2) [.t 89],
 op (.t 91) (.ldRo false 1) [.t 90],
 op (.t 92) .lenL [.t 91],
 op (.t 93) (.bin .lss) [.t 86,.t 92]]
def a14s69 : ACode := .test [] a14r68 (.t 93) .skip (.exit 6)
def a14r70 : List AOper := [
 op (.t 96) .mv [.v 4],
 op (.t 97) .mv [.v 0],
 op (.t 98) .mv [.v 11],
 op (.t 99) (.iad 4) [.t 97,.t 98],
 op (.t 100) (.ldRo true 4) [.t 99],
 op (.t 101) .mv [.v 0],
 op (.t 102) .mv [.v 11],
 op (.t 103) (.iad 4) [.t 101,.t 102],
 op (.t 104) (.fad 2) [.t 103],
 op (.t 105) (.ldRo false 1) [.t 104],
 op (.t 106) .mv [.v 12],
 op (.t 107) (.iad 11) [.t 105,.t 106],
 op (.t 108) (.ldRo true 11) [.t 107],
 op (.t 109) (.call 52) [.t 96,.t 100,.t 108],
 op (.t 110) (.un .not) [.t 109]]
def a14r71 : List AOper := [
 op (.t 111) .mv [.v 0],
 op (.t 112) .mv [.v 11],
 op (.t 113) (.iad 4) [.t 111,.t 112],
 op (.t 114) (.fad 2) [.t 113],
 op (.t 115) (.ldRo false 1) [.t 114],
 op (.t 116) .mv [.v 12],
 op (.t 117) (.iad 11) [.t 115,.t 116],
 op (.t 118) (.fad 0) [.t 117],
 op (.t 119) (.ldRo false 1) [.t 118],
 op (.v 1) .mv [.c (.nilp)],
 op (.v 2) .mv [.t 119],
 op (.v 3) .mv [.c (.int .i64 3)]]
def a14s72 : ACode := .reg [] a14r71
def a14s73 : ACode := .seq a14s72 .ret
def a14s74 : ACode := .test [] a14r70 (.t 110) a14s73 .skip
def a14s75 : ACode := .blk 7 a14s74
def a14r76 : List AOper := [
 op (.t 94) .mv [.v 12],
 op (.t 95) (.bin .add) [.t 94,.c (.int .i64 1)],
 op (.v 12) .mv [.t 95]]
def a14s77 : ACode := .reg [] a14r76
def a14s78 : ACode := .seq a14s75 a14s77
def a14s79 : ACode := .seq a14s69 a14s78
def a14s80 : ACode := .loop a14s79
def a14s81 : ACode := .blk 6 a14s80
def a14s82 : ACode := .seq a14s67 a14s81
def a14s83 : ACode := .seq a14s65 a14s82
def a14s84 : ACode := .blk 5 a14s83
def a14r85 : List AOper := [
 op (.t 70) .mv [.v 11],
 op (.t 71) (.bin .add) [.t 70,.c (.int .i64 1)],
 op (.v 11) .mv [.t 71]]
def a14s86 : ACode := .reg [] a14r85
def a14s87 : ACode := .seq a14s84 a14s86
def a14s88 : ACode := .seq a14s63 a14s87
def a14s89 : ACode := .loop a14s88
def a14s90 : ACode := .blk 4 a14s89
def a14s91 : ACode := .seq a14s61 a14s90
def a14r92 : List AOper := [
 op (.t 120) .mv [.v 4],
 op (.v 1) .mv [.t 120],
 op (.v 2) .mv [.c (.str [])],
 op (.v 3) .mv [.c (.int .i64 0)]]
def a14s93 : ACode := .reg [] a14r92
def a14s94 : ACode := .seq a14s93 .ret
def a14s95 : ACode := .seq a14s91 a14s94
def a14s96 : ACode := .seq a14s59 a14s95
def a14s97 : ACode := .seq a14s54 a14s96
def a14s98 : ACode := .seq a14s34 a14s97
def a14s99 : ACode := .seq a14s5 a14s98
def a14s100 : ACode := .seq a14s3 a14s99
def a14s101 : ACode := .seq a14s1 a14s100
def a14c : ACode :=
  a14s101
def a14 : AFn := { np := 1,nv := 13,results := [.v 1,.v 2,.v 3],code := a14c }
def a14v : List Nat := [0,2,3,4,5,6,7,8,9,10,11,12,13]
def a14b : List Nat := []

def a15r0 : List AOper := [
 op (.v 1) .mv [.c (.list true [])],
 op (.v 2) .mv [.c (.int .i64 0)],
 op (.v 3) .mv [.c (.int .i64 0)]]
def a15s1 : ACode := .reg [] a15r0
def a15r2 : List AOper := [
 op (.t 12) .mv [.v 0],
 op (.t 13) .lenS [.t 12],
 op (.t 14) (.bin .gtr) [.t 13,.c (.int .i64 2000)]]
def a15r3 : List AOper := [
 op (.v 1) .mv [.c (.list true [])],
 op (.v 2) .mv [.c (.int .i64 0)],
 op (.v 3) .mv [.c (.int .i64 2)]]
def a15s4 : ACode := .reg [] a15r3
def a15s5 : ACode := .seq a15s4 .ret
def a15s6 : ACode := .test [] a15r2 (.t 14) a15s5 .skip
def a15r7 : List AOper := [
 op (.v 4) .mv [.c (.list true [])]]
def a15s8 : ACode := .reg [] a15r7
def a15r9 : List AOper := [
 op (.v 5) .mv [.c (.int .i64 0)]]
def a15s10 : ACode := .reg [] a15r9
def a15r11 : List AOper := [
 op (.t 15) .mv [.v 5],
 op (.t 16) .mv [.v 0],
 op (.t 17) .lenS [.t 16],
 op (.t 18) (.bin .lss) [.t 15,.t 17]]
def a15s12 : ACode := .test [] a15r11 (.t 18) .skip (.exit 0)
def a15r13 : List AOper := [
 op (.t 19) .mv [.v 0],
 op (.t 20) .mv [.v 5],
 op (.t 21) .idxS [.t 19,.t 20],
 op (.v 6) .mv [.t 21]]
def a15s14 : ACode := .reg [] a15r13
def a15r15 : List AOper := [
 op (.t 23) .mv [.v 6],
 op (.t 24) (.bin .eql) [.t 23,.c (.int .u8 32)],
 op (.t 25) .mv [.t 24],
 ⟨.t 26,.mv,[.v 6],none,some (.t 25,false)⟩,
 ⟨.t 27,.bin .eql,[.t 26,.c (.int .u8 10)],none,some (.t 25,false)⟩,
 op (.t 28) .pick [.t 25,.c (.bool true),.t 27],
 op (.t 29) .mv [.t 28],
 ⟨.t 30,.mv,[.v 6],none,some (.t 29,false)⟩,
 ⟨.t 31,.bin .eql,[.t 30,.c (.int .u8 9)],none,some (.t 29,false)⟩,
 op (.t 32) .pick [.t 29,.c (.bool true),.t 31],
 op (.t 33) .mv [.t 32],
 ⟨.t 34,.mv,[.v 6],none,some (.t 33,false)⟩,
 ⟨.t 35,.bin .eql,[.t 34,.c (.int .u8 13)],none,some (.t 33,false)⟩,
 op (.t 36) .pick [.t 33,.c (.bool true),.t 35],
 op (.t 37) .mv [.t 36],
 ⟨.t 38,.mv,[.v 6],none,some (.t 37,false)⟩,
 ⟨.t 39,.bin .eql,[.t 38,.c (.int .u8 44)],none,some (.t 37,false)⟩,
 op (.t 40) .pick [.t 37,.c (.bool true),.t 39],
 op (.t 22) .mv [.t 40]]
def a15r16 : List AOper := [
 op (.t 41) .mv [.v 5],
 op (.t 42) (.bin .add) [.t 41,.c (.int .i64 1)],
 op (.v 5) .mv [.t 42]]
def a15s17 : ACode := .reg [] a15r16
def a15s18 : ACode := .seq a15s17 (.exit 1)
def a15r19 : List AOper := [
 op (.t 44) .mv [.v 6],
 op (.t 45) (.bin .eql) [.t 44,.c (.int .u8 35)],
 op (.t 43) .mv [.t 45]]
def a15r20 : List AOper := [
 op (.t 46) .mv [.v 5],
 op (.t 47) .mv [.v 0],
 op (.t 48) .lenS [.t 47],
 op (.t 49) (.bin .lss) [.t 46,.t 48],
 op (.t 50) .mv [.t 49],
 ⟨.t 51,.mv,[.v 0],none,some (.t 50,true)⟩,
 ⟨.t 52,.mv,[.v 5],none,some (.t 50,true)⟩,
 ⟨.t 53,.idxS,[.t 51,.t 52],none,some (.t 50,true)⟩,
 ⟨.t 54,.bin .neq,[.t 53,.c (.int .u8 10)],none,some (.t 50,true)⟩,
 op (.t 55) .pick [.t 50,.t 54,.c (.bool false)]]
def a15s21 : ACode := .test [] a15r20 (.t 55) .skip (.exit 3)
def a15r22 : List AOper := [
 op (.t 56) .mv [.v 5],
 op (.t 57) (.bin .add) [.t 56,.c (.int .i64 1)],
 op (.v 5) .mv [.t 57]]
def a15s23 : ACode := .reg [] a15r22
def a15s24 : ACode := .blk 4 a15s23
def a15s25 : ACode := .seq a15s21 a15s24
def a15s26 : ACode := .loop a15s25
def a15s27 : ACode := .blk 3 a15s26
def a15s28 : ACode := .seq a15s27 (.exit 1)
def a15s29 : ACode := .test [] a15r19 (.t 43) a15s28 .skip
def a15s30 : ACode := .test [] a15r15 (.t 22) a15s18 a15s29
def a15s31 : ACode := .blk 2 a15s30
def a15r32 : List AOper := [
 op (.t 59) .mv [.v 0],
 op (.t 60) .mv [.v 5],
 op (.t 61) (.call 53) [.t 59,.t 60],
 op (.t 58) .mv [.t 61],
 op (.t 62) (.ext 0) [.t 58],
 op (.t 63) (.ext 1) [.t 58],
 op (.t 64) (.ext 2) [.t 58],
 op (.t 65) (.ext 3) [.t 58],
 ⟨.bx,.alloc [.int .u8 0,.str [],.int .i64 0,.int .i64 0],[],some 7,none⟩,
 ⟨.none,.stLc 7 4,[.l 7,.t 62],some 7,none⟩,
 op (.v 8) .mv [.t 63],
 op (.v 9) .mv [.t 64],
 op (.v 10) .mv [.t 65]]
def a15s33 : ACode := .reg [7] a15r32
def a15r34 : List AOper := [
 op (.t 66) .mv [.v 10],
 op (.t 67) (.bin .neq) [.t 66,.c (.int .i64 0)]]
def a15r35 : List AOper := [
 op (.t 68) .mv [.v 9],
 op (.t 69) .mv [.v 10],
 op (.v 1) .mv [.c (.list true [])],
 op (.v 2) .mv [.t 68],
 op (.v 3) .mv [.t 69]]
def a15s36 : ACode := .reg [] a15r35
def a15s37 : ACode := .seq a15s36 .ret
def a15s38 : ACode := .test [] a15r34 (.t 67) a15s37 .skip
def a15r39 : List AOper := [
 op (.t 70) .mv [.v 5],
 op (.t 71) (.fad 3) [.l 7],
 ⟨.none,.stLc 7 1,[.t 71,.t 70],some 7,none⟩]
def a15s40 : ACode := .reg [] a15r39
def a15r41 : List AOper := [
 op (.t 72) .mv [.vs 4],
 ⟨.t 73,.ldLc 7 true 4,[.l 7],some 7,none⟩,
 op (.t 74) (.bslice 4 [[.int .u8 0,.str [],.int .i64 0,.int .i64 0]] [0]) [.t 73],
 op (.t 75) (.app 4 40) [.ts 72,.t 74],
 op (.v 4) .mv [.ts 75]]
def a15s42 : ACode := .reg [] a15r41
def a15r43 : List AOper := [
 op (.t 76) .mv [.v 8],
 op (.v 5) .mv [.t 76]]
def a15s44 : ACode := .reg [] a15r43
def a15s45 : ACode := .seq a15s42 a15s44
def a15s46 : ACode := .seq a15s40 a15s45
def a15s47 : ACode := .seq a15s38 a15s46
def a15s48 : ACode := .seq a15s33 a15s47
def a15s49 : ACode := .seq a15s31 a15s48
def a15s50 : ACode := .seq a15s14 a15s49
def a15s51 : ACode := .blk 1 a15s50
def a15s52 : ACode := .seq a15s12 a15s51
def a15s53 : ACode := .loop a15s52
def a15s54 : ACode := .blk 0 a15s53
def a15r55 : List AOper := [
 op (.t 77) .mv [.vs 4],
 op (.t 78) .mv [.v 5],
 op (.t 79) (.build [.int .u8 0,.str [],.int .i64 0,.int .i64 0] [(3,1)]) [.t 78],
 op (.t 80) (.bslice 4 [[.int .u8 0,.str [],.int .i64 0,.int .i64 0]] [0]) [.t 79],
 op (.t 81) (.app 4 40) [.ts 77,.t 80],
 op (.v 1) .mv [.ts 81],
 op (.v 2) .mv [.c (.int .i64 0)],
 op (.v 3) .mv [.c (.int .i64 0)]]
def a15s56 : ACode := .reg [] a15r55
def a15s57 : ACode := .seq a15s56 .ret
def a15s58 : ACode := .seq a15s54 a15s57
def a15s59 : ACode := .seq a15s10 a15s58
def a15s60 : ACode := .seq a15s8 a15s59
def a15s61 : ACode := .seq a15s6 a15s60
def a15s62 : ACode := .seq a15s1 a15s61
def a15c : ACode :=
  a15s62
def a15 : AFn := { np := 1,nv := 11,results := [.v 1,.v 2,.v 3],code := a15c }
def a15v : List Nat := [0,2,3,4,5,6,7,8,9,10,11]
def a15b : List Nat := [7]

def a16r0 : List AOper := [
 op (.v 2) .mv [.c (.bool false)]]
def a16s1 : ACode := .reg [] a16r0
def a16r2 : List AOper := [
 op (.t 5) .mv [.v 0],
 op (.t 6) .nilchk [.t 5],
 op (.t 7) (.fad 4) [.t 6],
 op (.t 8) (.ldSt false 1) [.t 7],
 op (.t 9) (.bin .eql) [.t 8,.c (.int .i64 0)],
 op (.t 10) .mv [.t 9],
 ⟨.t 11,.mv,[.v 0],none,some (.t 10,true)⟩,
 ⟨.t 12,.nilchk,[.t 11],none,some (.t 10,true)⟩,
 ⟨.t 13,.fad 0,[.t 12],none,some (.t 10,true)⟩,
 ⟨.t 14,.ldSt false 1,[.t 13],none,some (.t 10,true)⟩,
 ⟨.t 15,.mv,[.v 0],none,some (.t 10,true)⟩,
 ⟨.t 16,.nilchk,[.t 15],none,some (.t 10,true)⟩,
 ⟨.t 17,.fad 1,[.t 16],none,some (.t 10,true)⟩,
 ⟨.t 18,.ldSt false 1,[.t 17],none,some (.t 10,true)⟩,
 ⟨.t 19,.iad 4,[.t 14,.t 18],none,some (.t 10,true)⟩,
 ⟨.t 20,.fad 0,[.t 19],none,some (.t 10,true)⟩,
 ⟨.t 21,.ldRo false 1,[.t 20],none,some (.t 10,true)⟩,
 ⟨.t 22,.mv,[.v 1],none,some (.t 10,true)⟩,
 ⟨.t 23,.bin .eql,[.t 21,.t 22],none,some (.t 10,true)⟩,
 op (.t 24) .pick [.t 10,.t 23,.c (.bool false)],
 op (.v 2) .mv [.t 24]]
def a16s3 : ACode := .reg [] a16r2
def a16s4 : ACode := .seq a16s3 .ret
def a16s5 : ACode := .seq a16s1 a16s4
def a16c : ACode :=
  a16s5
def a16 : AFn := { np := 2,nv := 3,results := [.v 2],code := a16c }
def a16v : List Nat := [0,1,4]
def a16b : List Nat := []

def a17r0 : List AOper := [
 op (.v 2) .mv [.c (.bool false)]]
def a17s1 : ACode := .reg [] a17r0
def a17r2 : List AOper := [
 op (.t 5) .mv [.v 0],
 op (.t 6) .nilchk [.t 5],
 op (.t 7) (.fad 4) [.t 6],
 op (.t 8) (.ldSt false 1) [.t 7],
 op (.t 9) (.bin .eql) [.t 8,.c (.int .i64 0)],
 op (.t 10) .mv [.t 9],
 ⟨.t 11,.mv,[.v 0],none,some (.t 10,true)⟩,
 ⟨.t 12,.nilchk,[.t 11],none,some (.t 10,true)⟩,
 ⟨.t 13,.fad 0,[.t 12],none,some (.t 10,true)⟩,
 ⟨.t 14,.ldSt false 1,[.t 13],none,some (.t 10,true)⟩,
 ⟨.t 15,.mv,[.v 0],none,some (.t 10,true)⟩,
 ⟨.t 16,.nilchk,[.t 15],none,some (.t 10,true)⟩,
 ⟨.t 17,.fad 1,[.t 16],none,some (.t 10,true)⟩,
 ⟨.t 18,.ldSt false 1,[.t 17],none,some (.t 10,true)⟩,
 ⟨.t 19,.iad 4,[.t 14,.t 18],none,some (.t 10,true)⟩,
 ⟨.t 20,.fad 0,[.t 19],none,some (.t 10,true)⟩,
 ⟨.t 21,.ldRo false 1,[.t 20],none,some (.t 10,true)⟩,
 ⟨.t 22,.bin .eql,[.t 21,.c (.int .u8 1)],none,some (.t 10,true)⟩,
 op (.t 23) .pick [.t 10,.t 22,.c (.bool false)],
 op (.t 24) .mv [.t 23],
 ⟨.t 25,.mv,[.v 0],none,some (.t 24,true)⟩,
 ⟨.t 26,.nilchk,[.t 25],none,some (.t 24,true)⟩,
 ⟨.t 27,.fad 0,[.t 26],none,some (.t 24,true)⟩,
 ⟨.t 28,.ldSt false 1,[.t 27],none,some (.t 24,true)⟩,
 ⟨.t 29,.mv,[.v 0],none,some (.t 24,true)⟩,
 ⟨.t 30,.nilchk,[.t 29],none,some (.t 24,true)⟩,
 ⟨.t 31,.fad 1,[.t 30],none,some (.t 24,true)⟩,
 ⟨.t 32,.ldSt false 1,[.t 31],none,some (.t 24,true)⟩,
 ⟨.t 33,.iad 4,[.t 28,.t 32],none,some (.t 24,true)⟩,
 ⟨.t 34,.fad 1,[.t 33],none,some (.t 24,true)⟩,
 ⟨.t 35,.ldRo false 1,[.t 34],none,some (.t 24,true)⟩,
 ⟨.t 36,.mv,[.v 1],none,some (.t 24,true)⟩,
 ⟨.t 37,.bin .eql,[.t 35,.t 36],none,some (.t 24,true)⟩,
 op (.t 38) .pick [.t 24,.t 37,.c (.bool false)],
 op (.v 2) .mv [.t 38]]
def a17s3 : ACode := .reg [] a17r2
def a17s4 : ACode := .seq a17s3 .ret
def a17s5 : ACode := .seq a17s1 a17s4
def a17c : ACode :=
  a17s5
def a17 : AFn := { np := 2,nv := 3,results := [.v 2],code := a17c }
def a17v : List Nat := [0,1,4]
def a17b : List Nat := []

def a18r0 : List AOper := [
 op (.t 4) .mv [.v 0],
 op (.t 5) .nilchk [.t 4],
 op (.t 6) (.fad 4) [.t 5],
 op (.t 7) (.ldSt false 1) [.t 6],
 op (.t 8) (.bin .eql) [.t 7,.c (.int .i64 0)]]
def a18r1 : List AOper := [
 op (.t 9) .mv [.v 0],
 op (.t 10) .mv [.v 0],
 op (.t 11) .nilchk [.t 10],
 op (.t 12) (.fad 0) [.t 11],
 op (.t 13) (.ldSt false 1) [.t 12],
 op (.t 14) .mv [.v 0],
 op (.t 15) .nilchk [.t 14],
 op (.t 16) (.fad 1) [.t 15],
 op (.t 17) (.ldSt false 1) [.t 16],
 op (.t 18) (.iad 4) [.t 13,.t 17],
 op (.t 19) (.fad 3) [.t 18],
 op (.t 20) (.ldRo false 1) [.t 19],
 op (.t 21) .nilchk [.t 9],
 op (.t 22) (.fad 3) [.t 21],
 op .none (.stSt 1) [.t 22,.t 20]]
def a18s2 : ACode := .reg [] a18r1
def a18r3 : List AOper := [
 op (.t 23) .mv [.v 0],
 op (.t 24) .mv [.v 1],
 op (.t 25) .nilchk [.t 23],
 op (.t 26) (.fad 4) [.t 25],
 op .none (.stSt 1) [.t 26,.t 24]]
def a18s4 : ACode := .reg [] a18r3
def a18s5 : ACode := .seq a18s2 a18s4
def a18s6 : ACode := .test [] a18r0 (.t 8) a18s5 .skip
def a18c : ACode :=
  a18s6
def a18 : AFn := { np := 2,nv := 2,results := [],code := a18c }
def a18v : List Nat := [0,1]
def a18b : List Nat := []

def a19r0 : List AOper := [
 op (.v 1) .mv [.c (.str [])]]
def a19s1 : ACode := .reg [] a19r0
def a19r2 : List AOper := [
 op (.t 3) .mv [.v 0],
 op (.t 4) (.call 16) [.t 3,.c (.int .u8 1)],
 op (.t 5) (.un .not) [.t 4]]
def a19r3 : List AOper := [
 op (.t 6) .mv [.v 0],
 op (.t 7) (.call 18) [.t 6,.c (.int .i64 4)]]
def a19s4 : ACode := .reg [] a19r3
def a19r5 : List AOper := [
 op (.v 1) .mv [.c (.str [])]]
def a19s6 : ACode := .reg [] a19r5
def a19s7 : ACode := .seq a19s6 .ret
def a19s8 : ACode := .seq a19s4 a19s7
def a19s9 : ACode := .test [] a19r2 (.t 5) a19s8 .skip
def a19r10 : List AOper := [
 op (.t 8) .mv [.v 0],
 op (.t 9) .nilchk [.t 8],
 op (.t 10) (.fad 1) [.t 9],
 op (.t 11) (.ldSt false 1) [.t 10],
 op (.t 12) (.bin .add) [.t 11,.c (.int .i64 1)],
 op (.t 13) .nilchk [.t 8],
 op (.t 14) (.fad 1) [.t 13],
 op .none (.stSt 1) [.t 14,.t 12]]
def a19s11 : ACode := .reg [] a19r10
def a19r12 : List AOper := [
 op (.t 15) .mv [.v 0],
 op (.t 16) .nilchk [.t 15],
 op (.t 17) (.fad 0) [.t 16],
 op (.t 18) (.ldSt false 1) [.t 17],
 op (.t 19) .mv [.v 0],
 op (.t 20) .nilchk [.t 19],
 op (.t 21) (.fad 1) [.t 20],
 op (.t 22) (.ldSt false 1) [.t 21],
 op (.t 23) (.bin .sub) [.t 22,.c (.int .i64 1)],
 op (.t 24) (.iad 4) [.t 18,.t 23],
 op (.t 25) (.fad 1) [.t 24],
 op (.t 26) (.ldRo false 1) [.t 25],
 op (.v 1) .mv [.t 26]]
def a19s13 : ACode := .reg [] a19r12
def a19s14 : ACode := .seq a19s13 .ret
def a19s15 : ACode := .seq a19s11 a19s14
def a19s16 : ACode := .seq a19s9 a19s15
def a19s17 : ACode := .seq a19s1 a19s16
def a19c : ACode :=
  a19s17
def a19 : AFn := { np := 1,nv := 2,results := [.v 1],code := a19c }
def a19v : List Nat := [0,2]
def a19b : List Nat := []

def a20r0 : List AOper := [
 op (.t 4) .mv [.v 0],
 op (.t 5) .nilchk [.t 4],
 op (.t 6) (.fad 4) [.t 5],
 op (.t 7) (.ldSt false 1) [.t 6],
 op (.t 8) (.bin .eql) [.t 7,.c (.int .i64 0)],
 op (.t 9) .mv [.t 8],
 ⟨.t 10,.mv,[.v 0],none,some (.t 9,true)⟩,
 ⟨.t 11,.mv,[.v 1],none,some (.t 9,true)⟩,
 ⟨.t 12,.call 23,[.t 10,.t 11],none,some (.t 9,true)⟩,
 ⟨.t 13,.un .not,[.t 12],none,some (.t 9,true)⟩,
 op (.t 14) .pick [.t 9,.t 13,.c (.bool false)]]
def a20r1 : List AOper := [
 op (.t 15) .mv [.v 0],
 op (.t 16) (.call 18) [.t 15,.c (.int .i64 4)]]
def a20s2 : ACode := .reg [] a20r1
def a20s3 : ACode := .test [] a20r0 (.t 14) a20s2 .skip
def a20c : ACode :=
  a20s3
def a20 : AFn := { np := 2,nv := 2,results := [],code := a20c }
def a20v : List Nat := [0,1]
def a20b : List Nat := []

def a21r0 : List AOper := [
 op (.v 1) .mv [.c (.list true [])]]
def a21s1 : ACode := .reg [] a21r0
def a21r2 : List AOper := [
 op (.v 2) .mv [.c (.list true [])]]
def a21s3 : ACode := .reg [] a21r2
def a21r4 : List AOper := [
 op (.t 5) .mv [.v 0],
 op (.t 6) .nilchk [.t 5],
 op (.t 7) (.fad 4) [.t 6],
 op (.t 8) (.ldSt false 1) [.t 7],
 op (.t 9) (.bin .eql) [.t 8,.c (.int .i64 0)],
 op (.t 10) .mv [.t 9],
 ⟨.t 11,.mv,[.v 0],none,some (.t 10,true)⟩,
 ⟨.t 12,.call 54,[.t 11],none,some (.t 10,true)⟩,
 op (.t 13) .pick [.t 10,.t 12,.c (.bool false)]]
def a21r5 : List AOper := [
 op (.t 14) .mv [.v 0],
 op (.t 15) (.call 20) [.t 14,.c (.str [123])]]
def a21s6 : ACode := .reg [] a21r5
def a21r7 : List AOper := [
 op (.t 16) .mv [.v 0],
 op (.t 17) .nilchk [.t 16],
 op (.t 18) (.fad 4) [.t 17],
 op (.t 19) (.ldSt false 1) [.t 18],
 op (.t 20) (.bin .eql) [.t 19,.c (.int .i64 0)]]
def a21s8 : ACode := .test [] a21r7 (.t 20) .skip (.exit 0)
def a21r9 : List AOper := [
 op (.t 21) .mv [.v 0],
 op (.t 22) (.call 55) [.t 21],
 ⟨.bx,.alloc [.int .u8 0,.str [],.str [],.str [],.list true [],.list true [],.list true []],[],some 3,none⟩,
 ⟨.none,.stLc 3 7,[.l 3,.ts 22],some 3,none⟩]
def a21s10 : ACode := .reg [3] a21r9
def a21r11 : List AOper := [
 op (.t 23) .mv [.vs 2],
 ⟨.t 24,.ldLc 3 true 7,[.l 3],some 3,none⟩,
 op (.t 25) (.bslice 7 [[.int .u8 0,.str [],.str [],.str [],.list true [],.list true [],.list true []]] [0]) [.t 24],
 op (.t 26) (.app 7 128) [.ts 23,.t 25],
 op (.v 2) .mv [.ts 26]]
def a21s12 : ACode := .reg [] a21r11
def a21r13 : List AOper := [
 op (.t 27) .mv [.v 0],
 op (.t 28) (.call 23) [.t 27,.c (.str [125])]]
def a21s14 : ACode := .test [] a21r13 (.t 28) (.exit 0) .skip
def a21s15 : ACode := .seq a21s12 a21s14
def a21s16 : ACode := .seq a21s10 a21s15
def a21s17 : ACode := .blk 1 a21s16
def a21s18 : ACode := .seq a21s8 a21s17
def a21s19 : ACode := .loop a21s18
def a21s20 : ACode := .blk 0 a21s19
def a21s21 : ACode := .seq a21s6 a21s20
def a21s22 : ACode := .test [] a21r4 (.t 13) a21s21 .skip
def a21r23 : List AOper := [
 op (.t 29) .mv [.v 0],
 op (.t 30) .nilchk [.t 29],
 op (.t 31) (.fad 2) [.t 30],
 op (.t 32) (.ldSt false 1) [.t 31],
 op (.t 33) (.bin .sub) [.t 32,.c (.int .i64 1)],
 op (.t 34) .nilchk [.t 29],
 op (.t 35) (.fad 2) [.t 34],
 op .none (.stSt 1) [.t 35,.t 33]]
def a21s24 : ACode := .reg [] a21r23
def a21r25 : List AOper := [
 op (.t 36) .mv [.v 2],
 op (.v 1) .mv [.ts 36]]
def a21s26 : ACode := .reg [] a21r25
def a21s27 : ACode := .seq a21s26 .ret
def a21s28 : ACode := .seq a21s24 a21s27
def a21s29 : ACode := .seq a21s22 a21s28
def a21s30 : ACode := .seq a21s3 a21s29
def a21s31 : ACode := .seq a21s1 a21s30
def a21c : ACode :=
  a21s31
def a21 : AFn := { np := 1,nv := 4,results := [.v 1],code := a21c }
def a21v : List Nat := [0,2,3,4]
def a21b : List Nat := [3]

def a22r0 : List AOper := [
 op (.v 2) .mv [.c (.bool false)]]
def a22s1 : ACode := .reg [] a22r0
def a22r2 : List AOper := [
 op (.t 5) .mv [.v 0],
 op (.t 6) .nilchk [.t 5],
 op (.t 7) (.fad 4) [.t 6],
 op (.t 8) (.ldSt false 1) [.t 7],
 op (.t 9) (.bin .eql) [.t 8,.c (.int .i64 0)],
 op (.t 10) .mv [.t 9],
 ⟨.t 11,.mv,[.v 0],none,some (.t 10,true)⟩,
 ⟨.t 12,.nilchk,[.t 11],none,some (.t 10,true)⟩,
 ⟨.t 13,.fad 0,[.t 12],none,some (.t 10,true)⟩,
 ⟨.t 14,.ldSt false 1,[.t 13],none,some (.t 10,true)⟩,
 ⟨.t 15,.mv,[.v 0],none,some (.t 10,true)⟩,
 ⟨.t 16,.nilchk,[.t 15],none,some (.t 10,true)⟩,
 ⟨.t 17,.fad 1,[.t 16],none,some (.t 10,true)⟩,
 ⟨.t 18,.ldSt false 1,[.t 17],none,some (.t 10,true)⟩,
 ⟨.t 19,.iad 4,[.t 14,.t 18],none,some (.t 10,true)⟩,
 ⟨.t 20,.fad 0,[.t 19],none,some (.t 10,true)⟩,
 ⟨.t 21,.ldRo false 1,[.t 20],none,some (.t 10,true)⟩,
 ⟨.t 22,.bin .eql,[.t 21,.c (.int .u8 4)],none,some (.t 10,true)⟩,
 op (.t 23) .pick [.t 10,.t 22,.c (.bool false)],
 op (.t 24) .mv [.t 23],
 ⟨.t 25,.mv,[.v 0],none,some (.t 24,true)⟩,
 ⟨.t 26,.nilchk,[.t 25],none,some (.t 24,true)⟩,
 ⟨.t 27,.fad 0,[.t 26],none,some (.t 24,true)⟩,
 ⟨.t 28,.ldSt false 1,[.t 27],none,some (.t 24,true)⟩,
 ⟨.t 29,.mv,[.v 0],none,some (.t 24,true)⟩,
 ⟨.t 30,.nilchk,[.t 29],none,some (.t 24,true)⟩,
 ⟨.t 31,.fad 1,[.t 30],none,some (.t 24,true)⟩,
 ⟨.t 32,.ldSt false 1,[.t 31],none,some (.t 24,true)⟩,
 ⟨.t 33,.iad 4,[.t 28,.t 32],none,some (.t 24,true)⟩,
 ⟨.t 34,.fad 1,[.t 33],none,some (.t 24,true)⟩,
 ⟨.t 35,.ldRo false 1,[.t 34],none,some (.t 24,true)⟩,
 ⟨.t 36,.mv,[.v 1],none,some (.t 24,true)⟩,
 ⟨.t 37,.bin .eql,[.t 35,.t 36],none,some (.t 24,true)⟩,
 op (.t 38) .pick [.t 24,.t 37,.c (.bool false)],
 op (.v 2) .mv [.t 38]]
def a22s3 : ACode := .reg [] a22r2
def a22s4 : ACode := .seq a22s3 .ret
def a22s5 : ACode := .seq a22s1 a22s4
def a22c : ACode :=
  a22s5
def a22 : AFn := { np := 2,nv := 3,results := [.v 2],code := a22c }
def a22v : List Nat := [0,1,4]
def a22b : List Nat := []

def a23r0 : List AOper := [
 op (.v 2) .mv [.c (.bool false)]]
def a23s1 : ACode := .reg [] a23r0
def a23r2 : List AOper := [
 op (.t 5) .mv [.v 0],
 op (.t 6) .mv [.v 1],
 op (.t 7) (.call 22) [.t 5,.t 6],
 op (.t 8) .mv [.t 7],
 ⟨.t 9,.mv,[.v 0],none,some (.t 8,false)⟩,
 ⟨.t 10,.mv,[.v 1],none,some (.t 8,false)⟩,
 ⟨.t 11,.call 17,[.t 9,.t 10],none,some (.t 8,false)⟩,
 op (.t 12) .pick [.t 8,.c (.bool true),.t 11]]
def a23r3 : List AOper := [
 op (.t 13) .mv [.v 0],
 op (.t 14) .nilchk [.t 13],
 op (.t 15) (.fad 1) [.t 14],
 op (.t 16) (.ldSt false 1) [.t 15],
 op (.t 17) (.bin .add) [.t 16,.c (.int .i64 1)],
 op (.t 18) .nilchk [.t 13],
 op (.t 19) (.fad 1) [.t 18],
 op .none (.stSt 1) [.t 19,.t 17]]
def a23s4 : ACode := .reg [] a23r3
def a23r5 : List AOper := [
 op (.v 2) .mv [.c (.bool true)]]
def a23s6 : ACode := .reg [] a23r5
def a23s7 : ACode := .seq a23s6 .ret
def a23s8 : ACode := .seq a23s4 a23s7
def a23s9 : ACode := .test [] a23r2 (.t 12) a23s8 .skip
def a23r10 : List AOper := [
 op (.v 2) .mv [.c (.bool false)]]
def a23s11 : ACode := .reg [] a23r10
def a23s12 : ACode := .seq a23s11 .ret
def a23s13 : ACode := .seq a23s9 a23s12
def a23s14 : ACode := .seq a23s1 a23s13
def a23c : ACode :=
  a23s14
def a23 : AFn := { np := 2,nv := 3,results := [.v 2],code := a23c }
def a23v : List Nat := [0,1,4]
def a23b : List Nat := []

def a24r0 : List AOper := [
 op (.t 4) .mv [.v 0],
 op (.t 5) .nilchk [.t 4],
 op (.t 6) (.fad 4) [.t 5],
 op (.t 7) (.ldSt false 1) [.t 6],
 op (.t 8) (.bin .eql) [.t 7,.c (.int .i64 0)],
 op (.t 9) .mv [.t 8],
 ⟨.t 10,.mv,[.v 0],none,some (.t 9,true)⟩,
 ⟨.t 11,.mv,[.v 1],none,some (.t 9,true)⟩,
 ⟨.t 12,.call 17,[.t 10,.t 11],none,some (.t 9,true)⟩,
 ⟨.t 13,.un .not,[.t 12],none,some (.t 9,true)⟩,
 op (.t 14) .pick [.t 9,.t 13,.c (.bool false)]]
def a24r1 : List AOper := [
 op (.t 15) .mv [.v 0],
 op (.t 16) (.call 18) [.t 15,.c (.int .i64 4)]]
def a24s2 : ACode := .reg [] a24r1
def a24s3 : ACode := .seq a24s2 .ret
def a24s4 : ACode := .test [] a24r0 (.t 14) a24s3 .skip
def a24r5 : List AOper := [
 op (.t 17) .mv [.v 0],
 op (.t 18) .nilchk [.t 17],
 op (.t 19) (.fad 1) [.t 18],
 op (.t 20) (.ldSt false 1) [.t 19],
 op (.t 21) (.bin .add) [.t 20,.c (.int .i64 1)],
 op (.t 22) .nilchk [.t 17],
 op (.t 23) (.fad 1) [.t 22],
 op .none (.stSt 1) [.t 23,.t 21]]
def a24s6 : ACode := .reg [] a24r5
def a24s7 : ACode := .seq a24s4 a24s6
def a24c : ACode :=
  a24s7
def a24 : AFn := { np := 2,nv := 2,results := [],code := a24c }
def a24v : List Nat := [0,1]
def a24b : List Nat := []

def a25r0 : List AOper := [
 ⟨.bx,.alloc [.str [],.str [],.list true [],.bool false,.bool false,.int .u8 0,.int .i64 0,.str [],.list true [],.list true []],[],some 1,none⟩]
def a25s1 : ACode := .reg [1] a25r0
def a25r2 : List AOper := [
 op (.t 4) .mv [.v 0],
 op (.t 5) (.call 20) [.t 4,.c (.str [36])]]
def a25s3 : ACode := .reg [] a25r2
def a25r4 : List AOper := [
 op (.t 6) .mv [.v 0],
 op (.t 7) (.call 19) [.t 6],
 op (.t 8) (.build [.str [],.str [],.list true [],.bool false,.bool false,.int .u8 0,.int .i64 0,.str [],.list true [],.list true []] [(0,1)]) [.t 7],
 ⟨.bx,.alloc [.str [],.str [],.list true [],.bool false,.bool false,.int .u8 0,.int .i64 0,.str [],.list true [],.list true []],[],some 2,none⟩,
 ⟨.none,.stLc 2 10,[.l 2,.ts 8],some 2,none⟩]
def a25s5 : ACode := .reg [2] a25r4
def a25r6 : List AOper := [
 op (.t 9) .mv [.v 0],
 op (.t 10) (.call 20) [.t 9,.c (.str [58])]]
def a25s7 : ACode := .reg [] a25r6
def a25r8 : List AOper := [
 op (.t 11) .mv [.v 0],
 op (.t 12) (.call 56) [.t 11],
 op (.t 13) (.fad 1) [.l 2],
 ⟨.none,.stLc 2 3,[.t 13,.ts 12],some 2,none⟩]
def a25s9 : ACode := .reg [] a25r8
def a25r10 : List AOper := [
 op (.t 14) .mv [.v 0],
 op (.t 15) (.call 23) [.t 14,.c (.str [61])]]
def a25r11 : List AOper := [
 op (.t 16) (.fad 4) [.l 2],
 ⟨.none,.stLc 2 1,[.t 16,.c (.bool true)],some 2,none⟩]
def a25s12 : ACode := .reg [] a25r11
def a25r13 : List AOper := [
 op (.t 17) .mv [.v 0],
 op (.t 18) (.call 57) [.t 17,.c (.bool true)],
 op (.t 19) (.fad 5) [.l 2],
 ⟨.none,.stLc 2 5,[.t 19,.ts 18],some 2,none⟩]
def a25s14 : ACode := .reg [] a25r13
def a25s15 : ACode := .seq a25s12 a25s14
def a25s16 : ACode := .test [] a25r10 (.t 15) a25s15 .skip
def a25r17 : List AOper := [
 ⟨.t 20,.ldLc 2 true 10,[.l 2],some 2,none⟩,
 ⟨.none,.stLc 1 10,[.l 1,.ts 20],some 1,none⟩]
def a25s18 : ACode := .reg [] a25r17
def a25s19 : ACode := .seq a25s18 .ret
def a25s20 : ACode := .seq a25s16 a25s19
def a25s21 : ACode := .seq a25s9 a25s20
def a25s22 : ACode := .seq a25s7 a25s21
def a25s23 : ACode := .seq a25s5 a25s22
def a25s24 : ACode := .seq a25s3 a25s23
def a25s25 : ACode := .seq a25s1 a25s24
def a25c : ACode :=
  a25s25
def a25 : AFn := { np := 1,nv := 3,results := [.bx 1 true 10],code := a25c }
def a25v : List Nat := [0,2,3]
def a25b : List Nat := [1,2]

def a26r0 : List AOper := [
 op (.t 6) .mv [.v 0],
 op (.t 7) .mv [.v 0],
 op (.t 8) .nilchk [.t 7],
 op (.t 9) (.fad 3) [.t 8],
 op (.t 10) .ldStS [.t 9],
 op (.t 11) .mv [.v 1],
 op (.t 12) .mv [.v 2],
 op (.t 13) (.build [.int .i64 0,.str []] [(0,1),(1,1)]) [.t 11,.t 12],
 op (.t 14) (.bsliceM 2 [[.int .i64 0,.str []]] [0]) [.t 13],
 op (.t 15) (.appM 2 24) [.ts 10,.t 14],
 op (.t 16) .nilchk [.t 6],
 op (.t 17) (.fad 3) [.t 16],
 op .none (.stSt 1) [.t 17,.t 15]]
def a26s1 : ACode := .reg [] a26r0
def a26c : ACode :=
  a26s1
def a26 : AFn := { np := 3,nv := 3,results := [],code := a26c }
def a26v : List Nat := [0,1,2]
def a26b : List Nat := []

def a27r0 : List AOper := [
 op (.v 5) .mv [.v 2],
 op (.v 6) .lenL [.v 5],
 op (.v 7) .mv [.c (.int .i64 0)]]
def a27s1 : ACode := .reg [] a27r0
def a27r2 : List AOper := [
 op (.t 11) (.bin .lss) [.v 7,.v 6]]
def a27s3 : ACode := .test [] a27r2 (.t 11) .skip (.exit 0)
def a27r4 : List AOper := [
 op (.t 12) .mv [.v 7],
 op (.t 13) (.iad 1) [.v 5,.v 7],
 op (.t 14) (.ldRo false 1) [.t 13],
 op (.v 3) .mv [.t 12],
 op (.v 4) .mv [.t 14]]
def a27s5 : ACode := .reg [] a27r4
def a27r6 : List AOper := [
 op (.t 15) .mv [.v 2],
 op (.t 16) .mv [.v 3],
 op (.t 17) (.slL 1 false true) [.t 15,.t 16],
 op (.t 18) .mv [.v 4],
 op (.t 19) (.call 32) [.t 17,.t 18]]
def a27r7 : List AOper := [
 op (.t 20) .mv [.v 0],
 op (.t 21) .mv [.v 1],
 op (.t 22) .mv [.v 4],
 op (.t 23) (.call 26) [.t 20,.t 21,.t 22]]
def a27s8 : ACode := .reg [] a27r7
def a27s9 : ACode := .test [] a27r6 (.t 19) a27s8 .skip
def a27s10 : ACode := .seq a27s5 a27s9
def a27s11 : ACode := .blk 1 a27s10
def a27r12 : List AOper := [
 op (.t 24) (.bin .add) [.v 7,.c (.int .i64 1)],
 op (.v 7) .mv [.t 24]]
def a27s13 : ACode := .reg [] a27r12
def a27s14 : ACode := .seq a27s11 a27s13
def a27s15 : ACode := .seq a27s3 a27s14
def a27s16 : ACode := .loop a27s15
def a27s17 : ACode := .blk 0 a27s16
def a27s18 : ACode := .seq a27s1 a27s17
def a27c : ACode :=
  a27s18
def a27 : AFn := { np := 3,nv := 8,results := [],code := a27c }
def a27v : List Nat := [0,1,2,6,7,8,9,10]
def a27b : List Nat := []

def a28r0 : List AOper := [
 op (.v 2) .mv [.c (.list true [])]]
def a28s1 : ACode := .reg [] a28r0
def a28r2 : List AOper := [
 op (.v 3) .mv [.c (.list true [])]]
def a28s3 : ACode := .reg [] a28r2
def a28r4 : List AOper := [
 op (.v 5) .mv [.v 0],
 op (.v 6) .lenL [.v 5],
 op (.v 7) .mv [.c (.int .i64 0)]]
def a28s5 : ACode := .reg [] a28r4
def a28r6 : List AOper := [
 op (.t 11) (.bin .lss) [.v 7,.v 6]]
def a28s7 : ACode := .test [] a28r6 (.t 11) .skip (.exit 0)
def a28r8 : List AOper := [
 op (.t 12) (.iad 3) [.v 5,.v 7],
 op (.t 13) (.ldRo true 3) [.t 12],
 ⟨.bx,.alloc [.str [],.str [],.list true []],[],some 4,none⟩,
 ⟨.none,.stLc 4 3,[.l 4,.ts 13],some 4,none⟩]
def a28s9 : ACode := .reg [4] a28r8
def a28r10 : List AOper := [
 op (.t 14) .mv [.vs 3],
 op (.t 15) .mv [.v 1],
 ⟨.t 16,.ldLc 4 true 3,[.l 4],some 4,none⟩,
 op (.t 17) .callV [.t 15,.t 16],
 op (.t 18) (.bslice 1 [[.str []]] [0]) [.t 17],
 op (.t 19) (.app 1 16) [.ts 14,.t 18],
 op (.v 3) .mv [.ts 19]]
def a28s11 : ACode := .reg [] a28r10
def a28s12 : ACode := .seq a28s9 a28s11
def a28s13 : ACode := .blk 1 a28s12
def a28r14 : List AOper := [
 op (.t 20) (.bin .add) [.v 7,.c (.int .i64 1)],
 op (.v 7) .mv [.t 20]]
def a28s15 : ACode := .reg [] a28r14
def a28s16 : ACode := .seq a28s13 a28s15
def a28s17 : ACode := .seq a28s7 a28s16
def a28s18 : ACode := .loop a28s17
def a28s19 : ACode := .blk 0 a28s18
def a28s20 : ACode := .seq a28s5 a28s19
def a28r21 : List AOper := [
 op (.t 21) .mv [.v 3],
 op (.v 2) .mv [.ts 21]]
def a28s22 : ACode := .reg [] a28r21
def a28s23 : ACode := .seq a28s22 .ret
def a28s24 : ACode := .seq a28s20 a28s23
def a28s25 : ACode := .seq a28s3 a28s24
def a28s26 : ACode := .seq a28s1 a28s25
def a28c : ACode :=
  a28s26
def a28 : AFn := { np := 2,nv := 8,results := [.v 2],code := a28c }
def a28v : List Nat := [0,1,4,5,7,8,9,10]
def a28b : List Nat := [4]

def a29r0 : List AOper := [
 ⟨.bx,.boxV,[.v 0],some 1,none⟩,
 op (.v 2) .mv [.c (.str [])]]
def a29s1 : ACode := .reg [1] a29r0
def a29r2 : List AOper := [
 op (.t 3) (.fad 0) [.l 1],
 ⟨.t 4,.ldLc 1 false 1,[.t 3],some 1,none⟩,
 op (.v 2) .mv [.t 4]]
def a29s3 : ACode := .reg [] a29r2
def a29s4 : ACode := .seq a29s3 .ret
def a29s5 : ACode := .seq a29s1 a29s4
def a29c : ACode :=
  a29s5
def a29 : AFn := { np := 1,nv := 3,results := [.v 2],code := a29c }
def a29v : List Nat := [0,1,2]
def a29b : List Nat := [1]

def a30r0 : List AOper := [
 op (.v 3) .mv [.c (.list true [])]]
def a30s1 : ACode := .reg [] a30r0
def a30r2 : List AOper := [
 op (.v 7) .mv [.v 1],
 op (.v 8) .lenL [.v 7],
 op (.v 9) .mv [.c (.int .i64 0)]]
def a30s3 : ACode := .reg [] a30r2
def a30r4 : List AOper := [
 op (.t 14) (.bin .lss) [.v 9,.v 8]]
def a30s5 : ACode := .test [] a30r4 (.t 14) .skip (.exit 0)
def a30r6 : List AOper := [
 op (.t 15) (.iad 7) [.v 7,.v 9],
 op (.t 16) (.ldAn true 7) [.t 15],
 ⟨.bx,.alloc [.int .u8 0,.str [],.str [],.str [],.list true [],.list true [],.list true []],[],some 4,none⟩,
 ⟨.none,.stLc 4 7,[.l 4,.ts 16],some 4,none⟩]
def a30s7 : ACode := .reg [4] a30r6
def a30r8 : List AOper := [
 op (.t 18) .mv [.v 0],
 op (.t 19) (.fad 2) [.l 4],
 ⟨.t 20,.ldLc 4 false 1,[.t 19],some 4,none⟩,
 op (.t 21) (.call 58) [.t 18,.t 20],
 op (.t 17) .mv [.t 21],
 op (.t 22) (.ext 0) [.t 17],
 op (.t 23) (.ext 1) [.t 17],
 ⟨.bx,.alloc [.str [],.str [],.list true []],[],some 5,none⟩,
 ⟨.none,.stLc 5 3,[.l 5,.ts 22],some 5,none⟩,
 op (.v 6) .mv [.t 23]]
def a30s9 : ACode := .reg [5] a30r8
def a30r10 : List AOper := [
 op (.t 24) (.fad 0) [.l 4],
 ⟨.t 25,.ldLc 4 false 1,[.t 24],some 4,none⟩,
 op (.t 26) (.bin .eql) [.t 25,.c (.int .u8 2)],
 op (.t 27) .mv [.t 26],
 ⟨.t 28,.mv,[.v 6],none,some (.t 27,true)⟩,
 op (.t 29) .pick [.t 27,.t 28,.c (.bool false)],
 op (.t 30) .mv [.t 29],
 ⟨.t 31,.mv,[.v 2],none,some (.t 30,true)⟩,
 ⟨.t 32,.fad 2,[.l 4],none,some (.t 30,true)⟩,
 ⟨.t 33,.ldLc 4 false 1,[.t 32],some 4,some (.t 30,true)⟩,
 ⟨.t 34,.call 32,[.t 31,.t 33],none,some (.t 30,true)⟩,
 ⟨.t 35,.un .not,[.t 34],none,some (.t 30,true)⟩,
 op (.t 36) .pick [.t 30,.t 35,.c (.bool false)]]
def a30r11 : List AOper := [
 op (.t 37) .mv [.v 0],
 op (.t 38) (.fad 2) [.l 5],
 ⟨.t 39,.ldLc 5 false 1,[.t 38],some 5,none⟩,
 op (.t 40) .mv [.vs 2],
 op (.t 41) (.fad 2) [.l 4],
 ⟨.t 42,.ldLc 4 false 1,[.t 41],some 4,none⟩,
 op (.t 43) (.bslice 1 [[.str []]] [0]) [.t 42],
 op (.t 44) (.app 1 16) [.ts 40,.t 43],
 op (.t 45) (.call 30) [.t 37,.t 39,.t 44],
 op (.v 2) .mv [.ts 45]]
def a30s12 : ACode := .reg [] a30r11
def a30s13 : ACode := .test [] a30r10 (.t 36) a30s12 .skip
def a30s14 : ACode := .seq a30s9 a30s13
def a30r15 : List AOper := [
 op (.t 46) (.fad 0) [.l 4],
 ⟨.t 47,.ldLc 4 false 1,[.t 46],some 4,none⟩,
 op (.t 48) (.bin .neq) [.t 47,.c (.int .u8 2)]]
def a30r16 : List AOper := [
 op (.t 49) .mv [.v 0],
 op (.t 50) (.fad 6) [.l 4],
 ⟨.t 51,.ldLc 4 false 1,[.t 50],some 4,none⟩,
 op (.t 52) .mv [.v 2],
 op (.t 53) (.call 30) [.t 49,.t 51,.t 52],
 op (.v 2) .mv [.ts 53]]
def a30s17 : ACode := .reg [] a30r16
def a30s18 : ACode := .test [] a30r15 (.t 48) a30s17 .skip
def a30s19 : ACode := .seq a30s14 a30s18
def a30s20 : ACode := .seq a30s7 a30s19
def a30s21 : ACode := .blk 1 a30s20
def a30r22 : List AOper := [
 op (.t 54) (.bin .add) [.v 9,.c (.int .i64 1)],
 op (.v 9) .mv [.t 54]]
def a30s23 : ACode := .reg [] a30r22
def a30s24 : ACode := .seq a30s21 a30s23
def a30s25 : ACode := .seq a30s5 a30s24
def a30s26 : ACode := .loop a30s25
def a30s27 : ACode := .blk 0 a30s26
def a30s28 : ACode := .seq a30s3 a30s27
def a30r29 : List AOper := [
 op (.t 55) .mv [.v 2],
 op (.v 3) .mv [.ts 55]]
def a30s30 : ACode := .reg [] a30r29
def a30s31 : ACode := .seq a30s30 .ret
def a30s32 : ACode := .seq a30s28 a30s31
def a30s33 : ACode := .seq a30s1 a30s32
def a30c : ACode :=
  a30s33
def a30 : AFn := { np := 3,nv := 10,results := [.v 3],code := a30c }
def a30v : List Nat := [0,1,2,6,8,9,10,11,12,13]
def a30b : List Nat := [4,5]

def a31r0 : List AOper := [
 ⟨.bx,.boxV,[.v 1],some 2,none⟩]
def a31s1 : ACode := .reg [2] a31r0
def a31r2 : List AOper := [
 op (.t 17) .mv [.v 0],
 op (.t 18) .nilchk [.t 17],
 op (.t 19) (.fad 0) [.t 18],
 op (.t 20) (.ldStR false 1) [.t 19,.v 0],
 ⟨.t 21,.ldLc 2 true 4,[.l 2],some 2,none⟩,
 op (.t 22) (.callA 59 1) [.t 21,.v 0],
 op (.t 23) (.call 45) [.t 20,.t 22],
 op (.t 16) .mv [.t 23],
 op (.t 24) (.ext 0) [.t 16],
 op (.t 25) (.ext 1) [.t 16],
 ⟨.bx,.alloc [.int .u8 0,.str [],.list true [],.list true []],[],some 3,none⟩,
 ⟨.none,.stLc 3 4,[.l 3,.ts 24],some 3,none⟩,
 op (.v 4) .mv [.t 25]]
def a31s3 : ACode := .reg [3] a31r2
def a31r4 : List AOper := [
 op (.t 26) .mv [.v 4],
 op (.t 27) (.un .not) [.t 26]]
def a31r5 : List AOper := [
 op (.t 28) .mv [.v 0],
 ⟨.t 29,.ldLc 2 true 4,[.l 2],some 2,none⟩,
 op (.t 30) (.call 59) [.t 29],
 op (.t 31) (.call 26) [.t 28,.c (.int .i64 22),.t 30]]
def a31s6 : ACode := .reg [] a31r5
def a31s7 : ACode := .test [] a31r4 (.t 27) a31s6 .skip
def a31s8 : ACode := .seq a31s3 a31s7
def a31r9 : List AOper := [
 op (.t 32) .mv [.v 0],
 op (.t 33) (.fad 2) [.l 2],
 ⟨.t 34,.ldLc 2 false 1,[.t 33],some 2,none⟩,
 op (.t 35) (.call 60) [.t 34,.c (.func 61 [] [])],
 op (.t 36) (.call 27) [.t 32,.c (.int .i64 14),.t 35]]
def a31s10 : ACode := .reg [] a31r9
def a31r11 : List AOper := [
 op (.t 37) (.fad 2) [.l 2],
 ⟨.v 11,.ldLc 2 false 1,[.t 37],some 2,none⟩,
 op (.v 12) .lenL [.v 11],
 op (.v 13) .mv [.c (.int .i64 0)]]
def a31s12 : ACode := .reg [] a31r11
def a31r13 : List AOper := [
 op (.t 41) (.bin .lss) [.v 13,.v 12]]
def a31s14 : ACode := .test [] a31r13 (.t 41) .skip (.exit 0)
def a31r15 : List AOper := [
 op (.t 42) (.iad 10) [.v 11,.v 13],
 op (.t 43) (.ldRo true 10) [.t 42],
 ⟨.bx,.alloc [.str [],.str [],.list true [],.bool false,.bool false,.int .u8 0,.int .i64 0,.str [],.list true [],.list true []],[],some 5,none⟩,
 ⟨.none,.stLc 5 10,[.l 5,.ts 43],some 5,none⟩]
def a31s16 : ACode := .reg [5] a31r15
def a31r17 : List AOper := [
 op (.t 44) (.fad 1) [.l 5],
 ⟨.t 45,.ldLc 5 true 3,[.t 44],some 5,none⟩,
 op (.t 46) (.call 62) [.t 45],
 op (.v 6) .mv [.t 46]]
def a31s18 : ACode := .reg [] a31r17
def a31r19 : List AOper := [
 op (.t 47) .mv [.v 0],
 op (.t 48) .nilchk [.t 47],
 op (.t 49) (.fad 0) [.t 48],
 op (.t 50) (.ldSt false 1) [.t 49],
 op (.t 51) .mv [.v 6],
 op (.t 52) (.call 63) [.t 50,.t 51],
 op (.t 53) (.un .not) [.t 52],
 op (.t 54) .mv [.t 53],
 ⟨.t 55,.mv,[.v 0],none,some (.t 54,true)⟩,
 ⟨.t 56,.nilchk,[.t 55],none,some (.t 54,true)⟩,
 ⟨.t 57,.fad 0,[.t 56],none,some (.t 54,true)⟩,
 ⟨.t 58,.ldSt false 1,[.t 57],none,some (.t 54,true)⟩,
 ⟨.t 59,.mv,[.v 6],none,some (.t 54,true)⟩,
 ⟨.t 60,.call 64,[.t 58,.t 59],none,some (.t 54,true)⟩,
 ⟨.t 61,.un .not,[.t 60],none,some (.t 54,true)⟩,
 op (.t 62) .pick [.t 54,.t 61,.c (.bool false)]]
def a31r20 : List AOper := [
 op (.t 63) .mv [.v 0],
 op (.t 64) (.fad 0) [.l 5],
 ⟨.t 65,.ldLc 5 false 1,[.t 64],some 5,none⟩,
 op (.t 66) (.call 26) [.t 63,.c (.int .i64 15),.t 65]]
def a31s21 : ACode := .reg [] a31r20
def a31s22 : ACode := .test [] a31r19 (.t 62) a31s21 .skip
def a31r23 : List AOper := [
 op (.t 67) (.fad 4) [.l 5],
 ⟨.t 68,.ldLc 5 false 1,[.t 67],some 5,none⟩,
 op (.t 69) .mv [.t 68],
 ⟨.t 70,.mv,[.v 0],none,some (.t 69,true)⟩,
 ⟨.t 71,.nilchk,[.t 70],none,some (.t 69,true)⟩,
 ⟨.t 72,.fad 0,[.t 71],none,some (.t 69,true)⟩,
 ⟨.t 73,.ldSt false 1,[.t 72],none,some (.t 69,true)⟩,
 ⟨.t 74,.fad 1,[.l 5],none,some (.t 69,true)⟩,
 ⟨.t 75,.ldLc 5 true 3,[.t 74],some 5,some (.t 69,true)⟩,
 ⟨.t 76,.fad 5,[.l 5],none,some (.t 69,true)⟩,
 ⟨.t 77,.ldLc 5 true 5,[.t 76],some 5,some (.t 69,true)⟩,
 ⟨.t 78,.call 65,[.t 73,.t 75,.t 77],none,some (.t 69,true)⟩,
 ⟨.t 79,.un .not,[.t 78],none,some (.t 69,true)⟩,
 op (.t 80) .pick [.t 69,.t 79,.c (.bool false)]]
def a31r24 : List AOper := [
 op (.t 81) .mv [.v 0],
 op (.t 82) (.fad 0) [.l 5],
 ⟨.t 83,.ldLc 5 false 1,[.t 82],some 5,none⟩,
 op (.t 84) (.call 26) [.t 81,.c (.int .i64 13),.t 83]]
def a31s25 : ACode := .reg [] a31r24
def a31s26 : ACode := .test [] a31r23 (.t 80) a31s25 .skip
def a31s27 : ACode := .seq a31s22 a31s26
def a31s28 : ACode := .seq a31s18 a31s27
def a31s29 : ACode := .seq a31s16 a31s28
def a31s30 : ACode := .blk 1 a31s29
def a31r31 : List AOper := [
 op (.t 85) (.bin .add) [.v 13,.c (.int .i64 1)],
 op (.v 13) .mv [.t 85]]
def a31s32 : ACode := .reg [] a31r31
def a31s33 : ACode := .seq a31s30 a31s32
def a31s34 : ACode := .seq a31s14 a31s33
def a31s35 : ACode := .loop a31s34
def a31s36 : ACode := .blk 0 a31s35
def a31s37 : ACode := .seq a31s12 a31s36
def a31r38 : List AOper := [
 op (.t 86) .mv [.v 0],
 ⟨.t 87,.ldLc 2 true 4,[.l 2],some 2,none⟩,
 op (.t 88) (.call 59) [.t 87],
 op (.t 89) (.fad 3) [.l 2],
 ⟨.t 90,.ldLc 2 false 1,[.t 89],some 2,none⟩,
 op (.t 91) (.call 34) [.t 86,.t 88,.t 90]]
def a31s39 : ACode := .reg [] a31r38
def a31r40 : List AOper := [
 op (.t 92) .mv [.v 0],
 ⟨.t 93,.ldLc 2 true 4,[.l 2],some 2,none⟩,
 op (.t 94) (.build [.nilp,.bool false,.str [],.list true [],.list true [],.list true []] [(0,1),(1,4)]) [.t 92,.t 93],
 op (.t 95) .boxO [.ts 94],
 op (.v 7) .mv [.t 95]]
def a31s41 : ACode := .reg [] a31r40
def a31r42 : List AOper := [
 op (.t 96) .mv [.v 7],
 ⟨.t 97,.ldLc 2 true 4,[.l 2],some 2,none⟩,
 op (.t 98) (.call 59) [.t 97],
 op (.t 99) (.fad 3) [.l 2],
 ⟨.t 100,.ldLc 2 false 1,[.t 99],some 2,none⟩,
 op (.t 101) (.call 66) [.t 96,.t 98,.t 100]]
def a31s43 : ACode := .reg [] a31r42
def a31r44 : List AOper := [
 op (.t 102) .mv [.v 0],
 op (.t 103) (.fad 3) [.l 2],
 ⟨.t 104,.ldLc 2 false 1,[.t 103],some 2,none⟩,
 op (.v 14) (.call 30) [.t 102,.t 104,.c (.list true [])],
 op (.v 15) .lenL [.v 14],
 op (.v 16) .mv [.c (.int .i64 0)]]
def a31s45 : ACode := .reg [] a31r44
def a31r46 : List AOper := [
 op (.t 108) (.bin .lss) [.v 16,.v 15]]
def a31s47 : ACode := .test [] a31r46 (.t 108) .skip (.exit 2)
def a31r48 : List AOper := [
 op (.t 109) (.iad 1) [.v 14,.v 16],
 op (.t 110) (.ldRo false 1) [.t 109],
 op (.v 8) .mv [.t 110]]
def a31s49 : ACode := .reg [] a31r48
def a31r50 : List AOper := [
 op (.t 112) .mv [.v 0],
 op (.t 113) .mv [.v 8],
 op (.t 114) (.call 58) [.t 112,.t 113],
 op (.t 111) .mv [.t 114],
 op (.t 115) (.ext 0) [.t 111],
 op (.t 116) (.ext 1) [.t 111],
 ⟨.bx,.alloc [.str [],.str [],.list true []],[],some 9,none⟩,
 ⟨.none,.stLc 9 3,[.l 9,.ts 115],some 9,none⟩,
 op (.t 13) .mv [.t 116]]
def a31s51 : ACode := .reg [9] a31r50
def a31r52 : List AOper := [
 op (.t 117) .mv [.v 7],
 op (.t 118) (.fad 1) [.l 9],
 ⟨.t 119,.ldLc 9 false 1,[.t 118],some 9,none⟩,
 op (.t 120) (.fad 2) [.l 9],
 ⟨.t 121,.ldLc 9 false 1,[.t 120],some 9,none⟩,
 op (.t 122) (.call 66) [.t 117,.t 119,.t 121]]
def a31s53 : ACode := .reg [] a31r52
def a31s54 : ACode := .seq a31s51 a31s53
def a31s55 : ACode := .seq a31s49 a31s54
def a31s56 : ACode := .blk 3 a31s55
def a31r57 : List AOper := [
 op (.t 123) (.bin .add) [.v 16,.c (.int .i64 1)],
 op (.v 16) .mv [.t 123]]
def a31s58 : ACode := .reg [] a31r57
def a31s59 : ACode := .seq a31s56 a31s58
def a31s60 : ACode := .seq a31s47 a31s59
def a31s61 : ACode := .loop a31s60
def a31s62 : ACode := .blk 2 a31s61
def a31s63 : ACode := .seq a31s45 a31s62
def a31r64 : List AOper := [
 op (.t 124) (.fad 2) [.l 2],
 ⟨.v 17,.ldLc 2 false 1,[.t 124],some 2,none⟩,
 op (.v 18) .lenL [.v 17],
 op (.v 19) .mv [.c (.int .i64 0)]]
def a31s65 : ACode := .reg [] a31r64
def a31r66 : List AOper := [
 op (.t 128) (.bin .lss) [.v 19,.v 18]]
def a31s67 : ACode := .test [] a31r66 (.t 128) .skip (.exit 4)
def a31r68 : List AOper := [
 op (.t 129) (.iad 10) [.v 17,.v 19],
 op (.t 130) (.ldRo true 10) [.t 129],
 ⟨.bx,.alloc [.str [],.str [],.list true [],.bool false,.bool false,.int .u8 0,.int .i64 0,.str [],.list true [],.list true []],[],some 10,none⟩,
 ⟨.none,.stLc 10 10,[.l 10,.ts 130],some 10,none⟩]
def a31s69 : ACode := .reg [10] a31r68
def a31r70 : List AOper := [
 op (.t 131) .mv [.v 7],
 op (.t 132) .nilchk [.t 131],
 op (.t 133) (.fad 5) [.t 132],
 op (.t 134) (.ldSt false 1) [.t 133],
 op (.t 135) (.fad 0) [.l 10],
 ⟨.t 136,.ldLc 10 false 1,[.t 135],some 10,none⟩,
 op (.t 137) (.call 32) [.t 134,.t 136],
 op (.t 138) (.un .not) [.t 137]]
def a31r71 : List AOper := [
 op (.t 139) .mv [.v 0],
 op (.t 140) (.fad 0) [.l 10],
 ⟨.t 141,.ldLc 10 false 1,[.t 140],some 10,none⟩,
 op (.t 142) (.call 26) [.t 139,.c (.int .i64 17),.t 141]]
def a31s72 : ACode := .reg [] a31r71
def a31s73 : ACode := .test [] a31r70 (.t 138) a31s72 .skip
def a31s74 : ACode := .seq a31s69 a31s73
def a31s75 : ACode := .blk 5 a31s74
def a31r76 : List AOper := [
 op (.t 143) (.bin .add) [.v 19,.c (.int .i64 1)],
 op (.v 19) .mv [.t 143]]
def a31s77 : ACode := .reg [] a31r76
def a31s78 : ACode := .seq a31s75 a31s77
def a31s79 : ACode := .seq a31s67 a31s78
def a31s80 : ACode := .loop a31s79
def a31s81 : ACode := .blk 4 a31s80
def a31s82 : ACode := .seq a31s65 a31s81
def a31s83 : ACode := .seq a31s63 a31s82
def a31s84 : ACode := .seq a31s43 a31s83
def a31s85 : ACode := .seq a31s41 a31s84
def a31s86 : ACode := .seq a31s39 a31s85
def a31s87 : ACode := .seq a31s37 a31s86
def a31s88 : ACode := .seq a31s10 a31s87
def a31s89 : ACode := .seq a31s8 a31s88
def a31s90 : ACode := .seq a31s1 a31s89
def a31c : ACode :=
  a31s90
def a31 : AFn := { np := 2,nv := 20,results := [],code := a31c }
def a31v : List Nat := [0,1,3,4,5,7,8,9,11,12,15,38,39,40,105,106,107,125,126,127]
def a31b : List Nat := [2,3,5,9,10]

def a32r0 : List AOper := [
 op (.v 2) .mv [.c (.bool false)]]
def a32s1 : ACode := .reg [] a32r0
def a32r2 : List AOper := [
 op (.t 5) .mv [.v 0],
 op (.t 6) .mv [.v 1],
 op (.t 7) (.call 67) [.t 5,.t 6],
 op (.t 8) (.bin .geq) [.t 7,.c (.int .i64 0)],
 op (.v 2) .mv [.t 8]]
def a32s3 : ACode := .reg [] a32r2
def a32s4 : ACode := .seq a32s3 .ret
def a32s5 : ACode := .seq a32s1 a32s4
def a32c : ACode :=
  a32s5
def a32 : AFn := { np := 2,nv := 3,results := [.v 2],code := a32c }
def a32v : List Nat := [0,1,4]
def a32b : List Nat := []

def a33r0 : List AOper := [
 op (.v 2) .mv [.c (.bool false)]]
def a33s1 : ACode := .reg [] a33r0
def a33r2 : List AOper := [
 op (.t 8) .mv [.v 0],
 op (.t 9) .nilchk [.t 8],
 op (.t 10) (.fad 0) [.t 9],
 op (.t 11) (.ldSt false 1) [.t 10],
 op (.t 12) .mv [.v 1],
 op (.t 13) (.call 45) [.t 11,.t 12],
 op (.t 7) .mv [.t 13],
 op (.t 14) (.ext 0) [.t 7],
 op (.t 15) (.ext 1) [.t 7],
 ⟨.bx,.alloc [.int .u8 0,.str [],.list true [],.list true []],[],some 3,none⟩,
 ⟨.none,.stLc 3 4,[.l 3,.ts 14],some 3,none⟩,
 op (.v 4) .mv [.t 15]]
def a33s3 : ACode := .reg [3] a33r2
def a33r4 : List AOper := [
 op (.t 16) .mv [.v 4],
 op (.t 17) .mv [.t 16],
 ⟨.t 18,.fad 0,[.l 3],none,some (.t 17,true)⟩,
 ⟨.t 19,.ldLc 3 false 1,[.t 18],some 3,some (.t 17,true)⟩,
 ⟨.t 20,.bin .leq,[.t 19,.c (.int .u8 3)],none,some (.t 17,true)⟩,
 op (.t 21) .pick [.t 17,.t 20,.c (.bool false)],
 op (.v 2) .mv [.t 21]]
def a33s5 : ACode := .reg [] a33r4
def a33s6 : ACode := .seq a33s5 .ret
def a33s7 : ACode := .seq a33s3 a33s6
def a33s8 : ACode := .seq a33s1 a33s7
def a33c : ACode :=
  a33s8
def a33 : AFn := { np := 2,nv := 5,results := [.v 2],code := a33c }
def a33v : List Nat := [0,1,4,5,6]
def a33b : List Nat := [3]

def a34r0 : List AOper := [
 op (.t 11) .mv [.v 0],
 op (.t 12) .mv [.v 2],
 op (.t 13) (.call 68) [.t 11,.t 12]]
def a34s1 : ACode := .reg [] a34r0
def a34r2 : List AOper := [
 op (.v 7) .mv [.v 2],
 op (.v 8) .lenL [.v 7],
 op (.v 9) .mv [.c (.int .i64 0)]]
def a34s3 : ACode := .reg [] a34r2
def a34r4 : List AOper := [
 op (.t 17) (.bin .lss) [.v 9,.v 8]]
def a34s5 : ACode := .test [] a34r4 (.t 17) .skip (.exit 0)
def a34r6 : List AOper := [
 op (.t 18) (.iad 7) [.v 7,.v 9],
 op (.t 19) (.ldAn true 7) [.t 18],
 ⟨.bx,.alloc [.int .u8 0,.str [],.str [],.str [],.list true [],.list true [],.list true []],[],some 3,none⟩,
 ⟨.none,.stLc 3 7,[.l 3,.ts 19],some 3,none⟩]
def a34s7 : ACode := .reg [3] a34r6
def a34r8 : List AOper := [
 op (.t 20) .mv [.v 0],
 op (.t 21) (.fad 5) [.l 3],
 ⟨.t 22,.ldLc 3 false 1,[.t 21],some 3,none⟩,
 op (.t 23) (.call 69) [.t 20,.t 22]]
def a34s9 : ACode := .reg [] a34r8
def a34r10 : List AOper := [
 op (.t 24) (.fad 0) [.l 3],
 ⟨.v 10,.ldLc 3 false 1,[.t 24],some 3,none⟩]
def a34s11 : ACode := .reg [] a34r10
def a34r12 : List AOper := [
 op (.t 53) (.bin .eql) [.v 10,.c (.int .u8 1)],
 op (.t 52) .mv [.t 53]]
def a34r13 : List AOper := [
 op (.t 54) .mv [.v 0],
 op (.t 55) .mv [.v 1],
 ⟨.t 56,.ldLc 3 true 7,[.l 3],some 3,none⟩,
 op (.t 57) (.call 70) [.t 54,.t 55,.t 56]]
def a34s14 : ACode := .reg [] a34r13
def a34r15 : List AOper := [
 op (.t 59) (.bin .eql) [.v 10,.c (.int .u8 2)],
 op (.t 58) .mv [.t 59]]
def a34r16 : List AOper := [
 op (.t 61) .mv [.v 0],
 op (.t 62) (.fad 2) [.l 3],
 ⟨.t 63,.ldLc 3 false 1,[.t 62],some 3,none⟩,
 op (.t 64) (.call 58) [.t 61,.t 63],
 op (.t 60) .mv [.t 64],
 op (.t 65) (.ext 0) [.t 60],
 op (.t 66) (.ext 1) [.t 60],
 ⟨.bx,.alloc [.str [],.str [],.list true []],[],some 4,none⟩,
 ⟨.none,.stLc 4 3,[.l 4,.ts 65],some 4,none⟩,
 op (.v 5) .mv [.t 66]]
def a34s17 : ACode := .reg [4] a34r16
def a34r18 : List AOper := [
 op (.t 67) .mv [.v 5],
 op (.t 68) (.un .not) [.t 67]]
def a34r19 : List AOper := [
 op (.t 69) .mv [.v 0],
 op (.t 70) (.fad 2) [.l 3],
 ⟨.t 71,.ldLc 3 false 1,[.t 70],some 3,none⟩,
 op (.t 72) (.call 26) [.t 69,.c (.int .i64 5),.t 71]]
def a34s20 : ACode := .reg [] a34r19
def a34r21 : List AOper := [
 op (.t 73) .mv [.v 0],
 op (.t 74) .mv [.v 1],
 op (.t 75) (.fad 1) [.l 4],
 ⟨.t 76,.ldLc 4 false 1,[.t 75],some 4,none⟩,
 op (.t 77) (.call 71) [.t 73,.t 74,.t 76],
 op (.t 78) (.un .not) [.t 77]]
def a34r22 : List AOper := [
 op (.t 79) .mv [.v 0],
 op (.t 80) (.fad 1) [.l 4],
 ⟨.t 81,.ldLc 4 false 1,[.t 80],some 4,none⟩,
 op (.t 82) (.call 26) [.t 79,.c (.int .i64 20),.t 81]]
def a34s23 : ACode := .reg [] a34r22
def a34s24 : ACode := .test [] a34r21 (.t 78) a34s23 .skip
def a34s25 : ACode := .test [] a34r18 (.t 68) a34s20 a34s24
def a34s26 : ACode := .seq a34s17 a34s25
def a34r27 : List AOper := [
 op (.t 26) .mv [.v 1],
 op (.v 6) .mv [.t 26]]
def a34s28 : ACode := .reg [] a34r27
def a34r29 : List AOper := [
 op (.t 27) (.fad 3) [.l 3],
 ⟨.t 28,.ldLc 3 false 1,[.t 27],some 3,none⟩,
 op (.t 29) (.bin .neq) [.t 28,.c (.str [])]]
def a34r30 : List AOper := [
 op (.t 30) (.fad 3) [.l 3],
 ⟨.t 31,.ldLc 3 false 1,[.t 30],some 3,none⟩,
 op (.v 6) .mv [.t 31]]
def a34s31 : ACode := .reg [] a34r30
def a34r32 : List AOper := [
 op (.t 32) .mv [.v 0],
 op (.t 33) .mv [.v 6],
 op (.t 34) (.call 33) [.t 32,.t 33],
 op (.t 35) (.un .not) [.t 34]]
def a34r33 : List AOper := [
 op (.t 36) .mv [.v 0],
 op (.t 37) .mv [.v 6],
 op (.t 38) (.call 26) [.t 36,.c (.int .i64 4),.t 37]]
def a34s34 : ACode := .reg [] a34r33
def a34r35 : List AOper := [
 op (.t 39) .mv [.v 0],
 op (.t 40) .mv [.v 1],
 op (.t 41) .mv [.v 6],
 op (.t 42) (.call 71) [.t 39,.t 40,.t 41],
 op (.t 43) (.un .not) [.t 42]]
def a34r36 : List AOper := [
 op (.t 44) .mv [.v 0],
 op (.t 45) .mv [.v 6],
 op (.t 46) (.call 26) [.t 44,.c (.int .i64 20),.t 45]]
def a34s37 : ACode := .reg [] a34r36
def a34s38 : ACode := .test [] a34r35 (.t 43) a34s37 .skip
def a34s39 : ACode := .test [] a34r32 (.t 35) a34s34 a34s38
def a34s40 : ACode := .seq a34s31 a34s39
def a34s41 : ACode := .test [] a34r29 (.t 29) a34s40 .skip
def a34r42 : List AOper := [
 op (.t 47) .mv [.v 0],
 op (.t 48) .mv [.v 6],
 op (.t 49) (.fad 6) [.l 3],
 ⟨.t 50,.ldLc 3 false 1,[.t 49],some 3,none⟩,
 op (.t 51) (.call 34) [.t 47,.t 48,.t 50]]
def a34s43 : ACode := .reg [] a34r42
def a34s44 : ACode := .seq a34s41 a34s43
def a34s45 : ACode := .seq a34s28 a34s44
def a34s46 : ACode := .test [] a34r15 (.t 58) a34s26 a34s45
def a34s47 : ACode := .test [] a34r12 (.t 52) a34s14 a34s46
def a34s48 : ACode := .blk 2 a34s47
def a34s49 : ACode := .seq a34s11 a34s48
def a34s50 : ACode := .seq a34s9 a34s49
def a34s51 : ACode := .seq a34s7 a34s50
def a34s52 : ACode := .blk 1 a34s51
def a34r53 : List AOper := [
 op (.t 83) (.bin .add) [.v 9,.c (.int .i64 1)],
 op (.v 9) .mv [.t 83]]
def a34s54 : ACode := .reg [] a34r53
def a34s55 : ACode := .seq a34s52 a34s54
def a34s56 : ACode := .seq a34s5 a34s55
def a34s57 : ACode := .loop a34s56
def a34s58 : ACode := .blk 0 a34s57
def a34s59 : ACode := .seq a34s3 a34s58
def a34s60 : ACode := .seq a34s1 a34s59
def a34c : ACode :=
  a34s60
def a34 : AFn := { np := 3,nv := 11,results := [],code := a34c }
def a34v : List Nat := [0,1,2,7,8,9,10,14,15,16,25]
def a34b : List Nat := [3,4]

def a35r0 : List AOper := [
 op (.t 5) .mv [.v 0],
 op (.t 6) .lenL [.t 5],
 op (.v 2) .mv [.t 6]]
def a35s1 : ACode := .reg [] a35r0
def a35r2 : List AOper := [
 op (.t 7) .mv [.v 0],
 op (.t 8) .mv [.v 2],
 op (.t 9) .mv [.v 2],
 op (.t 10) (.conv .u64) [.t 9],
 op (.t 11) (.call 73) [.t 10],
 op (.t 12) .mv [.v 1],
 op (.t 13) (.call 72) [.t 7,.c (.int .i64 0),.t 8,.t 11,.t 12]]
def a35s3 : ACode := .reg [] a35r2
def a35s4 : ACode := .seq a35s1 a35s3
def a35c : ACode :=
  a35s4
def a35 : AFn := { np := 2,nv := 3,results := [],code := a35c }
def a35v : List Nat := [0,1,4]
def a35b : List Nat := []

def a36r0 : List AOper := [
 ⟨.bx,.boxV,[.v 0],some 2,none⟩,
 ⟨.bx,.boxV,[.v 1],some 3,none⟩,
 op (.v 4) .mv [.c (.int .i64 0)]]
def a36s1 : ACode := .reg [2,3] a36r0
def a36r2 : List AOper := [
 op (.t 5) (.fad 0) [.l 2],
 ⟨.t 6,.ldLc 2 false 1,[.t 5],some 2,none⟩,
 op (.t 7) (.fad 0) [.l 3],
 ⟨.t 8,.ldLc 3 false 1,[.t 7],some 3,none⟩,
 op (.t 9) (.call 38) [.t 6,.t 8],
 op (.t 10) (.fad 1) [.l 2],
 ⟨.t 11,.ldLc 2 false 1,[.t 10],some 2,none⟩,
 op (.t 12) (.fad 1) [.l 3],
 ⟨.t 13,.ldLc 3 false 1,[.t 12],some 3,none⟩,
 op (.t 14) (.call 39) [.t 11,.t 13],
 op (.t 15) (.bslice 1 [[.int .i64 0],[.int .i64 0]] [0,1]) [.t 9,.t 14],
 op (.t 16) (.call 37) [.t 15],
 op (.v 4) .mv [.t 16]]
def a36s3 : ACode := .reg [] a36r2
def a36s4 : ACode := .seq a36s3 .ret
def a36s5 : ACode := .seq a36s1 a36s4
def a36c : ACode :=
  a36s5
def a36 : AFn := { np := 2,nv := 5,results := [.v 4],code := a36c }
def a36v : List Nat := [0,1,2,3,4]
def a36b : List Nat := [2,3]

def a37r0 : List AOper := [
 op (.v 1) .mv [.c (.int .i64 0)]]
def a37s1 : ACode := .reg [] a37r0
def a37r2 : List AOper := [
 op (.v 2) .mv [.c (.int .i64 0)]]
def a37s3 : ACode := .reg [] a37r2
def a37r4 : List AOper := [
 op (.v 4) .mv [.v 0],
 op (.v 5) .lenL [.v 4],
 op (.v 6) .mv [.c (.int .i64 0)]]
def a37s5 : ACode := .reg [] a37r4
def a37r6 : List AOper := [
 op (.t 9) (.bin .lss) [.v 6,.v 5]]
def a37s7 : ACode := .test [] a37r6 (.t 9) .skip (.exit 0)
def a37r8 : List AOper := [
 op (.t 10) (.iad 1) [.v 4,.v 6],
 op (.t 11) (.ldRo false 1) [.t 10],
 op (.v 3) .mv [.t 11]]
def a37s9 : ACode := .reg [] a37r8
def a37r10 : List AOper := [
 op (.t 12) .mv [.v 3],
 op (.t 13) .mv [.v 2],
 op (.t 14) (.bin .neq) [.t 12,.t 13]]
def a37r11 : List AOper := [
 op (.t 15) .mv [.v 3],
 op (.v 1) .mv [.t 15]]
def a37s12 : ACode := .reg [] a37r11
def a37s13 : ACode := .seq a37s12 .ret
def a37s14 : ACode := .test [] a37r10 (.t 14) a37s13 .skip
def a37s15 : ACode := .seq a37s9 a37s14
def a37s16 : ACode := .blk 1 a37s15
def a37r17 : List AOper := [
 op (.t 16) (.bin .add) [.v 6,.c (.int .i64 1)],
 op (.v 6) .mv [.t 16]]
def a37s18 : ACode := .reg [] a37r17
def a37s19 : ACode := .seq a37s16 a37s18
def a37s20 : ACode := .seq a37s7 a37s19
def a37s21 : ACode := .loop a37s20
def a37s22 : ACode := .blk 0 a37s21
def a37s23 : ACode := .seq a37s5 a37s22
def a37r24 : List AOper := [
 op (.t 17) .mv [.v 2],
 op (.v 1) .mv [.t 17]]
def a37s25 : ACode := .reg [] a37r24
def a37s26 : ACode := .seq a37s25 .ret
def a37s27 : ACode := .seq a37s23 a37s26
def a37s28 : ACode := .seq a37s3 a37s27
def a37s29 : ACode := .seq a37s1 a37s28
def a37c : ACode :=
  a37s29
def a37 : AFn := { np := 1,nv := 7,results := [.v 1],code := a37c }
def a37v : List Nat := [0,2,3,5,6,7,8]
def a37b : List Nat := []

def a38r0 : List AOper := [
 op (.v 2) .mv [.c (.int .i64 0)]]
def a38s1 : ACode := .reg [] a38r0
def a38r2 : List AOper := [
 op (.t 7) .mv [.v 0],
 op (.t 8) (.call 74) [.t 7],
 op (.v 3) .mv [.t 8]]
def a38s3 : ACode := .reg [] a38r2
def a38r4 : List AOper := [
 op (.t 9) .mv [.v 1],
 op (.t 10) (.call 74) [.t 9],
 op (.v 4) .mv [.t 10]]
def a38s5 : ACode := .reg [] a38r4
def a38r6 : List AOper := [
 op (.t 11) .mv [.v 3]]
def a38r7 : List AOper := [
 op (.t 12) .mv [.v 4]]
def a38r8 : List AOper := [
 op (.v 2) .mv [.c (.int .i64 0)]]
def a38s9 : ACode := .reg [] a38r8
def a38s10 : ACode := .seq a38s9 .ret
def a38s11 : ACode := .test [] a38r7 (.t 12) a38s10 .skip
def a38r12 : List AOper := [
 op (.v 2) .mv [.c (.int .i64 (-1))]]
def a38s13 : ACode := .reg [] a38r12
def a38s14 : ACode := .seq a38s13 .ret
def a38s15 : ACode := .seq a38s11 a38s14
def a38s16 : ACode := .test [] a38r6 (.t 11) a38s15 .skip
def a38r17 : List AOper := [
 op (.t 13) .mv [.v 4]]
def a38r18 : List AOper := [
 op (.v 2) .mv [.c (.int .i64 1)]]
def a38s19 : ACode := .reg [] a38r18
def a38s20 : ACode := .seq a38s19 .ret
def a38s21 : ACode := .test [] a38r17 (.t 13) a38s20 .skip
def a38r22 : List AOper := [
 op (.t 14) .mv [.v 0],
 op (.t 15) .mv [.v 1],
 op (.t 16) (.bin .lss) [.t 14,.t 15]]
def a38r23 : List AOper := [
 op (.v 2) .mv [.c (.int .i64 (-1))]]
def a38s24 : ACode := .reg [] a38r23
def a38s25 : ACode := .seq a38s24 .ret
def a38s26 : ACode := .test [] a38r22 (.t 16) a38s25 .skip
def a38r27 : List AOper := [
 op (.t 17) .mv [.v 0],
 op (.t 18) .mv [.v 1],
 op (.t 19) (.bin .gtr) [.t 17,.t 18]]
def a38r28 : List AOper := [
 op (.v 2) .mv [.c (.int .i64 1)]]
def a38s29 : ACode := .reg [] a38r28
def a38s30 : ACode := .seq a38s29 .ret
def a38s31 : ACode := .test [] a38r27 (.t 19) a38s30 .skip
def a38r32 : List AOper := [
 op (.v 2) .mv [.c (.int .i64 0)]]
def a38s33 : ACode := .reg [] a38r32
def a38s34 : ACode := .seq a38s33 .ret
def a38s35 : ACode := .seq a38s31 a38s34
def a38s36 : ACode := .seq a38s26 a38s35
def a38s37 : ACode := .seq a38s21 a38s36
def a38s38 : ACode := .seq a38s16 a38s37
def a38s39 : ACode := .seq a38s5 a38s38
def a38s40 : ACode := .seq a38s3 a38s39
def a38s41 : ACode := .seq a38s1 a38s40
def a38c : ACode :=
  a38s41
def a38 : AFn := { np := 2,nv := 5,results := [.v 2],code := a38c }
def a38v : List Nat := [0,1,4,5,6]
def a38b : List Nat := []

def a39r0 : List AOper := [
 op (.v 2) .mv [.c (.int .i64 0)]]
def a39s1 : ACode := .reg [] a39r0
def a39r2 : List AOper := [
 op (.t 7) .mv [.v 0],
 op (.t 8) (.call 75) [.t 7],
 op (.v 3) .mv [.t 8]]
def a39s3 : ACode := .reg [] a39r2
def a39r4 : List AOper := [
 op (.t 9) .mv [.v 1],
 op (.t 10) (.call 75) [.t 9],
 op (.v 4) .mv [.t 10]]
def a39s5 : ACode := .reg [] a39r4
def a39r6 : List AOper := [
 op (.t 11) .mv [.v 3]]
def a39r7 : List AOper := [
 op (.t 12) .mv [.v 4]]
def a39r8 : List AOper := [
 op (.v 2) .mv [.c (.int .i64 0)]]
def a39s9 : ACode := .reg [] a39r8
def a39s10 : ACode := .seq a39s9 .ret
def a39s11 : ACode := .test [] a39r7 (.t 12) a39s10 .skip
def a39r12 : List AOper := [
 op (.v 2) .mv [.c (.int .i64 (-1))]]
def a39s13 : ACode := .reg [] a39r12
def a39s14 : ACode := .seq a39s13 .ret
def a39s15 : ACode := .seq a39s11 a39s14
def a39s16 : ACode := .test [] a39r6 (.t 11) a39s15 .skip
def a39r17 : List AOper := [
 op (.t 13) .mv [.v 4]]
def a39r18 : List AOper := [
 op (.v 2) .mv [.c (.int .i64 1)]]
def a39s19 : ACode := .reg [] a39r18
def a39s20 : ACode := .seq a39s19 .ret
def a39s21 : ACode := .test [] a39r17 (.t 13) a39s20 .skip
def a39r22 : List AOper := [
 op (.t 14) .mv [.v 0],
 op (.t 15) .mv [.v 1],
 op (.t 16) (.bin .lss) [.t 14,.t 15]]
def a39r23 : List AOper := [
 op (.v 2) .mv [.c (.int .i64 (-1))]]
def a39s24 : ACode := .reg [] a39r23
def a39s25 : ACode := .seq a39s24 .ret
def a39s26 : ACode := .test [] a39r22 (.t 16) a39s25 .skip
def a39r27 : List AOper := [
 op (.t 17) .mv [.v 0],
 op (.t 18) .mv [.v 1],
 op (.t 19) (.bin .gtr) [.t 17,.t 18]]
def a39r28 : List AOper := [
 op (.v 2) .mv [.c (.int .i64 1)]]
def a39s29 : ACode := .reg [] a39r28
def a39s30 : ACode := .seq a39s29 .ret
def a39s31 : ACode := .test [] a39r27 (.t 19) a39s30 .skip
def a39r32 : List AOper := [
 op (.v 2) .mv [.c (.int .i64 0)]]
def a39s33 : ACode := .reg [] a39r32
def a39s34 : ACode := .seq a39s33 .ret
def a39s35 : ACode := .seq a39s31 a39s34
def a39s36 : ACode := .seq a39s26 a39s35
def a39s37 : ACode := .seq a39s21 a39s36
def a39s38 : ACode := .seq a39s16 a39s37
def a39s39 : ACode := .seq a39s5 a39s38
def a39s40 : ACode := .seq a39s3 a39s39
def a39s41 : ACode := .seq a39s1 a39s40
def a39c : ACode :=
  a39s41
def a39 : AFn := { np := 2,nv := 5,results := [.v 2],code := a39c }
def a39v : List Nat := [0,1,4,5,6]
def a39b : List Nat := []

def a40r0 : List AOper := [
 op (.v 1) .mv [.c (.list true [])]]
def a40s1 : ACode := .reg [] a40r0
def a40r2 : List AOper := [
 op (.t 6) .mv [.v 0],
 op (.t 7) .lenL [.t 6],
 op (.t 8) (.bin .lss) [.t 7,.c (.int .i64 2)]]
def a40r3 : List AOper := [
 op (.t 9) .mv [.v 0],
 op (.v 1) .mv [.ts 9]]
def a40s4 : ACode := .reg [] a40r3
def a40s5 : ACode := .seq a40s4 .ret
def a40s6 : ACode := .test [] a40r2 (.t 8) a40s5 .skip
def a40r7 : List AOper := [
 op (.v 2) .mv [.c (.int .i64 1)]]
def a40s8 : ACode := .reg [] a40r7
def a40r9 : List AOper := [
 op (.t 10) .mv [.v 2],
 op (.t 11) .mv [.v 0],
 op (.t 12) .lenL [.t 11],
 op (.t 13) (.bin .lss) [.t 10,.t 12]]
def a40s10 : ACode := .test [] a40r9 (.t 13) .skip (.exit 0)
def a40r11 : List AOper := [
 op (.t 16) .mv [.v 0],
 op (.t 17) .mv [.v 2],
 op (.t 18) (.iad 2) [.t 16,.t 17],
 op (.t 19) (.ldAn true 2) [.t 18],
 op (.t 20) .mv [.v 0],
 op (.t 21) .mv [.v 2],
 op (.t 22) (.bin .sub) [.t 21,.c (.int .i64 1)],
 op (.t 23) (.iad 2) [.t 20,.t 22],
 op (.t 24) (.ldAn true 2) [.t 23],
 op (.t 25) (.eqIS false) [.t 19,.t 24]]
def a40r12 : List AOper := [
 op (.t 26) .mv [.v 0],
 op (.t 27) .mv [.v 2],
 op (.t 28) (.slL 2 true false) [.t 26,.t 27],
 op (.v 3) .mv [.ts 28]]
def a40s13 : ACode := .reg [] a40r12
def a40r14 : List AOper := [
 op (.v 4) .mv [.c (.int .i64 1)]]
def a40s15 : ACode := .reg [] a40r14
def a40r16 : List AOper := [
 op (.t 29) .mv [.v 4],
 op (.t 30) .mv [.v 3],
 op (.t 31) .lenL [.t 30],
 op (.t 32) (.bin .lss) [.t 29,.t 31]]
def a40s17 : ACode := .test [] a40r16 (.t 32) .skip (.exit 2)
def a40r18 : List AOper := [
 op (.t 35) .mv [.v 3],
 op (.t 36) .mv [.v 4],
 op (.t 37) (.iad 2) [.t 35,.t 36],
 op (.t 38) (.ldAn true 2) [.t 37],
 op (.t 39) .mv [.v 3],
 op (.t 40) .mv [.v 4],
 op (.t 41) (.bin .sub) [.t 40,.c (.int .i64 1)],
 op (.t 42) (.iad 2) [.t 39,.t 41],
 op (.t 43) (.ldAn true 2) [.t 42],
 op (.t 44) (.eqIS true) [.t 38,.t 43]]
def a40r19 : List AOper := [
 op (.t 45) .mv [.v 0],
 op (.t 46) .mv [.v 2],
 op (.t 47) .mv [.v 3],
 op (.t 48) .mv [.v 4],
 op (.t 49) (.iad 2) [.t 47,.t 48],
 op (.t 50) (.ldAn true 2) [.t 49],
 op (.t 51) (.iad 2) [.t 45,.t 46],
 op .none (.stSt 2) [.t 51,.t 50]]
def a40s20 : ACode := .reg [] a40r19
def a40r21 : List AOper := [
 op (.t 52) .mv [.v 2],
 op (.t 53) (.bin .add) [.t 52,.c (.int .i64 1)],
 op (.v 2) .mv [.t 53]]
def a40s22 : ACode := .reg [] a40r21
def a40s23 : ACode := .seq a40s20 a40s22
def a40s24 : ACode := .test [] a40r18 (.t 44) a40s23 .skip
def a40s25 : ACode := .blk 3 a40s24
def a40r26 : List AOper := [
 op (.t 33) .mv [.v 4],
 op (.t 34) (.bin .add) [.t 33,.c (.int .i64 1)],
 op (.v 4) .mv [.t 34]]
def a40s27 : ACode := .reg [] a40r26
def a40s28 : ACode := .seq a40s25 a40s27
def a40s29 : ACode := .seq a40s17 a40s28
def a40s30 : ACode := .loop a40s29
def a40s31 : ACode := .blk 2 a40s30
def a40s32 : ACode := .seq a40s15 a40s31
def a40r33 : List AOper := [
 op (.t 54) .mv [.v 0],
 op (.t 55) .mv [.v 2],
 op (.t 56) (.slL 2 true false) [.t 54,.t 55],
 op .none .stuck []]
def a40s34 : ACode := .reg [] a40r33
def a40r35 : List AOper := [
 op (.t 57) .mv [.v 0],
 op (.t 58) .mv [.v 2],
 op (.t 59) (.slL 2 false true) [.t 57,.t 58],
 op (.v 1) .mv [.ts 59]]
def a40s36 : ACode := .reg [] a40r35
def a40s37 : ACode := .seq a40s36 .ret
def a40s38 : ACode := .seq a40s34 a40s37
def a40s39 : ACode := .seq a40s32 a40s38
def a40s40 : ACode := .seq a40s13 a40s39
def a40s41 : ACode := .test [] a40r11 (.t 25) a40s40 .skip
def a40s42 : ACode := .blk 1 a40s41
def a40r43 : List AOper := [
 op (.t 14) .mv [.v 2],
 op (.t 15) (.bin .add) [.t 14,.c (.int .i64 1)],
 op (.v 2) .mv [.t 15]]
def a40s44 : ACode := .reg [] a40r43
def a40s45 : ACode := .seq a40s42 a40s44
def a40s46 : ACode := .seq a40s10 a40s45
def a40s47 : ACode := .loop a40s46
def a40s48 : ACode := .blk 0 a40s47
def a40s49 : ACode := .seq a40s8 a40s48
def a40r50 : List AOper := [
 op (.t 60) .mv [.v 0],
 op (.v 1) .mv [.ts 60]]
def a40s51 : ACode := .reg [] a40r50
def a40s52 : ACode := .seq a40s51 .ret
def a40s53 : ACode := .seq a40s49 a40s52
def a40s54 : ACode := .seq a40s6 a40s53
def a40s55 : ACode := .seq a40s1 a40s54
def a40c : ACode :=
  a40s55
def a40 : AFn := { np := 1,nv := 5,results := [.v 1],code := a40c }
def a40v : List Nat := [0,2,3,4,5]
def a40b : List Nat := []

def a41r0 : List AOper := [
 ⟨.bx,.alloc [.int .u8 0,.str [],.list true [],.list true []],[],some 1,none⟩]
def a41s1 : ACode := .reg [1] a41r0
def a41r2 : List AOper := [
 ⟨.bx,.alloc [.int .u8 0,.str [],.list true [],.list true []],[],some 2,none⟩]
def a41s3 : ACode := .reg [2] a41r2
def a41r4 : List AOper := [
 op (.t 11) .mv [.v 0],
 op (.t 12) (.call 17) [.t 11,.c (.str [116,121,112,101])],
 op (.t 10) .mv [.t 12]]
def a41r5 : List AOper := [
 op (.t 13) (.fad 0) [.l 2],
 ⟨.none,.stLc 2 1,[.t 13,.c (.int .u8 1)],some 2,none⟩]
def a41s6 : ACode := .reg [] a41r5
def a41r7 : List AOper := [
 op (.t 15) .mv [.v 0],
 op (.t 16) (.call 17) [.t 15,.c (.str [105,110,116,101,114,102,97,99,101])],
 op (.t 14) .mv [.t 16]]
def a41r8 : List AOper := [
 op (.t 17) (.fad 0) [.l 2],
 ⟨.none,.stLc 2 1,[.t 17,.c (.int .u8 2)],some 2,none⟩]
def a41s9 : ACode := .reg [] a41r8
def a41r10 : List AOper := [
 op (.t 19) .mv [.v 0],
 op (.t 20) (.call 17) [.t 19,.c (.str [117,110,105,111,110])],
 op (.t 18) .mv [.t 20]]
def a41r11 : List AOper := [
 op (.t 21) (.fad 0) [.l 2],
 ⟨.none,.stLc 2 1,[.t 21,.c (.int .u8 3)],some 2,none⟩]
def a41s12 : ACode := .reg [] a41r11
def a41r13 : List AOper := [
 op (.t 23) .mv [.v 0],
 op (.t 24) (.call 17) [.t 23,.c (.str [101,110,117,109])],
 op (.t 22) .mv [.t 24]]
def a41r14 : List AOper := [
 op (.t 25) (.fad 0) [.l 2],
 ⟨.none,.stLc 2 1,[.t 25,.c (.int .u8 4)],some 2,none⟩]
def a41s15 : ACode := .reg [] a41r14
def a41r16 : List AOper := [
 op (.t 27) .mv [.v 0],
 op (.t 28) (.call 17) [.t 27,.c (.str [105,110,112,117,116])],
 op (.t 26) .mv [.t 28]]
def a41r17 : List AOper := [
 op (.t 29) (.fad 0) [.l 2],
 ⟨.none,.stLc 2 1,[.t 29,.c (.int .u8 5)],some 2,none⟩]
def a41s18 : ACode := .reg [] a41r17
def a41r19 : List AOper := [
 op (.t 7) .mv [.v 0],
 op (.t 8) (.call 18) [.t 7,.c (.int .i64 4)]]
def a41s20 : ACode := .reg [] a41r19
def a41r21 : List AOper := [
 ⟨.t 9,.ldLc 2 true 4,[.l 2],some 2,none⟩,
 ⟨.none,.stLc 1 4,[.l 1,.ts 9],some 1,none⟩]
def a41s22 : ACode := .reg [] a41r21
def a41s23 : ACode := .seq a41s22 .ret
def a41s24 : ACode := .seq a41s20 a41s23
def a41s25 : ACode := .test [] a41r16 (.t 26) a41s18 a41s24
def a41s26 : ACode := .test [] a41r13 (.t 22) a41s15 a41s25
def a41s27 : ACode := .test [] a41r10 (.t 18) a41s12 a41s26
def a41s28 : ACode := .test [] a41r7 (.t 14) a41s9 a41s27
def a41s29 : ACode := .test [] a41r4 (.t 10) a41s6 a41s28
def a41s30 : ACode := .blk 0 a41s29
def a41r31 : List AOper := [
 op (.t 30) .mv [.v 0],
 op (.t 31) .nilchk [.t 30],
 op (.t 32) (.fad 1) [.t 31],
 op (.t 33) (.ldSt false 1) [.t 32],
 op (.t 34) (.bin .add) [.t 33,.c (.int .i64 1)],
 op (.t 35) .nilchk [.t 30],
 op (.t 36) (.fad 1) [.t 35],
 op .none (.stSt 1) [.t 36,.t 34]]
def a41s32 : ACode := .reg [] a41r31
def a41r33 : List AOper := [
 op (.t 37) .mv [.v 0],
 op (.t 38) (.call 19) [.t 37],
 op (.t 39) (.fad 1) [.l 2],
 ⟨.none,.stLc 2 1,[.t 39,.t 38],some 2,none⟩]
def a41s34 : ACode := .reg [] a41r33
def a41r35 : List AOper := [
 op (.t 40) (.fad 0) [.l 2],
 ⟨.v 6,.ldLc 2 false 1,[.t 40],some 2,none⟩]
def a41s36 : ACode := .reg [] a41r35
def a41r37 : List AOper := [
 op (.t 87) (.bin .eql) [.v 6,.c (.int .u8 3)],
 op (.t 86) .mv [.t 87]]
def a41r38 : List AOper := [
 op (.t 88) .mv [.v 0],
 op (.t 89) (.call 20) [.t 88,.c (.str [61])]]
def a41s39 : ACode := .reg [] a41r38
def a41r40 : List AOper := [
 op (.t 90) .mv [.v 0],
 op (.t 91) (.call 76) [.t 90,.c (.str [124])],
 op (.t 92) (.fad 3) [.l 2],
 ⟨.none,.stLc 2 1,[.t 92,.ts 91],some 2,none⟩]
def a41s41 : ACode := .reg [] a41r40
def a41s42 : ACode := .seq a41s39 a41s41
def a41r43 : List AOper := [
 op (.t 94) (.bin .eql) [.v 6,.c (.int .u8 4)],
 op (.t 93) .mv [.t 94]]
def a41r44 : List AOper := [
 op (.t 95) .mv [.v 0],
 op (.t 96) (.call 20) [.t 95,.c (.str [123])]]
def a41s45 : ACode := .reg [] a41r44
def a41r46 : List AOper := [
 op (.v 3) .mv [.c (.bool true)]]
def a41s47 : ACode := .reg [] a41r46
def a41r48 : List AOper := [
 op (.t 97) .mv [.v 0],
 op (.t 98) .nilchk [.t 97],
 op (.t 99) (.fad 4) [.t 98],
 op (.t 100) (.ldSt false 1) [.t 99],
 op (.t 101) (.bin .eql) [.t 100,.c (.int .i64 0)],
 op (.t 102) .mv [.t 101],
 ⟨.t 103,.mv,[.v 3],none,some (.t 102,true)⟩,
 ⟨.t 104,.mv,[.t 103],none,some (.t 102,true)⟩,
 ⟨.t 105,.mv,[.v 0],none,some (.t 104,false)⟩,
 ⟨.t 106,.call 23,[.t 105,.c (.str [125])],none,some (.t 104,false)⟩,
 ⟨.t 107,.un .not,[.t 106],none,some (.t 104,false)⟩,
 ⟨.t 108,.pick,[.t 104,.c (.bool true),.t 107],none,some (.t 102,true)⟩,
 op (.t 109) .pick [.t 102,.t 108,.c (.bool false)]]
def a41s49 : ACode := .test [] a41r48 (.t 109) .skip (.exit 4)
def a41r50 : List AOper := [
 op (.t 110) .mv [.v 0],
 op (.t 111) (.call 17) [.t 110,.c (.str [116,114,117,101])],
 op (.t 112) .mv [.t 111],
 ⟨.t 113,.mv,[.v 0],none,some (.t 112,false)⟩,
 ⟨.t 114,.call 17,[.t 113,.c (.str [102,97,108,115,101])],none,some (.t 112,false)⟩,
 op (.t 115) .pick [.t 112,.c (.bool true),.t 114],
 op (.t 116) .mv [.t 115],
 ⟨.t 117,.mv,[.v 0],none,some (.t 116,false)⟩,
 ⟨.t 118,.call 17,[.t 117,.c (.str [110,117,108,108])],none,some (.t 116,false)⟩,
 op (.t 119) .pick [.t 116,.c (.bool true),.t 118]]
def a41r51 : List AOper := [
 op (.t 120) .mv [.v 0],
 op (.t 121) (.call 18) [.t 120,.c (.int .i64 4)]]
def a41s52 : ACode := .reg [] a41r51
def a41s53 : ACode := .test [] a41r50 (.t 119) a41s52 .skip
def a41r54 : List AOper := [
 op (.t 122) (.fad 3) [.l 2],
 ⟨.t 123,.ldLcS 2,[.t 122],some 2,none⟩,
 op (.t 124) .mv [.v 0],
 op (.t 125) (.call 19) [.t 124],
 op (.t 126) (.bslice 1 [[.str []]] [0]) [.t 125],
 op (.t 127) (.app 1 16) [.ts 123,.t 126],
 op (.t 128) (.fad 3) [.l 2],
 ⟨.none,.stLc 2 1,[.t 128,.ts 127],some 2,none⟩]
def a41s55 : ACode := .reg [] a41r54
def a41s56 : ACode := .seq a41s53 a41s55
def a41s57 : ACode := .blk 5 a41s56
def a41r58 : List AOper := [
 op (.v 3) .mv [.c (.bool false)]]
def a41s59 : ACode := .reg [] a41r58
def a41s60 : ACode := .seq a41s57 a41s59
def a41s61 : ACode := .seq a41s49 a41s60
def a41s62 : ACode := .loop a41s61
def a41s63 : ACode := .blk 4 a41s62
def a41s64 : ACode := .seq a41s47 a41s63
def a41s65 : ACode := .seq a41s45 a41s64
def a41r66 : List AOper := [
 op (.t 130) (.bin .eql) [.v 6,.c (.int .u8 5)],
 op (.t 129) .mv [.t 130]]
def a41r67 : List AOper := [
 op (.t 131) .mv [.v 0],
 op (.t 132) (.call 20) [.t 131,.c (.str [123])]]
def a41s68 : ACode := .reg [] a41r67
def a41r69 : List AOper := [
 op (.t 133) .mv [.v 0],
 op (.t 134) (.call 77) [.t 133,.c (.str [125])],
 op (.t 135) (.fad 2) [.l 2],
 ⟨.none,.stLc 2 1,[.t 135,.ts 134],some 2,none⟩]
def a41s70 : ACode := .reg [] a41r69
def a41s71 : ACode := .seq a41s68 a41s70
def a41r72 : List AOper := [
 op (.t 42) (.fad 0) [.l 2],
 ⟨.t 43,.ldLc 2 false 1,[.t 42],some 2,none⟩,
 op (.t 44) (.bin .eql) [.t 43,.c (.int .u8 1)],
 op (.t 45) .mv [.t 44],
 ⟨.t 46,.mv,[.v 0],none,some (.t 45,true)⟩,
 ⟨.t 47,.call 23,[.t 46,.c (.str [105,109,112,108,101,109,101,110,116,115])],none,some (.t 45,true)⟩,
 op (.t 48) .pick [.t 45,.t 47,.c (.bool false)]]
def a41r73 : List AOper := [
 op (.t 49) .mv [.v 0],
 op (.t 50) (.call 76) [.t 49,.c (.str [38])],
 op (.t 51) (.fad 3) [.l 2],
 ⟨.none,.stLc 2 1,[.t 51,.ts 50],some 2,none⟩]
def a41s74 : ACode := .reg [] a41r73
def a41s75 : ACode := .test [] a41r72 (.t 48) a41s74 .skip
def a41r76 : List AOper := [
 op (.t 52) .mv [.v 0],
 op (.t 53) (.call 20) [.t 52,.c (.str [123])]]
def a41s77 : ACode := .reg [] a41r76
def a41r78 : List AOper := [
 op (.v 4) .mv [.c (.bool true)]]
def a41s79 : ACode := .reg [] a41r78
def a41r80 : List AOper := [
 op (.t 54) .mv [.v 0],
 op (.t 55) .nilchk [.t 54],
 op (.t 56) (.fad 4) [.t 55],
 op (.t 57) (.ldSt false 1) [.t 56],
 op (.t 58) (.bin .eql) [.t 57,.c (.int .i64 0)],
 op (.t 59) .mv [.t 58],
 ⟨.t 60,.mv,[.v 4],none,some (.t 59,true)⟩,
 ⟨.t 61,.mv,[.t 60],none,some (.t 59,true)⟩,
 ⟨.t 62,.mv,[.v 0],none,some (.t 61,false)⟩,
 ⟨.t 63,.call 23,[.t 62,.c (.str [125])],none,some (.t 61,false)⟩,
 ⟨.t 64,.un .not,[.t 63],none,some (.t 61,false)⟩,
 ⟨.t 65,.pick,[.t 61,.c (.bool true),.t 64],none,some (.t 59,true)⟩,
 op (.t 66) .pick [.t 59,.t 65,.c (.bool false)]]
def a41s81 : ACode := .test [] a41r80 (.t 66) .skip (.exit 2)
def a41r82 : List AOper := [
 op (.t 67) .mv [.v 0],
 op (.t 68) (.call 19) [.t 67],
 op (.t 69) (.build [.str [],.list true [],.str [],.list true [],.bool false,.bool false,.int .u8 0,.int .i64 0,.str [],.list true [],.list true []] [(0,1)]) [.t 68],
 ⟨.bx,.alloc [.str [],.list true [],.str [],.list true [],.bool false,.bool false,.int .u8 0,.int .i64 0,.str [],.list true [],.list true []],[],some 5,none⟩,
 ⟨.none,.stLc 5 11,[.l 5,.ts 69],some 5,none⟩]
def a41s83 : ACode := .reg [5] a41r82
def a41r84 : List AOper := [
 op (.t 70) .mv [.v 0],
 op (.t 71) (.call 23) [.t 70,.c (.str [40])]]
def a41r85 : List AOper := [
 op (.t 72) .mv [.v 0],
 op (.t 73) (.call 77) [.t 72,.c (.str [41])],
 op (.t 74) (.fad 1) [.l 5],
 ⟨.none,.stLc 5 1,[.t 74,.ts 73],some 5,none⟩]
def a41s86 : ACode := .reg [] a41r85
def a41s87 : ACode := .test [] a41r84 (.t 71) a41s86 .skip
def a41r88 : List AOper := [
 op (.t 75) .mv [.v 0],
 op (.t 76) (.call 20) [.t 75,.c (.str [58])]]
def a41s89 : ACode := .reg [] a41r88
def a41r90 : List AOper := [
 op (.t 77) .mv [.v 0],
 op (.t 78) (.call 56) [.t 77],
 op (.t 79) (.fad 2) [.l 5],
 ⟨.none,.stLc 5 3,[.t 79,.ts 78],some 5,none⟩]
def a41s91 : ACode := .reg [] a41r90
def a41r92 : List AOper := [
 op (.t 80) (.fad 2) [.l 2],
 ⟨.t 81,.ldLcS 2,[.t 80],some 2,none⟩,
 ⟨.t 82,.ldLc 5 true 11,[.l 5],some 5,none⟩,
 op (.t 83) (.bslice 11 [[.str [],.list true [],.str [],.list true [],.bool false,.bool false,.int .u8 0,.int .i64 0,.str [],.list true [],.list true []]] [0]) [.t 82],
 op (.t 84) (.app 11 176) [.ts 81,.t 83],
 op (.t 85) (.fad 2) [.l 2],
 ⟨.none,.stLc 2 1,[.t 85,.ts 84],some 2,none⟩]
def a41s93 : ACode := .reg [] a41r92
def a41s94 : ACode := .seq a41s91 a41s93
def a41s95 : ACode := .seq a41s89 a41s94
def a41s96 : ACode := .seq a41s87 a41s95
def a41s97 : ACode := .seq a41s83 a41s96
def a41s98 : ACode := .blk 3 a41s97
def a41r99 : List AOper := [
 op (.v 4) .mv [.c (.bool false)]]
def a41s100 : ACode := .reg [] a41r99
def a41s101 : ACode := .seq a41s98 a41s100
def a41s102 : ACode := .seq a41s81 a41s101
def a41s103 : ACode := .loop a41s102
def a41s104 : ACode := .blk 2 a41s103
def a41s105 : ACode := .seq a41s79 a41s104
def a41s106 : ACode := .seq a41s77 a41s105
def a41s107 : ACode := .seq a41s75 a41s106
def a41s108 : ACode := .test [] a41r66 (.t 129) a41s71 a41s107
def a41s109 : ACode := .test [] a41r43 (.t 93) a41s65 a41s108
def a41s110 : ACode := .test [] a41r37 (.t 86) a41s42 a41s109
def a41s111 : ACode := .blk 1 a41s110
def a41s112 : ACode := .seq a41s36 a41s111
def a41r113 : List AOper := [
 ⟨.t 136,.ldLc 2 true 4,[.l 2],some 2,none⟩,
 ⟨.none,.stLc 1 4,[.l 1,.ts 136],some 1,none⟩]
def a41s114 : ACode := .reg [] a41r113
def a41s115 : ACode := .seq a41s114 .ret
def a41s116 : ACode := .seq a41s112 a41s115
def a41s117 : ACode := .seq a41s34 a41s116
def a41s118 : ACode := .seq a41s32 a41s117
def a41s119 : ACode := .seq a41s30 a41s118
def a41s120 : ACode := .seq a41s3 a41s119
def a41s121 : ACode := .seq a41s1 a41s120
def a41c : ACode :=
  a41s121
def a41 : AFn := { np := 1,nv := 7,results := [.bx 1 true 4],code := a41c }
def a41v : List Nat := [0,2,3,4,5,6,41]
def a41b : List Nat := [1,2,5]

def a42 : AFn := { np := 1,nv := 0,results := [],code := .skip,ext := some (cloneX 4 72) }
def a43r0 : List AOper := [
 op (.v 2) .mv [.c (.bool false)]]
def a43s1 : ACode := .reg [] a43r0
def a43r2 : List AOper := [
 op (.t 5) .mv [.v 0],
 op (.t 6) .mv [.v 1],
 op (.t 7) (.call 78) [.t 5,.t 6],
 op (.v 2) .mv [.t 7]]
def a43s3 : ACode := .reg [] a43r2
def a43s4 : ACode := .seq a43s3 .ret
def a43s5 : ACode := .seq a43s1 a43s4
def a43c : ACode :=
  a43s5
def a43 : AFn := { np := 2,nv := 3,results := [.v 2],code := a43c }
def a43v : List Nat := [0,1,4]
def a43b : List Nat := []

def a44r0 : List AOper := [
 ⟨.bx,.boxV,[.v 1],some 2,none⟩,
 ⟨.bx,.alloc [.int .i64 0,.str []],[],some 3,none⟩]
def a44s1 : ACode := .reg [2,3] a44r0
def a44r2 : List AOper := [
 op (.t 16) (.fad 2) [.l 2],
 ⟨.t 17,.ldLc 2 false 1,[.t 16],some 2,none⟩,
 op (.t 18) (.call 80) [.t 17],
 op (.t 19) (.fad 3) [.l 2],
 ⟨.t 20,.ldLc 2 false 1,[.t 19],some 2,none⟩,
 op (.t 21) (.app 1 16) [.ts 18,.t 20],
 op (.t 22) (.call 79) [.t 21],
 ⟨.bx,.alloc [.int .i64 0,.str []],[],some 4,none⟩,
 ⟨.none,.stLc 4 2,[.l 4,.t 22],some 4,none⟩]
def a44s3 : ACode := .reg [4] a44r2
def a44r4 : List AOper := [
 op (.t 23) (.fad 0) [.l 4],
 ⟨.t 24,.ldLc 4 false 1,[.t 23],some 4,none⟩,
 op (.t 25) (.bin .neq) [.t 24,.c (.int .i64 0)],
 op (.t 26) .mv [.t 25],
 ⟨.t 27,.fad 0,[.l 2],none,some (.t 26,true)⟩,
 ⟨.t 28,.ldLc 2 false 1,[.t 27],some 2,some (.t 26,true)⟩,
 ⟨.t 29,.bin .neq,[.t 28,.c (.int .u8 1)],none,some (.t 26,true)⟩,
 op (.t 30) .pick [.t 26,.t 29,.c (.bool false)]]
def a44r5 : List AOper := [
 ⟨.t 31,.ldLc 4 true 2,[.l 4],some 4,none⟩,
 ⟨.none,.stLc 3 2,[.l 3,.t 31],some 3,none⟩]
def a44s6 : ACode := .reg [] a44r5
def a44s7 : ACode := .seq a44s6 .ret
def a44s8 : ACode := .test [] a44r4 (.t 30) a44s7 .skip
def a44s9 : ACode := .seq a44s3 a44s8
def a44r10 : List AOper := [
 op (.t 32) (.fad 2) [.l 2],
 ⟨.t 33,.ldLc 2 false 1,[.t 32],some 2,none⟩,
 op (.t 34) (.call 80) [.t 33],
 op (.t 35) (.call 79) [.t 34],
 ⟨.bx,.alloc [.int .i64 0,.str []],[],some 5,none⟩,
 ⟨.none,.stLc 5 2,[.l 5,.t 35],some 5,none⟩]
def a44s11 : ACode := .reg [5] a44r10
def a44r12 : List AOper := [
 op (.t 36) (.fad 0) [.l 5],
 ⟨.t 37,.ldLc 5 false 1,[.t 36],some 5,none⟩,
 op (.t 38) (.bin .neq) [.t 37,.c (.int .i64 0)]]
def a44r13 : List AOper := [
 ⟨.t 39,.ldLc 5 true 2,[.l 5],some 5,none⟩,
 ⟨.none,.stLc 3 2,[.l 3,.t 39],some 3,none⟩]
def a44s14 : ACode := .reg [] a44r13
def a44s15 : ACode := .seq a44s14 .ret
def a44s16 : ACode := .test [] a44r12 (.t 38) a44s15 .skip
def a44s17 : ACode := .seq a44s11 a44s16
def a44r18 : List AOper := [
 op (.t 40) (.fad 3) [.l 2],
 ⟨.t 41,.ldLc 2 false 1,[.t 40],some 2,none⟩,
 op (.t 42) (.call 79) [.t 41],
 ⟨.bx,.alloc [.int .i64 0,.str []],[],some 6,none⟩,
 ⟨.none,.stLc 6 2,[.l 6,.t 42],some 6,none⟩]
def a44s19 : ACode := .reg [6] a44r18
def a44r20 : List AOper := [
 op (.t 43) (.fad 0) [.l 6],
 ⟨.t 44,.ldLc 6 false 1,[.t 43],some 6,none⟩,
 op (.t 45) (.bin .neq) [.t 44,.c (.int .i64 0)]]
def a44r21 : List AOper := [
 ⟨.t 46,.ldLc 6 true 2,[.l 6],some 6,none⟩,
 ⟨.none,.stLc 3 2,[.l 3,.t 46],some 3,none⟩]
def a44s22 : ACode := .reg [] a44r21
def a44s23 : ACode := .seq a44s22 .ret
def a44s24 : ACode := .test [] a44r20 (.t 45) a44s23 .skip
def a44s25 : ACode := .seq a44s19 a44s24
def a44r26 : List AOper := [
 op (.t 47) (.fad 2) [.l 2],
 ⟨.v 13,.ldLc 2 false 1,[.t 47],some 2,none⟩,
 op (.v 14) .lenL [.v 13],
 op (.v 15) .mv [.c (.int .i64 0)]]
def a44s27 : ACode := .reg [] a44r26
def a44r28 : List AOper := [
 op (.t 51) (.bin .lss) [.v 15,.v 14]]
def a44s29 : ACode := .test [] a44r28 (.t 51) .skip (.exit 0)
def a44r30 : List AOper := [
 op (.t 52) (.iad 11) [.v 13,.v 15],
 op (.t 53) (.ldRo true 11) [.t 52],
 ⟨.bx,.alloc [.str [],.list true [],.str [],.list true [],.bool false,.bool false,.int .u8 0,.int .i64 0,.str [],.list true [],.list true []],[],some 7,none⟩,
 ⟨.none,.stLc 7 11,[.l 7,.ts 53],some 7,none⟩]
def a44s31 : ACode := .reg [7] a44r30
def a44r32 : List AOper := [
 op (.t 54) .mv [.v 0],
 ⟨.t 55,.ldLc 7 true 11,[.l 7],some 7,none⟩,
 op (.t 56) (.fad 0) [.l 2],
 ⟨.t 57,.ldLc 2 false 1,[.t 56],some 2,none⟩,
 op (.t 58) (.bin .eql) [.t 57,.c (.int .u8 5)],
 op (.t 59) (.call 81) [.t 54,.t 55,.t 58],
 ⟨.bx,.alloc [.int .i64 0,.str []],[],some 8,none⟩,
 ⟨.none,.stLc 8 2,[.l 8,.t 59],some 8,none⟩]
def a44s33 : ACode := .reg [8] a44r32
def a44r34 : List AOper := [
 op (.t 60) (.fad 0) [.l 8],
 ⟨.t 61,.ldLc 8 false 1,[.t 60],some 8,none⟩,
 op (.t 62) (.bin .neq) [.t 61,.c (.int .i64 0)]]
def a44r35 : List AOper := [
 ⟨.t 63,.ldLc 8 true 2,[.l 8],some 8,none⟩,
 ⟨.none,.stLc 3 2,[.l 3,.t 63],some 3,none⟩]
def a44s36 : ACode := .reg [] a44r35
def a44s37 : ACode := .seq a44s36 .ret
def a44s38 : ACode := .test [] a44r34 (.t 62) a44s37 .skip
def a44s39 : ACode := .seq a44s33 a44s38
def a44s40 : ACode := .seq a44s31 a44s39
def a44s41 : ACode := .blk 1 a44s40
def a44r42 : List AOper := [
 op (.t 64) (.bin .add) [.v 15,.c (.int .i64 1)],
 op (.v 15) .mv [.t 64]]
def a44s43 : ACode := .reg [] a44r42
def a44s44 : ACode := .seq a44s41 a44s43
def a44s45 : ACode := .seq a44s29 a44s44
def a44s46 : ACode := .loop a44s45
def a44s47 : ACode := .blk 0 a44s46
def a44s48 : ACode := .seq a44s27 a44s47
def a44r49 : List AOper := [
 op (.t 65) .mkM [],
 op .none (.mset 0) [.t 65,.c (.int .u8 1),.c (.int .u8 2)],
 op .none (.mset 0) [.t 65,.c (.int .u8 3),.c (.int .u8 1)],
 op (.t 66) .mv [.t 65],
 op (.t 67) (.fad 0) [.l 2],
 ⟨.t 68,.ldLc 2 false 1,[.t 67],some 2,none⟩,
 op (.t 69) (.mget 0 [.int .u8 0] false false) [.t 66,.t 68],
 op (.v 9) .mv [.t 69]]
def a44s50 : ACode := .reg [] a44r49
def a44r51 : List AOper := [
 op (.t 70) (.fad 3) [.l 2],
 ⟨.v 16,.ldLc 2 false 1,[.t 70],some 2,none⟩,
 op (.v 17) .lenL [.v 16],
 op (.v 18) .mv [.c (.int .i64 0)]]
def a44s52 : ACode := .reg [] a44r51
def a44r53 : List AOper := [
 op (.t 74) (.bin .lss) [.v 18,.v 17]]
def a44s54 : ACode := .test [] a44r53 (.t 74) .skip (.exit 2)
def a44r55 : List AOper := [
 op (.t 75) (.iad 1) [.v 16,.v 18],
 op (.t 76) (.ldRo false 1) [.t 75],
 op (.v 10) .mv [.t 76]]
def a44s56 : ACode := .reg [] a44r55
def a44r57 : List AOper := [
 op (.t 78) .mv [.v 0],
 op (.t 79) .mv [.v 10],
 op (.t 80) (.call 45) [.t 78,.t 79],
 op (.t 77) .mv [.t 80],
 op (.t 81) (.ext 0) [.t 77],
 op (.t 82) (.ext 1) [.t 77],
 ⟨.bx,.alloc [.int .u8 0,.str [],.list true [],.list true []],[],some 11,none⟩,
 ⟨.none,.stLc 11 4,[.l 11,.ts 81],some 11,none⟩,
 op (.v 12) .mv [.t 82]]
def a44s58 : ACode := .reg [11] a44r57
def a44r59 : List AOper := [
 op (.t 84) (.fad 0) [.l 2],
 ⟨.t 85,.ldLc 2 false 1,[.t 84],some 2,none⟩,
 op (.t 86) (.bin .eql) [.t 85,.c (.int .u8 4)],
 op (.t 83) .mv [.t 86]]
def a44r60 : List AOper := [
 op (.t 88) .mv [.v 12],
 op (.t 89) (.un .not) [.t 88],
 op (.t 87) .mv [.t 89]]
def a44r61 : List AOper := [
 op (.t 90) .mv [.v 10],
 op (.t 91) (.build [.int .i64 0,.str []] [(0,1),(1,1)]) [.c (.int .i64 6),.t 90],
 ⟨.none,.stLc 3 2,[.l 3,.t 91],some 3,none⟩]
def a44s62 : ACode := .reg [] a44r61
def a44s63 : ACode := .seq a44s62 .ret
def a44r64 : List AOper := [
 op (.t 93) (.fad 0) [.l 11],
 ⟨.t 94,.ldLc 11 false 1,[.t 93],some 11,none⟩,
 op (.t 95) .mv [.v 9],
 op (.t 96) (.bin .neq) [.t 94,.t 95],
 op (.t 97) .mv [.t 96],
 ⟨.t 98,.mv,[.v 10],none,some (.t 97,false)⟩,
 ⟨.t 99,.call 82,[.t 98],none,some (.t 97,false)⟩,
 op (.t 100) .pick [.t 97,.c (.bool true),.t 99],
 op (.t 92) .mv [.t 100]]
def a44r65 : List AOper := [
 op (.t 101) .mv [.v 10],
 op (.t 102) (.build [.int .i64 0,.str []] [(0,1),(1,1)]) [.c (.int .i64 8),.t 101],
 ⟨.none,.stLc 3 2,[.l 3,.t 102],some 3,none⟩]
def a44s66 : ACode := .reg [] a44r65
def a44s67 : ACode := .seq a44s66 .ret
def a44r68 : List AOper := [
 op (.t 104) (.fad 0) [.l 2],
 ⟨.t 105,.ldLc 2 false 1,[.t 104],some 2,none⟩,
 op (.t 106) (.bin .eql) [.t 105,.c (.int .u8 1)],
 op (.t 107) .mv [.t 106],
 ⟨.t 108,.mv,[.v 0],none,some (.t 107,true)⟩,
 ⟨.t 109,.ldLc 2 true 4,[.l 2],some 2,some (.t 107,true)⟩,
 ⟨.t 110,.ldLc 11 true 4,[.l 11],some 11,some (.t 107,true)⟩,
 ⟨.t 111,.call 83,[.t 108,.t 109,.t 110],none,some (.t 107,true)⟩,
 ⟨.t 112,.un .not,[.t 111],none,some (.t 107,true)⟩,
 op (.t 113) .pick [.t 107,.t 112,.c (.bool false)],
 op (.t 103) .mv [.t 113]]
def a44r69 : List AOper := [
 op (.t 114) .mv [.v 10],
 op (.t 115) (.build [.int .i64 0,.str []] [(0,1),(1,1)]) [.c (.int .i64 3),.t 114],
 ⟨.none,.stLc 3 2,[.l 3,.t 115],some 3,none⟩]
def a44s70 : ACode := .reg [] a44r69
def a44s71 : ACode := .seq a44s70 .ret
def a44s72 : ACode := .test [] a44r68 (.t 103) a44s71 .skip
def a44s73 : ACode := .test [] a44r64 (.t 92) a44s67 a44s72
def a44s74 : ACode := .test [] a44r60 (.t 87) a44s63 a44s73
def a44s75 : ACode := .test [] a44r59 (.t 83) .skip a44s74
def a44s76 : ACode := .blk 4 a44s75
def a44s77 : ACode := .seq a44s58 a44s76
def a44s78 : ACode := .seq a44s56 a44s77
def a44s79 : ACode := .blk 3 a44s78
def a44r80 : List AOper := [
 op (.t 116) (.bin .add) [.v 18,.c (.int .i64 1)],
 op (.v 18) .mv [.t 116]]
def a44s81 : ACode := .reg [] a44r80
def a44s82 : ACode := .seq a44s79 a44s81
def a44s83 : ACode := .seq a44s54 a44s82
def a44s84 : ACode := .loop a44s83
def a44s85 : ACode := .blk 2 a44s84
def a44s86 : ACode := .seq a44s52 a44s85
def a44r87 : List AOper := [
 op (.t 117) (.build [.int .i64 0,.str []] []) [],
 ⟨.none,.stLc 3 2,[.l 3,.t 117],some 3,none⟩]
def a44s88 : ACode := .reg [] a44r87
def a44s89 : ACode := .seq a44s88 .ret
def a44s90 : ACode := .seq a44s86 a44s89
def a44s91 : ACode := .seq a44s50 a44s90
def a44s92 : ACode := .seq a44s48 a44s91
def a44s93 : ACode := .seq a44s25 a44s92
def a44s94 : ACode := .seq a44s17 a44s93
def a44s95 : ACode := .seq a44s9 a44s94
def a44s96 : ACode := .seq a44s1 a44s95
def a44c : ACode :=
  a44s96
def a44 : AFn := { np := 2,nv := 19,results := [.bx 3 true 2],code := a44c }
def a44v : List Nat := [0,1,3,4,5,6,7,9,10,11,13,14,15,48,49,50,71,72,73]
def a44b : List Nat := [2,3,4,5,6,7,8,11]

def a45r0 : List AOper := [
 ⟨.bx,.alloc [.int .u8 0,.str [],.list true [],.list true []],[],some 2,none⟩,
 op (.v 3) .mv [.c (.bool false)]]
def a45s1 : ACode := .reg [2] a45r0
def a45r2 : List AOper := [
 op (.t 8) .mv [.v 0],
 op (.t 9) (.binP .eql) [.t 8,.c (.nilp)]]
def a45r3 : List AOper := [
 op (.t 10) (.build [.int .u8 0,.str [],.list true [],.list true []] []) [],
 ⟨.none,.stLc 2 4,[.l 2,.ts 10],some 2,none⟩,
 op (.v 3) .mv [.c (.bool false)]]
def a45s4 : ACode := .reg [] a45r3
def a45s5 : ACode := .seq a45s4 .ret
def a45s6 : ACode := .test [] a45r2 (.t 9) a45s5 .skip
def a45r7 : List AOper := [
 op (.t 12) .mv [.v 0],
 op (.t 13) .nilchk [.t 12],
 op (.t 14) (.fad 1) [.t 13],
 op (.t 15) (.ldSt false 1) [.t 14],
 op (.t 16) .mv [.v 1],
 op (.t 17) (.mget 1 [.int .i64 0] false true) [.t 15,.t 16],
 op (.t 11) .mv [.t 17],
 op (.t 18) (.ext 0) [.t 11],
 op (.t 19) (.ext 1) [.t 11],
 op (.v 4) .mv [.t 18],
 op (.v 5) .mv [.t 19]]
def a45s8 : ACode := .reg [] a45r7
def a45r9 : List AOper := [
 op (.t 20) .mv [.v 5],
 op (.t 21) (.un .not) [.t 20]]
def a45r10 : List AOper := [
 op (.t 22) (.build [.int .u8 0,.str [],.list true [],.list true []] []) [],
 ⟨.none,.stLc 2 4,[.l 2,.ts 22],some 2,none⟩,
 op (.v 3) .mv [.c (.bool false)]]
def a45s11 : ACode := .reg [] a45r10
def a45s12 : ACode := .seq a45s11 .ret
def a45s13 : ACode := .test [] a45r9 (.t 21) a45s12 .skip
def a45r14 : List AOper := [
 op (.t 23) .mv [.v 0],
 op (.t 24) .nilchk [.t 23],
 op (.t 25) (.fad 0) [.t 24],
 op (.t 26) (.ldSt false 1) [.t 25],
 op (.t 27) .mv [.v 4],
 op (.t 28) (.iad 4) [.t 26,.t 27],
 op (.t 29) (.ldRo true 4) [.t 28],
 ⟨.none,.stLc 2 4,[.l 2,.ts 29],some 2,none⟩,
 op (.v 3) .mv [.c (.bool true)]]
def a45s15 : ACode := .reg [] a45r14
def a45s16 : ACode := .seq a45s15 .ret
def a45s17 : ACode := .seq a45s13 a45s16
def a45s18 : ACode := .seq a45s8 a45s17
def a45s19 : ACode := .seq a45s6 a45s18
def a45s20 : ACode := .seq a45s1 a45s19
def a45c : ACode :=
  a45s20
def a45 : AFn := { np := 2,nv := 6,results := [.bx 2 true 4,.v 3],code := a45c }
def a45v : List Nat := [0,1,4,5,6,7]
def a45b : List Nat := [2]

def a46r0 : List AOper := [
 ⟨.bx,.boxV,[.v 1],some 2,none⟩,
 ⟨.bx,.alloc [.int .i64 0,.str []],[],some 3,none⟩]
def a46s1 : ACode := .reg [2,3] a46r0
def a46r2 : List AOper := [
 op (.t 8) (.fad 0) [.l 2],
 ⟨.t 9,.ldLc 2 false 1,[.t 8],some 2,none⟩,
 op (.t 10) (.bin .neq) [.t 9,.c (.int .u8 1)],
 op (.t 11) .mv [.t 10],
 ⟨.t 12,.fad 0,[.l 2],none,some (.t 11,true)⟩,
 ⟨.t 13,.ldLc 2 false 1,[.t 12],some 2,some (.t 11,true)⟩,
 ⟨.t 14,.bin .neq,[.t 13,.c (.int .u8 2)],none,some (.t 11,true)⟩,
 op (.t 15) .pick [.t 11,.t 14,.c (.bool false)]]
def a46r3 : List AOper := [
 op (.t 16) (.build [.int .i64 0,.str []] []) [],
 ⟨.none,.stLc 3 2,[.l 3,.t 16],some 3,none⟩]
def a46s4 : ACode := .reg [] a46r3
def a46s5 : ACode := .seq a46s4 .ret
def a46s6 : ACode := .test [] a46r2 (.t 15) a46s5 .skip
def a46r7 : List AOper := [
 op (.t 17) (.fad 2) [.l 2],
 ⟨.v 6,.ldLc 2 false 1,[.t 17],some 2,none⟩,
 op (.v 7) .lenL [.v 6],
 op (.v 8) .mv [.c (.int .i64 0)]]
def a46s8 : ACode := .reg [] a46r7
def a46r9 : List AOper := [
 op (.t 21) (.bin .lss) [.v 8,.v 7]]
def a46s10 : ACode := .test [] a46r9 (.t 21) .skip (.exit 0)
def a46r11 : List AOper := [
 op (.t 22) (.iad 11) [.v 6,.v 8],
 op (.t 23) (.ldRo true 11) [.t 22],
 ⟨.bx,.alloc [.str [],.list true [],.str [],.list true [],.bool false,.bool false,.int .u8 0,.int .i64 0,.str [],.list true [],.list true []],[],some 4,none⟩,
 ⟨.none,.stLc 4 11,[.l 4,.ts 23],some 4,none⟩]
def a46s12 : ACode := .reg [4] a46r11
def a46r13 : List AOper := [
 op (.t 24) (.fad 1) [.l 4],
 ⟨.t 25,.ldLc 4 false 1,[.t 24],some 4,none⟩,
 op (.t 26) .lenL [.t 25],
 op (.t 27) (.bin .eql) [.t 26,.c (.int .i64 0)],
 op (.v 5) .mv [.t 27]]
def a46s14 : ACode := .reg [] a46r13
def a46r15 : List AOper := [
 op (.t 28) (.fad 1) [.l 2],
 ⟨.v 9,.ldLc 2 false 1,[.t 28],some 2,none⟩]
def a46s16 : ACode := .reg [] a46r15
def a46r17 : List AOper := [
 op (.t 31) (.bin .eql) [.v 9,.c (.str [81,117,101,114,121])],
 op (.t 30) .mv [.t 31]]
def a46r18 : List AOper := [
 op (.t 32) .mv [.v 0],
 ⟨.t 33,.ldLc 4 true 11,[.l 4],some 4,none⟩,
 op (.t 34) (.call 84) [.t 32,.t 33],
 op (.t 35) .mv [.t 34],
 ⟨.t 36,.mv,[.v 0],none,some (.t 35,false)⟩,
 ⟨.t 37,.ldLc 4 true 11,[.l 4],some 4,some (.t 35,false)⟩,
 ⟨.t 38,.call 85,[.t 36,.t 37],none,some (.t 35,false)⟩,
 op (.t 39) .pick [.t 35,.c (.bool true),.t 38],
 op (.v 5) .mv [.t 39]]
def a46s19 : ACode := .reg [] a46r18
def a46r20 : List AOper := [
 op (.t 41) (.bin .eql) [.v 9,.c (.str [77,117,116,97,116,105,111,110])],
 op (.t 40) .mv [.t 41]]
def a46r21 : List AOper := [
 op (.t 42) (.fad 0) [.l 2],
 ⟨.t 43,.ldLc 2 false 1,[.t 42],some 2,none⟩,
 op (.t 44) (.bin .eql) [.t 43,.c (.int .u8 1)],
 op (.t 45) .mv [.t 44],
 ⟨.t 46,.mv,[.v 0],none,some (.t 45,true)⟩,
 ⟨.t 47,.ldLc 4 true 11,[.l 4],some 4,some (.t 45,true)⟩,
 ⟨.t 48,.call 86,[.t 46,.t 47],none,some (.t 45,true)⟩,
 op (.t 49) .pick [.t 45,.t 48,.c (.bool false)],
 op (.v 5) .mv [.t 49]]
def a46s22 : ACode := .reg [] a46r21
def a46s23 : ACode := .test [] a46r20 (.t 40) a46s22 .skip
def a46s24 : ACode := .test [] a46r17 (.t 30) a46s19 a46s23
def a46s25 : ACode := .blk 2 a46s24
def a46s26 : ACode := .seq a46s16 a46s25
def a46r27 : List AOper := [
 op (.t 50) .mv [.v 5],
 op (.t 51) (.un .not) [.t 50]]
def a46r28 : List AOper := [
 op (.t 52) (.fad 0) [.l 4],
 ⟨.t 53,.ldLc 4 false 1,[.t 52],some 4,none⟩,
 op (.t 54) (.build [.int .i64 0,.str []] [(0,1),(1,1)]) [.c (.int .i64 3),.t 53],
 ⟨.none,.stLc 3 2,[.l 3,.t 54],some 3,none⟩]
def a46s29 : ACode := .reg [] a46r28
def a46s30 : ACode := .seq a46s29 .ret
def a46s31 : ACode := .test [] a46r27 (.t 51) a46s30 .skip
def a46s32 : ACode := .seq a46s26 a46s31
def a46s33 : ACode := .seq a46s14 a46s32
def a46s34 : ACode := .seq a46s12 a46s33
def a46s35 : ACode := .blk 1 a46s34
def a46r36 : List AOper := [
 op (.t 55) (.bin .add) [.v 8,.c (.int .i64 1)],
 op (.v 8) .mv [.t 55]]
def a46s37 : ACode := .reg [] a46r36
def a46s38 : ACode := .seq a46s35 a46s37
def a46s39 : ACode := .seq a46s10 a46s38
def a46s40 : ACode := .loop a46s39
def a46s41 : ACode := .blk 0 a46s40
def a46s42 : ACode := .seq a46s8 a46s41
def a46r43 : List AOper := [
 op (.t 56) (.build [.int .i64 0,.str []] []) [],
 ⟨.none,.stLc 3 2,[.l 3,.t 56],some 3,none⟩]
def a46s44 : ACode := .reg [] a46r43
def a46s45 : ACode := .seq a46s44 .ret
def a46s46 : ACode := .seq a46s42 a46s45
def a46s47 : ACode := .seq a46s6 a46s46
def a46s48 : ACode := .seq a46s1 a46s47
def a46c : ACode :=
  a46s48
def a46 : AFn := { np := 2,nv := 10,results := [.bx 3 true 2],code := a46c }
def a46v : List Nat := [0,1,3,4,6,7,18,19,20,29]
def a46b : List Nat := [2,3,4]

def a47r0 : List AOper := [
 op (.v 1) .mv [.c (.bool false)]]
def a47s1 : ACode := .reg [] a47r0
def a47r2 : List AOper := [
 op (.t 3) .mv [.v 0],
 op (.t 4) (.bin .eql) [.t 3,.c (.str [66,111,111,108,101,97,110])],
 op (.t 5) .mv [.t 4],
 ⟨.t 6,.mv,[.v 0],none,some (.t 5,false)⟩,
 ⟨.t 7,.bin .eql,[.t 6,.c (.str [73,68])],none,some (.t 5,false)⟩,
 op (.t 8) .pick [.t 5,.c (.bool true),.t 7],
 op (.t 9) .mv [.t 8],
 ⟨.t 10,.mv,[.v 0],none,some (.t 9,false)⟩,
 ⟨.t 11,.bin .eql,[.t 10,.c (.str [73,110,116])],none,some (.t 9,false)⟩,
 op (.t 12) .pick [.t 9,.c (.bool true),.t 11],
 op (.t 13) .mv [.t 12],
 ⟨.t 14,.mv,[.v 0],none,some (.t 13,false)⟩,
 ⟨.t 15,.bin .eql,[.t 14,.c (.str [83,116,114,105,110,103])],none,some (.t 13,false)⟩,
 op (.t 16) .pick [.t 13,.c (.bool true),.t 15],
 op (.v 1) .mv [.t 16]]
def a47s3 : ACode := .reg [] a47r2
def a47s4 : ACode := .seq a47s3 .ret
def a47s5 : ACode := .seq a47s1 a47s4
def a47c : ACode :=
  a47s5
def a47 : AFn := { np := 1,nv := 2,results := [.v 1],code := a47c }
def a47v : List Nat := [0,2]
def a47b : List Nat := []

def a48r0 : List AOper := [
 op (.v 2) .mv [.c (.bool false)]]
def a48s1 : ACode := .reg [] a48r0
def a48r2 : List AOper := [
 op (.v 3) .mv [.c (.int .i64 0)]]
def a48s3 : ACode := .reg [] a48r2
def a48r4 : List AOper := [
 op (.t 6) .mv [.v 3],
 op (.t 7) .mv [.v 0],
 op (.t 8) .lenL [.t 7],
 op (.t 9) (.bin .lss) [.t 6,.t 8]]
def a48s5 : ACode := .test [] a48r4 (.t 9) .skip (.exit 0)
def a48r6 : List AOper := [
 op (.t 12) .mv [.v 0],
 op (.t 13) .mv [.v 3],
 op (.t 14) (.iad 1) [.t 12,.t 13],
 op (.t 15) (.ldRo false 1) [.t 14],
 op (.t 16) .mv [.v 1],
 op (.t 17) (.bin .eql) [.t 15,.t 16]]
def a48r7 : List AOper := [
 op (.v 2) .mv [.c (.bool true)]]
def a48s8 : ACode := .reg [] a48r7
def a48s9 : ACode := .seq a48s8 .ret
def a48s10 : ACode := .test [] a48r6 (.t 17) a48s9 .skip
def a48s11 : ACode := .blk 1 a48s10
def a48r12 : List AOper := [
 op (.t 10) .mv [.v 3],
 op (.t 11) (.bin .add) [.t 10,.c (.int .i64 1)],
 op (.v 3) .mv [.t 11]]
def a48s13 : ACode := .reg [] a48r12
def a48s14 : ACode := .seq a48s11 a48s13
def a48s15 : ACode := .seq a48s5 a48s14
def a48s16 : ACode := .loop a48s15
def a48s17 : ACode := .blk 0 a48s16
def a48s18 : ACode := .seq a48s3 a48s17
def a48r19 : List AOper := [
 op (.v 2) .mv [.c (.bool false)]]
def a48s20 : ACode := .reg [] a48r19
def a48s21 : ACode := .seq a48s20 .ret
def a48s22 : ACode := .seq a48s18 a48s21
def a48s23 : ACode := .seq a48s1 a48s22
def a48c : ACode :=
  a48s23
def a48 : AFn := { np := 2,nv := 4,results := [.v 2],code := a48c }
def a48v : List Nat := [0,1,4,5]
def a48b : List Nat := []

def a49r0 : List AOper := [
 op (.v 2) .mv [.c (.bool false)]]
def a49s1 : ACode := .reg [] a49r0
def a49r2 : List AOper := [
 op (.t 5) .mv [.v 0],
 op (.t 6) .lenS [.t 5],
 op (.t 7) .mv [.v 1],
 op (.t 8) .lenS [.t 7],
 op (.t 9) (.bin .geq) [.t 6,.t 8],
 op (.t 10) .mv [.t 9],
 ⟨.t 11,.mv,[.v 0],none,some (.t 10,true)⟩,
 ⟨.t 12,.mv,[.v 1],none,some (.t 10,true)⟩,
 ⟨.t 13,.lenS,[.t 12],none,some (.t 10,true)⟩,
 ⟨.t 14,.slS false true,[.t 11,.t 13],none,some (.t 10,true)⟩,
 ⟨.t 15,.mv,[.v 1],none,some (.t 10,true)⟩,
 ⟨.t 16,.bin .eql,[.t 14,.t 15],none,some (.t 10,true)⟩,
 op (.t 17) .pick [.t 10,.t 16,.c (.bool false)],
 op (.v 2) .mv [.t 17]]
def a49s3 : ACode := .reg [] a49r2
def a49s4 : ACode := .seq a49s3 .ret
def a49s5 : ACode := .seq a49s1 a49s4
def a49c : ACode :=
  a49s5
def a49 : AFn := { np := 2,nv := 3,results := [.v 2],code := a49c }
def a49v : List Nat := [0,1,4]
def a49b : List Nat := []

def a50r0 : List AOper := [
 ⟨.bx,.boxV,[.v 1],some 2,none⟩,
 op (.v 3) .mv [.c (.str [])],
 op (.v 4) .mv [.c (.int .i64 0)]]
def a50s1 : ACode := .reg [2] a50r0
def a50r2 : List AOper := [
 op (.t 19) (.fad 0) [.l 2],
 ⟨.t 20,.ldLc 2 false 1,[.t 19],some 2,none⟩,
 op (.t 21) (.bin .eql) [.t 20,.c (.int .u8 1)]]
def a50r3 : List AOper := [
 op (.t 23) (.fad 2) [.l 2],
 ⟨.t 24,.ldLc 2 false 1,[.t 23],some 2,none⟩,
 op (.t 25) (.call 88) [.t 24],
 op (.t 26) (.call 87) [.t 25],
 op (.t 22) .mv [.t 26],
 op (.t 27) (.ext 0) [.t 22],
 op (.t 28) (.ext 1) [.t 22],
 op (.v 5) .mv [.t 27],
 op (.v 6) .mv [.t 28]]
def a50s4 : ACode := .reg [] a50r3
def a50r5 : List AOper := [
 op (.t 29) .mv [.v 6],
 op (.t 30) (.bin .neq) [.t 29,.c (.int .i64 0)]]
def a50r6 : List AOper := [
 op (.t 31) .mv [.v 5],
 op (.t 32) .mv [.v 6],
 op (.v 3) .mv [.t 31],
 op (.v 4) .mv [.t 32]]
def a50s7 : ACode := .reg [] a50r6
def a50s8 : ACode := .seq a50s7 .ret
def a50s9 : ACode := .test [] a50r5 (.t 30) a50s8 .skip
def a50r10 : List AOper := [
 op (.t 34) (.fad 3) [.l 2],
 ⟨.t 35,.ldLc 2 false 1,[.t 34],some 2,none⟩,
 op (.t 36) (.call 87) [.t 35],
 op (.t 33) .mv [.t 36],
 op (.t 37) (.ext 0) [.t 33],
 op (.t 38) (.ext 1) [.t 33],
 op (.v 5) .mv [.t 37],
 op (.v 6) .mv [.t 38]]
def a50s11 : ACode := .reg [] a50r10
def a50r12 : List AOper := [
 op (.t 39) .mv [.v 6],
 op (.t 40) (.bin .neq) [.t 39,.c (.int .i64 0)]]
def a50r13 : List AOper := [
 op (.t 41) .mv [.v 5],
 op (.t 42) .mv [.v 6],
 op (.v 3) .mv [.t 41],
 op (.v 4) .mv [.t 42]]
def a50s14 : ACode := .reg [] a50r13
def a50s15 : ACode := .seq a50s14 .ret
def a50s16 : ACode := .test [] a50r12 (.t 40) a50s15 .skip
def a50s17 : ACode := .seq a50s11 a50s16
def a50s18 : ACode := .seq a50s9 a50s17
def a50s19 : ACode := .seq a50s4 a50s18
def a50r20 : List AOper := [
 op (.v 7) .mv [.c (.list true [])]]
def a50s21 : ACode := .reg [] a50r20
def a50r22 : List AOper := [
 op (.t 43) .mv [.vs 7],
 op (.t 44) (.fad 2) [.l 2],
 ⟨.t 45,.ldLc 2 false 1,[.t 44],some 2,none⟩,
 op (.t 46) (.call 88) [.t 45],
 op (.t 47) (.app 1 16) [.ts 43,.t 46],
 op (.v 7) .mv [.ts 47]]
def a50s23 : ACode := .reg [] a50r22
def a50r24 : List AOper := [
 op (.t 49) .mv [.vs 7],
 op (.t 50) (.fad 3) [.l 2],
 ⟨.t 51,.ldLc 2 false 1,[.t 50],some 2,none⟩,
 op (.t 52) (.app 1 16) [.ts 49,.t 51],
 op (.t 53) (.call 87) [.t 52],
 op (.t 48) .mv [.t 53],
 op (.t 54) (.ext 0) [.t 48],
 op (.t 55) (.ext 1) [.t 48],
 op (.v 8) .mv [.t 54],
 op (.v 9) .mv [.t 55]]
def a50s25 : ACode := .reg [] a50r24
def a50r26 : List AOper := [
 op (.t 56) .mv [.v 9],
 op (.t 57) (.bin .neq) [.t 56,.c (.int .i64 0)]]
def a50r27 : List AOper := [
 op (.t 58) .mv [.v 8],
 op (.t 59) .mv [.v 9],
 op (.v 3) .mv [.t 58],
 op (.v 4) .mv [.t 59]]
def a50s28 : ACode := .reg [] a50r27
def a50s29 : ACode := .seq a50s28 .ret
def a50s30 : ACode := .test [] a50r26 (.t 57) a50s29 .skip
def a50s31 : ACode := .seq a50s25 a50s30
def a50s32 : ACode := .seq a50s23 a50s31
def a50s33 : ACode := .seq a50s21 a50s32
def a50s34 : ACode := .test [] a50r2 (.t 21) a50s19 a50s33
def a50r35 : List AOper := [
 op (.v 10) .mv [.c (.int .i64 0)]]
def a50s36 : ACode := .reg [] a50r35
def a50r37 : List AOper := [
 op (.t 60) .mv [.v 10],
 op (.t 61) (.fad 2) [.l 2],
 ⟨.t 62,.ldLc 2 false 1,[.t 61],some 2,none⟩,
 op (.t 63) .lenL [.t 62],
 op (.t 64) (.bin .lss) [.t 60,.t 63]]
def a50s38 : ACode := .test [] a50r37 (.t 64) .skip (.exit 0)
def a50r39 : List AOper := [
 op (.t 68) .mv [.v 0],
 op (.t 69) (.fad 2) [.l 2],
 ⟨.t 70,.ldLc 2 false 1,[.t 69],some 2,none⟩,
 op (.t 71) .mv [.v 10],
 op (.t 72) (.iad 11) [.t 70,.t 71],
 op (.t 73) (.ldRo true 11) [.t 72],
 op (.t 74) (.fad 0) [.l 2],
 ⟨.t 75,.ldLc 2 false 1,[.t 74],some 2,none⟩,
 op (.t 76) (.bin .eql) [.t 75,.c (.int .u8 5)],
 op (.t 77) (.call 89) [.t 68,.t 73,.t 76],
 op (.t 67) .mv [.t 77],
 op (.t 78) (.ext 0) [.t 67],
 op (.t 79) (.ext 1) [.t 67],
 op (.v 11) .mv [.t 78],
 op (.v 12) .mv [.t 79]]
def a50s40 : ACode := .reg [] a50r39
def a50r41 : List AOper := [
 op (.t 80) .mv [.v 12],
 op (.t 81) (.bin .neq) [.t 80,.c (.int .i64 0)]]
def a50r42 : List AOper := [
 op (.t 82) .mv [.v 11],
 op (.t 83) .mv [.v 12],
 op (.v 3) .mv [.t 82],
 op (.v 4) .mv [.t 83]]
def a50s43 : ACode := .reg [] a50r42
def a50s44 : ACode := .seq a50s43 .ret
def a50s45 : ACode := .test [] a50r41 (.t 81) a50s44 .skip
def a50s46 : ACode := .seq a50s40 a50s45
def a50s47 : ACode := .blk 1 a50s46
def a50r48 : List AOper := [
 op (.t 65) .mv [.v 10],
 op (.t 66) (.bin .add) [.t 65,.c (.int .i64 1)],
 op (.v 10) .mv [.t 66]]
def a50s49 : ACode := .reg [] a50r48
def a50s50 : ACode := .seq a50s47 a50s49
def a50s51 : ACode := .seq a50s38 a50s50
def a50s52 : ACode := .loop a50s51
def a50s53 : ACode := .blk 0 a50s52
def a50s54 : ACode := .seq a50s36 a50s53
def a50r55 : List AOper := [
 op (.v 13) .mv [.c (.int .i64 0)]]
def a50s56 : ACode := .reg [] a50r55
def a50r57 : List AOper := [
 op (.t 84) .mv [.v 13],
 op (.t 85) (.fad 3) [.l 2],
 ⟨.t 86,.ldLc 2 false 1,[.t 85],some 2,none⟩,
 op (.t 87) .lenL [.t 86],
 op (.t 88) (.bin .lss) [.t 84,.t 87],
 op (.t 89) .mv [.t 88],
 ⟨.t 90,.fad 0,[.l 2],none,some (.t 89,true)⟩,
 ⟨.t 91,.ldLc 2 false 1,[.t 90],some 2,some (.t 89,true)⟩,
 ⟨.t 92,.bin .neq,[.t 91,.c (.int .u8 4)],none,some (.t 89,true)⟩,
 op (.t 93) .pick [.t 89,.t 92,.c (.bool false)]]
def a50s58 : ACode := .test [] a50r57 (.t 93) .skip (.exit 2)
def a50r59 : List AOper := [
 op (.t 96) (.fad 3) [.l 2],
 ⟨.t 97,.ldLc 2 false 1,[.t 96],some 2,none⟩,
 op (.t 98) .mv [.v 13],
 op (.t 99) (.iad 1) [.t 97,.t 98],
 op (.t 100) (.ldRo false 1) [.t 99],
 op (.v 14) .mv [.t 100]]
def a50s60 : ACode := .reg [] a50r59
def a50r61 : List AOper := [
 op (.t 101) .mv [.v 0],
 op (.t 102) .mv [.v 14],
 op (.t 103) (.call 51) [.t 101,.t 102],
 ⟨.bx,.alloc [.int .u8 0,.str [],.list true [],.list true []],[],some 15,none⟩,
 ⟨.none,.stLc 15 4,[.l 15,.ts 103],some 15,none⟩]
def a50s62 : ACode := .reg [15] a50r61
def a50r63 : List AOper := [
 op (.t 105) (.fad 0) [.l 15],
 ⟨.t 106,.ldLc 15 false 1,[.t 105],some 15,none⟩,
 op (.t 107) (.bin .eql) [.t 106,.c (.int .u8 0)],
 op (.t 104) .mv [.t 107]]
def a50r64 : List AOper := [
 op (.t 108) .mv [.v 14],
 op (.v 3) .mv [.t 108],
 op (.v 4) .mv [.c (.int .i64 6)]]
def a50s65 : ACode := .reg [] a50r64
def a50s66 : ACode := .seq a50s65 .ret
def a50r67 : List AOper := [
 op (.t 110) (.fad 0) [.l 2],
 ⟨.t 111,.ldLc 2 false 1,[.t 110],some 2,none⟩,
 op (.t 112) (.bin .eql) [.t 111,.c (.int .u8 1)],
 op (.t 113) .mv [.t 112],
 ⟨.t 114,.fad 0,[.l 15],none,some (.t 113,true)⟩,
 ⟨.t 115,.ldLc 15 false 1,[.t 114],some 15,some (.t 113,true)⟩,
 ⟨.t 116,.bin .neq,[.t 115,.c (.int .u8 2)],none,some (.t 113,true)⟩,
 op (.t 117) .pick [.t 113,.t 116,.c (.bool false)],
 op (.t 118) .mv [.t 117],
 ⟨.t 119,.fad 0,[.l 2],none,some (.t 118,false)⟩,
 ⟨.t 120,.ldLc 2 false 1,[.t 119],some 2,some (.t 118,false)⟩,
 ⟨.t 121,.bin .eql,[.t 120,.c (.int .u8 3)],none,some (.t 118,false)⟩,
 ⟨.t 122,.mv,[.t 121],none,some (.t 118,false)⟩,
 ⟨.t 123,.fad 0,[.l 15],none,some (.t 122,true)⟩,
 ⟨.t 124,.ldLc 15 false 1,[.t 123],some 15,some (.t 122,true)⟩,
 ⟨.t 125,.bin .neq,[.t 124,.c (.int .u8 1)],none,some (.t 122,true)⟩,
 ⟨.t 126,.pick,[.t 122,.t 125,.c (.bool false)],none,some (.t 118,false)⟩,
 op (.t 127) .pick [.t 118,.c (.bool true),.t 126],
 op (.t 128) .mv [.t 127],
 ⟨.t 129,.fad 0,[.l 2],none,some (.t 128,false)⟩,
 ⟨.t 130,.ldLc 2 false 1,[.t 129],some 2,some (.t 128,false)⟩,
 ⟨.t 131,.bin .eql,[.t 130,.c (.int .u8 2)],none,some (.t 128,false)⟩,
 op (.t 132) .pick [.t 128,.c (.bool true),.t 131],
 op (.t 133) .mv [.t 132],
 ⟨.t 134,.mv,[.v 14],none,some (.t 133,false)⟩,
 ⟨.t 135,.call 90,[.t 134],none,some (.t 133,false)⟩,
 op (.t 136) .pick [.t 133,.c (.bool true),.t 135],
 op (.t 109) .mv [.t 136]]
def a50r68 : List AOper := [
 op (.t 137) .mv [.v 14],
 op (.v 3) .mv [.t 137],
 op (.v 4) .mv [.c (.int .i64 8)]]
def a50s69 : ACode := .reg [] a50r68
def a50s70 : ACode := .seq a50s69 .ret
def a50s71 : ACode := .test [] a50r67 (.t 109) a50s70 .skip
def a50s72 : ACode := .test [] a50r63 (.t 104) a50s66 a50s71
def a50s73 : ACode := .blk 4 a50s72
def a50r74 : List AOper := [
 op (.v 16) .mv [.c (.int .i64 0)]]
def a50s75 : ACode := .reg [] a50r74
def a50r76 : List AOper := [
 op (.t 138) .mv [.v 16],
 op (.t 139) (.fad 2) [.l 15],
 ⟨.t 140,.ldLc 15 false 1,[.t 139],some 15,none⟩,
 op (.t 141) .lenL [.t 140],
 op (.t 142) (.bin .lss) [.t 138,.t 141],
 op (.t 143) .mv [.t 142],
 ⟨.t 144,.fad 0,[.l 2],none,some (.t 143,true)⟩,
 ⟨.t 145,.ldLc 2 false 1,[.t 144],some 2,some (.t 143,true)⟩,
 ⟨.t 146,.bin .eql,[.t 145,.c (.int .u8 1)],none,some (.t 143,true)⟩,
 op (.t 147) .pick [.t 143,.t 146,.c (.bool false)]]
def a50s77 : ACode := .test [] a50r76 (.t 147) .skip (.exit 5)
def a50r78 : List AOper := [
 op (.t 150) (.fad 2) [.l 2],
 ⟨.t 151,.ldLc 2 false 1,[.t 150],some 2,none⟩,
 op (.t 152) (.fad 2) [.l 15],
 ⟨.t 153,.ldLc 15 false 1,[.t 152],some 15,none⟩,
 op (.t 154) .mv [.v 16],
 op (.t 155) (.iad 11) [.t 153,.t 154],
 op (.t 156) (.fad 0) [.t 155],
 op (.t 157) (.ldRo false 1) [.t 156],
 op (.t 158) (.call 91) [.t 151,.t 157],
 op (.v 17) .mv [.t 158]]
def a50s79 : ACode := .reg [] a50r78
def a50r80 : List AOper := [
 op (.t 159) .mv [.v 17],
 op (.t 160) (.bin .lss) [.t 159,.c (.int .i64 0)],
 op (.t 161) .mv [.t 160],
 ⟨.t 162,.fad 2,[.l 2],none,some (.t 161,false)⟩,
 ⟨.t 163,.ldLc 2 false 1,[.t 162],some 2,some (.t 161,false)⟩,
 ⟨.t 164,.mv,[.v 17],none,some (.t 161,false)⟩,
 ⟨.t 165,.iad 11,[.t 163,.t 164],none,some (.t 161,false)⟩,
 ⟨.t 166,.fad 2,[.t 165],none,some (.t 161,false)⟩,
 ⟨.t 167,.ldRo true 3,[.t 166],none,some (.t 161,false)⟩,
 ⟨.t 168,.fad 2,[.l 15],none,some (.t 161,false)⟩,
 ⟨.t 169,.ldLc 15 false 1,[.t 168],some 15,some (.t 161,false)⟩,
 ⟨.t 170,.mv,[.v 16],none,some (.t 161,false)⟩,
 ⟨.t 171,.iad 11,[.t 169,.t 170],none,some (.t 161,false)⟩,
 ⟨.t 172,.fad 2,[.t 171],none,some (.t 161,false)⟩,
 ⟨.t 173,.ldRo true 3,[.t 172],none,some (.t 161,false)⟩,
 ⟨.t 174,.call 92,[.t 167,.t 173],none,some (.t 161,false)⟩,
 ⟨.t 175,.un .not,[.t 174],none,some (.t 161,false)⟩,
 op (.t 176) .pick [.t 161,.c (.bool true),.t 175]]
def a50r81 : List AOper := [
 op (.t 177) .mv [.v 14],
 op (.v 3) .mv [.t 177],
 op (.v 4) .mv [.c (.int .i64 3)]]
def a50s82 : ACode := .reg [] a50r81
def a50s83 : ACode := .seq a50s82 .ret
def a50s84 : ACode := .test [] a50r80 (.t 176) a50s83 .skip
def a50s85 : ACode := .seq a50s79 a50s84
def a50s86 : ACode := .blk 6 a50s85
def a50r87 : List AOper := [
 op (.t 148) .mv [.v 16],
 op (.t 149) (.bin .add) [.t 148,.c (.int .i64 1)],
 op (.v 16) .mv [.t 149]]
def a50s88 : ACode := .reg [] a50r87
def a50s89 : ACode := .seq a50s86 a50s88
def a50s90 : ACode := .seq a50s77 a50s89
def a50s91 : ACode := .loop a50s90
def a50s92 : ACode := .blk 5 a50s91
def a50s93 : ACode := .seq a50s75 a50s92
def a50s94 : ACode := .seq a50s73 a50s93
def a50s95 : ACode := .seq a50s62 a50s94
def a50s96 : ACode := .seq a50s60 a50s95
def a50s97 : ACode := .blk 3 a50s96
def a50r98 : List AOper := [
 op (.t 94) .mv [.v 13],
 op (.t 95) (.bin .add) [.t 94,.c (.int .i64 1)],
 op (.v 13) .mv [.t 95]]
def a50s99 : ACode := .reg [] a50r98
def a50s100 : ACode := .seq a50s97 a50s99
def a50s101 : ACode := .seq a50s58 a50s100
def a50s102 : ACode := .loop a50s101
def a50s103 : ACode := .blk 2 a50s102
def a50s104 : ACode := .seq a50s56 a50s103
def a50r105 : List AOper := [
 op (.v 3) .mv [.c (.str [])],
 op (.v 4) .mv [.c (.int .i64 0)]]
def a50s106 : ACode := .reg [] a50r105
def a50s107 : ACode := .seq a50s106 .ret
def a50s108 : ACode := .seq a50s104 a50s107
def a50s109 : ACode := .seq a50s54 a50s108
def a50s110 : ACode := .seq a50s34 a50s109
def a50s111 : ACode := .seq a50s1 a50s110
def a50c : ACode :=
  a50s111
def a50 : AFn := { np := 2,nv := 18,results := [.v 3,.v 4],code := a50c }
def a50v : List Nat := [0,1,3,4,5,6,7,8,9,10,11,12,13,14,15,16,17,18]
def a50b : List Nat := [2,15]

def a51r0 : List AOper := [
 ⟨.bx,.alloc [.int .u8 0,.str [],.list true [],.list true []],[],some 2,none⟩]
def a51s1 : ACode := .reg [2] a51r0
def a51r2 : List AOper := [
 op (.v 3) .mv [.c (.int .i64 0)]]
def a51s3 : ACode := .reg [] a51r2
def a51r4 : List AOper := [
 op (.t 6) .mv [.v 3],
 op (.t 7) .mv [.v 0],
 op (.t 8) .nilchk [.t 7],
 op (.t 9) (.fad 0) [.t 8],
 op (.t 10) (.ldSt false 1) [.t 9],
 op (.t 11) .lenL [.t 10],
 op (.t 12) (.bin .lss) [.t 6,.t 11]]
def a51s5 : ACode := .test [] a51r4 (.t 12) .skip (.exit 0)
def a51r6 : List AOper := [
 op (.t 15) .mv [.v 0],
 op (.t 16) .nilchk [.t 15],
 op (.t 17) (.fad 0) [.t 16],
 op (.t 18) (.ldSt false 1) [.t 17],
 op (.t 19) .mv [.v 3],
 op (.t 20) (.iad 4) [.t 18,.t 19],
 op (.t 21) (.fad 1) [.t 20],
 op (.t 22) (.ldRo false 1) [.t 21],
 op (.t 23) .mv [.v 1],
 op (.t 24) (.bin .eql) [.t 22,.t 23]]
def a51r7 : List AOper := [
 op (.t 25) .mv [.v 0],
 op (.t 26) .nilchk [.t 25],
 op (.t 27) (.fad 0) [.t 26],
 op (.t 28) (.ldSt false 1) [.t 27],
 op (.t 29) .mv [.v 3],
 op (.t 30) (.iad 4) [.t 28,.t 29],
 op (.t 31) (.ldRo true 4) [.t 30],
 ⟨.none,.stLc 2 4,[.l 2,.ts 31],some 2,none⟩]
def a51s8 : ACode := .reg [] a51r7
def a51s9 : ACode := .seq a51s8 .ret
def a51s10 : ACode := .test [] a51r6 (.t 24) a51s9 .skip
def a51s11 : ACode := .blk 1 a51s10
def a51r12 : List AOper := [
 op (.t 13) .mv [.v 3],
 op (.t 14) (.bin .add) [.t 13,.c (.int .i64 1)],
 op (.v 3) .mv [.t 14]]
def a51s13 : ACode := .reg [] a51r12
def a51s14 : ACode := .seq a51s11 a51s13
def a51s15 : ACode := .seq a51s5 a51s14
def a51s16 : ACode := .loop a51s15
def a51s17 : ACode := .blk 0 a51s16
def a51s18 : ACode := .seq a51s3 a51s17
def a51r19 : List AOper := [
 op (.t 32) (.build [.int .u8 0,.str [],.list true [],.list true []] []) [],
 ⟨.none,.stLc 2 4,[.l 2,.ts 32],some 2,none⟩]
def a51s20 : ACode := .reg [] a51r19
def a51s21 : ACode := .seq a51s20 .ret
def a51s22 : ACode := .seq a51s18 a51s21
def a51s23 : ACode := .seq a51s1 a51s22
def a51c : ACode :=
  a51s23
def a51 : AFn := { np := 2,nv := 4,results := [.bx 2 true 4],code := a51c }
def a51v : List Nat := [0,1,4,5]
def a51b : List Nat := [2]

def a52r0 : List AOper := [
 ⟨.bx,.boxV,[.v 1],some 3,none⟩,
 ⟨.bx,.boxV,[.v 2],some 4,none⟩,
 op (.v 5) .mv [.c (.bool false)]]
def a52s1 : ACode := .reg [3,4] a52r0
def a52r2 : List AOper := [
 op (.t 8) (.fad 1) [.l 3],
 ⟨.v 7,.ldLc 3 false 1,[.t 8],some 3,none⟩]
def a52s3 : ACode := .reg [] a52r2
def a52r4 : List AOper := [
 op (.t 11) (.bin .eql) [.v 7,.c (.str [81,117,101,114,121])],
 op (.t 10) .mv [.t 11]]
def a52r5 : List AOper := [
 op (.t 12) (.fad 2) [.l 4],
 ⟨.t 13,.ldLc 4 true 3,[.t 12],some 4,none⟩,
 op (.t 14) (.call 93) [.t 13],
 op (.v 6) .mv [.t 14]]
def a52s6 : ACode := .reg [] a52r5
def a52r7 : List AOper := [
 op (.t 15) .mv [.v 0],
 op (.t 16) .mv [.v 6],
 op (.t 17) (.call 94) [.t 15,.t 16],
 op (.t 18) (.un .not) [.t 17]]
def a52r8 : List AOper := [
 op (.v 5) .mv [.c (.bool false)]]
def a52s9 : ACode := .reg [] a52r8
def a52s10 : ACode := .seq a52s9 .ret
def a52s11 : ACode := .test [] a52r7 (.t 18) a52s10 .skip
def a52r12 : List AOper := [
 op (.t 19) (.fad 1) [.l 4],
 ⟨.t 20,.ldLc 4 false 1,[.t 19],some 4,none⟩,
 op (.t 21) .lenL [.t 20],
 op (.t 22) (.bin .eql) [.t 21,.c (.int .i64 1)]]
def a52r13 : List AOper := [
 op (.t 23) (.fad 1) [.l 4],
 ⟨.t 24,.ldLc 4 false 1,[.t 23],some 4,none⟩,
 op (.t 25) (.iad 11) [.t 24,.c (.int .i64 0)],
 op (.t 26) (.ldRo true 11) [.t 25],
 op (.t 27) (.call 95) [.t 26],
 op (.t 28) .mv [.t 27],
 ⟨.t 29,.fad 2,[.l 4],none,some (.t 28,true)⟩,
 ⟨.t 30,.fad 1,[.t 29],none,some (.t 28,true)⟩,
 ⟨.t 31,.ldLc 4 false 1,[.t 30],some 4,some (.t 28,true)⟩,
 ⟨.t 32,.lenL,[.t 31],none,some (.t 28,true)⟩,
 ⟨.t 33,.bin .eql,[.t 32,.c (.int .i64 0)],none,some (.t 28,true)⟩,
 op (.t 34) .pick [.t 28,.t 33,.c (.bool false)],
 op (.t 35) .mv [.t 34],
 ⟨.t 36,.fad 2,[.l 4],none,some (.t 35,true)⟩,
 ⟨.t 37,.fad 2,[.t 36],none,some (.t 35,true)⟩,
 ⟨.t 38,.ldLc 4 false 1,[.t 37],some 4,some (.t 35,true)⟩,
 ⟨.t 39,.un .not,[.t 38],none,some (.t 35,true)⟩,
 op (.t 40) .pick [.t 35,.t 39,.c (.bool false)],
 op (.v 5) .mv [.t 40]]
def a52s14 : ACode := .reg [] a52r13
def a52s15 : ACode := .seq a52s14 .ret
def a52s16 : ACode := .test [] a52r12 (.t 22) a52s15 .skip
def a52r17 : List AOper := [
 op (.t 41) (.fad 1) [.l 4],
 ⟨.t 42,.ldLc 4 false 1,[.t 41],some 4,none⟩,
 op (.t 43) .lenL [.t 42],
 op (.t 44) (.bin .eql) [.t 43,.c (.int .i64 0)],
 op (.t 45) .mv [.t 44],
 ⟨.t 46,.fad 2,[.l 4],none,some (.t 45,true)⟩,
 ⟨.t 47,.fad 1,[.t 46],none,some (.t 45,true)⟩,
 ⟨.t 48,.ldLc 4 false 1,[.t 47],some 4,some (.t 45,true)⟩,
 ⟨.t 49,.lenL,[.t 48],none,some (.t 45,true)⟩,
 ⟨.t 50,.bin .gtr,[.t 49,.c (.int .i64 0)],none,some (.t 45,true)⟩,
 op (.t 51) .pick [.t 45,.t 50,.c (.bool false)],
 op (.t 52) .mv [.t 51],
 ⟨.t 53,.fad 2,[.l 4],none,some (.t 52,true)⟩,
 ⟨.t 54,.fad 2,[.t 53],none,some (.t 52,true)⟩,
 ⟨.t 55,.ldLc 4 false 1,[.t 54],some 4,some (.t 52,true)⟩,
 op (.t 56) .pick [.t 52,.t 55,.c (.bool false)],
 op (.t 57) .mv [.t 56],
 ⟨.t 58,.fad 2,[.l 4],none,some (.t 57,true)⟩,
 ⟨.t 59,.fad 0,[.t 58],none,some (.t 57,true)⟩,
 ⟨.t 60,.ldLc 4 false 1,[.t 59],some 4,some (.t 57,true)⟩,
 ⟨.t 61,.bin .eql,[.t 60,.c (.str [])],none,some (.t 57,true)⟩,
 op (.t 62) .pick [.t 57,.t 61,.c (.bool false)],
 op (.t 63) .mv [.t 62],
 ⟨.t 64,.fad 2,[.l 4],none,some (.t 63,true)⟩,
 ⟨.t 65,.fad 1,[.t 64],none,some (.t 63,true)⟩,
 ⟨.t 66,.ldLc 4 false 1,[.t 65],some 4,some (.t 63,true)⟩,
 ⟨.t 67,.iad 3,[.t 66,.c (.int .i64 0)],none,some (.t 63,true)⟩,
 ⟨.t 68,.fad 1,[.t 67],none,some (.t 63,true)⟩,
 ⟨.t 69,.ldRo false 1,[.t 68],none,some (.t 63,true)⟩,
 ⟨.t 70,.lenL,[.t 69],none,some (.t 63,true)⟩,
 ⟨.t 71,.bin .eql,[.t 70,.c (.int .i64 0)],none,some (.t 63,true)⟩,
 op (.t 72) .pick [.t 63,.t 71,.c (.bool false)],
 op (.t 73) .mv [.t 72],
 ⟨.t 74,.fad 2,[.l 4],none,some (.t 73,true)⟩,
 ⟨.t 75,.fad 1,[.t 74],none,some (.t 73,true)⟩,
 ⟨.t 76,.ldLc 4 false 1,[.t 75],some 4,some (.t 73,true)⟩,
 ⟨.t 77,.iad 3,[.t 76,.c (.int .i64 0)],none,some (.t 73,true)⟩,
 ⟨.t 78,.fad 2,[.t 77],none,some (.t 73,true)⟩,
 ⟨.t 79,.ldRo false 1,[.t 78],none,some (.t 73,true)⟩,
 op (.t 80) .pick [.t 73,.t 79,.c (.bool false)],
 op (.v 5) .mv [.t 80]]
def a52s18 : ACode := .reg [] a52r17
def a52s19 : ACode := .seq a52s18 .ret
def a52s20 : ACode := .seq a52s16 a52s19
def a52s21 : ACode := .seq a52s11 a52s20
def a52s22 : ACode := .seq a52s6 a52s21
def a52r23 : List AOper := [
 op (.t 82) (.bin .eql) [.v 7,.c (.str [77,117,116,97,116,105,111,110])],
 op (.t 81) .mv [.t 82]]
def a52r24 : List AOper := [
 op (.t 83) (.fad 0) [.l 3],
 ⟨.t 84,.ldLc 3 false 1,[.t 83],some 3,none⟩,
 op (.t 85) (.bin .eql) [.t 84,.c (.int .u8 1)],
 op (.t 86) .mv [.t 85],
 ⟨.t 87,.mv,[.v 0],none,some (.t 86,true)⟩,
 ⟨.t 88,.ldLc 4 true 11,[.l 4],some 4,some (.t 86,true)⟩,
 ⟨.t 89,.call 96,[.t 87,.t 88],none,some (.t 86,true)⟩,
 op (.t 90) .pick [.t 86,.t 89,.c (.bool false)],
 op (.v 5) .mv [.t 90]]
def a52s25 : ACode := .reg [] a52r24
def a52s26 : ACode := .seq a52s25 .ret
def a52s27 : ACode := .test [] a52r23 (.t 81) a52s26 .skip
def a52s28 : ACode := .test [] a52r4 (.t 10) a52s22 a52s27
def a52s29 : ACode := .blk 0 a52s28
def a52s30 : ACode := .seq a52s3 a52s29
def a52r31 : List AOper := [
 op (.t 91) (.fad 1) [.l 4],
 ⟨.t 92,.ldLc 4 false 1,[.t 91],some 4,none⟩,
 op (.t 93) .lenL [.t 92],
 op (.t 94) (.bin .eql) [.t 93,.c (.int .i64 0)],
 op (.v 5) .mv [.t 94]]
def a52s32 : ACode := .reg [] a52r31
def a52s33 : ACode := .seq a52s32 .ret
def a52s34 : ACode := .seq a52s30 a52s33
def a52s35 : ACode := .seq a52s1 a52s34
def a52c : ACode :=
  a52s35
def a52 : AFn := { np := 3,nv := 8,results := [.v 5],code := a52c }
def a52v : List Nat := [0,1,2,4,5,6,7,9]
def a52b : List Nat := [3,4]

def a53r0 : List AOper := [
 ⟨.bx,.alloc [.int .u8 0,.str [],.int .i64 0,.int .i64 0],[],some 2,none⟩,
 op (.v 3) .mv [.c (.int .i64 0)],
 op (.v 4) .mv [.c (.int .i64 0)],
 op (.v 5) .mv [.c (.int .i64 0)]]
def a53s1 : ACode := .reg [2] a53r0
def a53r2 : List AOper := [
 op (.t 10) .mv [.v 0],
 op (.t 11) .mv [.v 1],
 op (.t 12) .idxS [.t 10,.t 11],
 op (.v 6) .mv [.t 12]]
def a53s3 : ACode := .reg [] a53r2
def a53r4 : List AOper := [
 op (.t 13) .mv [.v 1],
 op (.v 7) .mv [.t 13]]
def a53s5 : ACode := .reg [] a53r4
def a53r6 : List AOper := [
 op (.t 15) .mv [.v 6],
 op (.t 16) (.call 97) [.t 15],
 op (.t 14) .mv [.t 16]]
def a53r7 : List AOper := [
 op (.t 17) .mv [.v 7],
 op (.t 18) .mv [.v 0],
 op (.t 19) .lenS [.t 18],
 op (.t 20) (.bin .lss) [.t 17,.t 19],
 op (.t 21) .mv [.t 20],
 ⟨.t 22,.mv,[.v 0],none,some (.t 21,true)⟩,
 ⟨.t 23,.mv,[.v 7],none,some (.t 21,true)⟩,
 ⟨.t 24,.idxS,[.t 22,.t 23],none,some (.t 21,true)⟩,
 ⟨.t 25,.call 97,[.t 24],none,some (.t 21,true)⟩,
 ⟨.t 26,.mv,[.t 25],none,some (.t 21,true)⟩,
 ⟨.t 27,.mv,[.v 0],none,some (.t 26,false)⟩,
 ⟨.t 28,.mv,[.v 7],none,some (.t 26,false)⟩,
 ⟨.t 29,.idxS,[.t 27,.t 28],none,some (.t 26,false)⟩,
 ⟨.t 30,.call 98,[.t 29],none,some (.t 26,false)⟩,
 ⟨.t 31,.pick,[.t 26,.c (.bool true),.t 30],none,some (.t 21,true)⟩,
 op (.t 32) .pick [.t 21,.t 31,.c (.bool false)]]
def a53s8 : ACode := .test [] a53r7 (.t 32) .skip (.exit 1)
def a53r9 : List AOper := [
 op (.t 33) .mv [.v 7],
 op (.t 34) (.bin .add) [.t 33,.c (.int .i64 1)],
 op (.v 7) .mv [.t 34]]
def a53s10 : ACode := .reg [] a53r9
def a53s11 : ACode := .blk 2 a53s10
def a53s12 : ACode := .seq a53s8 a53s11
def a53s13 : ACode := .loop a53s12
def a53s14 : ACode := .blk 1 a53s13
def a53r15 : List AOper := [
 op (.t 35) .mv [.v 7],
 op (.t 36) .mv [.v 1],
 op (.t 37) (.bin .sub) [.t 35,.t 36],
 op (.t 38) (.bin .gtr) [.t 37,.c (.int .i64 32)]]
def a53r16 : List AOper := [
 op (.t 39) (.build [.int .u8 0,.str [],.int .i64 0,.int .i64 0] []) [],
 op (.t 40) .mv [.v 1],
 ⟨.none,.stLc 2 4,[.l 2,.t 39],some 2,none⟩,
 op (.v 3) .mv [.c (.int .i64 0)],
 op (.v 4) .mv [.t 40],
 op (.v 5) .mv [.c (.int .i64 2)]]
def a53s17 : ACode := .reg [] a53r16
def a53s18 : ACode := .seq a53s17 .ret
def a53s19 : ACode := .test [] a53r15 (.t 38) a53s18 .skip
def a53r20 : List AOper := [
 op (.t 41) .mv [.v 0],
 op (.t 42) .mv [.v 1],
 op (.t 43) .mv [.v 7],
 op (.t 44) (.slS true true) [.t 41,.t 42,.t 43],
 op (.t 45) (.build [.int .u8 0,.str [],.int .i64 0,.int .i64 0] [(0,1),(1,1)]) [.c (.int .u8 1),.t 44],
 op (.t 46) .mv [.v 7],
 ⟨.none,.stLc 2 4,[.l 2,.t 45],some 2,none⟩,
 op (.v 3) .mv [.t 46],
 op (.v 4) .mv [.c (.int .i64 0)],
 op (.v 5) .mv [.c (.int .i64 0)]]
def a53s21 : ACode := .reg [] a53r20
def a53s22 : ACode := .seq a53s21 .ret
def a53s23 : ACode := .seq a53s19 a53s22
def a53s24 : ACode := .seq a53s14 a53s23
def a53r25 : List AOper := [
 op (.t 48) .mv [.v 6],
 op (.t 49) (.bin .eql) [.t 48,.c (.int .u8 45)],
 op (.t 50) .mv [.t 49],
 ⟨.t 51,.mv,[.v 6],none,some (.t 50,false)⟩,
 ⟨.t 52,.call 98,[.t 51],none,some (.t 50,false)⟩,
 op (.t 53) .pick [.t 50,.c (.bool true),.t 52],
 op (.t 47) .mv [.t 53]]
def a53r26 : List AOper := [
 op (.t 54) .mv [.v 0],
 op (.t 55) .mv [.v 1],
 op (.t 56) (.call 99) [.t 54,.t 55],
 op (.t 57) (.ext 0) [.t 56],
 op (.t 58) (.ext 1) [.t 56],
 op (.t 59) (.ext 2) [.t 56],
 op (.t 60) (.ext 3) [.t 56],
 ⟨.none,.stLc 2 4,[.l 2,.t 57],some 2,none⟩,
 op (.v 3) .mv [.t 58],
 op (.v 4) .mv [.t 59],
 op (.v 5) .mv [.t 60]]
def a53s27 : ACode := .reg [] a53r26
def a53s28 : ACode := .seq a53s27 .ret
def a53r29 : List AOper := [
 op (.t 62) .mv [.v 6],
 op (.t 63) (.bin .eql) [.t 62,.c (.int .u8 34)],
 op (.t 61) .mv [.t 63]]
def a53r30 : List AOper := [
 op (.t 64) .mv [.v 0],
 op (.t 65) .mv [.v 1],
 op (.t 66) (.call 100) [.t 64,.t 65],
 op (.t 67) (.ext 0) [.t 66],
 op (.t 68) (.ext 1) [.t 66],
 op (.t 69) (.ext 2) [.t 66],
 op (.t 70) (.ext 3) [.t 66],
 ⟨.none,.stLc 2 4,[.l 2,.t 67],some 2,none⟩,
 op (.v 3) .mv [.t 68],
 op (.v 4) .mv [.t 69],
 op (.v 5) .mv [.t 70]]
def a53s31 : ACode := .reg [] a53r30
def a53s32 : ACode := .seq a53s31 .ret
def a53r33 : List AOper := [
 op (.t 72) .mv [.v 6],
 op (.t 73) (.bin .eql) [.t 72,.c (.int .u8 46)],
 op (.t 71) .mv [.t 73]]
def a53r34 : List AOper := [
 op (.t 74) .mv [.v 0],
 op (.t 75) .lenS [.t 74],
 op (.t 76) .mv [.v 1],
 op (.t 77) (.bin .sub) [.t 75,.t 76],
 op (.t 78) (.bin .geq) [.t 77,.c (.int .i64 3)],
 op (.t 79) .mv [.t 78],
 ⟨.t 80,.mv,[.v 0],none,some (.t 79,true)⟩,
 ⟨.t 81,.mv,[.v 1],none,some (.t 79,true)⟩,
 ⟨.t 82,.bin .add,[.t 81,.c (.int .i64 1)],none,some (.t 79,true)⟩,
 ⟨.t 83,.idxS,[.t 80,.t 82],none,some (.t 79,true)⟩,
 ⟨.t 84,.bin .eql,[.t 83,.c (.int .u8 46)],none,some (.t 79,true)⟩,
 op (.t 85) .pick [.t 79,.t 84,.c (.bool false)],
 op (.t 86) .mv [.t 85],
 ⟨.t 87,.mv,[.v 0],none,some (.t 86,true)⟩,
 ⟨.t 88,.mv,[.v 1],none,some (.t 86,true)⟩,
 ⟨.t 89,.bin .add,[.t 88,.c (.int .i64 2)],none,some (.t 86,true)⟩,
 ⟨.t 90,.idxS,[.t 87,.t 89],none,some (.t 86,true)⟩,
 ⟨.t 91,.bin .eql,[.t 90,.c (.int .u8 46)],none,some (.t 86,true)⟩,
 op (.t 92) .pick [.t 86,.t 91,.c (.bool false)]]
def a53r35 : List AOper := [
 op (.t 93) (.build [.int .u8 0,.str [],.int .i64 0,.int .i64 0] [(0,1),(1,1)]) [.c (.int .u8 4),.c (.str [46,46,46])],
 op (.t 94) .mv [.v 1],
 op (.t 95) (.bin .add) [.t 94,.c (.int .i64 3)],
 ⟨.none,.stLc 2 4,[.l 2,.t 93],some 2,none⟩,
 op (.v 3) .mv [.t 95],
 op (.v 4) .mv [.c (.int .i64 0)],
 op (.v 5) .mv [.c (.int .i64 0)]]
def a53s36 : ACode := .reg [] a53r35
def a53s37 : ACode := .seq a53s36 .ret
def a53s38 : ACode := .test [] a53r34 (.t 92) a53s37 .skip
def a53r39 : List AOper := [
 op (.t 96) (.build [.int .u8 0,.str [],.int .i64 0,.int .i64 0] []) [],
 op (.t 97) .mv [.v 1],
 ⟨.none,.stLc 2 4,[.l 2,.t 96],some 2,none⟩,
 op (.v 3) .mv [.c (.int .i64 0)],
 op (.v 4) .mv [.t 97],
 op (.v 5) .mv [.c (.int .i64 4)]]
def a53s40 : ACode := .reg [] a53r39
def a53s41 : ACode := .seq a53s40 .ret
def a53s42 : ACode := .seq a53s38 a53s41
def a53r43 : List AOper := [
 op (.t 99) .mv [.v 6],
 op (.t 100) (.bin .eql) [.t 99,.c (.int .u8 33)],
 op (.t 101) .mv [.t 100],
 ⟨.t 102,.mv,[.v 6],none,some (.t 101,false)⟩,
 ⟨.t 103,.bin .eql,[.t 102,.c (.int .u8 36)],none,some (.t 101,false)⟩,
 op (.t 104) .pick [.t 101,.c (.bool true),.t 103],
 op (.t 105) .mv [.t 104],
 ⟨.t 106,.mv,[.v 6],none,some (.t 105,false)⟩,
 ⟨.t 107,.bin .eql,[.t 106,.c (.int .u8 40)],none,some (.t 105,false)⟩,
 op (.t 108) .pick [.t 105,.c (.bool true),.t 107],
 op (.t 109) .mv [.t 108],
 ⟨.t 110,.mv,[.v 6],none,some (.t 109,false)⟩,
 ⟨.t 111,.bin .eql,[.t 110,.c (.int .u8 41)],none,some (.t 109,false)⟩,
 op (.t 112) .pick [.t 109,.c (.bool true),.t 111],
 op (.t 113) .mv [.t 112],
 ⟨.t 114,.mv,[.v 6],none,some (.t 113,false)⟩,
 ⟨.t 115,.bin .eql,[.t 114,.c (.int .u8 58)],none,some (.t 113,false)⟩,
 op (.t 116) .pick [.t 113,.c (.bool true),.t 115],
 op (.t 117) .mv [.t 116],
 ⟨.t 118,.mv,[.v 6],none,some (.t 117,false)⟩,
 ⟨.t 119,.bin .eql,[.t 118,.c (.int .u8 61)],none,some (.t 117,false)⟩,
 op (.t 120) .pick [.t 117,.c (.bool true),.t 119],
 op (.t 121) .mv [.t 120],
 ⟨.t 122,.mv,[.v 6],none,some (.t 121,false)⟩,
 ⟨.t 123,.bin .eql,[.t 122,.c (.int .u8 64)],none,some (.t 121,false)⟩,
 op (.t 124) .pick [.t 121,.c (.bool true),.t 123],
 op (.t 125) .mv [.t 124],
 ⟨.t 126,.mv,[.v 6],none,some (.t 125,false)⟩,
 ⟨.t 127,.bin .eql,[.t 126,.c (.int .u8 91)],none,some (.t 125,false)⟩,
 op (.t 128) .pick [.t 125,.c (.bool true),.t 127],
 op (.t 129) .mv [.t 128],
 ⟨.t 130,.mv,[.v 6],none,some (.t 129,false)⟩,
 ⟨.t 131,.bin .eql,[.t 130,.c (.int .u8 93)],none,some (.t 129,false)⟩,
 op (.t 132) .pick [.t 129,.c (.bool true),.t 131],
 op (.t 133) .mv [.t 132],
 ⟨.t 134,.mv,[.v 6],none,some (.t 133,false)⟩,
 ⟨.t 135,.bin .eql,[.t 134,.c (.int .u8 123)],none,some (.t 133,false)⟩,
 op (.t 136) .pick [.t 133,.c (.bool true),.t 135],
 op (.t 137) .mv [.t 136],
 ⟨.t 138,.mv,[.v 6],none,some (.t 137,false)⟩,
 ⟨.t 139,.bin .eql,[.t 138,.c (.int .u8 124)],none,some (.t 137,false)⟩,
 op (.t 140) .pick [.t 137,.c (.bool true),.t 139],
 op (.t 141) .mv [.t 140],
 ⟨.t 142,.mv,[.v 6],none,some (.t 141,false)⟩,
 ⟨.t 143,.bin .eql,[.t 142,.c (.int .u8 125)],none,some (.t 141,false)⟩,
 op (.t 144) .pick [.t 141,.c (.bool true),.t 143],
 op (.t 145) .mv [.t 144],
 ⟨.t 146,.mv,[.v 6],none,some (.t 145,false)⟩,
 ⟨.t 147,.bin .eql,[.t 146,.c (.int .u8 38)],none,some (.t 145,false)⟩,
 op (.t 148) .pick [.t 145,.c (.bool true),.t 147],
 op (.t 98) .mv [.t 148]]
def a53r44 : List AOper := [
 op (.t 149) .mv [.v 0],
 op (.t 150) .mv [.v 1],
 op (.t 151) .mv [.v 1],
 op (.t 152) (.bin .add) [.t 151,.c (.int .i64 1)],
 op (.t 153) (.slS true true) [.t 149,.t 150,.t 152],
 op (.t 154) (.build [.int .u8 0,.str [],.int .i64 0,.int .i64 0] [(0,1),(1,1)]) [.c (.int .u8 4),.t 153],
 op (.t 155) .mv [.v 1],
 op (.t 156) (.bin .add) [.t 155,.c (.int .i64 1)],
 ⟨.none,.stLc 2 4,[.l 2,.t 154],some 2,none⟩,
 op (.v 3) .mv [.t 156],
 op (.v 4) .mv [.c (.int .i64 0)],
 op (.v 5) .mv [.c (.int .i64 0)]]
def a53s45 : ACode := .reg [] a53r44
def a53s46 : ACode := .seq a53s45 .ret
def a53s47 : ACode := .test [] a53r43 (.t 98) a53s46 .skip
def a53s48 : ACode := .test [] a53r33 (.t 71) a53s42 a53s47
def a53s49 : ACode := .test [] a53r29 (.t 61) a53s32 a53s48
def a53s50 : ACode := .test [] a53r25 (.t 47) a53s28 a53s49
def a53s51 : ACode := .test [] a53r6 (.t 14) a53s24 a53s50
def a53s52 : ACode := .blk 0 a53s51
def a53r53 : List AOper := [
 op (.t 157) (.build [.int .u8 0,.str [],.int .i64 0,.int .i64 0] []) [],
 op (.t 158) .mv [.v 1],
 ⟨.none,.stLc 2 4,[.l 2,.t 157],some 2,none⟩,
 op (.v 3) .mv [.c (.int .i64 0)],
 op (.v 4) .mv [.t 158],
 op (.v 5) .mv [.c (.int .i64 4)]]
def a53s54 : ACode := .reg [] a53r53
def a53s55 : ACode := .seq a53s54 .ret
def a53s56 : ACode := .seq a53s52 a53s55
def a53s57 : ACode := .seq a53s5 a53s56
def a53s58 : ACode := .seq a53s3 a53s57
def a53s59 : ACode := .seq a53s1 a53s58
def a53c : ACode :=
  a53s59
def a53 : AFn := { np := 2,nv := 8,results := [.bx 2 true 4,.v 3,.v 4,.v 5],code := a53c }
def a53v : List Nat := [0,1,4,5,6,7,8,9]
def a53b : List Nat := [2]

def a54r0 : List AOper := [
 op (.v 1) .mv [.c (.bool false)]]
def a54s1 : ACode := .reg [] a54r0
def a54r2 : List AOper := [
 op (.t 3) .mv [.v 0],
 op (.t 4) .nilchk [.t 3],
 op (.t 5) (.fad 2) [.t 4],
 op (.t 6) (.ldSt false 1) [.t 5],
 op (.t 7) (.bin .add) [.t 6,.c (.int .i64 1)],
 op (.t 8) .nilchk [.t 3],
 op (.t 9) (.fad 2) [.t 8],
 op .none (.stSt 1) [.t 9,.t 7]]
def a54s3 : ACode := .reg [] a54r2
def a54r4 : List AOper := [
 op (.t 10) .mv [.v 0],
 op (.t 11) .nilchk [.t 10],
 op (.t 12) (.fad 2) [.t 11],
 op (.t 13) (.ldSt false 1) [.t 12],
 op (.t 14) (.bin .gtr) [.t 13,.c (.int .i64 24)]]
def a54r5 : List AOper := [
 op (.t 15) .mv [.v 0],
 op (.t 16) (.call 18) [.t 15,.c (.int .i64 5)]]
def a54s6 : ACode := .reg [] a54r5
def a54s7 : ACode := .test [] a54r4 (.t 14) a54s6 .skip
def a54r8 : List AOper := [
 op (.t 17) .mv [.v 0],
 op (.t 18) .nilchk [.t 17],
 op (.t 19) (.fad 4) [.t 18],
 op (.t 20) (.ldSt false 1) [.t 19],
 op (.t 21) (.bin .eql) [.t 20,.c (.int .i64 0)],
 op (.v 1) .mv [.t 21]]
def a54s9 : ACode := .reg [] a54r8
def a54s10 : ACode := .seq a54s9 .ret
def a54s11 : ACode := .seq a54s7 a54s10
def a54s12 : ACode := .seq a54s3 a54s11
def a54s13 : ACode := .seq a54s1 a54s12
def a54c : ACode :=
  a54s13
def a54 : AFn := { np := 1,nv := 2,results := [.v 1],code := a54c }
def a54v : List Nat := [0,2]
def a54b : List Nat := []

def a55r0 : List AOper := [
 ⟨.bx,.alloc [.int .u8 0,.str [],.str [],.str [],.list true [],.list true [],.list true []],[],some 1,none⟩]
def a55s1 : ACode := .reg [1] a55r0
def a55r2 : List AOper := [
 op (.t 5) .mv [.v 0],
 op (.t 6) (.call 23) [.t 5,.c (.str [46,46,46])],
 op (.t 7) (.un .not) [.t 6]]
def a55r3 : List AOper := [
 op (.t 8) .mv [.v 0],
 op (.t 9) (.call 19) [.t 8],
 op (.t 10) (.build [.int .u8 0,.str [],.str [],.str [],.list true [],.list true [],.list true []] [(0,1),(2,1)]) [.c (.int .u8 1),.t 9],
 ⟨.bx,.alloc [.int .u8 0,.str [],.str [],.str [],.list true [],.list true [],.list true []],[],some 2,none⟩,
 ⟨.none,.stLc 2 7,[.l 2,.ts 10],some 2,none⟩]
def a55s4 : ACode := .reg [2] a55r3
def a55r5 : List AOper := [
 op (.t 11) .mv [.v 0],
 op (.t 12) (.call 23) [.t 11,.c (.str [58])]]
def a55r6 : List AOper := [
 op (.t 13) (.fad 2) [.l 2],
 ⟨.t 14,.ldLc 2 false 1,[.t 13],some 2,none⟩,
 op (.t 15) (.fad 1) [.l 2],
 ⟨.none,.stLc 2 1,[.t 15,.t 14],some 2,none⟩]
def a55s7 : ACode := .reg [] a55r6
def a55r8 : List AOper := [
 op (.t 16) .mv [.v 0],
 op (.t 17) (.call 19) [.t 16],
 op (.t 18) (.fad 2) [.l 2],
 ⟨.none,.stLc 2 1,[.t 18,.t 17],some 2,none⟩]
def a55s9 : ACode := .reg [] a55r8
def a55s10 : ACode := .seq a55s7 a55s9
def a55s11 : ACode := .test [] a55r5 (.t 12) a55s10 .skip
def a55r12 : List AOper := [
 op (.t 19) .mv [.v 0],
 op (.t 20) (.call 101) [.t 19],
 op (.t 21) (.fad 4) [.l 2],
 ⟨.none,.stLc 2 1,[.t 21,.ts 20],some 2,none⟩]
def a55s13 : ACode := .reg [] a55r12
def a55r14 : List AOper := [
 op (.t 22) .mv [.v 0],
 op (.t 23) (.call 102) [.t 22],
 op (.t 24) (.fad 5) [.l 2],
 ⟨.none,.stLc 2 1,[.t 24,.ts 23],some 2,none⟩]
def a55s15 : ACode := .reg [] a55r14
def a55r16 : List AOper := [
 op (.t 25) .mv [.v 0],
 op (.t 26) (.call 22) [.t 25,.c (.str [123])]]
def a55r17 : List AOper := [
 op (.t 27) .mv [.v 0],
 op (.t 28) (.call 21) [.t 27],
 op (.t 29) (.fad 6) [.l 2],
 ⟨.none,.stLc 2 1,[.t 29,.ts 28],some 2,none⟩]
def a55s18 : ACode := .reg [] a55r17
def a55s19 : ACode := .test [] a55r16 (.t 26) a55s18 .skip
def a55r20 : List AOper := [
 ⟨.t 30,.ldLc 2 true 7,[.l 2],some 2,none⟩,
 ⟨.none,.stLc 1 7,[.l 1,.ts 30],some 1,none⟩]
def a55s21 : ACode := .reg [] a55r20
def a55s22 : ACode := .seq a55s21 .ret
def a55s23 : ACode := .seq a55s19 a55s22
def a55s24 : ACode := .seq a55s15 a55s23
def a55s25 : ACode := .seq a55s13 a55s24
def a55s26 : ACode := .seq a55s11 a55s25
def a55s27 : ACode := .seq a55s4 a55s26
def a55s28 : ACode := .test [] a55r2 (.t 7) a55s27 .skip
def a55r29 : List AOper := [
 op (.t 31) (.build [.int .u8 0,.str [],.str [],.str [],.list true [],.list true [],.list true []] [(0,1)]) [.c (.int .u8 3)],
 ⟨.bx,.alloc [.int .u8 0,.str [],.str [],.str [],.list true [],.list true [],.list true []],[],some 3,none⟩,
 ⟨.none,.stLc 3 7,[.l 3,.ts 31],some 3,none⟩]
def a55s30 : ACode := .reg [3] a55r29
def a55r31 : List AOper := [
 op (.t 32) .mv [.v 0],
 op (.t 33) (.call 23) [.t 32,.c (.str [111,110])]]
def a55r32 : List AOper := [
 op (.t 34) .mv [.v 0],
 op (.t 35) (.call 19) [.t 34],
 op (.t 36) (.fad 3) [.l 3],
 ⟨.none,.stLc 3 1,[.t 36,.t 35],some 3,none⟩]
def a55s33 : ACode := .reg [] a55r32
def a55r34 : List AOper := [
 op (.t 37) .mv [.v 0],
 op (.t 38) (.call 16) [.t 37,.c (.int .u8 1)]]
def a55r35 : List AOper := [
 op (.t 39) (.fad 0) [.l 3],
 ⟨.none,.stLc 3 1,[.t 39,.c (.int .u8 2)],some 3,none⟩]
def a55s36 : ACode := .reg [] a55r35
def a55r37 : List AOper := [
 op (.t 40) .mv [.v 0],
 op (.t 41) (.call 19) [.t 40],
 op (.t 42) (.fad 2) [.l 3],
 ⟨.none,.stLc 3 1,[.t 42,.t 41],some 3,none⟩]
def a55s38 : ACode := .reg [] a55r37
def a55r39 : List AOper := [
 op (.t 43) .mv [.v 0],
 op (.t 44) (.call 102) [.t 43],
 op (.t 45) (.fad 5) [.l 3],
 ⟨.none,.stLc 3 1,[.t 45,.ts 44],some 3,none⟩]
def a55s40 : ACode := .reg [] a55r39
def a55r41 : List AOper := [
 ⟨.t 46,.ldLc 3 true 7,[.l 3],some 3,none⟩,
 ⟨.none,.stLc 1 7,[.l 1,.ts 46],some 1,none⟩]
def a55s42 : ACode := .reg [] a55r41
def a55s43 : ACode := .seq a55s42 .ret
def a55s44 : ACode := .seq a55s40 a55s43
def a55s45 : ACode := .seq a55s38 a55s44
def a55s46 : ACode := .seq a55s36 a55s45
def a55s47 : ACode := .test [] a55r34 (.t 38) a55s46 .skip
def a55s48 : ACode := .test [] a55r31 (.t 33) a55s33 a55s47
def a55r49 : List AOper := [
 op (.t 47) .mv [.v 0],
 op (.t 48) (.call 102) [.t 47],
 op (.t 49) (.fad 5) [.l 3],
 ⟨.none,.stLc 3 1,[.t 49,.ts 48],some 3,none⟩]
def a55s50 : ACode := .reg [] a55r49
def a55r51 : List AOper := [
 op (.t 50) .mv [.v 0],
 op (.t 51) (.call 21) [.t 50],
 op (.t 52) (.fad 6) [.l 3],
 ⟨.none,.stLc 3 1,[.t 52,.ts 51],some 3,none⟩]
def a55s52 : ACode := .reg [] a55r51
def a55r53 : List AOper := [
 ⟨.t 53,.ldLc 3 true 7,[.l 3],some 3,none⟩,
 ⟨.none,.stLc 1 7,[.l 1,.ts 53],some 1,none⟩]
def a55s54 : ACode := .reg [] a55r53
def a55s55 : ACode := .seq a55s54 .ret
def a55s56 : ACode := .seq a55s52 a55s55
def a55s57 : ACode := .seq a55s50 a55s56
def a55s58 : ACode := .seq a55s48 a55s57
def a55s59 : ACode := .seq a55s30 a55s58
def a55s60 : ACode := .seq a55s28 a55s59
def a55s61 : ACode := .seq a55s1 a55s60
def a55c : ACode :=
  a55s61
def a55 : AFn := { np := 1,nv := 4,results := [.bx 1 true 7],code := a55c }
def a55v : List Nat := [0,2,3,4]
def a55b : List Nat := [1,2,3]

def a56r0 : List AOper := [
 ⟨.bx,.alloc [.str [],.list true [],.bool false],[],some 1,none⟩]
def a56s1 : ACode := .reg [1] a56r0
def a56r2 : List AOper := [
 ⟨.bx,.alloc [.str [],.list true [],.bool false],[],some 2,none⟩]
def a56s3 : ACode := .reg [2] a56r2
def a56r4 : List AOper := [
 op (.t 5) .mv [.v 0],
 op (.t 6) (.call 54) [.t 5]]
def a56r5 : List AOper := [
 op (.t 7) .mv [.v 0],
 op (.t 8) (.call 23) [.t 7,.c (.str [91])]]
def a56r6 : List AOper := [
 op (.t 9) .mv [.v 0],
 op (.t 10) (.call 56) [.t 9],
 ⟨.bx,.alloc [.str [],.list true [],.bool false],[],some 3,none⟩,
 ⟨.none,.stLc 3 3,[.l 3,.ts 10],some 3,none⟩]
def a56s7 : ACode := .reg [3] a56r6
def a56r8 : List AOper := [
 ⟨.t 11,.ldLc 3 true 3,[.l 3],some 3,none⟩,
 op (.t 12) (.bslice 3 [[.str [],.list true [],.bool false]] [0]) [.t 11],
 op (.t 13) (.fad 1) [.l 2],
 ⟨.none,.stLc 2 1,[.t 13,.ts 12],some 2,none⟩]
def a56s9 : ACode := .reg [] a56r8
def a56r10 : List AOper := [
 op (.t 14) .mv [.v 0],
 op (.t 15) (.call 20) [.t 14,.c (.str [93])]]
def a56s11 : ACode := .reg [] a56r10
def a56s12 : ACode := .seq a56s9 a56s11
def a56s13 : ACode := .seq a56s7 a56s12
def a56r14 : List AOper := [
 op (.t 16) .mv [.v 0],
 op (.t 17) (.call 19) [.t 16],
 op (.t 18) (.fad 0) [.l 2],
 ⟨.none,.stLc 2 1,[.t 18,.t 17],some 2,none⟩]
def a56s15 : ACode := .reg [] a56r14
def a56s16 : ACode := .test [] a56r5 (.t 8) a56s13 a56s15
def a56r17 : List AOper := [
 op (.t 19) .mv [.v 0],
 op (.t 20) (.call 23) [.t 19,.c (.str [33])],
 op (.t 21) (.fad 2) [.l 2],
 ⟨.none,.stLc 2 1,[.t 21,.t 20],some 2,none⟩]
def a56s18 : ACode := .reg [] a56r17
def a56s19 : ACode := .seq a56s16 a56s18
def a56s20 : ACode := .test [] a56r4 (.t 6) a56s19 .skip
def a56r21 : List AOper := [
 op (.t 22) .mv [.v 0],
 op (.t 23) .nilchk [.t 22],
 op (.t 24) (.fad 2) [.t 23],
 op (.t 25) (.ldSt false 1) [.t 24],
 op (.t 26) (.bin .sub) [.t 25,.c (.int .i64 1)],
 op (.t 27) .nilchk [.t 22],
 op (.t 28) (.fad 2) [.t 27],
 op .none (.stSt 1) [.t 28,.t 26]]
def a56s22 : ACode := .reg [] a56r21
def a56r23 : List AOper := [
 ⟨.t 29,.ldLc 2 true 3,[.l 2],some 2,none⟩,
 ⟨.none,.stLc 1 3,[.l 1,.ts 29],some 1,none⟩]
def a56s24 : ACode := .reg [] a56r23
def a56s25 : ACode := .seq a56s24 .ret
def a56s26 : ACode := .seq a56s22 a56s25
def a56s27 : ACode := .seq a56s20 a56s26
def a56s28 : ACode := .seq a56s3 a56s27
def a56s29 : ACode := .seq a56s1 a56s28
def a56c : ACode :=
  a56s29
def a56 : AFn := { np := 1,nv := 4,results := [.bx 1 true 3],code := a56c }
def a56v : List Nat := [0,2,3,4]
def a56b : List Nat := [1,2,3]

def a57r0 : List AOper := [
 ⟨.bx,.alloc [.int .u8 0,.int .i64 0,.str [],.list true [],.list true []],[],some 2,none⟩]
def a57s1 : ACode := .reg [2] a57r0
def a57r2 : List AOper := [
 ⟨.bx,.alloc [.int .u8 0,.int .i64 0,.str [],.list true [],.list true []],[],some 3,none⟩]
def a57s3 : ACode := .reg [3] a57r2
def a57r4 : List AOper := [
 op (.t 6) .mv [.v 0],
 op (.t 7) (.call 54) [.t 6]]
def a57r5 : List AOper := [
 op (.t 8) .mv [.v 0],
 op (.t 9) .mv [.v 1],
 op (.t 10) (.call 103) [.t 8,.t 9],
 ⟨.none,.stLc 3 5,[.l 3,.ts 10],some 3,none⟩]
def a57s6 : ACode := .reg [] a57r5
def a57s7 : ACode := .test [] a57r4 (.t 7) a57s6 .skip
def a57r8 : List AOper := [
 op (.t 11) .mv [.v 0],
 op (.t 12) .nilchk [.t 11],
 op (.t 13) (.fad 2) [.t 12],
 op (.t 14) (.ldSt false 1) [.t 13],
 op (.t 15) (.bin .sub) [.t 14,.c (.int .i64 1)],
 op (.t 16) .nilchk [.t 11],
 op (.t 17) (.fad 2) [.t 16],
 op .none (.stSt 1) [.t 17,.t 15]]
def a57s9 : ACode := .reg [] a57r8
def a57r10 : List AOper := [
 ⟨.t 18,.ldLc 3 true 5,[.l 3],some 3,none⟩,
 ⟨.none,.stLc 2 5,[.l 2,.ts 18],some 2,none⟩]
def a57s11 : ACode := .reg [] a57r10
def a57s12 : ACode := .seq a57s11 .ret
def a57s13 : ACode := .seq a57s9 a57s12
def a57s14 : ACode := .seq a57s7 a57s13
def a57s15 : ACode := .seq a57s3 a57s14
def a57s16 : ACode := .seq a57s1 a57s15
def a57c : ACode :=
  a57s16
def a57 : AFn := { np := 2,nv := 4,results := [.bx 2 true 5],code := a57c }
def a57v : List Nat := [0,1,4,5]
def a57b : List Nat := [2,3]

def a58r0 : List AOper := [
 ⟨.bx,.alloc [.str [],.str [],.list true []],[],some 2,none⟩,
 op (.v 3) .mv [.c (.bool false)]]
def a58s1 : ACode := .reg [2] a58r0
def a58r2 : List AOper := [
 op (.t 8) .mv [.v 0],
 op (.t 9) .nilchk [.t 8],
 op (.t 10) (.fad 1) [.t 9],
 op (.t 11) (.fad 1) [.t 10],
 op (.v 5) (.ldSt false 1) [.t 11],
 op (.v 6) .lenL [.v 5],
 op (.v 7) .mv [.c (.int .i64 0)]]
def a58s3 : ACode := .reg [] a58r2
def a58r4 : List AOper := [
 op (.t 15) (.bin .lss) [.v 7,.v 6]]
def a58s5 : ACode := .test [] a58r4 (.t 15) .skip (.exit 0)
def a58r6 : List AOper := [
 op (.t 16) (.iad 3) [.v 5,.v 7],
 op (.t 17) (.ldRo true 3) [.t 16],
 ⟨.bx,.alloc [.str [],.str [],.list true []],[],some 4,none⟩,
 ⟨.none,.stLc 4 3,[.l 4,.ts 17],some 4,none⟩]
def a58s7 : ACode := .reg [4] a58r6
def a58r8 : List AOper := [
 op (.t 18) (.fad 0) [.l 4],
 ⟨.t 19,.ldLc 4 false 1,[.t 18],some 4,none⟩,
 op (.t 20) .mv [.v 1],
 op (.t 21) (.bin .eql) [.t 19,.t 20]]
def a58r9 : List AOper := [
 ⟨.t 22,.ldLc 4 true 3,[.l 4],some 4,none⟩,
 ⟨.none,.stLc 2 3,[.l 2,.ts 22],some 2,none⟩,
 op (.v 3) .mv [.c (.bool true)]]
def a58s10 : ACode := .reg [] a58r9
def a58s11 : ACode := .seq a58s10 .ret
def a58s12 : ACode := .test [] a58r8 (.t 21) a58s11 .skip
def a58s13 : ACode := .seq a58s7 a58s12
def a58s14 : ACode := .blk 1 a58s13
def a58r15 : List AOper := [
 op (.t 23) (.bin .add) [.v 7,.c (.int .i64 1)],
 op (.v 7) .mv [.t 23]]
def a58s16 : ACode := .reg [] a58r15
def a58s17 : ACode := .seq a58s14 a58s16
def a58s18 : ACode := .seq a58s5 a58s17
def a58s19 : ACode := .loop a58s18
def a58s20 : ACode := .blk 0 a58s19
def a58s21 : ACode := .seq a58s3 a58s20
def a58r22 : List AOper := [
 op (.t 24) (.build [.str [],.str [],.list true []] []) [],
 ⟨.none,.stLc 2 3,[.l 2,.ts 24],some 2,none⟩,
 op (.v 3) .mv [.c (.bool false)]]
def a58s23 : ACode := .reg [] a58r22
def a58s24 : ACode := .seq a58s23 .ret
def a58s25 : ACode := .seq a58s21 a58s24
def a58s26 : ACode := .seq a58s1 a58s25
def a58c : ACode :=
  a58s26
def a58 : AFn := { np := 2,nv := 8,results := [.bx 2 true 3,.v 3],code := a58c }
def a58v : List Nat := [0,1,4,5,7,12,13,14]
def a58b : List Nat := [2,4]

def a59r0 : List AOper := [
 ⟨.bx,.boxV,[.v 0],some 1,none⟩,
 op (.v 2) .mv [.c (.str [])]]
def a59s1 : ACode := .reg [1] a59r0
def a59r2 : List AOper := [
 op (.t 3) (.fad 0) [.l 1],
 ⟨.t 4,.ldLc 1 false 1,[.t 3],some 1,none⟩]
def a59r3 : List AOper := [
 op (.v 2) .mv [.c (.str [77,117,116,97,116,105,111,110])]]
def a59s4 : ACode := .reg [] a59r3
def a59s5 : ACode := .seq a59s4 .ret
def a59s6 : ACode := .test [] a59r2 (.t 4) a59s5 .skip
def a59r7 : List AOper := [
 op (.v 2) .mv [.c (.str [81,117,101,114,121])]]
def a59s8 : ACode := .reg [] a59r7
def a59s9 : ACode := .seq a59s8 .ret
def a59s10 : ACode := .seq a59s6 a59s9
def a59s11 : ACode := .seq a59s1 a59s10
def a59c : ACode :=
  a59s11
def a59 : AFn := { np := 1,nv := 3,results := [.v 2],code := a59c }
def a59v : List Nat := [0,1,2]
def a59b : List Nat := [1]

def a60r0 : List AOper := [
 op (.v 2) .mv [.c (.list true [])]]
def a60s1 : ACode := .reg [] a60r0
def a60r2 : List AOper := [
 op (.v 3) .mv [.c (.list true [])]]
def a60s3 : ACode := .reg [] a60r2
def a60r4 : List AOper := [
 op (.v 5) .mv [.v 0],
 op (.v 6) .lenL [.v 5],
 op (.v 7) .mv [.c (.int .i64 0)]]
def a60s5 : ACode := .reg [] a60r4
def a60r6 : List AOper := [
 op (.t 11) (.bin .lss) [.v 7,.v 6]]
def a60s7 : ACode := .test [] a60r6 (.t 11) .skip (.exit 0)
def a60r8 : List AOper := [
 op (.t 12) (.iad 10) [.v 5,.v 7],
 op (.t 13) (.ldRo true 10) [.t 12],
 ⟨.bx,.alloc [.str [],.str [],.list true [],.bool false,.bool false,.int .u8 0,.int .i64 0,.str [],.list true [],.list true []],[],some 4,none⟩,
 ⟨.none,.stLc 4 10,[.l 4,.ts 13],some 4,none⟩]
def a60s9 : ACode := .reg [4] a60r8
def a60r10 : List AOper := [
 op (.t 14) .mv [.vs 3],
 op (.t 15) .mv [.v 1],
 ⟨.t 16,.ldLc 4 true 10,[.l 4],some 4,none⟩,
 op (.t 17) .callV [.t 15,.t 16],
 op (.t 18) (.bslice 1 [[.str []]] [0]) [.t 17],
 op (.t 19) (.app 1 16) [.ts 14,.t 18],
 op (.v 3) .mv [.ts 19]]
def a60s11 : ACode := .reg [] a60r10
def a60s12 : ACode := .seq a60s9 a60s11
def a60s13 : ACode := .blk 1 a60s12
def a60r14 : List AOper := [
 op (.t 20) (.bin .add) [.v 7,.c (.int .i64 1)],
 op (.v 7) .mv [.t 20]]
def a60s15 : ACode := .reg [] a60r14
def a60s16 : ACode := .seq a60s13 a60s15
def a60s17 : ACode := .seq a60s7 a60s16
def a60s18 : ACode := .loop a60s17
def a60s19 : ACode := .blk 0 a60s18
def a60s20 : ACode := .seq a60s5 a60s19
def a60r21 : List AOper := [
 op (.t 21) .mv [.v 3],
 op (.v 2) .mv [.ts 21]]
def a60s22 : ACode := .reg [] a60r21
def a60s23 : ACode := .seq a60s22 .ret
def a60s24 : ACode := .seq a60s20 a60s23
def a60s25 : ACode := .seq a60s3 a60s24
def a60s26 : ACode := .seq a60s1 a60s25
def a60c : ACode :=
  a60s26
def a60 : AFn := { np := 2,nv := 8,results := [.v 2],code := a60c }
def a60v : List Nat := [0,1,4,5,7,8,9,10]
def a60b : List Nat := [4]

def a61r0 : List AOper := [
 ⟨.bx,.boxV,[.v 0],some 1,none⟩,
 op (.v 2) .mv [.c (.str [])]]
def a61s1 : ACode := .reg [1] a61r0
def a61r2 : List AOper := [
 op (.t 3) (.fad 0) [.l 1],
 ⟨.t 4,.ldLc 1 false 1,[.t 3],some 1,none⟩,
 op (.v 2) .mv [.t 4]]
def a61s3 : ACode := .reg [] a61r2
def a61s4 : ACode := .seq a61s3 .ret
def a61s5 : ACode := .seq a61s1 a61s4
def a61c : ACode :=
  a61s5
def a61 : AFn := { np := 1,nv := 3,results := [.v 2],code := a61c }
def a61v : List Nat := [0,1,2]
def a61b : List Nat := [1]

def a62r0 : List AOper := [
 ⟨.bx,.boxV,[.v 0],some 1,none⟩,
 op (.v 2) .mv [.c (.str [])]]
def a62s1 : ACode := .reg [1] a62r0
def a62r2 : List AOper := [
 op (.t 3) (.fad 1) [.l 1],
 ⟨.t 4,.ldLc 1 false 1,[.t 3],some 1,none⟩,
 op (.t 5) .lenL [.t 4],
 op (.t 6) (.bin .gtr) [.t 5,.c (.int .i64 0)]]
def a62s3 : ACode := .test [] a62r2 (.t 6) .skip (.exit 0)
def a62r4 : List AOper := [
 op (.t 7) (.fad 1) [.l 1],
 ⟨.t 8,.ldLc 1 false 1,[.t 7],some 1,none⟩,
 op (.t 9) (.iad 3) [.t 8,.c (.int .i64 0)],
 op (.t 10) (.ldRo true 3) [.t 9],
 ⟨.none,.stLc 1 3,[.l 1,.ts 10],some 1,none⟩]
def a62s5 : ACode := .reg [] a62r4
def a62s6 : ACode := .blk 1 a62s5
def a62s7 : ACode := .seq a62s3 a62s6
def a62s8 : ACode := .loop a62s7
def a62s9 : ACode := .blk 0 a62s8
def a62r10 : List AOper := [
 op (.t 11) (.fad 0) [.l 1],
 ⟨.t 12,.ldLc 1 false 1,[.t 11],some 1,none⟩,
 op (.v 2) .mv [.t 12]]
def a62s11 : ACode := .reg [] a62r10
def a62s12 : ACode := .seq a62s11 .ret
def a62s13 : ACode := .seq a62s9 a62s12
def a62s14 : ACode := .seq a62s1 a62s13
def a62c : ACode :=
  a62s14
def a62 : AFn := { np := 1,nv := 3,results := [.v 2],code := a62c }
def a62v : List Nat := [0,1,2]
def a62b : List Nat := [1]

def a63r0 : List AOper := [
 op (.v 2) .mv [.c (.bool false)]]
def a63s1 : ACode := .reg [] a63r0
def a63r2 : List AOper := [
 op (.t 5) .mv [.v 0],
 op (.t 6) .mv [.v 1],
 op (.t 7) (.call 104) [.t 5,.t 6],
 op (.t 8) .mv [.t 7],
 ⟨.t 9,.mv,[.v 0],none,some (.t 8,false)⟩,
 ⟨.t 10,.mv,[.v 1],none,some (.t 8,false)⟩,
 ⟨.t 11,.call 105,[.t 9,.t 10],none,some (.t 8,false)⟩,
 op (.t 12) .pick [.t 8,.c (.bool true),.t 11],
 op (.v 2) .mv [.t 12]]
def a63s3 : ACode := .reg [] a63r2
def a63s4 : ACode := .seq a63s3 .ret
def a63s5 : ACode := .seq a63s1 a63s4
def a63c : ACode :=
  a63s5
def a63 : AFn := { np := 2,nv := 3,results := [.v 2],code := a63c }
def a63v : List Nat := [0,1,4]
def a63b : List Nat := []

def a64r0 : List AOper := [
 op (.v 2) .mv [.c (.bool false)]]
def a64s1 : ACode := .reg [] a64r0
def a64r2 : List AOper := [
 op (.t 5) .mv [.v 0],
 op (.t 6) .mv [.v 1],
 op (.t 7) (.call 106) [.t 5,.t 6,.c (.int .u8 5)],
 op (.v 2) .mv [.t 7]]
def a64s3 : ACode := .reg [] a64r2
def a64s4 : ACode := .seq a64s3 .ret
def a64s5 : ACode := .seq a64s1 a64s4
def a64c : ACode :=
  a64s5
def a64 : AFn := { np := 2,nv := 3,results := [.v 2],code := a64c }
def a64v : List Nat := [0,1,4]
def a64b : List Nat := []

def a65r0 : List AOper := [
 op (.v 3) .boxO [.v 0],
 op (.v 4) .boxO [.v 1],
 ⟨.bx,.boxV,[.v 2],some 5,none⟩,
 op (.v 6) .mv [.c (.bool false)]]
def a65s1 : ACode := .reg [5] a65r0
def a65r2 : List AOper := [
 op (.t 9) (.fad 0) [.l 5],
 ⟨.t 10,.ldLc 5 false 1,[.t 9],some 5,none⟩,
 op (.t 11) (.bin .eql) [.t 10,.c (.int .u8 0)]]
def a65r3 : List AOper := [
 op (.t 12) (.fad 2) [.v 4],
 op (.t 13) (.ldSt false 1) [.t 12],
 op (.t 14) (.un .not) [.t 13],
 op (.v 6) .mv [.t 14]]
def a65s4 : ACode := .reg [] a65r3
def a65s5 : ACode := .seq a65s4 .ret
def a65s6 : ACode := .test [] a65r2 (.t 11) a65s5 .skip
def a65r7 : List AOper := [
 op (.t 15) (.fad 1) [.v 4],
 op (.t 16) (.ldSt false 1) [.t 15],
 op (.t 17) .lenL [.t 16],
 op (.t 18) (.bin .gtr) [.t 17,.c (.int .i64 0)]]
def a65r8 : List AOper := [
 op (.t 19) (.fad 0) [.l 5],
 ⟨.t 20,.ldLc 5 false 1,[.t 19],some 5,none⟩,
 op (.t 21) (.bin .neq) [.t 20,.c (.int .u8 5)]]
def a65r9 : List AOper := [
 op (.t 22) (.ldSt false 1) [.v 3],
 op (.t 23) (.fad 1) [.v 4],
 op (.t 24) (.ldSt false 1) [.t 23],
 op (.t 25) (.iad 3) [.t 24,.c (.int .i64 0)],
 op (.t 26) (.ldRo true 3) [.t 25],
 ⟨.t 27,.ldLc 5 true 5,[.l 5],some 5,none⟩,
 op (.t 28) (.call 65) [.t 22,.t 26,.t 27],
 op (.v 6) .mv [.t 28]]
def a65s10 : ACode := .reg [] a65r9
def a65s11 : ACode := .seq a65s10 .ret
def a65s12 : ACode := .test [] a65r8 (.t 21) a65s11 .skip
def a65r13 : List AOper := [
 op (.t 29) (.fad 4) [.l 5],
 ⟨.t 30,.ldLc 5 false 1,[.t 29],some 5,none⟩,
 op (.t 31) (.mkF 108 0) [.v 3,.v 4],
 op (.t 32) (.call 107) [.t 30,.t 31],
 op (.t 33) (.un .not) [.t 32],
 op (.v 6) .mv [.t 33]]
def a65s14 : ACode := .reg [] a65r13
def a65s15 : ACode := .seq a65s14 .ret
def a65s16 : ACode := .seq a65s12 a65s15
def a65s17 : ACode := .test [] a65r7 (.t 18) a65s16 .skip
def a65r18 : List AOper := [
 op (.t 34) (.fad 0) [.v 4],
 op (.v 8) (.ldSt false 1) [.t 34]]
def a65s19 : ACode := .reg [] a65r18
def a65r20 : List AOper := [
 op (.t 37) (.bin .eql) [.v 8,.c (.str [73,110,116])],
 op (.t 36) .mv [.t 37]]
def a65r21 : List AOper := [
 op (.t 38) (.fad 0) [.l 5],
 ⟨.t 39,.ldLc 5 false 1,[.t 38],some 5,none⟩,
 op (.t 40) (.bin .eql) [.t 39,.c (.int .u8 1)],
 op (.t 41) .mv [.t 40],
 ⟨.t 42,.fad 1,[.l 5],none,some (.t 41,true)⟩,
 ⟨.t 43,.ldLc 5 false 1,[.t 42],some 5,some (.t 41,true)⟩,
 ⟨.t 44,.fad 1,[.l 5],none,some (.t 41,true)⟩,
 ⟨.t 45,.ldLc 5 false 1,[.t 44],some 5,some (.t 41,true)⟩,
 ⟨.t 46,.conv .i32,[.t 45],none,some (.t 41,true)⟩,
 ⟨.t 47,.conv .i64,[.t 46],none,some (.t 41,true)⟩,
 ⟨.t 48,.bin .eql,[.t 43,.t 47],none,some (.t 41,true)⟩,
 op (.t 49) .pick [.t 41,.t 48,.c (.bool false)],
 op (.v 6) .mv [.t 49]]
def a65s22 : ACode := .reg [] a65r21
def a65s23 : ACode := .seq a65s22 .ret
def a65r24 : List AOper := [
 op (.t 51) (.bin .eql) [.v 8,.c (.str [83,116,114,105,110,103])],
 op (.t 50) .mv [.t 51]]
def a65r25 : List AOper := [
 op (.t 52) (.fad 0) [.l 5],
 ⟨.t 53,.ldLc 5 false 1,[.t 52],some 5,none⟩,
 op (.t 54) (.bin .eql) [.t 53,.c (.int .u8 2)],
 op (.v 6) .mv [.t 54]]
def a65s26 : ACode := .reg [] a65r25
def a65s27 : ACode := .seq a65s26 .ret
def a65r28 : List AOper := [
 op (.t 56) (.bin .eql) [.v 8,.c (.str [66,111,111,108,101,97,110])],
 op (.t 55) .mv [.t 56]]
def a65r29 : List AOper := [
 op (.t 57) (.fad 0) [.l 5],
 ⟨.t 58,.ldLc 5 false 1,[.t 57],some 5,none⟩,
 op (.t 59) (.bin .eql) [.t 58,.c (.int .u8 3)],
 op (.v 6) .mv [.t 59]]
def a65s30 : ACode := .reg [] a65r29
def a65s31 : ACode := .seq a65s30 .ret
def a65r32 : List AOper := [
 op (.t 61) (.bin .eql) [.v 8,.c (.str [73,68])],
 op (.t 60) .mv [.t 61]]
def a65r33 : List AOper := [
 op (.t 62) (.fad 0) [.l 5],
 ⟨.t 63,.ldLc 5 false 1,[.t 62],some 5,none⟩,
 op (.t 64) (.bin .eql) [.t 63,.c (.int .u8 2)],
 op (.t 65) .mv [.t 64],
 ⟨.t 66,.fad 0,[.l 5],none,some (.t 65,false)⟩,
 ⟨.t 67,.ldLc 5 false 1,[.t 66],some 5,some (.t 65,false)⟩,
 ⟨.t 68,.bin .eql,[.t 67,.c (.int .u8 1)],none,some (.t 65,false)⟩,
 op (.t 69) .pick [.t 65,.c (.bool true),.t 68],
 op (.v 6) .mv [.t 69]]
def a65s34 : ACode := .reg [] a65r33
def a65s35 : ACode := .seq a65s34 .ret
def a65s36 : ACode := .test [] a65r32 (.t 60) a65s35 .skip
def a65s37 : ACode := .test [] a65r28 (.t 55) a65s31 a65s36
def a65s38 : ACode := .test [] a65r24 (.t 50) a65s27 a65s37
def a65s39 : ACode := .test [] a65r20 (.t 36) a65s23 a65s38
def a65s40 : ACode := .blk 0 a65s39
def a65s41 : ACode := .seq a65s19 a65s40
def a65r42 : List AOper := [
 op (.t 71) (.ldSt false 1) [.v 3],
 op (.t 72) (.fad 0) [.v 4],
 op (.t 73) (.ldSt false 1) [.t 72],
 op (.t 74) (.call 45) [.t 71,.t 73],
 op (.t 70) .mv [.t 74],
 op (.t 75) (.ext 0) [.t 70],
 op (.t 76) (.ext 1) [.t 70],
 ⟨.bx,.alloc [.int .u8 0,.str [],.list true [],.list true []],[],some 7,none⟩,
 ⟨.none,.stLc 7 4,[.l 7,.ts 75],some 7,none⟩,
 op (.t 8) .mv [.t 76]]
def a65s43 : ACode := .reg [7] a65r42
def a65r44 : List AOper := [
 op (.t 77) (.fad 0) [.l 7],
 ⟨.v 9,.ldLc 7 false 1,[.t 77],some 7,none⟩]
def a65s45 : ACode := .reg [] a65r44
def a65r46 : List AOper := [
 op (.t 80) (.bin .eql) [.v 9,.c (.int .u8 4)],
 op (.t 79) .mv [.t 80]]
def a65r47 : List AOper := [
 op (.t 81) (.fad 0) [.l 5],
 ⟨.t 82,.ldLc 5 false 1,[.t 81],some 5,none⟩,
 op (.t 83) (.bin .eql) [.t 82,.c (.int .u8 4)],
 op (.t 84) .mv [.t 83],
 ⟨.t 85,.fad 3,[.l 7],none,some (.t 84,true)⟩,
 ⟨.t 86,.ldLc 7 false 1,[.t 85],some 7,some (.t 84,true)⟩,
 ⟨.t 87,.fad 2,[.l 5],none,some (.t 84,true)⟩,
 ⟨.t 88,.ldLc 5 false 1,[.t 87],some 5,some (.t 84,true)⟩,
 ⟨.t 89,.call 32,[.t 86,.t 88],none,some (.t 84,true)⟩,
 op (.t 90) .pick [.t 84,.t 89,.c (.bool false)],
 op (.v 6) .mv [.t 90]]
def a65s48 : ACode := .reg [] a65r47
def a65s49 : ACode := .seq a65s48 .ret
def a65r50 : List AOper := [
 op (.t 92) (.bin .eql) [.v 9,.c (.int .u8 5)],
 op (.t 91) .mv [.t 92]]
def a65r51 : List AOper := [
 op (.t 93) (.fad 0) [.l 5],
 ⟨.t 94,.ldLc 5 false 1,[.t 93],some 5,none⟩,
 op (.t 95) (.bin .eql) [.t 94,.c (.int .u8 6)],
 op (.t 96) .mv [.t 95],
 ⟨.t 97,.ldSt false 1,[.v 3],none,some (.t 96,true)⟩,
 ⟨.t 98,.ldLc 7 true 4,[.l 7],some 7,some (.t 96,true)⟩,
 ⟨.t 99,.ldLc 5 true 5,[.l 5],some 5,some (.t 96,true)⟩,
 ⟨.t 100,.call 109,[.t 97,.t 98,.t 99],none,some (.t 96,true)⟩,
 op (.t 101) .pick [.t 96,.t 100,.c (.bool false)],
 op (.v 6) .mv [.t 101]]
def a65s52 : ACode := .reg [] a65r51
def a65s53 : ACode := .seq a65s52 .ret
def a65s54 : ACode := .test [] a65r50 (.t 91) a65s53 .skip
def a65s55 : ACode := .test [] a65r46 (.t 79) a65s49 a65s54
def a65s56 : ACode := .blk 1 a65s55
def a65s57 : ACode := .seq a65s45 a65s56
def a65r58 : List AOper := [
 op (.v 6) .mv [.c (.bool false)]]
def a65s59 : ACode := .reg [] a65r58
def a65s60 : ACode := .seq a65s59 .ret
def a65s61 : ACode := .seq a65s57 a65s60
def a65s62 : ACode := .seq a65s43 a65s61
def a65s63 : ACode := .seq a65s41 a65s62
def a65s64 : ACode := .seq a65s17 a65s63
def a65s65 : ACode := .seq a65s6 a65s64
def a65s66 : ACode := .seq a65s1 a65s65
def a65c : ACode :=
  a65s66
def a65 : AFn := { np := 3,nv := 10,results := [.v 6],code := a65c }
def a65v : List Nat := [0,1,2,3,4,5,6,7,35,78]
def a65b : List Nat := [5,7]

def a66r0 : List AOper := [
 op (.v 7) .mv [.v 2],
 op (.v 8) .lenL [.v 7],
 op (.v 9) .mv [.c (.int .i64 0)]]
def a66s1 : ACode := .reg [] a66r0
def a66r2 : List AOper := [
 op (.t 16) (.bin .lss) [.v 9,.v 8]]
def a66s3 : ACode := .test [] a66r2 (.t 16) .skip (.exit 0)
def a66r4 : List AOper := [
 op (.t 17) (.iad 7) [.v 7,.v 9],
 op (.t 18) (.ldAn true 7) [.t 17],
 ⟨.bx,.alloc [.int .u8 0,.str [],.str [],.str [],.list true [],.list true [],.list true []],[],some 3,none⟩,
 ⟨.none,.stLc 3 7,[.l 3,.ts 18],some 3,none⟩]
def a66s5 : ACode := .reg [3] a66r4
def a66r6 : List AOper := [
 op (.t 19) (.fad 5) [.l 3],
 ⟨.v 10,.ldLc 3 false 1,[.t 19],some 3,none⟩,
 op (.v 11) .lenL [.v 10],
 op (.v 12) .mv [.c (.int .i64 0)]]
def a66s7 : ACode := .reg [] a66r6
def a66r8 : List AOper := [
 op (.t 23) (.bin .lss) [.v 12,.v 11]]
def a66s9 : ACode := .test [] a66r8 (.t 23) .skip (.exit 2)
def a66r10 : List AOper := [
 op (.t 24) (.iad 2) [.v 10,.v 12],
 op (.t 25) (.ldRo true 2) [.t 24],
 ⟨.bx,.alloc [.str [],.list true []],[],some 4,none⟩,
 ⟨.none,.stLc 4 2,[.l 4,.ts 25],some 4,none⟩]
def a66s11 : ACode := .reg [4] a66r10
def a66r12 : List AOper := [
 op (.t 26) .mv [.v 0],
 op (.t 27) .stuck [],
 op (.t 28) (.fad 1) [.l 4],
 ⟨.t 29,.ldLc 4 false 1,[.t 28],some 4,none⟩,
 op (.t 30) (.call 110) [.t 26,.t 27,.t 29]]
def a66s13 : ACode := .reg [] a66r12
def a66s14 : ACode := .seq a66s11 a66s13
def a66s15 : ACode := .blk 3 a66s14
def a66r16 : List AOper := [
 op (.t 31) (.bin .add) [.v 12,.c (.int .i64 1)],
 op (.v 12) .mv [.t 31]]
def a66s17 : ACode := .reg [] a66r16
def a66s18 : ACode := .seq a66s15 a66s17
def a66s19 : ACode := .seq a66s9 a66s18
def a66s20 : ACode := .loop a66s19
def a66s21 : ACode := .blk 2 a66s20
def a66s22 : ACode := .seq a66s7 a66s21
def a66r23 : List AOper := [
 op (.t 32) .mv [.v 1],
 op (.v 5) .mv [.t 32]]
def a66s24 : ACode := .reg [] a66r23
def a66r25 : List AOper := [
 op (.t 33) (.fad 0) [.l 3],
 ⟨.t 34,.ldLc 3 false 1,[.t 33],some 3,none⟩,
 op (.t 35) (.bin .eql) [.t 34,.c (.int .u8 3)],
 op (.t 36) .mv [.t 35],
 ⟨.t 37,.fad 3,[.l 3],none,some (.t 36,true)⟩,
 ⟨.t 38,.ldLc 3 false 1,[.t 37],some 3,some (.t 36,true)⟩,
 ⟨.t 39,.bin .neq,[.t 38,.c (.str [])],none,some (.t 36,true)⟩,
 op (.t 40) .pick [.t 36,.t 39,.c (.bool false)]]
def a66r26 : List AOper := [
 op (.t 41) (.fad 3) [.l 3],
 ⟨.t 42,.ldLc 3 false 1,[.t 41],some 3,none⟩,
 op (.v 5) .mv [.t 42]]
def a66s27 : ACode := .reg [] a66r26
def a66s28 : ACode := .test [] a66r25 (.t 40) a66s27 .skip
def a66r29 : List AOper := [
 op (.t 43) (.fad 0) [.l 3],
 ⟨.t 44,.ldLc 3 false 1,[.t 43],some 3,none⟩,
 op (.t 45) (.bin .eql) [.t 44,.c (.int .u8 1)]]
def a66r30 : List AOper := [
 op (.t 47) .mv [.v 0],
 op (.t 48) .nilchk [.t 47],
 op (.t 49) (.fad 0) [.t 48],
 op (.t 50) (.ldSt false 1) [.t 49],
 op (.t 51) .nilchk [.t 50],
 op (.t 52) (.fad 0) [.t 51],
 op (.t 53) (.ldSt false 1) [.t 52],
 op (.t 54) .mv [.v 1],
 op (.t 55) (.fad 2) [.l 3],
 ⟨.t 56,.ldLc 3 false 1,[.t 55],some 3,none⟩,
 op (.t 57) (.call 111) [.t 53,.t 54,.t 56],
 op (.t 46) .mv [.t 57],
 op (.t 58) (.ext 0) [.t 46],
 op (.t 59) (.ext 1) [.t 46],
 ⟨.bx,.alloc [.str [],.list true [],.str [],.list true [],.bool false,.bool false,.int .u8 0,.int .i64 0,.str [],.list true [],.list true []],[],some 6,none⟩,
 ⟨.none,.stLc 6 11,[.l 6,.ts 58],some 6,none⟩,
 op (.t 12) .mv [.t 59]]
def a66s31 : ACode := .reg [6] a66r30
def a66r32 : List AOper := [
 op (.t 60) .mv [.v 0],
 op (.t 61) (.fad 1) [.l 6],
 ⟨.t 62,.ldLc 6 false 1,[.t 61],some 6,none⟩,
 op (.t 63) (.fad 4) [.l 3],
 ⟨.t 64,.ldLc 3 false 1,[.t 63],some 3,none⟩,
 op (.t 65) (.call 110) [.t 60,.t 62,.t 64]]
def a66s33 : ACode := .reg [] a66r32
def a66r34 : List AOper := [
 op (.t 66) (.fad 2) [.l 6],
 ⟨.t 67,.ldLc 6 true 3,[.t 66],some 6,none⟩,
 op (.t 68) (.call 62) [.t 67],
 op (.v 5) .mv [.t 68]]
def a66s35 : ACode := .reg [] a66r34
def a66s36 : ACode := .seq a66s33 a66s35
def a66s37 : ACode := .seq a66s31 a66s36
def a66s38 : ACode := .test [] a66r29 (.t 45) a66s37 .skip
def a66r39 : List AOper := [
 op (.t 69) .mv [.v 0],
 op (.t 70) .mv [.v 5],
 op (.t 71) (.fad 6) [.l 3],
 ⟨.t 72,.ldLc 3 false 1,[.t 71],some 3,none⟩,
 op (.t 73) (.call 66) [.t 69,.t 70,.t 72]]
def a66s40 : ACode := .reg [] a66r39
def a66s41 : ACode := .seq a66s38 a66s40
def a66s42 : ACode := .seq a66s28 a66s41
def a66s43 : ACode := .seq a66s24 a66s42
def a66s44 : ACode := .seq a66s22 a66s43
def a66s45 : ACode := .seq a66s5 a66s44
def a66s46 : ACode := .blk 1 a66s45
def a66r47 : List AOper := [
 op (.t 74) (.bin .add) [.v 9,.c (.int .i64 1)],
 op (.v 9) .mv [.t 74]]
def a66s48 : ACode := .reg [] a66r47
def a66s49 : ACode := .seq a66s46 a66s48
def a66s50 : ACode := .seq a66s3 a66s49
def a66s51 : ACode := .loop a66s50
def a66s52 : ACode := .blk 0 a66s51
def a66s53 : ACode := .seq a66s1 a66s52
def a66c : ACode :=
  a66s53
def a66 : AFn := { np := 3,nv := 13,results := [],code := a66c }
def a66v : List Nat := [0,1,2,7,9,10,11,13,14,15,20,21,22]
def a66b : List Nat := [3,4,6]

def a67r0 : List AOper := [
 op (.v 2) .mv [.c (.int .i64 0)]]
def a67s1 : ACode := .reg [] a67r0
def a67r2 : List AOper := [
 op (.t 6) .mv [.v 0],
 op (.v 4) .lenL [.t 6],
 op (.v 5) .mv [.c (.int .i64 0)]]
def a67s3 : ACode := .reg [] a67r2
def a67r4 : List AOper := [
 op (.t 9) (.bin .lss) [.v 5,.v 4]]
def a67s5 : ACode := .test [] a67r4 (.t 9) .skip (.exit 0)
def a67r6 : List AOper := [
 op (.t 10) .mv [.v 5],
 op (.v 3) .mv [.t 10]]
def a67s7 : ACode := .reg [] a67r6
def a67r8 : List AOper := [
 op (.t 11) .mv [.v 1],
 op (.t 12) .mv [.v 0],
 op (.t 13) .mv [.v 3],
 op (.t 14) (.iad 1) [.t 12,.t 13],
 op (.t 15) (.ldRo false 1) [.t 14],
 op (.t 16) (.bin .eql) [.t 11,.t 15]]
def a67r9 : List AOper := [
 op (.t 17) .mv [.v 3],
 op (.v 2) .mv [.t 17]]
def a67s10 : ACode := .reg [] a67r9
def a67s11 : ACode := .seq a67s10 .ret
def a67s12 : ACode := .test [] a67r8 (.t 16) a67s11 .skip
def a67s13 : ACode := .seq a67s7 a67s12
def a67s14 : ACode := .blk 1 a67s13
def a67r15 : List AOper := [
 op (.t 18) (.bin .add) [.v 5,.c (.int .i64 1)],
 op (.v 5) .mv [.t 18]]
def a67s16 : ACode := .reg [] a67r15
def a67s17 : ACode := .seq a67s14 a67s16
def a67s18 : ACode := .seq a67s5 a67s17
def a67s19 : ACode := .loop a67s18
def a67s20 : ACode := .blk 0 a67s19
def a67s21 : ACode := .seq a67s3 a67s20
def a67r22 : List AOper := [
 op (.v 2) .mv [.c (.int .i64 (-1))]]
def a67s23 : ACode := .reg [] a67r22
def a67s24 : ACode := .seq a67s23 .ret
def a67s25 : ACode := .seq a67s21 a67s24
def a67s26 : ACode := .seq a67s1 a67s25
def a67c : ACode :=
  a67s26
def a67 : AFn := { np := 2,nv := 6,results := [.v 2],code := a67c }
def a67v : List Nat := [0,1,4,5,7,8]
def a67b : List Nat := []

def a68r0 : List AOper := [
 op (.v 2) (.allocO [.list true []]) []]
def a68s1 : ACode := .reg [] a68r0
def a68r2 : List AOper := [
 op (.t 9) .mv [.v 0],
 op (.t 10) .mv [.v 1],
 op (.t 11) (.call 112) [.t 9,.t 10,.v 2],
 op (.v 3) .mv [.ts 11]]
def a68s3 : ACode := .reg [] a68r2
def a68r4 : List AOper := [
 op (.v 7) .mv [.v 3],
 op (.v 8) .lenL [.v 7],
 op (.v 9) .mv [.c (.int .i64 0)]]
def a68s5 : ACode := .reg [] a68r4
def a68r6 : List AOper := [
 op (.t 15) (.bin .lss) [.v 9,.v 8]]
def a68s7 : ACode := .test [] a68r6 (.t 15) .skip (.exit 0)
def a68r8 : List AOper := [
 op (.t 16) .mv [.v 9],
 op (.t 17) (.iad 7) [.v 7,.v 9],
 op (.t 18) (.ldAn true 7) [.t 17],
 op (.v 5) (.allocO [.int .u8 0,.str [],.str [],.str [],.list true [],.list true [],.list true []]) [],
 op (.v 4) .mv [.t 16],
 op .none (.stSt 7) [.v 5,.ts 18]]
def a68s9 : ACode := .reg [] a68r8
def a68r10 : List AOper := [
 op (.t 19) .mv [.v 3],
 op (.t 20) (.mkF 114 0) [.v 5],
 op (.t 21) (.call 113) [.t 19,.t 20],
 op (.v 6) .mv [.t 21]]
def a68s11 : ACode := .reg [] a68r10
def a68r12 : List AOper := [
 op (.t 22) .mv [.v 6],
 op (.t 23) .mv [.v 4],
 op (.t 24) (.bin .lss) [.t 22,.t 23],
 op (.t 25) .mv [.t 24],
 ⟨.t 26,.ldSt true 7,[.v 5],none,some (.t 25,true)⟩,
 ⟨.t 27,.mv,[.v 3],none,some (.t 25,true)⟩,
 ⟨.t 28,.mv,[.v 6],none,some (.t 25,true)⟩,
 ⟨.t 29,.iad 7,[.t 27,.t 28],none,some (.t 25,true)⟩,
 ⟨.t 30,.ldAn true 7,[.t 29],none,some (.t 25,true)⟩,
 ⟨.t 31,.call 115,[.t 26,.t 30],none,some (.t 25,true)⟩,
 ⟨.t 32,.un .not,[.t 31],none,some (.t 25,true)⟩,
 op (.t 33) .pick [.t 25,.t 32,.c (.bool false)]]
def a68r13 : List AOper := [
 op (.t 34) .mv [.v 0],
 op (.t 35) (.ldSt true 7) [.v 5],
 op (.t 36) (.call 9) [.t 35],
 op (.t 37) (.call 26) [.t 34,.c (.int .i64 21),.t 36]]
def a68s14 : ACode := .reg [] a68r13
def a68s15 : ACode := .test [] a68r12 (.t 33) a68s14 .skip
def a68s16 : ACode := .seq a68s11 a68s15
def a68s17 : ACode := .seq a68s9 a68s16
def a68s18 : ACode := .blk 1 a68s17
def a68r19 : List AOper := [
 op (.t 38) (.bin .add) [.v 9,.c (.int .i64 1)],
 op (.v 9) .mv [.t 38]]
def a68s20 : ACode := .reg [] a68r19
def a68s21 : ACode := .seq a68s18 a68s20
def a68s22 : ACode := .seq a68s7 a68s21
def a68s23 : ACode := .loop a68s22
def a68s24 : ACode := .blk 0 a68s23
def a68s25 : ACode := .seq a68s5 a68s24
def a68s26 : ACode := .seq a68s3 a68s25
def a68s27 : ACode := .seq a68s1 a68s26
def a68c : ACode :=
  a68s27
def a68 : AFn := { np := 2,nv := 10,results := [],code := a68c }
def a68v : List Nat := [0,1,4,5,6,7,8,12,13,14]
def a68b : List Nat := []

def a69r0 : List AOper := [
 op (.t 6) .mv [.v 0],
 op (.t 7) .mv [.v 1],
 op (.t 8) (.call 116) [.t 7,.c (.func 117 [] [])],
 op (.t 9) (.call 27) [.t 6,.c (.int .i64 19),.t 8]]
def a69s1 : ACode := .reg [] a69r0
def a69r2 : List AOper := [
 op (.v 3) .mv [.v 1],
 op (.v 4) .lenL [.v 3],
 op (.v 5) .mv [.c (.int .i64 0)]]
def a69s3 : ACode := .reg [] a69r2
def a69r4 : List AOper := [
 op (.t 13) (.bin .lss) [.v 5,.v 4]]
def a69s5 : ACode := .test [] a69r4 (.t 13) .skip (.exit 0)
def a69r6 : List AOper := [
 op (.t 14) (.iad 2) [.v 3,.v 5],
 op (.t 15) (.ldRo true 2) [.t 14],
 ⟨.bx,.alloc [.str [],.list true []],[],some 2,none⟩,
 ⟨.none,.stLc 2 2,[.l 2,.ts 15],some 2,none⟩]
def a69s7 : ACode := .reg [2] a69r6
def a69r8 : List AOper := [
 op (.t 16) (.fad 0) [.l 2],
 ⟨.t 17,.ldLc 2 false 1,[.t 16],some 2,none⟩,
 op (.t 18) (.bin .neq) [.t 17,.c (.str [115,107,105,112])],
 op (.t 19) .mv [.t 18],
 ⟨.t 20,.fad 0,[.l 2],none,some (.t 19,true)⟩,
 ⟨.t 21,.ldLc 2 false 1,[.t 20],some 2,some (.t 19,true)⟩,
 ⟨.t 22,.bin .neq,[.t 21,.c (.str [105,110,99,108,117,100,101])],none,some (.t 19,true)⟩,
 op (.t 23) .pick [.t 19,.t 22,.c (.bool false)]]
def a69r9 : List AOper := [
 op (.t 24) .mv [.v 0],
 op (.t 25) (.fad 0) [.l 2],
 ⟨.t 26,.ldLc 2 false 1,[.t 25],some 2,none⟩,
 op (.t 27) (.call 26) [.t 24,.c (.int .i64 19),.t 26]]
def a69s10 : ACode := .reg [] a69r9
def a69s11 : ACode := .seq a69s10 (.exit 1)
def a69s12 : ACode := .test [] a69r8 (.t 23) a69s11 .skip
def a69r13 : List AOper := [
 op (.t 28) .mv [.v 0],
 op (.t 29) .stuck [],
 op (.t 30) (.fad 1) [.l 2],
 ⟨.t 31,.ldLc 2 false 1,[.t 30],some 2,none⟩,
 op (.t 32) (.call 118) [.t 28,.t 29,.t 31]]
def a69s14 : ACode := .reg [] a69r13
def a69s15 : ACode := .seq a69s12 a69s14
def a69s16 : ACode := .seq a69s7 a69s15
def a69s17 : ACode := .blk 1 a69s16
def a69r18 : List AOper := [
 op (.t 33) (.bin .add) [.v 5,.c (.int .i64 1)],
 op (.v 5) .mv [.t 33]]
def a69s19 : ACode := .reg [] a69r18
def a69s20 : ACode := .seq a69s17 a69s19
def a69s21 : ACode := .seq a69s5 a69s20
def a69s22 : ACode := .loop a69s21
def a69s23 : ACode := .blk 0 a69s22
def a69s24 : ACode := .seq a69s3 a69s23
def a69s25 : ACode := .seq a69s1 a69s24
def a69c : ACode :=
  a69s25
def a69 : AFn := { np := 2,nv := 6,results := [],code := a69c }
def a69v : List Nat := [0,1,5,10,11,12]
def a69b : List Nat := [2]

def a70r0 : List AOper := [
 ⟨.bx,.boxV,[.v 2],some 3,none⟩]
def a70s1 : ACode := .reg [3] a70r0
def a70r2 : List AOper := [
 op (.t 10) .mv [.v 0],
 op (.t 11) .nilchk [.t 10],
 op (.t 12) (.fad 0) [.t 11],
 op (.t 13) (.ldSt false 1) [.t 12],
 op (.t 14) .mv [.v 1],
 op (.t 15) (.fad 2) [.l 3],
 ⟨.t 16,.ldLc 3 false 1,[.t 15],some 3,none⟩,
 op (.t 17) (.call 111) [.t 13,.t 14,.t 16],
 op (.t 9) .mv [.t 17],
 op (.t 18) (.ext 0) [.t 9],
 op (.t 19) (.ext 1) [.t 9],
 ⟨.bx,.alloc [.str [],.list true [],.str [],.list true [],.bool false,.bool false,.int .u8 0,.int .i64 0,.str [],.list true [],.list true []],[],some 4,none⟩,
 ⟨.none,.stLc 4 11,[.l 4,.ts 18],some 4,none⟩,
 op (.v 5) .mv [.t 19]]
def a70s3 : ACode := .reg [4] a70r2
def a70r4 : List AOper := [
 op (.t 20) .mv [.v 5],
 op (.t 21) (.un .not) [.t 20]]
def a70r5 : List AOper := [
 op (.t 22) .mv [.v 0],
 op (.t 23) .mv [.v 1],
 op (.t 24) (.call 33) [.t 22,.t 23]]
def a70r6 : List AOper := [
 op (.t 25) .mv [.v 0],
 op (.t 26) (.fad 2) [.l 3],
 ⟨.t 27,.ldLc 3 false 1,[.t 26],some 3,none⟩,
 op (.t 28) (.call 26) [.t 25,.c (.int .i64 8),.t 27]]
def a70s7 : ACode := .reg [] a70r6
def a70s8 : ACode := .test [] a70r5 (.t 24) a70s7 .skip
def a70r9 : List AOper := [
 op (.t 29) .mv [.v 0],
 op (.t 30) (.fad 6) [.l 3],
 ⟨.t 31,.ldLc 3 false 1,[.t 30],some 3,none⟩,
 op (.t 32) (.call 34) [.t 29,.c (.str []),.t 31]]
def a70s10 : ACode := .reg [] a70r9
def a70s11 : ACode := .seq a70s10 .ret
def a70s12 : ACode := .seq a70s8 a70s11
def a70s13 : ACode := .test [] a70r4 (.t 21) a70s12 .skip
def a70r14 : List AOper := [
 op (.t 33) (.fad 2) [.l 4],
 ⟨.t 34,.ldLc 4 true 3,[.t 33],some 4,none⟩,
 op (.t 35) (.call 62) [.t 34],
 op (.v 6) .mv [.t 35]]
def a70s15 : ACode := .reg [] a70r14
def a70r16 : List AOper := [
 op (.t 36) .mv [.v 0],
 op (.t 37) .nilchk [.t 36],
 op (.t 38) (.fad 0) [.t 37],
 op (.t 39) (.ldSt false 1) [.t 38],
 op (.t 40) .mv [.v 6],
 op (.t 41) (.call 63) [.t 39,.t 40],
 op (.t 42) (.fad 6) [.l 3],
 ⟨.t 43,.ldLc 3 false 1,[.t 42],some 3,none⟩,
 op (.t 44) .lenL [.t 43],
 op (.t 45) (.bin .gtr) [.t 44,.c (.int .i64 0)],
 op (.t 46) (.binB .eql) [.t 41,.t 45]]
def a70r17 : List AOper := [
 op (.t 47) .mv [.v 0],
 op (.t 48) (.fad 2) [.l 3],
 ⟨.t 49,.ldLc 3 false 1,[.t 48],some 3,none⟩,
 op (.t 50) (.call 26) [.t 47,.c (.int .i64 9),.t 49]]
def a70s18 : ACode := .reg [] a70r17
def a70s19 : ACode := .test [] a70r16 (.t 46) a70s18 .skip
def a70r20 : List AOper := [
 op (.t 51) .mv [.v 0],
 op (.t 52) (.fad 1) [.l 4],
 ⟨.t 53,.ldLc 4 false 1,[.t 52],some 4,none⟩,
 op (.t 54) (.fad 4) [.l 3],
 ⟨.t 55,.ldLc 3 false 1,[.t 54],some 3,none⟩,
 op (.t 56) (.call 118) [.t 51,.t 53,.t 55]]
def a70s21 : ACode := .reg [] a70r20
def a70r22 : List AOper := [
 op (.t 57) .mv [.v 0],
 op (.t 58) .mv [.v 6],
 op (.t 59) (.fad 6) [.l 3],
 ⟨.t 60,.ldLc 3 false 1,[.t 59],some 3,none⟩,
 op (.t 61) (.call 34) [.t 57,.t 58,.t 60]]
def a70s23 : ACode := .reg [] a70r22
def a70s24 : ACode := .seq a70s21 a70s23
def a70s25 : ACode := .seq a70s19 a70s24
def a70s26 : ACode := .seq a70s15 a70s25
def a70s27 : ACode := .seq a70s13 a70s26
def a70s28 : ACode := .seq a70s3 a70s27
def a70s29 : ACode := .seq a70s1 a70s28
def a70c : ACode :=
  a70s29
def a70 : AFn := { np := 3,nv := 7,results := [],code := a70c }
def a70v : List Nat := [0,1,2,5,6,7,8]
def a70b : List Nat := [3,4]

def a71r0 : List AOper := [
 op (.v 3) .mv [.c (.bool false)]]
def a71s1 : ACode := .reg [] a71r0
def a71r2 : List AOper := [
 op (.t 8) .mv [.v 0],
 op (.t 9) .mv [.v 1],
 op (.t 10) (.call 33) [.t 8,.t 9],
 op (.t 11) (.un .not) [.t 10],
 op (.t 12) .mv [.t 11],
 ⟨.t 13,.mv,[.v 0],none,some (.t 12,false)⟩,
 ⟨.t 14,.mv,[.v 2],none,some (.t 12,false)⟩,
 ⟨.t 15,.call 33,[.t 13,.t 14],none,some (.t 12,false)⟩,
 ⟨.t 16,.un .not,[.t 15],none,some (.t 12,false)⟩,
 op (.t 17) .pick [.t 12,.c (.bool true),.t 16]]
def a71r3 : List AOper := [
 op (.v 3) .mv [.c (.bool true)]]
def a71s4 : ACode := .reg [] a71r3
def a71s5 : ACode := .seq a71s4 .ret
def a71s6 : ACode := .test [] a71r2 (.t 17) a71s5 .skip
def a71r7 : List AOper := [
 op (.t 18) .mv [.v 0],
 op (.t 19) .mv [.v 2],
 op (.t 20) (.call 119) [.t 18,.t 19],
 op (.v 4) (.allocO [.list true []]) [],
 op .none (.stSt 1) [.v 4,.ts 20]]
def a71s8 : ACode := .reg [] a71r7
def a71r9 : List AOper := [
 op (.t 21) .mv [.v 0],
 op (.t 22) .mv [.v 1],
 op (.t 23) (.call 119) [.t 21,.t 22],
 op (.t 24) (.mkF 121 0) [.v 4],
 op (.t 25) (.call 120) [.t 23,.t 24],
 op (.v 3) .mv [.t 25]]
def a71s10 : ACode := .reg [] a71r9
def a71s11 : ACode := .seq a71s10 .ret
def a71s12 : ACode := .seq a71s8 a71s11
def a71s13 : ACode := .seq a71s6 a71s12
def a71s14 : ACode := .seq a71s1 a71s13
def a71c : ACode :=
  a71s14
def a71 : AFn := { np := 3,nv := 5,results := [.v 3],code := a71c }
def a71v : List Nat := [0,1,2,6,7]
def a71b : List Nat := []

def a72r0 : List AOper := [
 op (.v 5) .mv [.c (.bool true)]]
def a72s1 : ACode := .reg [] a72r0
def a72r2 : List AOper := [
 op (.v 6) .mv [.c (.bool true)]]
def a72s3 : ACode := .reg [] a72r2
def a72r4 : List AOper := [
 op (.t 21) .mv [.v 2],
 op (.t 22) .mv [.v 1],
 op (.t 23) (.bin .sub) [.t 21,.t 22],
 op (.v 7) .mv [.t 23]]
def a72s5 : ACode := .reg [] a72r4
def a72r6 : List AOper := [
 op (.t 24) .mv [.v 7],
 op (.t 25) (.bin .leq) [.t 24,.c (.int .i64 12)]]
def a72r7 : List AOper := [
 op (.t 26) .mv [.v 0],
 op (.t 27) .mv [.v 1],
 op (.t 28) .mv [.v 2],
 op (.t 29) .mv [.v 4],
 op (.t 30) (.call 122) [.t 26,.t 27,.t 28,.t 29]]
def a72s8 : ACode := .reg [] a72r7
def a72s9 : ACode := .seq a72s8 .ret
def a72s10 : ACode := .test [] a72r6 (.t 25) a72s9 .skip
def a72r11 : List AOper := [
 op (.t 31) .mv [.v 3],
 op (.t 32) (.bin .eql) [.t 31,.c (.int .i64 0)]]
def a72r12 : List AOper := [
 op (.t 33) .mv [.v 0],
 op (.t 34) .mv [.v 1],
 op (.t 35) .mv [.v 2],
 op (.t 36) .mv [.v 4],
 op (.t 37) (.call 123) [.t 33,.t 34,.t 35,.t 36]]
def a72s13 : ACode := .reg [] a72r12
def a72s14 : ACode := .seq a72s13 .ret
def a72s15 : ACode := .test [] a72r11 (.t 32) a72s14 .skip
def a72r16 : List AOper := [
 op (.t 38) .mv [.v 5],
 op (.t 39) (.un .not) [.t 38]]
def a72r17 : List AOper := [
 op (.t 40) .mv [.v 0],
 op (.t 41) .mv [.v 1],
 op (.t 42) .mv [.v 2],
 op (.t 43) .mv [.v 4],
 op (.t 44) (.call 124) [.t 40,.t 41,.t 42,.t 43]]
def a72s18 : ACode := .reg [] a72r17
def a72r19 : List AOper := [
 op (.t 45) .mv [.v 3],
 op (.t 46) (.bin .sub) [.t 45,.c (.int .i64 1)],
 op (.v 3) .mv [.t 46]]
def a72s20 : ACode := .reg [] a72r19
def a72s21 : ACode := .seq a72s18 a72s20
def a72s22 : ACode := .test [] a72r16 (.t 39) a72s21 .skip
def a72r23 : List AOper := [
 op (.t 48) .mv [.v 0],
 op (.t 49) .mv [.v 1],
 op (.t 50) .mv [.v 2],
 op (.t 51) .mv [.v 4],
 op (.t 52) (.call 125) [.t 48,.t 49,.t 50,.t 51],
 op (.t 47) .mv [.t 52],
 op (.t 53) (.ext 0) [.t 47],
 op (.t 54) (.ext 1) [.t 47],
 op (.v 8) .mv [.t 53],
 op (.v 9) .mv [.t 54]]
def a72s24 : ACode := .reg [] a72r23
def a72r25 : List AOper := [
 op (.t 55) .mv [.v 9],
 op (.t 56) (.bin .eql) [.t 55,.c (.int .i64 2)]]
def a72r26 : List AOper := [
 op (.t 57) .mv [.v 0],
 op (.t 58) .mv [.v 1],
 op (.t 59) .mv [.v 2],
 op (.t 60) .mv [.v 4],
 op (.t 61) (.call 126) [.t 57,.t 58,.t 59,.t 60]]
def a72s27 : ACode := .reg [] a72r26
def a72r28 : List AOper := [
 op (.t 62) .mv [.v 2],
 op (.t 63) (.bin .sub) [.t 62,.c (.int .i64 1)],
 op (.t 64) .mv [.v 8],
 op (.t 65) .mv [.v 1],
 op (.t 66) (.bin .sub) [.t 64,.t 65],
 op (.t 67) (.bin .sub) [.t 63,.t 66],
 op (.v 8) .mv [.t 67]]
def a72s29 : ACode := .reg [] a72r28
def a72r30 : List AOper := [
 op (.v 9) .mv [.c (.int .i64 1)]]
def a72s31 : ACode := .reg [] a72r30
def a72s32 : ACode := .seq a72s29 a72s31
def a72s33 : ACode := .seq a72s27 a72s32
def a72s34 : ACode := .test [] a72r25 (.t 56) a72s33 .skip
def a72r35 : List AOper := [
 op (.t 68) .mv [.v 5],
 op (.t 69) .mv [.t 68],
 ⟨.t 70,.mv,[.v 6],none,some (.t 69,true)⟩,
 op (.t 71) .pick [.t 69,.t 70,.c (.bool false)],
 op (.t 72) .mv [.t 71],
 ⟨.t 73,.mv,[.v 9],none,some (.t 72,true)⟩,
 ⟨.t 74,.bin .eql,[.t 73,.c (.int .i64 1)],none,some (.t 72,true)⟩,
 op (.t 75) .pick [.t 72,.t 74,.c (.bool false)]]
def a72r36 : List AOper := [
 op (.t 76) .mv [.v 0],
 op (.t 77) .mv [.v 1],
 op (.t 78) .mv [.v 2],
 op (.t 79) .mv [.v 4],
 op (.t 80) (.call 127) [.t 76,.t 77,.t 78,.t 79]]
def a72s37 : ACode := .test [] a72r36 (.t 80) .ret .skip
def a72s38 : ACode := .test [] a72r35 (.t 75) a72s37 .skip
def a72r39 : List AOper := [
 op (.t 81) .mv [.v 1],
 op (.t 82) (.bin .gtr) [.t 81,.c (.int .i64 0)],
 op (.t 83) .mv [.t 82],
 ⟨.t 84,.mv,[.v 4],none,some (.t 83,true)⟩,
 ⟨.t 85,.mv,[.v 0],none,some (.t 83,true)⟩,
 ⟨.t 86,.mv,[.v 1],none,some (.t 83,true)⟩,
 ⟨.t 87,.bin .sub,[.t 86,.c (.int .i64 1)],none,some (.t 83,true)⟩,
 ⟨.t 88,.iad 2,[.t 85,.t 87],none,some (.t 83,true)⟩,
 ⟨.t 89,.ldAn true 2,[.t 88],none,some (.t 83,true)⟩,
 ⟨.t 90,.mv,[.v 0],none,some (.t 83,true)⟩,
 ⟨.t 91,.mv,[.v 8],none,some (.t 83,true)⟩,
 ⟨.t 92,.iad 2,[.t 90,.t 91],none,some (.t 83,true)⟩,
 ⟨.t 93,.ldAn true 2,[.t 92],none,some (.t 83,true)⟩,
 ⟨.t 94,.callV,[.t 84,.t 89,.t 93],none,some (.t 83,true)⟩,
 ⟨.t 95,.bin .lss,[.t 94,.c (.int .i64 0)],none,some (.t 83,true)⟩,
 ⟨.t 96,.un .not,[.t 95],none,some (.t 83,true)⟩,
 op (.t 97) .pick [.t 83,.t 96,.c (.bool false)]]
def a72r40 : List AOper := [
 op (.t 98) .mv [.v 0],
 op (.t 99) .mv [.v 1],
 op (.t 100) .mv [.v 2],
 op (.t 101) .mv [.v 8],
 op (.t 102) .mv [.v 4],
 op (.t 103) (.call 128) [.t 98,.t 99,.t 100,.t 101,.t 102],
 op (.v 10) .mv [.t 103]]
def a72s41 : ACode := .reg [] a72r40
def a72r42 : List AOper := [
 op (.t 104) .mv [.v 10],
 op (.v 1) .mv [.t 104]]
def a72s43 : ACode := .reg [] a72r42
def a72s44 : ACode := .seq a72s43 (.exit 1)
def a72s45 : ACode := .seq a72s41 a72s44
def a72s46 : ACode := .test [] a72r39 (.t 97) a72s45 .skip
def a72r47 : List AOper := [
 op (.t 106) .mv [.v 0],
 op (.t 107) .mv [.v 1],
 op (.t 108) .mv [.v 2],
 op (.t 109) .mv [.v 8],
 op (.t 110) .mv [.v 4],
 op (.t 111) (.call 129) [.t 106,.t 107,.t 108,.t 109,.t 110],
 op (.t 105) .mv [.t 111],
 op (.t 112) (.ext 0) [.t 105],
 op (.t 113) (.ext 1) [.t 105],
 op (.v 11) .mv [.t 112],
 op (.v 12) .mv [.t 113]]
def a72s48 : ACode := .reg [] a72r47
def a72r49 : List AOper := [
 op (.t 114) .mv [.v 12],
 op (.v 6) .mv [.t 114]]
def a72s50 : ACode := .reg [] a72r49
def a72r51 : List AOper := [
 op (.t 115) .mv [.v 11],
 op (.t 116) .mv [.v 1],
 op (.t 117) (.bin .sub) [.t 115,.t 116],
 op (.t 118) .mv [.v 2],
 op (.t 119) .mv [.v 11],
 op (.t 120) (.bin .sub) [.t 118,.t 119],
 op (.v 13) .mv [.t 117],
 op (.v 14) .mv [.t 120]]
def a72s52 : ACode := .reg [] a72r51
def a72r53 : List AOper := [
 op (.t 121) .mv [.v 7],
 op (.t 122) (.bin .quo) [.t 121,.c (.int .i64 8)],
 op (.v 15) .mv [.t 122]]
def a72s54 : ACode := .reg [] a72r53
def a72r55 : List AOper := [
 op (.t 123) .mv [.v 13],
 op (.t 124) .mv [.v 14],
 op (.t 125) (.bin .lss) [.t 123,.t 124]]
def a72r56 : List AOper := [
 op (.t 126) .mv [.v 13],
 op (.t 127) .mv [.v 15],
 op (.t 128) (.bin .geq) [.t 126,.t 127],
 op (.v 5) .mv [.t 128]]
def a72s57 : ACode := .reg [] a72r56
def a72r58 : List AOper := [
 op (.t 129) .mv [.v 0],
 op (.t 130) .mv [.v 1],
 op (.t 131) .mv [.v 11],
 op (.t 132) .mv [.v 3],
 op (.t 133) .mv [.v 4],
 op (.t 134) (.call 72) [.t 129,.t 130,.t 131,.t 132,.t 133]]
def a72s59 : ACode := .reg [] a72r58
def a72r60 : List AOper := [
 op (.t 135) .mv [.v 11],
 op (.t 136) (.bin .add) [.t 135,.c (.int .i64 1)],
 op (.v 1) .mv [.t 136]]
def a72s61 : ACode := .reg [] a72r60
def a72s62 : ACode := .seq a72s59 a72s61
def a72s63 : ACode := .seq a72s57 a72s62
def a72r64 : List AOper := [
 op (.t 137) .mv [.v 14],
 op (.t 138) .mv [.v 15],
 op (.t 139) (.bin .geq) [.t 137,.t 138],
 op (.v 5) .mv [.t 139]]
def a72s65 : ACode := .reg [] a72r64
def a72r66 : List AOper := [
 op (.t 140) .mv [.v 0],
 op (.t 141) .mv [.v 11],
 op (.t 142) (.bin .add) [.t 141,.c (.int .i64 1)],
 op (.t 143) .mv [.v 2],
 op (.t 144) .mv [.v 3],
 op (.t 145) .mv [.v 4],
 op (.t 146) (.call 72) [.t 140,.t 142,.t 143,.t 144,.t 145]]
def a72s67 : ACode := .reg [] a72r66
def a72r68 : List AOper := [
 op (.t 147) .mv [.v 11],
 op (.v 2) .mv [.t 147]]
def a72s69 : ACode := .reg [] a72r68
def a72s70 : ACode := .seq a72s67 a72s69
def a72s71 : ACode := .seq a72s65 a72s70
def a72s72 : ACode := .test [] a72r55 (.t 125) a72s63 a72s71
def a72s73 : ACode := .seq a72s54 a72s72
def a72s74 : ACode := .seq a72s52 a72s73
def a72s75 : ACode := .seq a72s50 a72s74
def a72s76 : ACode := .seq a72s48 a72s75
def a72s77 : ACode := .seq a72s46 a72s76
def a72s78 : ACode := .seq a72s38 a72s77
def a72s79 : ACode := .seq a72s34 a72s78
def a72s80 : ACode := .seq a72s24 a72s79
def a72s81 : ACode := .seq a72s22 a72s80
def a72s82 : ACode := .seq a72s15 a72s81
def a72s83 : ACode := .seq a72s10 a72s82
def a72s84 : ACode := .seq a72s5 a72s83
def a72s85 : ACode := .blk 1 a72s84
def a72s86 : ACode := .loop a72s85
def a72s87 : ACode := .blk 0 a72s86
def a72s88 : ACode := .seq a72s3 a72s87
def a72s89 : ACode := .seq a72s1 a72s88
def a72c : ACode :=
  a72s89
def a72 : AFn := { np := 5,nv := 16,results := [],code := a72c }
def a72v : List Nat := [0,1,2,3,4,10,11,12,13,14,15,16,17,18,19,20]
def a72b : List Nat := []

def a73r0 : List AOper := [
 op (.v 1) .mv [.c (.int .i64 0)]]
def a73r1 : List AOper := [
 op (.t 3) .mv [.v 0],
 op (.t 4) (.conv .u32) [.t 3],
 op (.t 5) (.call 130) [.t 4],
 op (.v 1) .mv [.t 5]]
def a73s2 : ACode := .reg [] a73r1
def a73s3 : ACode := .seq a73s2 .ret
def a73s4 : ACode := .test [] a73r0 (.c (.bool false)) a73s3 .skip
def a73r5 : List AOper := [
 op (.t 6) .mv [.v 0],
 op (.t 7) (.call 131) [.t 6],
 op (.v 1) .mv [.t 7]]
def a73s6 : ACode := .reg [] a73r5
def a73s7 : ACode := .seq a73s6 .ret
def a73s8 : ACode := .seq a73s4 a73s7
def a73c : ACode :=
  a73s8
def a73 : AFn := { np := 1,nv := 2,results := [.v 1],code := a73c }
def a73v : List Nat := [0,2]
def a73b : List Nat := []

def a74r0 : List AOper := [
 op (.v 1) .mv [.c (.bool false)]]
def a74s1 : ACode := .reg [] a74r0
def a74r2 : List AOper := [
 op (.t 3) .mv [.v 0],
 op (.t 4) .mv [.v 0],
 op (.t 5) (.bin .neq) [.t 3,.t 4],
 op (.v 1) .mv [.t 5]]
def a74s3 : ACode := .reg [] a74r2
def a74s4 : ACode := .seq a74s3 .ret
def a74s5 : ACode := .seq a74s1 a74s4
def a74c : ACode :=
  a74s5
def a74 : AFn := { np := 1,nv := 2,results := [.v 1],code := a74c }
def a74v : List Nat := [0,2]
def a74b : List Nat := []

def a75r0 : List AOper := [
 op (.v 1) .mv [.c (.bool false)]]
def a75s1 : ACode := .reg [] a75r0
def a75r2 : List AOper := [
 op (.t 3) .mv [.v 0],
 op (.t 4) .mv [.v 0],
 op (.t 5) (.bin .neq) [.t 3,.t 4],
 op (.v 1) .mv [.t 5]]
def a75s3 : ACode := .reg [] a75r2
def a75s4 : ACode := .seq a75s3 .ret
def a75s5 : ACode := .seq a75s1 a75s4
def a75c : ACode :=
  a75s5
def a75 : AFn := { np := 1,nv := 2,results := [.v 1],code := a75c }
def a75v : List Nat := [0,2]
def a75b : List Nat := []

def a76r0 : List AOper := [
 op (.v 2) .mv [.c (.list true [])]]
def a76s1 : ACode := .reg [] a76r0
def a76r2 : List AOper := [
 op (.t 6) .mv [.v 0],
 op (.t 7) .mv [.v 1],
 op (.t 8) (.call 23) [.t 6,.t 7]]
def a76s3 : ACode := .reg [] a76r2
def a76r4 : List AOper := [
 op (.t 9) .mv [.v 0],
 op (.t 10) (.call 19) [.t 9],
 op (.t 11) (.bslice 1 [[.str []]] [0]) [.t 10],
 op (.v 3) .mv [.ts 11]]
def a76s5 : ACode := .reg [] a76r4
def a76r6 : List AOper := [
 op (.t 12) .mv [.v 0],
 op (.t 13) .mv [.v 1],
 op (.t 14) (.call 23) [.t 12,.t 13]]
def a76s7 : ACode := .test [] a76r6 (.t 14) .skip (.exit 0)
def a76r8 : List AOper := [
 op (.t 15) .mv [.vs 3],
 op (.t 16) .mv [.v 0],
 op (.t 17) (.call 19) [.t 16],
 op (.t 18) (.bslice 1 [[.str []]] [0]) [.t 17],
 op (.t 19) (.app 1 16) [.ts 15,.t 18],
 op (.v 3) .mv [.ts 19]]
def a76s9 : ACode := .reg [] a76r8
def a76s10 : ACode := .blk 1 a76s9
def a76s11 : ACode := .seq a76s7 a76s10
def a76s12 : ACode := .loop a76s11
def a76s13 : ACode := .blk 0 a76s12
def a76r14 : List AOper := [
 op (.t 20) .mv [.v 3],
 op (.v 2) .mv [.ts 20]]
def a76s15 : ACode := .reg [] a76r14
def a76s16 : ACode := .seq a76s15 .ret
def a76s17 : ACode := .seq a76s13 a76s16
def a76s18 : ACode := .seq a76s5 a76s17
def a76s19 : ACode := .seq a76s3 a76s18
def a76s20 : ACode := .seq a76s1 a76s19
def a76c : ACode :=
  a76s20
def a76 : AFn := { np := 2,nv := 4,results := [.v 2],code := a76c }
def a76v : List Nat := [0,1,4,5]
def a76b : List Nat := []

def a77r0 : List AOper := [
 op (.v 2) .mv [.c (.list true [])]]
def a77s1 : ACode := .reg [] a77r0
def a77r2 : List AOper := [
 op (.v 3) .mv [.c (.list true [])]]
def a77s3 : ACode := .reg [] a77r2
def a77r4 : List AOper := [
 op (.v 4) .mv [.c (.bool true)]]
def a77s5 : ACode := .reg [] a77r4
def a77r6 : List AOper := [
 op (.t 8) .mv [.v 0],
 op (.t 9) .nilchk [.t 8],
 op (.t 10) (.fad 4) [.t 9],
 op (.t 11) (.ldSt false 1) [.t 10],
 op (.t 12) (.bin .eql) [.t 11,.c (.int .i64 0)],
 op (.t 13) .mv [.t 12],
 ⟨.t 14,.mv,[.v 4],none,some (.t 13,true)⟩,
 ⟨.t 15,.mv,[.t 14],none,some (.t 13,true)⟩,
 ⟨.t 16,.mv,[.v 0],none,some (.t 15,false)⟩,
 ⟨.t 17,.mv,[.v 1],none,some (.t 15,false)⟩,
 ⟨.t 18,.call 23,[.t 16,.t 17],none,some (.t 15,false)⟩,
 ⟨.t 19,.un .not,[.t 18],none,some (.t 15,false)⟩,
 ⟨.t 20,.pick,[.t 15,.c (.bool true),.t 19],none,some (.t 13,true)⟩,
 op (.t 21) .pick [.t 13,.t 20,.c (.bool false)]]
def a77s7 : ACode := .test [] a77r6 (.t 21) .skip (.exit 0)
def a77r8 : List AOper := [
 op (.t 22) .mv [.v 0],
 op (.t 23) (.call 19) [.t 22],
 op (.t 24) (.build [.str [],.list true [],.str [],.list true [],.bool false,.bool false,.int .u8 0,.int .i64 0,.str [],.list true [],.list true []] [(0,1)]) [.t 23],
 ⟨.bx,.alloc [.str [],.list true [],.str [],.list true [],.bool false,.bool false,.int .u8 0,.int .i64 0,.str [],.list true [],.list true []],[],some 5,none⟩,
 ⟨.none,.stLc 5 11,[.l 5,.ts 24],some 5,none⟩]
def a77s9 : ACode := .reg [5] a77r8
def a77r10 : List AOper := [
 op (.t 25) .mv [.v 0],
 op (.t 26) (.call 20) [.t 25,.c (.str [58])]]
def a77s11 : ACode := .reg [] a77r10
def a77r12 : List AOper := [
 op (.t 27) .mv [.v 0],
 op (.t 28) (.call 56) [.t 27],
 op (.t 29) (.fad 2) [.l 5],
 ⟨.none,.stLc 5 3,[.t 29,.ts 28],some 5,none⟩]
def a77s13 : ACode := .reg [] a77r12
def a77r14 : List AOper := [
 op (.t 30) .mv [.v 0],
 op (.t 31) (.call 23) [.t 30,.c (.str [61])]]
def a77r15 : List AOper := [
 op (.t 32) (.fad 5) [.l 5],
 ⟨.none,.stLc 5 1,[.t 32,.c (.bool true)],some 5,none⟩]
def a77s16 : ACode := .reg [] a77r15
def a77r17 : List AOper := [
 op (.t 33) .mv [.v 0],
 op (.t 34) (.call 57) [.t 33,.c (.bool true)],
 op (.t 35) (.fad 6) [.l 5],
 ⟨.none,.stLc 5 5,[.t 35,.ts 34],some 5,none⟩]
def a77s18 : ACode := .reg [] a77r17
def a77s19 : ACode := .seq a77s16 a77s18
def a77s20 : ACode := .test [] a77r14 (.t 31) a77s19 .skip
def a77r21 : List AOper := [
 op (.t 36) .mv [.vs 3],
 ⟨.t 37,.ldLc 5 true 11,[.l 5],some 5,none⟩,
 op (.t 38) (.bslice 11 [[.str [],.list true [],.str [],.list true [],.bool false,.bool false,.int .u8 0,.int .i64 0,.str [],.list true [],.list true []]] [0]) [.t 37],
 op (.t 39) (.app 11 176) [.ts 36,.t 38],
 op (.v 3) .mv [.ts 39]]
def a77s22 : ACode := .reg [] a77r21
def a77s23 : ACode := .seq a77s20 a77s22
def a77s24 : ACode := .seq a77s13 a77s23
def a77s25 : ACode := .seq a77s11 a77s24
def a77s26 : ACode := .seq a77s9 a77s25
def a77s27 : ACode := .blk 1 a77s26
def a77r28 : List AOper := [
 op (.v 4) .mv [.c (.bool false)]]
def a77s29 : ACode := .reg [] a77r28
def a77s30 : ACode := .seq a77s27 a77s29
def a77s31 : ACode := .seq a77s7 a77s30
def a77s32 : ACode := .loop a77s31
def a77s33 : ACode := .blk 0 a77s32
def a77s34 : ACode := .seq a77s5 a77s33
def a77r35 : List AOper := [
 op (.t 40) .mv [.v 3],
 op (.v 2) .mv [.ts 40]]
def a77s36 : ACode := .reg [] a77r35
def a77s37 : ACode := .seq a77s36 .ret
def a77s38 : ACode := .seq a77s34 a77s37
def a77s39 : ACode := .seq a77s3 a77s38
def a77s40 : ACode := .seq a77s1 a77s39
def a77c : ACode :=
  a77s40
def a77 : AFn := { np := 2,nv := 6,results := [.v 2],code := a77c }
def a77v : List Nat := [0,1,4,5,6,7]
def a77b : List Nat := [5]

def a78r0 : List AOper := [
 op (.v 2) .mv [.c (.bool false)]]
def a78s1 : ACode := .reg [] a78r0
def a78r2 : List AOper := [
 op (.t 5) .mv [.v 0],
 op (.t 6) .lenS [.t 5],
 op (.t 7) .mv [.v 1],
 op (.t 8) .lenS [.t 7],
 op (.t 9) (.bin .geq) [.t 6,.t 8],
 op (.t 10) .mv [.t 9],
 ⟨.t 11,.mv,[.v 0],none,some (.t 10,true)⟩,
 ⟨.t 12,.mv,[.v 1],none,some (.t 10,true)⟩,
 ⟨.t 13,.lenS,[.t 12],none,some (.t 10,true)⟩,
 ⟨.t 14,.slS false true,[.t 11,.t 13],none,some (.t 10,true)⟩,
 ⟨.t 15,.mv,[.v 1],none,some (.t 10,true)⟩,
 ⟨.t 16,.bin .eql,[.t 14,.t 15],none,some (.t 10,true)⟩,
 op (.t 17) .pick [.t 10,.t 16,.c (.bool false)],
 op (.v 2) .mv [.t 17]]
def a78s3 : ACode := .reg [] a78r2
def a78s4 : ACode := .seq a78s3 .ret
def a78s5 : ACode := .seq a78s1 a78s4
def a78c : ACode :=
  a78s5
def a78 : AFn := { np := 2,nv := 3,results := [.v 2],code := a78c }
def a78v : List Nat := [0,1,4]
def a78b : List Nat := []

def a79r0 : List AOper := [
 ⟨.bx,.alloc [.int .i64 0,.str []],[],some 1,none⟩]
def a79s1 : ACode := .reg [1] a79r0
def a79r2 : List AOper := [
 op (.v 4) .mv [.v 0],
 op (.v 5) .lenL [.v 4],
 op (.v 6) .mv [.c (.int .i64 0)]]
def a79s3 : ACode := .reg [] a79r2
def a79r4 : List AOper := [
 op (.t 8) (.bin .lss) [.v 6,.v 5]]
def a79s5 : ACode := .test [] a79r4 (.t 8) .skip (.exit 0)
def a79r6 : List AOper := [
 op (.t 9) .mv [.v 6],
 op (.t 10) (.iad 1) [.v 4,.v 6],
 op (.t 11) (.ldRo false 1) [.t 10],
 op (.v 2) .mv [.t 9],
 op (.v 3) .mv [.t 11]]
def a79s7 : ACode := .reg [] a79r6
def a79r8 : List AOper := [
 op (.t 12) .mv [.v 0],
 op (.t 13) .mv [.v 2],
 op (.t 14) (.slL 1 false true) [.t 12,.t 13],
 op (.t 15) .mv [.v 3],
 op (.t 16) (.call 32) [.t 14,.t 15]]
def a79r9 : List AOper := [
 op (.t 17) .mv [.v 3],
 op (.t 18) (.build [.int .i64 0,.str []] [(0,1),(1,1)]) [.c (.int .i64 7),.t 17],
 ⟨.none,.stLc 1 2,[.l 1,.t 18],some 1,none⟩]
def a79s10 : ACode := .reg [] a79r9
def a79s11 : ACode := .seq a79s10 .ret
def a79s12 : ACode := .test [] a79r8 (.t 16) a79s11 .skip
def a79r13 : List AOper := [
 op (.t 19) .mv [.v 3],
 op (.t 20) (.call 43) [.t 19,.c (.str [95,95])]]
def a79r14 : List AOper := [
 op (.t 21) .mv [.v 3],
 op (.t 22) (.build [.int .i64 0,.str []] [(0,1),(1,1)]) [.c (.int .i64 1),.t 21],
 ⟨.none,.stLc 1 2,[.l 1,.t 22],some 1,none⟩]
def a79s15 : ACode := .reg [] a79r14
def a79s16 : ACode := .seq a79s15 .ret
def a79s17 : ACode := .test [] a79r13 (.t 20) a79s16 .skip
def a79s18 : ACode := .seq a79s12 a79s17
def a79s19 : ACode := .seq a79s7 a79s18
def a79s20 : ACode := .blk 1 a79s19
def a79r21 : List AOper := [
 op (.t 23) (.bin .add) [.v 6,.c (.int .i64 1)],
 op (.v 6) .mv [.t 23]]
def a79s22 : ACode := .reg [] a79r21
def a79s23 : ACode := .seq a79s20 a79s22
def a79s24 : ACode := .seq a79s5 a79s23
def a79s25 : ACode := .loop a79s24
def a79s26 : ACode := .blk 0 a79s25
def a79s27 : ACode := .seq a79s3 a79s26
def a79r28 : List AOper := [
 op (.t 24) (.build [.int .i64 0,.str []] []) [],
 ⟨.none,.stLc 1 2,[.l 1,.t 24],some 1,none⟩]
def a79s29 : ACode := .reg [] a79r28
def a79s30 : ACode := .seq a79s29 .ret
def a79s31 : ACode := .seq a79s27 a79s30
def a79s32 : ACode := .seq a79s1 a79s31
def a79c : ACode :=
  a79s32
def a79 : AFn := { np := 1,nv := 7,results := [.bx 1 true 2],code := a79c }
def a79v : List Nat := [0,2,3,4,5,6,7]
def a79b : List Nat := [1]

def a80r0 : List AOper := [
 op (.v 1) .mv [.c (.list true [])]]
def a80s1 : ACode := .reg [] a80r0
def a80r2 : List AOper := [
 op (.v 2) .mv [.c (.list true [])]]
def a80s3 : ACode := .reg [] a80r2
def a80r4 : List AOper := [
 op (.v 4) .mv [.v 0],
 op (.v 5) .lenL [.v 4],
 op (.v 6) .mv [.c (.int .i64 0)]]
def a80s5 : ACode := .reg [] a80r4
def a80r6 : List AOper := [
 op (.t 9) (.bin .lss) [.v 6,.v 5]]
def a80s7 : ACode := .test [] a80r6 (.t 9) .skip (.exit 0)
def a80r8 : List AOper := [
 op (.t 10) (.iad 11) [.v 4,.v 6],
 op (.t 11) (.ldRo true 11) [.t 10],
 ⟨.bx,.alloc [.str [],.list true [],.str [],.list true [],.bool false,.bool false,.int .u8 0,.int .i64 0,.str [],.list true [],.list true []],[],some 3,none⟩,
 ⟨.none,.stLc 3 11,[.l 3,.ts 11],some 3,none⟩]
def a80s9 : ACode := .reg [3] a80r8
def a80r10 : List AOper := [
 op (.t 12) .mv [.vs 2],
 op (.t 13) (.fad 0) [.l 3],
 ⟨.t 14,.ldLc 3 false 1,[.t 13],some 3,none⟩,
 op (.t 15) (.bslice 1 [[.str []]] [0]) [.t 14],
 op (.t 16) (.app 1 16) [.ts 12,.t 15],
 op (.v 2) .mv [.ts 16]]
def a80s11 : ACode := .reg [] a80r10
def a80s12 : ACode := .seq a80s9 a80s11
def a80s13 : ACode := .blk 1 a80s12
def a80r14 : List AOper := [
 op (.t 17) (.bin .add) [.v 6,.c (.int .i64 1)],
 op (.v 6) .mv [.t 17]]
def a80s15 : ACode := .reg [] a80r14
def a80s16 : ACode := .seq a80s13 a80s15
def a80s17 : ACode := .seq a80s7 a80s16
def a80s18 : ACode := .loop a80s17
def a80s19 : ACode := .blk 0 a80s18
def a80s20 : ACode := .seq a80s5 a80s19
def a80r21 : List AOper := [
 op (.t 18) .mv [.vs 2],
 op (.v 1) .mv [.ts 18]]
def a80s22 : ACode := .reg [] a80r21
def a80s23 : ACode := .seq a80s22 .ret
def a80s24 : ACode := .seq a80s20 a80s23
def a80s25 : ACode := .seq a80s3 a80s24
def a80s26 : ACode := .seq a80s1 a80s25
def a80c : ACode :=
  a80s26
def a80 : AFn := { np := 1,nv := 7,results := [.vs 1],code := a80c }
def a80v : List Nat := [0,2,3,5,6,7,8]
def a80b : List Nat := [3]

def a81r0 : List AOper := [
 ⟨.bx,.boxV,[.v 1],some 3,none⟩,
 ⟨.bx,.alloc [.int .i64 0,.str []],[],some 4,none⟩]
def a81s1 : ACode := .reg [3,4] a81r0
def a81r2 : List AOper := [
 op (.t 15) (.fad 2) [.l 3],
 ⟨.t 16,.ldLc 3 true 3,[.t 15],some 3,none⟩,
 op (.t 17) (.call 62) [.t 16],
 op (.v 5) .mv [.t 17]]
def a81s3 : ACode := .reg [] a81r2
def a81r4 : List AOper := [
 op (.t 19) .mv [.v 0],
 op (.t 20) .mv [.v 5],
 op (.t 21) (.call 45) [.t 19,.t 20],
 op (.t 18) .mv [.t 21],
 op (.t 22) (.ext 0) [.t 18],
 op (.t 23) (.ext 1) [.t 18],
 ⟨.bx,.alloc [.int .u8 0,.str [],.list true [],.list true []],[],some 6,none⟩,
 ⟨.none,.stLc 6 4,[.l 6,.ts 22],some 6,none⟩,
 op (.v 7) .mv [.t 23]]
def a81s5 : ACode := .reg [6] a81r4
def a81r6 : List AOper := [
 op (.t 25) .mv [.v 7],
 op (.t 26) (.un .not) [.t 25],
 op (.t 27) .mv [.t 26],
 ⟨.t 28,.mv,[.v 0],none,some (.t 27,true)⟩,
 ⟨.t 29,.mv,[.v 5],none,some (.t 27,true)⟩,
 ⟨.t 30,.call 104,[.t 28,.t 29],none,some (.t 27,true)⟩,
 ⟨.t 31,.un .not,[.t 30],none,some (.t 27,true)⟩,
 op (.t 32) .pick [.t 27,.t 31,.c (.bool false)],
 op (.t 24) .mv [.t 32]]
def a81r7 : List AOper := [
 op (.t 33) .mv [.v 5],
 op (.t 34) (.build [.int .i64 0,.str []] [(0,1),(1,1)]) [.c (.int .i64 6),.t 33],
 ⟨.none,.stLc 4 2,[.l 4,.t 34],some 4,none⟩]
def a81s8 : ACode := .reg [] a81r7
def a81s9 : ACode := .seq a81s8 .ret
def a81r10 : List AOper := [
 op (.t 36) .mv [.v 2],
 op (.t 37) .mv [.t 36],
 ⟨.t 38,.mv,[.v 0],none,some (.t 37,true)⟩,
 ⟨.t 39,.mv,[.v 5],none,some (.t 37,true)⟩,
 ⟨.t 40,.call 104,[.t 38,.t 39],none,some (.t 37,true)⟩,
 ⟨.t 41,.un .not,[.t 40],none,some (.t 37,true)⟩,
 op (.t 42) .pick [.t 37,.t 41,.c (.bool false)],
 op (.t 43) .mv [.t 42],
 ⟨.t 44,.mv,[.v 0],none,some (.t 43,true)⟩,
 ⟨.t 45,.mv,[.v 5],none,some (.t 43,true)⟩,
 ⟨.t 46,.call 105,[.t 44,.t 45],none,some (.t 43,true)⟩,
 ⟨.t 47,.un .not,[.t 46],none,some (.t 43,true)⟩,
 op (.t 48) .pick [.t 43,.t 47,.c (.bool false)],
 op (.v 12) .mv [.t 48]]
def a81r11 : List AOper := [
 op (.t 49) .mv [.v 2],
 op (.t 50) (.un .not) [.t 49],
 op (.t 51) .mv [.t 50],
 ⟨.t 52,.mv,[.v 0],none,some (.t 51,true)⟩,
 ⟨.t 53,.mv,[.v 5],none,some (.t 51,true)⟩,
 ⟨.t 54,.call 64,[.t 52,.t 53],none,some (.t 51,true)⟩,
 op (.t 55) .pick [.t 51,.t 54,.c (.bool false)],
 op (.v 12) .mv [.t 55]]
def a81r12 : List AOper := [
 op (.t 56) .mv [.v 5],
 op (.t 57) (.call 82) [.t 56],
 op (.v 12) .mv [.t 57]]
def a81s13 : ACode := .reg [] a81r12
def a81s14 : ACode := .test [] a81r11 (.v 12) .skip a81s13
def a81s15 : ACode := .test [] a81r10 (.v 12) .skip a81s14
def a81r16 : List AOper := [
 op (.t 58) .mv [.v 5],
 op (.t 59) (.build [.int .i64 0,.str []] [(0,1),(1,1)]) [.c (.int .i64 8),.t 58],
 ⟨.none,.stLc 4 2,[.l 4,.t 59],some 4,none⟩]
def a81s17 : ACode := .reg [] a81r16
def a81s18 : ACode := .seq a81s17 .ret
def a81r19 : List AOper := [
 op (.t 61) (.fad 5) [.l 3],
 ⟨.t 62,.ldLc 3 false 1,[.t 61],some 3,none⟩,
 op (.t 63) .mv [.t 62],
 ⟨.t 64,.mv,[.v 0],none,some (.t 63,true)⟩,
 ⟨.t 65,.fad 2,[.l 3],none,some (.t 63,true)⟩,
 ⟨.t 66,.ldLc 3 true 3,[.t 65],some 3,some (.t 63,true)⟩,
 ⟨.t 67,.fad 6,[.l 3],none,some (.t 63,true)⟩,
 ⟨.t 68,.ldLc 3 true 5,[.t 67],some 3,some (.t 63,true)⟩,
 ⟨.t 69,.call 65,[.t 64,.t 66,.t 68],none,some (.t 63,true)⟩,
 ⟨.t 70,.un .not,[.t 69],none,some (.t 63,true)⟩,
 op (.t 71) .pick [.t 63,.t 70,.c (.bool false)],
 op (.t 60) .mv [.t 71]]
def a81r20 : List AOper := [
 op (.t 72) (.fad 0) [.l 3],
 ⟨.t 73,.ldLc 3 false 1,[.t 72],some 3,none⟩,
 op (.t 74) (.build [.int .i64 0,.str []] [(0,1),(1,1)]) [.c (.int .i64 8),.t 73],
 ⟨.none,.stLc 4 2,[.l 4,.t 74],some 4,none⟩]
def a81s21 : ACode := .reg [] a81r20
def a81s22 : ACode := .seq a81s21 .ret
def a81s23 : ACode := .test [] a81r19 (.t 60) a81s22 .skip
def a81s24 : ACode := .test [] [] (.v 12) a81s18 a81s23
def a81s25 : ACode := .seq a81s15 a81s24
def a81s26 : ACode := .test [] a81r6 (.t 24) a81s9 a81s25
def a81s27 : ACode := .blk 0 a81s26
def a81r28 : List AOper := [
 op (.t 75) (.fad 1) [.l 3],
 ⟨.t 76,.ldLc 3 false 1,[.t 75],some 3,none⟩,
 op (.t 77) (.call 80) [.t 76],
 op (.t 78) (.call 79) [.t 77],
 ⟨.bx,.alloc [.int .i64 0,.str []],[],some 8,none⟩,
 ⟨.none,.stLc 8 2,[.l 8,.t 78],some 8,none⟩]
def a81s29 : ACode := .reg [8] a81r28
def a81r30 : List AOper := [
 op (.t 79) (.fad 0) [.l 8],
 ⟨.t 80,.ldLc 8 false 1,[.t 79],some 8,none⟩,
 op (.t 81) (.bin .neq) [.t 80,.c (.int .i64 0)]]
def a81r31 : List AOper := [
 ⟨.t 82,.ldLc 8 true 2,[.l 8],some 8,none⟩,
 ⟨.none,.stLc 4 2,[.l 4,.t 82],some 4,none⟩]
def a81s32 : ACode := .reg [] a81r31
def a81s33 : ACode := .seq a81s32 .ret
def a81s34 : ACode := .test [] a81r30 (.t 81) a81s33 .skip
def a81s35 : ACode := .seq a81s29 a81s34
def a81r36 : List AOper := [
 op (.t 83) (.fad 1) [.l 3],
 ⟨.v 13,.ldLc 3 false 1,[.t 83],some 3,none⟩,
 op (.v 14) .lenL [.v 13],
 op (.v 15) .mv [.c (.int .i64 0)]]
def a81s37 : ACode := .reg [] a81r36
def a81r38 : List AOper := [
 op (.t 87) (.bin .lss) [.v 15,.v 14]]
def a81s39 : ACode := .test [] a81r38 (.t 87) .skip (.exit 1)
def a81r40 : List AOper := [
 op (.t 88) (.iad 11) [.v 13,.v 15],
 op (.t 89) (.ldRo true 11) [.t 88],
 ⟨.bx,.alloc [.str [],.list true [],.str [],.list true [],.bool false,.bool false,.int .u8 0,.int .i64 0,.str [],.list true [],.list true []],[],some 9,none⟩,
 ⟨.none,.stLc 9 11,[.l 9,.ts 89],some 9,none⟩]
def a81s41 : ACode := .reg [9] a81r40
def a81r42 : List AOper := [
 op (.t 90) (.fad 2) [.l 9],
 ⟨.t 91,.ldLc 9 true 3,[.t 90],some 9,none⟩,
 op (.t 92) (.call 62) [.t 91],
 op (.v 10) .mv [.t 92]]
def a81s43 : ACode := .reg [] a81r42
def a81r44 : List AOper := [
 op (.t 101) .mv [.v 0],
 op (.t 102) .mv [.v 10],
 op (.t 103) (.call 64) [.t 101,.t 102],
 op (.t 100) .mv [.t 103]]
def a81r45 : List AOper := [
 op (.t 104) (.fad 5) [.l 9],
 ⟨.t 105,.ldLc 9 false 1,[.t 104],some 9,none⟩]
def a81r46 : List AOper := [
 op (.t 106) (.fad 0) [.l 9],
 ⟨.t 107,.ldLc 9 false 1,[.t 106],some 9,none⟩,
 op (.t 108) (.build [.int .i64 0,.str []] [(0,1),(1,1)]) [.c (.int .i64 8),.t 107],
 ⟨.none,.stLc 4 2,[.l 4,.t 108],some 4,none⟩]
def a81s47 : ACode := .reg [] a81r46
def a81s48 : ACode := .seq a81s47 .ret
def a81s49 : ACode := .test [] a81r45 (.t 105) a81s48 .skip
def a81r50 : List AOper := [
 op (.t 93) .mv [.v 0],
 ⟨.t 94,.ldLc 9 true 11,[.l 9],some 9,none⟩,
 op (.t 95) (.call 81) [.t 93,.t 94,.c (.bool true)],
 ⟨.bx,.alloc [.int .i64 0,.str []],[],some 11,none⟩,
 ⟨.none,.stLc 11 2,[.l 11,.t 95],some 11,none⟩]
def a81s51 : ACode := .reg [11] a81r50
def a81r52 : List AOper := [
 op (.t 96) (.fad 0) [.l 11],
 ⟨.t 97,.ldLc 11 false 1,[.t 96],some 11,none⟩,
 op (.t 98) (.bin .neq) [.t 97,.c (.int .i64 0)]]
def a81r53 : List AOper := [
 ⟨.t 99,.ldLc 11 true 2,[.l 11],some 11,none⟩,
 ⟨.none,.stLc 4 2,[.l 4,.t 99],some 4,none⟩]
def a81s54 : ACode := .reg [] a81r53
def a81s55 : ACode := .seq a81s54 .ret
def a81s56 : ACode := .test [] a81r52 (.t 98) a81s55 .skip
def a81s57 : ACode := .seq a81s51 a81s56
def a81s58 : ACode := .test [] a81r44 (.t 100) a81s49 a81s57
def a81s59 : ACode := .blk 3 a81s58
def a81s60 : ACode := .seq a81s43 a81s59
def a81s61 : ACode := .seq a81s41 a81s60
def a81s62 : ACode := .blk 2 a81s61
def a81r63 : List AOper := [
 op (.t 109) (.bin .add) [.v 15,.c (.int .i64 1)],
 op (.v 15) .mv [.t 109]]
def a81s64 : ACode := .reg [] a81r63
def a81s65 : ACode := .seq a81s62 a81s64
def a81s66 : ACode := .seq a81s39 a81s65
def a81s67 : ACode := .loop a81s66
def a81s68 : ACode := .blk 1 a81s67
def a81s69 : ACode := .seq a81s37 a81s68
def a81r70 : List AOper := [
 op (.t 110) (.build [.int .i64 0,.str []] []) [],
 ⟨.none,.stLc 4 2,[.l 4,.t 110],some 4,none⟩]
def a81s71 : ACode := .reg [] a81r70
def a81s72 : ACode := .seq a81s71 .ret
def a81s73 : ACode := .seq a81s69 a81s72
def a81s74 : ACode := .seq a81s35 a81s73
def a81s75 : ACode := .seq a81s27 a81s74
def a81s76 : ACode := .seq a81s5 a81s75
def a81s77 : ACode := .seq a81s3 a81s76
def a81s78 : ACode := .seq a81s1 a81s77
def a81c : ACode :=
  a81s78
def a81 : AFn := { np := 3,nv := 16,results := [.bx 4 true 2],code := a81c }
def a81v : List Nat := [0,1,2,4,6,7,8,9,10,12,13,14,35,84,85,86]
def a81b : List Nat := [3,4,6,8,9,11]

def a82r0 : List AOper := [
 op (.v 1) .mv [.c (.bool false)]]
def a82s1 : ACode := .reg [] a82r0
def a82r2 : List AOper := [
 op (.t 3) .mv [.v 0],
 op (.t 4) (.bin .eql) [.t 3,.c (.str [81,117,101,114,121])],
 op (.t 5) .mv [.t 4],
 ⟨.t 6,.mv,[.v 0],none,some (.t 5,false)⟩,
 ⟨.t 7,.bin .eql,[.t 6,.c (.str [77,117,116,97,116,105,111,110])],none,some (.t 5,false)⟩,
 op (.t 8) .pick [.t 5,.c (.bool true),.t 7],
 op (.v 1) .mv [.t 8]]
def a82s3 : ACode := .reg [] a82r2
def a82s4 : ACode := .seq a82s3 .ret
def a82s5 : ACode := .seq a82s1 a82s4
def a82c : ACode :=
  a82s5
def a82 : AFn := { np := 1,nv := 2,results := [.v 1],code := a82c }
def a82v : List Nat := [0,2]
def a82b : List Nat := []

def a83r0 : List AOper := [
 op (.v 3) .boxO [.v 1],
 ⟨.bx,.boxV,[.v 2],some 4,none⟩,
 op (.v 5) .mv [.c (.bool false)]]
def a83s1 : ACode := .reg [4] a83r0
def a83r2 : List AOper := [
 op (.t 7) (.fad 2) [.l 4],
 ⟨.t 8,.ldLc 4 false 1,[.t 7],some 4,none⟩,
 op (.t 9) (.mkF 133 0) [.v 3],
 op (.t 10) (.call 132) [.t 8,.t 9],
 op (.t 11) (.un .not) [.t 10],
 op (.v 5) .mv [.t 11]]
def a83s3 : ACode := .reg [] a83r2
def a83s4 : ACode := .seq a83s3 .ret
def a83s5 : ACode := .seq a83s1 a83s4
def a83c : ACode :=
  a83s5
def a83 : AFn := { np := 3,nv := 6,results := [.v 5],code := a83c }
def a83v : List Nat := [0,1,2,4,5,6]
def a83b : List Nat := [4]

def a84r0 : List AOper := [
 ⟨.bx,.boxV,[.v 1],some 2,none⟩,
 op (.v 3) .mv [.c (.bool false)]]
def a84s1 : ACode := .reg [2] a84r0
def a84r2 : List AOper := [
 op (.t 5) (.fad 1) [.l 2],
 ⟨.t 6,.ldLc 2 false 1,[.t 5],some 2,none⟩,
 op (.t 7) .lenL [.t 6],
 op (.t 8) (.bin .eql) [.t 7,.c (.int .i64 1)],
 op (.t 9) .mv [.t 8],
 ⟨.t 10,.fad 1,[.l 2],none,some (.t 9,true)⟩,
 ⟨.t 11,.ldLc 2 false 1,[.t 10],some 2,some (.t 9,true)⟩,
 ⟨.t 12,.iad 11,[.t 11,.c (.int .i64 0)],none,some (.t 9,true)⟩,
 ⟨.t 13,.ldRo true 11,[.t 12],none,some (.t 9,true)⟩,
 ⟨.t 14,.call 135,[.t 13],none,some (.t 9,true)⟩,
 op (.t 15) .pick [.t 9,.t 14,.c (.bool false)],
 op (.t 16) .mv [.t 15],
 ⟨.t 17,.fad 2,[.l 2],none,some (.t 16,true)⟩,
 ⟨.t 18,.fad 1,[.t 17],none,some (.t 16,true)⟩,
 ⟨.t 19,.ldLc 2 false 1,[.t 18],some 2,some (.t 16,true)⟩,
 ⟨.t 20,.lenL,[.t 19],none,some (.t 16,true)⟩,
 ⟨.t 21,.bin .eql,[.t 20,.c (.int .i64 0)],none,some (.t 16,true)⟩,
 op (.t 22) .pick [.t 16,.t 21,.c (.bool false)],
 op (.t 23) .mv [.t 22],
 ⟨.t 24,.fad 2,[.l 2],none,some (.t 23,true)⟩,
 ⟨.t 25,.fad 2,[.t 24],none,some (.t 23,true)⟩,
 ⟨.t 26,.ldLc 2 false 1,[.t 25],some 2,some (.t 23,true)⟩,
 ⟨.t 27,.un .not,[.t 26],none,some (.t 23,true)⟩,
 op (.t 28) .pick [.t 23,.t 27,.c (.bool false)],
 op (.t 29) .mv [.t 28],
 ⟨.t 30,.mv,[.v 0],none,some (.t 29,true)⟩,
 ⟨.t 31,.fad 2,[.l 2],none,some (.t 29,true)⟩,
 ⟨.t 32,.fad 0,[.t 31],none,some (.t 29,true)⟩,
 ⟨.t 33,.ldLc 2 false 1,[.t 32],some 2,some (.t 29,true)⟩,
 ⟨.t 34,.call 136,[.t 30,.t 33],none,some (.t 29,true)⟩,
 op (.t 35) .pick [.t 29,.t 34,.c (.bool false)],
 op (.v 3) .mv [.t 35]]
def a84s3 : ACode := .reg [] a84r2
def a84s4 : ACode := .seq a84s3 .ret
def a84s5 : ACode := .seq a84s1 a84s4
def a84c : ACode :=
  a84s5
def a84 : AFn := { np := 2,nv := 4,results := [.v 3],code := a84c }
def a84v : List Nat := [0,1,3,4]
def a84b : List Nat := [2]

def a85r0 : List AOper := [
 ⟨.bx,.boxV,[.v 1],some 2,none⟩,
 op (.v 3) .mv [.c (.bool false)]]
def a85s1 : ACode := .reg [2] a85r0
def a85r2 : List AOper := [
 op (.t 5) (.fad 1) [.l 2],
 ⟨.t 6,.ldLc 2 false 1,[.t 5],some 2,none⟩,
 op (.t 7) .lenL [.t 6],
 op (.t 8) (.bin .eql) [.t 7,.c (.int .i64 0)],
 op (.t 9) .mv [.t 8],
 ⟨.t 10,.mv,[.v 0],none,some (.t 9,true)⟩,
 ⟨.t 11,.fad 2,[.l 2],none,some (.t 9,true)⟩,
 ⟨.t 12,.ldLc 2 true 3,[.t 11],some 2,some (.t 9,true)⟩,
 ⟨.t 13,.call 62,[.t 12],none,some (.t 9,true)⟩,
 ⟨.t 14,.call 136,[.t 10,.t 13],none,some (.t 9,true)⟩,
 op (.t 15) .pick [.t 9,.t 14,.c (.bool false)],
 op (.t 16) .mv [.t 15],
 ⟨.t 17,.fad 2,[.l 2],none,some (.t 16,true)⟩,
 ⟨.t 18,.ldLc 2 true 3,[.t 17],some 2,some (.t 16,true)⟩,
 ⟨.t 19,.fad 2,[.l 2],none,some (.t 16,true)⟩,
 ⟨.t 20,.ldLc 2 true 3,[.t 19],some 2,some (.t 16,true)⟩,
 ⟨.t 21,.call 62,[.t 20],none,some (.t 16,true)⟩,
 ⟨.t 22,(.build [.str [],.list true [],.bool false] [(0,1),(2,1)]),[.t 21,.c (.bool true)],none,some (.t 16,true)⟩,
 ⟨.t 23,.bslice 3 [[.str [],.list true [],.bool false]] [0],[.t 22],none,some (.t 16,true)⟩,
 ⟨.t 24,(.build [.str [],.list true [],.bool false] [(1,1),(2,1)]),[.t 23,.c (.bool true)],none,some (.t 16,true)⟩,
 ⟨.t 25,.call 134,[.t 18,.t 24],none,some (.t 16,true)⟩,
 op (.t 26) .pick [.t 16,.t 25,.c (.bool false)],
 op (.v 3) .mv [.t 26]]
def a85s3 : ACode := .reg [] a85r2
def a85s4 : ACode := .seq a85s3 .ret
def a85s5 : ACode := .seq a85s1 a85s4
def a85c : ACode :=
  a85s5
def a85 : AFn := { np := 2,nv := 4,results := [.v 3],code := a85c }
def a85v : List Nat := [0,1,3,4]
def a85b : List Nat := [2]

def a86r0 : List AOper := [
 op (.v 2) .boxO [.v 0],
 ⟨.bx,.boxV,[.v 1],some 3,none⟩,
 op (.v 4) .mv [.c (.bool false)]]
def a86s1 : ACode := .reg [3] a86r0
def a86r2 : List AOper := [
 op (.t 11) (.fad 0) [.l 3],
 ⟨.t 12,.ldLc 3 false 1,[.t 11],some 3,none⟩,
 op (.t 13) (.call 137) [.t 12],
 op (.t 10) .mv [.t 13],
 op (.t 14) (.ext 0) [.t 10],
 op (.t 15) (.ext 1) [.t 10],
 op (.v 5) .mv [.t 14],
 op (.v 6) .mv [.t 15]]
def a86s3 : ACode := .reg [] a86r2
def a86r4 : List AOper := [
 op (.t 17) (.ldSt false 1) [.v 2],
 op (.t 18) .mv [.v 6],
 op (.t 19) (.call 45) [.t 17,.t 18],
 op (.t 16) .mv [.t 19],
 op (.t 20) (.ext 0) [.t 16],
 op (.t 21) (.ext 1) [.t 16],
 op (.v 7) (.allocO [.int .u8 0,.str [],.list true [],.list true []]) [],
 op .none (.stSt 4) [.v 7,.ts 20],
 op (.v 8) .mv [.t 21]]
def a86s5 : ACode := .reg [] a86r4
end Go.Cb.CodeA
