/- The functions of the seat, told as code of the abstract machine. No conditions. -/
import Derived.Test.YtpalalebligmoaaGreatDoorFmtX
namespace Go.Cb.CodeA
open Go Go.Cb

abbrev op (d : Dst) (k : Kind) (a : List Opd) : AOper := ⟨d,k,a,none,none⟩
def a8r0 : List AOper := [
 op (.v 5) .mv [.c (.bool false)]]
def a8s1 : ACode := .reg [] a8r0
def a8r2 : List AOper := [
 op (.t 20) (.call 9) [],
 op (.t 21) (.un .not) [.t 20]]
def a8r3 : List AOper := [
 op (.v 5) .mv [.c (.bool false)]]
def a8s4 : ACode := .reg [] a8r3
def a8s5 : ACode := .seq a8s4 .ret
def a8s6 : ACode := .test [] a8r2 (.t 21) a8s5 .skip
def a8r7 : List AOper := [
 op (.t 23) (.call 12) [.c (.str [101,110,117,109,32,69,32,123,32,65,32,66,32,125,32,105,110,112,117,116,32,73,32,123,32,97,58,32,73,110,116,32,98,58,32,91,69,33,93,32,61,32,91,65,93,32,99,58,32,73,68,33,32,125,32,116,121,112,101,32,84,32,123,32,97,58,32,73,110,116,32,125,32,116,121,112,101,32,81,117,101,114,121,32,123,32,116,40,105,100,58,32,73,68,33,41,58,32,84,32,125])],
 op (.t 22) .mv [.t 23],
 op (.t 24) (.ext 0) [.t 22],
 op (.t 25) (.ext 1) [.t 22],
 op (.t 26) (.ext 2) [.t 22],
 op (.v 6) .mv [.t 24],
 op (.t 12) .mv [.t 25],
 op (.v 7) .mv [.t 26]]
def a8s8 : ACode := .reg [] a8r7
def a8r9 : List AOper := [
 op (.t 27) .mv [.v 3],
 op (.t 28) (.build [.str [],.list true [],.bool false] [(0,1),(2,1)]) [.c (.str [73,110,116]),.t 27],
 op (.t 29) .mv [.v 0],
 op (.t 30) (.build [.int .u8 0,.int .i64 0,.str [],.list true [],.list true []] [(0,1),(1,1)]) [.c (.int .u8 1),.c (.int .i64 5)],
 op (.t 31) (.build [.str [],.str [],.list true [],.bool false,.bool false,.int .u8 0,.int .i64 0,.str [],.list true [],.list true []] [(0,1),(1,3),(4,1),(5,5)]) [.c (.str [120]),.t 28,.t 29,.t 30],
 ⟨.bx,.alloc [.str [],.str [],.list true [],.bool false,.bool false,.int .u8 0,.int .i64 0,.str [],.list true [],.list true []],[],some 8,none⟩,
 ⟨.none,.stLc 8 10,[.l 8,.ts 31],some 8,none⟩]
def a8s10 : ACode := .reg [8] a8r9
def a8r11 : List AOper := [
 op (.t 32) (.build [.int .u8 0,.int .i64 0,.str [],.list true [],.list true []] [(0,1)]) [.c (.int .u8 6)],
 ⟨.bx,.alloc [.int .u8 0,.int .i64 0,.str [],.list true [],.list true []],[],some 9,none⟩,
 ⟨.none,.stLc 9 5,[.l 9,.ts 32],some 9,none⟩]
def a8s12 : ACode := .reg [9] a8r11
def a8r13 : List AOper := [
 op (.t 33) .mv [.v 1]]
def a8r14 : List AOper := [
 op (.t 34) (.bslice 1 [[.str []]] [0]) [.c (.str [120])],
 op (.t 35) (.fad 3) [.l 9],
 ⟨.none,.stLc 9 1,[.t 35,.ts 34],some 9,none⟩]
def a8s15 : ACode := .reg [] a8r14
def a8r16 : List AOper := [
 op (.t 36) .mv [.v 4],
 op (.t 37) (.conv .i64) [.t 36],
 op (.t 38) (.build [.int .u8 0,.int .i64 0,.str [],.list true [],.list true []] [(0,1),(1,1)]) [.c (.int .u8 1),.t 37],
 op (.t 39) (.bsliceO 5 [[.int .u8 0,.int .i64 0,.str [],.list true [],.list true []]] [0]) [.ts 38],
 op (.t 40) (.fad 4) [.l 9],
 ⟨.none,.stLc 9 1,[.t 40,.ts 39],some 9,none⟩]
def a8s17 : ACode := .reg [] a8r16
def a8r18 : List AOper := [
 op (.t 41) .mv [.v 2]]
def a8r19 : List AOper := [
 op (.t 42) (.fad 4) [.l 9],
 ⟨.t 43,.ldLc 9 false 1,[.t 42],some 9,none⟩,
 op (.t 44) (.build [.int .u8 0,.int .i64 0,.str [],.list true [],.list true []] []) [],
 op (.t 45) (.iad 5) [.t 43,.c (.int .i64 0)],
 op .none (.stSt 5) [.t 45,.ts 44]]
def a8s20 : ACode := .reg [] a8r19
def a8s21 : ACode := .test [] a8r18 (.t 41) a8s20 .skip
def a8s22 : ACode := .seq a8s17 a8s21
def a8s23 : ACode := .seq a8s15 a8s22
def a8s24 : ACode := .test [] a8r13 (.t 33) a8s23 .skip
def a8r25 : List AOper := [
 op (.t 47) .mv [.v 6],
 ⟨.t 48,.ldLc 8 true 10,[.l 8],some 8,none⟩,
 op (.t 49) (.bslice 10 [[.str [],.str [],.list true [],.bool false,.bool false,.int .u8 0,.int .i64 0,.str [],.list true [],.list true []]] [0]) [.t 48],
 ⟨.t 50,.ldLc 9 true 5,[.l 9],some 9,none⟩,
 op (.t 51) (.call 20) [.t 47,.t 49,.t 50],
 op (.t 46) .mv [.t 51],
 op (.t 52) (.ext 0) [.t 46],
 op (.t 53) (.ext 1) [.t 46],
 op (.t 54) (.ext 2) [.t 46],
 ⟨.bx,.alloc [.int .u8 0,.int .i64 0,.str [],.list true [],.list true []],[],some 10,none⟩,
 ⟨.none,.stLc 10 5,[.l 10,.ts 52],some 10,none⟩,
 op (.v 11) .mv [.t 53],
 op (.v 12) .mv [.t 54]]
def a8s26 : ACode := .reg [10] a8r25
def a8r27 : List AOper := [
 op (.t 56) .mv [.v 1],
 op (.t 57) .mv [.t 56],
 ⟨.t 58,.mv,[.v 2],none,some (.t 57,true)⟩,
 op (.t 59) .pick [.t 57,.t 58,.c (.bool false)],
 op (.t 60) .mv [.t 59],
 ⟨.t 61,.mv,[.v 3],none,some (.t 60,true)⟩,
 op (.t 62) .pick [.t 60,.t 61,.c (.bool false)],
 op (.v 14) .mv [.t 62]]
def a8r28 : List AOper := [
 op (.t 63) .mv [.v 1],
 op (.t 64) (.un .not) [.t 63],
 op (.t 65) .mv [.t 64],
 ⟨.t 66,.mv,[.v 0],none,some (.t 65,true)⟩,
 ⟨.t 67,.un .not,[.t 66],none,some (.t 65,true)⟩,
 op (.t 68) .pick [.t 65,.t 67,.c (.bool false)],
 op (.t 69) .mv [.t 68],
 ⟨.t 70,.mv,[.v 3],none,some (.t 69,true)⟩,
 op (.t 71) .pick [.t 69,.t 70,.c (.bool false)],
 op (.v 14) .mv [.t 71]]
def a8s29 : ACode := .reg [] a8r28
def a8s30 : ACode := .test [] a8r27 (.v 14) .skip a8s29
def a8r31 : List AOper := [
 op (.t 72) .mv [.v 7],
 op (.t 73) .mv [.t 72],
 ⟨.t 74,.mv,[.v 12],none,some (.t 73,true)⟩,
 ⟨.t 75,.bin .eql,[.t 74,.c (.int .i64 9)],none,some (.t 73,true)⟩,
 op (.t 76) .pick [.t 73,.t 75,.c (.bool false)],
 op (.t 77) .mv [.t 76],
 ⟨.t 78,.mv,[.v 11],none,some (.t 77,true)⟩,
 ⟨.t 79,.bin .eql,[.t 78,.c (.str [120])],none,some (.t 77,true)⟩,
 op (.t 80) .pick [.t 77,.t 79,.c (.bool false)],
 op (.t 81) .mv [.t 80],
 ⟨.t 82,.fad 3,[.l 10],none,some (.t 81,true)⟩,
 ⟨.t 83,.ldLc 10 false 1,[.t 82],some 10,some (.t 81,true)⟩,
 ⟨.t 84,.lenL,[.t 83],none,some (.t 81,true)⟩,
 ⟨.t 85,.bin .eql,[.t 84,.c (.int .i64 0)],none,some (.t 81,true)⟩,
 op (.t 86) .pick [.t 81,.t 85,.c (.bool false)],
 op (.v 5) .mv [.t 86]]
def a8s32 : ACode := .reg [] a8r31
def a8s33 : ACode := .seq a8s32 .ret
def a8r34 : List AOper := [
 op (.t 88) .mv [.v 1],
 op (.t 89) (.un .not) [.t 88],
 op (.t 90) .mv [.t 89],
 ⟨.t 91,.mv,[.v 0],none,some (.t 90,true)⟩,
 ⟨.t 92,.un .not,[.t 91],none,some (.t 90,true)⟩,
 op (.t 93) .pick [.t 90,.t 92,.c (.bool false)],
 op (.t 87) .mv [.t 93]]
def a8r35 : List AOper := [
 op (.t 94) .mv [.v 7],
 op (.t 95) .mv [.t 94],
 ⟨.t 96,.mv,[.v 12],none,some (.t 95,true)⟩,
 ⟨.t 97,.bin .eql,[.t 96,.c (.int .i64 0)],none,some (.t 95,true)⟩,
 op (.t 98) .pick [.t 95,.t 97,.c (.bool false)],
 op (.t 99) .mv [.t 98],
 ⟨.t 100,.fad 3,[.l 10],none,some (.t 99,true)⟩,
 ⟨.t 101,.ldLc 10 false 1,[.t 100],some 10,some (.t 99,true)⟩,
 ⟨.t 102,.lenL,[.t 101],none,some (.t 99,true)⟩,
 ⟨.t 103,.bin .eql,[.t 102,.c (.int .i64 0)],none,some (.t 99,true)⟩,
 op (.t 104) .pick [.t 99,.t 103,.c (.bool false)],
 op (.v 5) .mv [.t 104]]
def a8s36 : ACode := .reg [] a8r35
def a8s37 : ACode := .seq a8s36 .ret
def a8s38 : ACode := .test [] a8r34 (.t 87) a8s37 .skip
def a8s39 : ACode := .test [] [] (.v 14) a8s33 a8s38
def a8s40 : ACode := .seq a8s30 a8s39
def a8s41 : ACode := .blk 0 a8s40
def a8r42 : List AOper := [
 op (.t 105) (.build [.int .u8 0,.int .i64 0,.str [],.list true [],.list true []] [(0,1),(1,1)]) [.c (.int .u8 1),.c (.int .i64 5)],
 ⟨.bx,.alloc [.int .u8 0,.int .i64 0,.str [],.list true [],.list true []],[],some 13,none⟩,
 ⟨.none,.stLc 13 5,[.l 13,.ts 105],some 13,none⟩]
def a8s43 : ACode := .reg [13] a8r42
def a8r44 : List AOper := [
 op (.t 106) .mv [.v 1]]
def a8r45 : List AOper := [
 op (.t 107) (.fad 4) [.l 9],
 ⟨.t 108,.ldLc 9 false 1,[.t 107],some 9,none⟩,
 op (.t 109) (.iad 5) [.t 108,.c (.int .i64 0)],
 op (.t 110) (.ldAn true 5) [.t 109],
 ⟨.none,.stLc 13 5,[.l 13,.ts 110],some 13,none⟩]
def a8s46 : ACode := .reg [] a8r45
def a8s47 : ACode := .test [] a8r44 (.t 106) a8s46 .skip
def a8r48 : List AOper := [
 op (.t 111) .mv [.v 7],
 op (.t 112) .mv [.t 111],
 ⟨.t 113,.mv,[.v 12],none,some (.t 112,true)⟩,
 ⟨.t 114,.bin .eql,[.t 113,.c (.int .i64 0)],none,some (.t 112,true)⟩,
 op (.t 115) .pick [.t 112,.t 114,.c (.bool false)],
 op (.t 116) .mv [.t 115],
 ⟨.t 117,.fad 3,[.l 10],none,some (.t 116,true)⟩,
 ⟨.t 118,.ldLc 10 false 1,[.t 117],some 10,some (.t 116,true)⟩,
 ⟨.t 119,.lenL,[.t 118],none,some (.t 116,true)⟩,
 ⟨.t 120,.bin .eql,[.t 119,.c (.int .i64 1)],none,some (.t 116,true)⟩,
 op (.t 121) .pick [.t 116,.t 120,.c (.bool false)],
 op (.t 122) .mv [.t 121],
 ⟨.t 123,.fad 4,[.l 10],none,some (.t 122,true)⟩,
 ⟨.t 124,.ldLc 10 false 1,[.t 123],some 10,some (.t 122,true)⟩,
 ⟨.t 125,.iad 5,[.t 124,.c (.int .i64 0)],none,some (.t 122,true)⟩,
 ⟨.t 126,.ldAn true 5,[.t 125],none,some (.t 122,true)⟩,
 ⟨.t 127,.ldLc 13 true 5,[.l 13],some 13,some (.t 122,true)⟩,
 ⟨.t 128,.call 14,[.t 126,.t 127],none,some (.t 122,true)⟩,
 op (.t 129) .pick [.t 122,.t 128,.c (.bool false)],
 op (.v 5) .mv [.t 129]]
def a8s49 : ACode := .reg [] a8r48
def a8s50 : ACode := .seq a8s49 .ret
def a8s51 : ACode := .seq a8s47 a8s50
def a8s52 : ACode := .seq a8s43 a8s51
def a8s53 : ACode := .seq a8s41 a8s52
def a8s54 : ACode := .seq a8s26 a8s53
def a8s55 : ACode := .seq a8s24 a8s54
def a8s56 : ACode := .seq a8s12 a8s55
def a8s57 : ACode := .seq a8s10 a8s56
def a8s58 : ACode := .seq a8s8 a8s57
def a8s59 : ACode := .seq a8s6 a8s58
def a8s60 : ACode := .seq a8s1 a8s59
def a8c : ACode :=
  a8s60
def a8 : AFn := { np := 5,nv := 15,results := [.v 5],code := a8c }
def a8v : List Nat := [0,1,2,3,4,10,11,13,14,15,16,17,18,19,55]
def a8b : List Nat := [8,9,10,13]

def a9r0 : List AOper := [
 op (.v 0) .mv [.c (.bool false)]]
def a9s1 : ACode := .reg [] a9r0
def a9r2 : List AOper := [
 op (.t 10) (.call 12) [.c (.str [101,110,117,109,32,69,32,123,32,65,32,66,32,125,32,105,110,112,117,116,32,73,32,123,32,97,58,32,73,110,116,32,98,58,32,91,69,33,93,32,61,32,91,65,93,32,99,58,32,73,68,33,32,125,32,116,121,112,101,32,84,32,123,32,97,58,32,73,110,116,32,125,32,116,121,112,101,32,81,117,101,114,121,32,123,32,116,40,105,100,58,32,73,68,33,41,58,32,84,32,125])],
 op (.t 9) .mv [.t 10],
 op (.t 11) (.ext 0) [.t 9],
 op (.t 12) (.ext 1) [.t 9],
 op (.t 13) (.ext 2) [.t 9],
 op (.v 1) .mv [.t 11],
 op (.t 2) .mv [.t 12],
 op (.v 2) .mv [.t 13]]
def a9s3 : ACode := .reg [] a9r2
def a9r4 : List AOper := [
 op (.t 14) .mv [.v 2],
 op (.t 15) (.un .not) [.t 14]]
def a9r5 : List AOper := [
 op (.v 0) .mv [.c (.bool false)]]
def a9s6 : ACode := .reg [] a9r5
def a9s7 : ACode := .seq a9s6 .ret
def a9s8 : ACode := .test [] a9r4 (.t 15) a9s7 .skip
def a9r9 : List AOper := [
 op (.t 17) .mv [.v 1],
 op (.t 18) (.build [.str [],.list true [],.bool false] [(0,1)]) [.c (.str [73,110,116])],
 op (.t 19) (.bslice 3 [[.str [],.list true [],.bool false]] [0]) [.t 18],
 op (.t 20) (.build [.str [],.list true [],.bool false] [(1,1)]) [.t 19],
 op (.t 21) (.build [.int .u8 0,.int .i64 0,.str [],.list true [],.list true []] [(0,1),(1,1)]) [.c (.int .u8 1),.c (.int .i64 3)],
 op (.t 22) (.build [.int .u8 0,.int .i64 0,.str [],.list true [],.list true []] []) [],
 op (.t 23) (.call 19) [.t 17,.t 20,.t 21,.t 22],
 op (.t 16) .mv [.t 23],
 op (.t 24) (.ext 0) [.t 16],
 op (.t 25) (.ext 1) [.t 16],
 op (.t 26) (.ext 2) [.t 16],
 ⟨.bx,.alloc [.int .u8 0,.int .i64 0,.str [],.list true [],.list true []],[],some 3,none⟩,
 ⟨.none,.stLc 3 5,[.l 3,.ts 24],some 3,none⟩,
 op (.t 5) .mv [.t 25],
 op (.v 4) .mv [.t 26]]
def a9s10 : ACode := .reg [3] a9r9
def a9r11 : List AOper := [
 op (.t 28) .mv [.v 1],
 op (.t 29) (.build [.str [],.list true [],.bool false] [(0,1)]) [.c (.str [73,68])],
 op (.t 30) (.build [.int .u8 0,.int .i64 0,.str [],.list true [],.list true []] [(0,1),(1,1)]) [.c (.int .u8 1),.c (.int .i64 7)],
 op (.t 31) (.call 13) [.t 28,.t 29,.t 30],
 op (.t 27) .mv [.t 31],
 op (.t 32) (.ext 0) [.t 27],
 op (.t 33) (.ext 1) [.t 27],
 ⟨.bx,.alloc [.int .u8 0,.int .i64 0,.str [],.list true [],.list true []],[],some 5,none⟩,
 ⟨.none,.stLc 5 5,[.l 5,.ts 32],some 5,none⟩,
 op (.v 6) .mv [.t 33]]
def a9s12 : ACode := .reg [5] a9r11
def a9r13 : List AOper := [
 op (.t 34) .mv [.v 4],
 op (.t 35) (.bin .eql) [.t 34,.c (.int .i64 0)],
 op (.t 36) .mv [.t 35],
 ⟨.t 37,.fad 0,[.l 3],none,some (.t 36,true)⟩,
 ⟨.t 38,.ldLc 3 false 1,[.t 37],some 3,some (.t 36,true)⟩,
 ⟨.t 39,.bin .eql,[.t 38,.c (.int .u8 5)],none,some (.t 36,true)⟩,
 op (.t 40) .pick [.t 36,.t 39,.c (.bool false)],
 op (.t 41) .mv [.t 40],
 ⟨.t 42,.fad 4,[.l 3],none,some (.t 41,true)⟩,
 ⟨.t 43,.ldLc 3 false 1,[.t 42],some 3,some (.t 41,true)⟩,
 ⟨.t 44,.lenL,[.t 43],none,some (.t 41,true)⟩,
 ⟨.t 45,.bin .eql,[.t 44,.c (.int .i64 1)],none,some (.t 41,true)⟩,
 op (.t 46) .pick [.t 41,.t 45,.c (.bool false)],
 op (.t 47) .mv [.t 46],
 ⟨.t 48,.fad 4,[.l 3],none,some (.t 47,true)⟩,
 ⟨.t 49,.ldLc 3 false 1,[.t 48],some 3,some (.t 47,true)⟩,
 ⟨.t 50,.iad 5,[.t 49,.c (.int .i64 0)],none,some (.t 47,true)⟩,
 ⟨.t 51,.fad 1,[.t 50],none,some (.t 47,true)⟩,
 ⟨.t 52,.ldAn false 1,[.t 51],none,some (.t 47,true)⟩,
 ⟨.t 53,.bin .eql,[.t 52,.c (.int .i64 3)],none,some (.t 47,true)⟩,
 op (.t 54) .pick [.t 47,.t 53,.c (.bool false)],
 op (.t 55) .mv [.t 54],
 ⟨.t 56,.mv,[.v 6],none,some (.t 55,true)⟩,
 ⟨.t 57,.bin .eql,[.t 56,.c (.int .i64 0)],none,some (.t 55,true)⟩,
 op (.t 58) .pick [.t 55,.t 57,.c (.bool false)],
 op (.t 59) .mv [.t 58],
 ⟨.t 60,.fad 0,[.l 5],none,some (.t 59,true)⟩,
 ⟨.t 61,.ldLc 5 false 1,[.t 60],some 5,some (.t 59,true)⟩,
 ⟨.t 62,.bin .eql,[.t 61,.c (.int .u8 2)],none,some (.t 59,true)⟩,
 op (.t 63) .pick [.t 59,.t 62,.c (.bool false)],
 op (.t 64) .mv [.t 63],
 ⟨.t 65,.fad 2,[.l 5],none,some (.t 64,true)⟩,
 ⟨.t 66,.ldLc 5 false 1,[.t 65],some 5,some (.t 64,true)⟩,
 ⟨.t 67,.bin .eql,[.t 66,.c (.str [55])],none,some (.t 64,true)⟩,
 op (.t 68) .pick [.t 64,.t 67,.c (.bool false)],
 op (.v 0) .mv [.t 68]]
def a9s14 : ACode := .reg [] a9r13
def a9s15 : ACode := .seq a9s14 .ret
def a9s16 : ACode := .seq a9s12 a9s15
def a9s17 : ACode := .seq a9s10 a9s16
def a9s18 : ACode := .seq a9s8 a9s17
def a9s19 : ACode := .seq a9s3 a9s18
def a9s20 : ACode := .seq a9s1 a9s19
def a9c : ACode :=
  a9s20
def a9 : AFn := { np := 0,nv := 7,results := [.v 0],code := a9c }
def a9v : List Nat := [0,1,3,4,6,7,8]
def a9b : List Nat := [3,5]

def a12r0 : List AOper := [
 op (.v 1) .mv [.c (.nilp)],
 op (.v 2) .mv [.c (.nilp)],
 op (.v 3) .mv [.c (.bool false)]]
def a12s1 : ACode := .reg [] a12r0
def a12r2 : List AOper := [
 op (.t 15) .mv [.v 0],
 op (.t 16) (.call 23) [.t 15],
 op (.t 14) .mv [.t 16],
 op (.t 17) (.ext 0) [.t 14],
 op (.t 18) (.ext 1) [.t 14],
 op (.t 19) (.ext 2) [.t 14],
 op (.v 4) .mv [.ts 17],
 op (.t 6) .mv [.t 18],
 op (.v 5) .mv [.t 19]]
def a12s3 : ACode := .reg [] a12r2
def a12r4 : List AOper := [
 op (.t 20) .mv [.v 5],
 op (.t 21) (.bin .neq) [.t 20,.c (.int .i64 0)]]
def a12r5 : List AOper := [
 op (.v 1) .mv [.c (.nilp)],
 op (.v 2) .mv [.c (.nilp)],
 op (.v 3) .mv [.c (.bool false)]]
def a12s6 : ACode := .reg [] a12r5
def a12s7 : ACode := .seq a12s6 .ret
def a12s8 : ACode := .test [] a12r4 (.t 21) a12s7 .skip
def a12r9 : List AOper := [
 op (.t 23) .mv [.v 4],
 op (.t 24) (.call 24) [.t 23],
 op (.t 22) .mv [.t 24],
 op (.t 25) (.ext 0) [.t 22],
 op (.t 26) (.ext 1) [.t 22],
 op (.t 27) (.ext 2) [.t 22],
 op (.v 6) .mv [.t 25],
 op (.t 9) .mv [.t 26],
 op (.v 7) .mv [.t 27]]
def a12s10 : ACode := .reg [] a12r9
def a12r11 : List AOper := [
 op (.t 29) .mv [.v 4],
 op (.t 30) (.call 25) [.t 29],
 op (.t 28) .mv [.t 30],
 op (.t 31) (.ext 0) [.t 28],
 op (.t 32) (.ext 1) [.t 28],
 op (.t 33) (.ext 2) [.t 28],
 op (.v 8) .mv [.t 31],
 op (.t 12) .mv [.t 32],
 op (.v 9) .mv [.t 33]]
def a12s12 : ACode := .reg [] a12r11
def a12r13 : List AOper := [
 op (.t 34) .mv [.v 6],
 op (.t 35) .mv [.v 8],
 op (.t 36) .mv [.v 7],
 op (.t 37) (.bin .eql) [.t 36,.c (.int .i64 0)],
 op (.t 38) .mv [.t 37],
 ⟨.t 39,.mv,[.v 9],none,some (.t 38,true)⟩,
 ⟨.t 40,.bin .eql,[.t 39,.c (.int .i64 0)],none,some (.t 38,true)⟩,
 op (.t 41) .pick [.t 38,.t 40,.c (.bool false)],
 op (.v 1) .mv [.t 34],
 op (.v 2) .mv [.t 35],
 op (.v 3) .mv [.t 41]]
def a12s14 : ACode := .reg [] a12r13
def a12s15 : ACode := .seq a12s14 .ret
def a12s16 : ACode := .seq a12s12 a12s15
def a12s17 : ACode := .seq a12s10 a12s16
def a12s18 : ACode := .seq a12s8 a12s17
def a12s19 : ACode := .seq a12s3 a12s18
def a12s20 : ACode := .seq a12s1 a12s19
def a12c : ACode :=
  a12s20
def a12 : AFn := { np := 1,nv := 10,results := [.v 1,.v 2,.v 3],code := a12c }
def a12v : List Nat := [0,2,3,4,5,7,8,10,11,13]
def a12b : List Nat := []

def a13r0 : List AOper := [
 ⟨.bx,.boxV,[.v 1],some 3,none⟩,
 ⟨.bx,.boxV,[.v 2],some 4,none⟩,
 ⟨.bx,.alloc [.int .u8 0,.int .i64 0,.str [],.list true [],.list true []],[],some 5,none⟩,
 op (.v 6) .mv [.c (.int .i64 0)]]
def a13s1 : ACode := .reg [3,4,5] a13r0
def a13r2 : List AOper := [
 op (.t 12) .mv [.v 0],
 op (.t 13) (.build [.int .u8 0,.int .i64 0,.str [],.list true [],.list true []] []) [],
 op (.t 14) (.build [.nilp,.int .u8 0,.int .i64 0,.str [],.list true [],.list true [],.bool false] [(0,1),(1,5),(6,1)]) [.t 12,.t 13,.c (.bool true)],
 ⟨.bx,.alloc [.nilp,.int .u8 0,.int .i64 0,.str [],.list true [],.list true [],.bool false],[],some 7,none⟩,
 ⟨.none,.stLc 7 7,[.l 7,.ts 14],some 7,none⟩]
def a13s3 : ACode := .reg [7] a13r2
def a13r4 : List AOper := [
 ⟨.t 16,.ldLc 7 true 7,[.l 7],some 7,none⟩,
 ⟨.t 17,.ldLc 3 true 3,[.l 3],some 3,none⟩,
 ⟨.t 18,.ldLc 4 true 5,[.l 4],some 4,none⟩,
 op (.t 19) (.call 26) [.t 16,.t 17,.t 18],
 op (.t 15) .mv [.t 19],
 op (.t 20) (.ext 0) [.t 15],
 op (.t 21) (.ext 1) [.t 15],
 op (.t 22) (.ext 2) [.t 15],
 ⟨.bx,.alloc [.int .u8 0,.int .i64 0,.str [],.list true [],.list true []],[],some 8,none⟩,
 ⟨.none,.stLc 8 5,[.l 8,.ts 20],some 8,none⟩,
 op (.t 10) .mv [.t 21],
 op (.v 9) .mv [.t 22]]
def a13s5 : ACode := .reg [8] a13r4
def a13r6 : List AOper := [
 ⟨.t 23,.ldLc 8 true 5,[.l 8],some 8,none⟩,
 op (.t 24) .mv [.v 9],
 ⟨.none,.stLc 5 5,[.l 5,.ts 23],some 5,none⟩,
 op (.v 6) .mv [.t 24]]
def a13s7 : ACode := .reg [] a13r6
def a13s8 : ACode := .seq a13s7 .ret
def a13s9 : ACode := .seq a13s5 a13s8
def a13s10 : ACode := .seq a13s3 a13s9
def a13s11 : ACode := .seq a13s1 a13s10
def a13c : ACode :=
  a13s11
def a13 : AFn := { np := 3,nv := 10,results := [.bx 5 true 5,.v 6],code := a13c }
def a13v : List Nat := [0,1,2,4,5,6,7,8,9,11]
def a13b : List Nat := [3,4,5,7,8]

def a14r0 : List AOper := [
 ⟨.bx,.boxV,[.v 0],some 2,none⟩,
 ⟨.bx,.boxV,[.v 1],some 3,none⟩,
 op (.v 4) .mv [.c (.bool false)]]
def a14s1 : ACode := .reg [2,3] a14r0
def a14r2 : List AOper := [
 op (.t 7) (.fad 0) [.l 2],
 ⟨.t 8,.ldLc 2 false 1,[.t 7],some 2,none⟩,
 op (.t 9) (.fad 0) [.l 3],
 ⟨.t 10,.ldLc 3 false 1,[.t 9],some 3,none⟩,
 op (.t 11) (.bin .neq) [.t 8,.t 10],
 op (.t 12) .mv [.t 11],
 ⟨.t 13,.fad 1,[.l 2],none,some (.t 12,false)⟩,
 ⟨.t 14,.ldLc 2 false 1,[.t 13],some 2,some (.t 12,false)⟩,
 ⟨.t 15,.fad 1,[.l 3],none,some (.t 12,false)⟩,
 ⟨.t 16,.ldLc 3 false 1,[.t 15],some 3,some (.t 12,false)⟩,
 ⟨.t 17,.bin .neq,[.t 14,.t 16],none,some (.t 12,false)⟩,
 op (.t 18) .pick [.t 12,.c (.bool true),.t 17],
 op (.t 19) .mv [.t 18],
 ⟨.t 20,.fad 2,[.l 2],none,some (.t 19,false)⟩,
 ⟨.t 21,.ldLc 2 false 1,[.t 20],some 2,some (.t 19,false)⟩,
 ⟨.t 22,.fad 2,[.l 3],none,some (.t 19,false)⟩,
 ⟨.t 23,.ldLc 3 false 1,[.t 22],some 3,some (.t 19,false)⟩,
 ⟨.t 24,.bin .neq,[.t 21,.t 23],none,some (.t 19,false)⟩,
 op (.t 25) .pick [.t 19,.c (.bool true),.t 24],
 op (.t 26) .mv [.t 25],
 ⟨.t 27,.fad 3,[.l 2],none,some (.t 26,false)⟩,
 ⟨.t 28,.ldLc 2 false 1,[.t 27],some 2,some (.t 26,false)⟩,
 ⟨.t 29,.lenL,[.t 28],none,some (.t 26,false)⟩,
 ⟨.t 30,.fad 3,[.l 3],none,some (.t 26,false)⟩,
 ⟨.t 31,.ldLc 3 false 1,[.t 30],some 3,some (.t 26,false)⟩,
 ⟨.t 32,.lenL,[.t 31],none,some (.t 26,false)⟩,
 ⟨.t 33,.bin .neq,[.t 29,.t 32],none,some (.t 26,false)⟩,
 op (.t 34) .pick [.t 26,.c (.bool true),.t 33],
 op (.t 35) .mv [.t 34],
 ⟨.t 36,.fad 4,[.l 2],none,some (.t 35,false)⟩,
 ⟨.t 37,.ldLc 2 false 1,[.t 36],some 2,some (.t 35,false)⟩,
 ⟨.t 38,.lenL,[.t 37],none,some (.t 35,false)⟩,
 ⟨.t 39,.fad 4,[.l 3],none,some (.t 35,false)⟩,
 ⟨.t 40,.ldLc 3 false 1,[.t 39],some 3,some (.t 35,false)⟩,
 ⟨.t 41,.lenL,[.t 40],none,some (.t 35,false)⟩,
 ⟨.t 42,.bin .neq,[.t 38,.t 41],none,some (.t 35,false)⟩,
 op (.t 43) .pick [.t 35,.c (.bool true),.t 42]]
def a14r3 : List AOper := [
 op (.v 4) .mv [.c (.bool false)]]
def a14s4 : ACode := .reg [] a14r3
def a14s5 : ACode := .seq a14s4 .ret
def a14s6 : ACode := .test [] a14r2 (.t 43) a14s5 .skip
def a14r7 : List AOper := [
 op (.v 5) .mv [.c (.int .i64 0)]]
def a14s8 : ACode := .reg [] a14r7
def a14r9 : List AOper := [
 op (.t 44) .mv [.v 5],
 op (.t 45) (.fad 3) [.l 2],
 ⟨.t 46,.ldLc 2 false 1,[.t 45],some 2,none⟩,
 op (.t 47) .lenL [.t 46],
 op (.t 48) (.bin .lss) [.t 44,.t 47]]
def a14s10 : ACode := .test [] a14r9 (.t 48) .skip (.exit 0)
def a14r11 : List AOper := [
 op (.t 51) (.fad 3) [.l 2],
 ⟨.t 52,.ldLc 2 false 1,[.t 51],some 2,none⟩,
 op (.t 53) .mv [.v 5],
 op (.t 54) (.iad 1) [.t 52,.t 53],
 op (.t 55) (.ldRo false 1) [.t 54],
 op (.t 56) (.fad 3) [.l 3],
 ⟨.t 57,.ldLc 3 false 1,[.t 56],some 3,none⟩,
 op (.t 58) .mv [.v 5],
 op (.t 59) (.iad 1) [.t 57,.t 58],
 op (.t 60) (.ldRo false 1) [.t 59],
 op (.t 61) (.bin .neq) [.t 55,.t 60]]
def a14r12 : List AOper := [
 op (.v 4) .mv [.c (.bool false)]]
def a14s13 : ACode := .reg [] a14r12
def a14s14 : ACode := .seq a14s13 .ret
def a14s15 : ACode := .test [] a14r11 (.t 61) a14s14 .skip
def a14s16 : ACode := .blk 1 a14s15
def a14r17 : List AOper := [
 op (.t 49) .mv [.v 5],
 op (.t 50) (.bin .add) [.t 49,.c (.int .i64 1)],
 op (.v 5) .mv [.t 50]]
def a14s18 : ACode := .reg [] a14r17
def a14s19 : ACode := .seq a14s16 a14s18
def a14s20 : ACode := .seq a14s10 a14s19
def a14s21 : ACode := .loop a14s20
def a14s22 : ACode := .blk 0 a14s21
def a14s23 : ACode := .seq a14s8 a14s22
def a14r24 : List AOper := [
 op (.v 6) .mv [.c (.int .i64 0)]]
def a14s25 : ACode := .reg [] a14r24
def a14r26 : List AOper := [
 op (.t 62) .mv [.v 6],
 op (.t 63) (.fad 4) [.l 2],
 ⟨.t 64,.ldLc 2 false 1,[.t 63],some 2,none⟩,
 op (.t 65) .lenL [.t 64],
 op (.t 66) (.bin .lss) [.t 62,.t 65]]
def a14s27 : ACode := .test [] a14r26 (.t 66) .skip (.exit 2)
def a14r28 : List AOper := [
 op (.t 69) (.fad 4) [.l 2],
 ⟨.t 70,.ldLc 2 false 1,[.t 69],some 2,none⟩,
 op (.t 71) .mv [.v 6],
 op (.t 72) (.iad 5) [.t 70,.t 71],
 op (.t 73) (.ldAn true 5) [.t 72],
 op (.t 74) (.fad 4) [.l 3],
 ⟨.t 75,.ldLc 3 false 1,[.t 74],some 3,none⟩,
 op (.t 76) .mv [.v 6],
 op (.t 77) (.iad 5) [.t 75,.t 76],
 op (.t 78) (.ldAn true 5) [.t 77],
 op (.t 79) (.call 14) [.t 73,.t 78],
 op (.t 80) (.un .not) [.t 79]]
def a14r29 : List AOper := [
 op (.v 4) .mv [.c (.bool false)]]
def a14s30 : ACode := .reg [] a14r29
def a14s31 : ACode := .seq a14s30 .ret
def a14s32 : ACode := .test [] a14r28 (.t 80) a14s31 .skip
def a14s33 : ACode := .blk 3 a14s32
def a14r34 : List AOper := [
 op (.t 67) .mv [.v 6],
 op (.t 68) (.bin .add) [.t 67,.c (.int .i64 1)],
 op (.v 6) .mv [.t 68]]
def a14s35 : ACode := .reg [] a14r34
def a14s36 : ACode := .seq a14s33 a14s35
def a14s37 : ACode := .seq a14s27 a14s36
def a14s38 : ACode := .loop a14s37
def a14s39 : ACode := .blk 2 a14s38
def a14s40 : ACode := .seq a14s25 a14s39
def a14r41 : List AOper := [
 op (.v 4) .mv [.c (.bool true)]]
def a14s42 : ACode := .reg [] a14r41
def a14s43 : ACode := .seq a14s42 .ret
def a14s44 : ACode := .seq a14s40 a14s43
def a14s45 : ACode := .seq a14s23 a14s44
def a14s46 : ACode := .seq a14s6 a14s45
def a14s47 : ACode := .seq a14s1 a14s46
def a14c : ACode :=
  a14s47
def a14 : AFn := { np := 2,nv := 7,results := [.v 4],code := a14c }
def a14v : List Nat := [0,1,2,3,4,5,6]
def a14b : List Nat := [2,3]

def a15r0 : List AOper := [
 ⟨.bx,.boxV,[.v 1],some 4,none⟩,
 ⟨.bx,.boxV,[.v 2],some 5,none⟩,
 op (.v 6) .mv [.c (.bool false)]]
def a15s1 : ACode := .reg [4,5] a15r0
def a15r2 : List AOper := [
 op (.t 14) (.fad 0) [.l 5],
 ⟨.t 15,.ldLc 5 false 1,[.t 14],some 5,none⟩,
 op (.t 16) (.bin .eql) [.t 15,.c (.int .u8 7)],
 op (.t 17) .mv [.t 16],
 ⟨.t 18,.mv,[.v 3],none,some (.t 17,true)⟩,
 op (.t 19) .pick [.t 17,.t 18,.c (.bool false)]]
def a15r3 : List AOper := [
 op (.v 6) .mv [.c (.bool true)]]
def a15s4 : ACode := .reg [] a15r3
def a15s5 : ACode := .seq a15s4 .ret
def a15s6 : ACode := .test [] a15r2 (.t 19) a15s5 .skip
def a15r7 : List AOper := [
 op (.t 20) (.fad 0) [.l 5],
 ⟨.t 21,.ldLc 5 false 1,[.t 20],some 5,none⟩,
 op (.t 22) (.bin .eql) [.t 21,.c (.int .u8 0)]]
def a15r8 : List AOper := [
 op (.t 23) (.fad 2) [.l 4],
 ⟨.t 24,.ldLc 4 false 1,[.t 23],some 4,none⟩,
 op (.t 25) (.un .not) [.t 24],
 op (.v 6) .mv [.t 25]]
def a15s9 : ACode := .reg [] a15r8
def a15s10 : ACode := .seq a15s9 .ret
def a15s11 : ACode := .test [] a15r7 (.t 22) a15s10 .skip
def a15r12 : List AOper := [
 op (.t 26) (.fad 1) [.l 4],
 ⟨.t 27,.ldLc 4 false 1,[.t 26],some 4,none⟩,
 op (.t 28) .lenL [.t 27],
 op (.t 29) (.bin .gtr) [.t 28,.c (.int .i64 0)]]
def a15r13 : List AOper := [
 op (.t 30) (.fad 0) [.l 5],
 ⟨.t 31,.ldLc 5 false 1,[.t 30],some 5,none⟩,
 op (.t 32) (.bin .neq) [.t 31,.c (.int .u8 5)]]
def a15r14 : List AOper := [
 op (.t 33) .mv [.v 0],
 op (.t 34) (.fad 1) [.l 4],
 ⟨.t 35,.ldLc 4 false 1,[.t 34],some 4,none⟩,
 op (.t 36) (.iad 3) [.t 35,.c (.int .i64 0)],
 op (.t 37) (.ldRo true 3) [.t 36],
 ⟨.t 38,.ldLc 5 true 5,[.l 5],some 5,none⟩,
 op (.t 39) .mv [.v 3],
 op (.t 40) (.call 15) [.t 33,.t 37,.t 38,.t 39],
 op (.v 6) .mv [.t 40]]
def a15s15 : ACode := .reg [] a15r14
def a15s16 : ACode := .seq a15s15 .ret
def a15s17 : ACode := .test [] a15r13 (.t 32) a15s16 .skip
def a15r18 : List AOper := [
 op (.v 7) .mv [.c (.int .i64 0)]]
def a15s19 : ACode := .reg [] a15r18
def a15r20 : List AOper := [
 op (.t 41) .mv [.v 7],
 op (.t 42) (.fad 4) [.l 5],
 ⟨.t 43,.ldLc 5 false 1,[.t 42],some 5,none⟩,
 op (.t 44) .lenL [.t 43],
 op (.t 45) (.bin .lss) [.t 41,.t 44]]
def a15s21 : ACode := .test [] a15r20 (.t 45) .skip (.exit 0)
def a15r22 : List AOper := [
 op (.t 48) .mv [.v 0],
 op (.t 49) (.fad 1) [.l 4],
 ⟨.t 50,.ldLc 4 false 1,[.t 49],some 4,none⟩,
 op (.t 51) (.iad 3) [.t 50,.c (.int .i64 0)],
 op (.t 52) (.ldRo true 3) [.t 51],
 op (.t 53) (.fad 4) [.l 5],
 ⟨.t 54,.ldLc 5 false 1,[.t 53],some 5,none⟩,
 op (.t 55) .mv [.v 7],
 op (.t 56) (.iad 5) [.t 54,.t 55],
 op (.t 57) (.ldAn true 5) [.t 56],
 op (.t 58) .mv [.v 3],
 op (.t 59) (.call 15) [.t 48,.t 52,.t 57,.t 58],
 op (.t 60) (.un .not) [.t 59]]
def a15r23 : List AOper := [
 op (.v 6) .mv [.c (.bool false)]]
def a15s24 : ACode := .reg [] a15r23
def a15s25 : ACode := .seq a15s24 .ret
def a15s26 : ACode := .test [] a15r22 (.t 60) a15s25 .skip
def a15s27 : ACode := .blk 1 a15s26
def a15r28 : List AOper := [
 op (.t 46) .mv [.v 7],
 op (.t 47) (.bin .add) [.t 46,.c (.int .i64 1)],
 op (.v 7) .mv [.t 47]]
def a15s29 : ACode := .reg [] a15r28
def a15s30 : ACode := .seq a15s27 a15s29
def a15s31 : ACode := .seq a15s21 a15s30
def a15s32 : ACode := .loop a15s31
def a15s33 : ACode := .blk 0 a15s32
def a15s34 : ACode := .seq a15s19 a15s33
def a15r35 : List AOper := [
 op (.v 6) .mv [.c (.bool true)]]
def a15s36 : ACode := .reg [] a15r35
def a15s37 : ACode := .seq a15s36 .ret
def a15s38 : ACode := .seq a15s34 a15s37
def a15s39 : ACode := .seq a15s17 a15s38
def a15s40 : ACode := .test [] a15r12 (.t 29) a15s39 .skip
def a15r41 : List AOper := [
 op (.t 61) (.fad 0) [.l 4],
 ⟨.v 12,.ldLc 4 false 1,[.t 61],some 4,none⟩]
def a15s42 : ACode := .reg [] a15r41
def a15r43 : List AOper := [
 op (.t 64) (.bin .eql) [.v 12,.c (.str [73,110,116])],
 op (.t 63) .mv [.t 64]]
def a15r44 : List AOper := [
 op (.t 65) (.fad 0) [.l 5],
 ⟨.t 66,.ldLc 5 false 1,[.t 65],some 5,none⟩,
 op (.t 67) (.bin .eql) [.t 66,.c (.int .u8 1)],
 op (.t 68) .mv [.t 67],
 ⟨.t 69,.fad 1,[.l 5],none,some (.t 68,true)⟩,
 ⟨.t 70,.ldLc 5 false 1,[.t 69],some 5,some (.t 68,true)⟩,
 ⟨.t 71,.bin .geq,[.t 70,.c (.int .i64 (-2147483648))],none,some (.t 68,true)⟩,
 op (.t 72) .pick [.t 68,.t 71,.c (.bool false)],
 op (.t 73) .mv [.t 72],
 ⟨.t 74,.fad 1,[.l 5],none,some (.t 73,true)⟩,
 ⟨.t 75,.ldLc 5 false 1,[.t 74],some 5,some (.t 73,true)⟩,
 ⟨.t 76,.bin .leq,[.t 75,.c (.int .i64 2147483647)],none,some (.t 73,true)⟩,
 op (.t 77) .pick [.t 73,.t 76,.c (.bool false)],
 op (.v 6) .mv [.t 77]]
def a15s45 : ACode := .reg [] a15r44
def a15s46 : ACode := .seq a15s45 .ret
def a15r47 : List AOper := [
 op (.t 79) (.bin .eql) [.v 12,.c (.str [83,116,114,105,110,103])],
 op (.t 78) .mv [.t 79]]
def a15r48 : List AOper := [
 op (.t 80) (.fad 0) [.l 5],
 ⟨.t 81,.ldLc 5 false 1,[.t 80],some 5,none⟩,
 op (.t 82) (.bin .eql) [.t 81,.c (.int .u8 2)],
 op (.v 6) .mv [.t 82]]
def a15s49 : ACode := .reg [] a15r48
def a15s50 : ACode := .seq a15s49 .ret
def a15r51 : List AOper := [
 op (.t 84) (.bin .eql) [.v 12,.c (.str [66,111,111,108,101,97,110])],
 op (.t 83) .mv [.t 84]]
def a15r52 : List AOper := [
 op (.t 85) (.fad 0) [.l 5],
 ⟨.t 86,.ldLc 5 false 1,[.t 85],some 5,none⟩,
 op (.t 87) (.bin .eql) [.t 86,.c (.int .u8 3)],
 op (.v 6) .mv [.t 87]]
def a15s53 : ACode := .reg [] a15r52
def a15s54 : ACode := .seq a15s53 .ret
def a15r55 : List AOper := [
 op (.t 89) (.bin .eql) [.v 12,.c (.str [73,68])],
 op (.t 88) .mv [.t 89]]
def a15r56 : List AOper := [
 op (.t 90) (.fad 0) [.l 5],
 ⟨.t 91,.ldLc 5 false 1,[.t 90],some 5,none⟩,
 op (.t 92) (.bin .eql) [.t 91,.c (.int .u8 2)],
 op (.t 93) .mv [.t 92],
 ⟨.t 94,.fad 0,[.l 5],none,some (.t 93,false)⟩,
 ⟨.t 95,.ldLc 5 false 1,[.t 94],some 5,some (.t 93,false)⟩,
 ⟨.t 96,.bin .eql,[.t 95,.c (.int .u8 1)],none,some (.t 93,false)⟩,
 op (.t 97) .pick [.t 93,.c (.bool true),.t 96],
 op (.v 6) .mv [.t 97]]
def a15s57 : ACode := .reg [] a15r56
def a15s58 : ACode := .seq a15s57 .ret
def a15s59 : ACode := .test [] a15r55 (.t 88) a15s58 .skip
def a15s60 : ACode := .test [] a15r51 (.t 83) a15s54 a15s59
def a15s61 : ACode := .test [] a15r47 (.t 78) a15s50 a15s60
def a15s62 : ACode := .test [] a15r43 (.t 63) a15s46 a15s61
def a15s63 : ACode := .blk 2 a15s62
def a15s64 : ACode := .seq a15s42 a15s63
def a15r65 : List AOper := [
 op (.t 98) .mv [.v 0],
 op (.t 99) (.fad 0) [.l 4],
 ⟨.t 100,.ldLc 4 false 1,[.t 99],some 4,none⟩,
 op (.t 101) (.call 27) [.t 98,.t 100],
 ⟨.bx,.alloc [.int .u8 0,.str [],.list true [],.list true []],[],some 8,none⟩,
 ⟨.none,.stLc 8 4,[.l 8,.ts 101],some 8,none⟩]
def a15s66 : ACode := .reg [8] a15r65
def a15r67 : List AOper := [
 op (.t 102) (.fad 0) [.l 8],
 ⟨.t 103,.ldLc 8 false 1,[.t 102],some 8,none⟩,
 op (.t 104) (.bin .eql) [.t 103,.c (.int .u8 4)]]
def a15r68 : List AOper := [
 op (.t 105) (.fad 0) [.l 5],
 ⟨.t 106,.ldLc 5 false 1,[.t 105],some 5,none⟩,
 op (.t 107) (.bin .eql) [.t 106,.c (.int .u8 4)],
 op (.t 108) .mv [.t 107],
 ⟨.t 109,.fad 3,[.l 8],none,some (.t 108,true)⟩,
 ⟨.t 110,.ldLc 8 false 1,[.t 109],some 8,some (.t 108,true)⟩,
 ⟨.t 111,.fad 2,[.l 5],none,some (.t 108,true)⟩,
 ⟨.t 112,.ldLc 5 false 1,[.t 111],some 5,some (.t 108,true)⟩,
 ⟨.t 113,.call 28,[.t 110,.t 112],none,some (.t 108,true)⟩,
 op (.t 114) .pick [.t 108,.t 113,.c (.bool false)],
 op (.v 6) .mv [.t 114]]
def a15s69 : ACode := .reg [] a15r68
def a15s70 : ACode := .seq a15s69 .ret
def a15s71 : ACode := .test [] a15r67 (.t 104) a15s70 .skip
def a15r72 : List AOper := [
 op (.t 115) (.fad 0) [.l 8],
 ⟨.t 116,.ldLc 8 false 1,[.t 115],some 8,none⟩,
 op (.t 117) (.bin .neq) [.t 116,.c (.int .u8 5)],
 op (.t 118) .mv [.t 117],
 ⟨.t 119,.fad 0,[.l 5],none,some (.t 118,false)⟩,
 ⟨.t 120,.ldLc 5 false 1,[.t 119],some 5,some (.t 118,false)⟩,
 ⟨.t 121,.bin .neq,[.t 120,.c (.int .u8 6)],none,some (.t 118,false)⟩,
 op (.t 122) .pick [.t 118,.c (.bool true),.t 121]]
def a15r73 : List AOper := [
 op (.v 6) .mv [.c (.bool false)]]
def a15s74 : ACode := .reg [] a15r73
def a15s75 : ACode := .seq a15s74 .ret
def a15s76 : ACode := .test [] a15r72 (.t 122) a15s75 .skip
def a15r77 : List AOper := [
 op (.v 9) .mv [.c (.int .i64 0)]]
def a15s78 : ACode := .reg [] a15r77
def a15r79 : List AOper := [
 op (.t 123) .mv [.v 9],
 op (.t 124) (.fad 3) [.l 5],
 ⟨.t 125,.ldLc 5 false 1,[.t 124],some 5,none⟩,
 op (.t 126) .lenL [.t 125],
 op (.t 127) (.bin .lss) [.t 123,.t 126]]
def a15s80 : ACode := .test [] a15r79 (.t 127) .skip (.exit 3)
def a15r81 : List AOper := [
 op (.t 130) (.fad 2) [.l 8],
 ⟨.t 131,.ldLc 8 false 1,[.t 130],some 8,none⟩,
 op (.t 132) (.fad 3) [.l 5],
 ⟨.t 133,.ldLc 5 false 1,[.t 132],some 5,none⟩,
 op (.t 134) .mv [.v 9],
 op (.t 135) (.iad 1) [.t 133,.t 134],
 op (.t 136) (.ldRo false 1) [.t 135],
 op (.t 137) (.call 29) [.t 131,.t 136],
 op (.v 10) .mv [.t 137]]
def a15s82 : ACode := .reg [] a15r81
def a15r83 : List AOper := [
 op (.t 138) .mv [.v 10],
 op (.t 139) (.bin .lss) [.t 138,.c (.int .i64 0)],
 op (.t 140) .mv [.t 139],
 ⟨.t 141,.fad 3,[.l 5],none,some (.t 140,false)⟩,
 ⟨.t 142,.ldLc 5 false 1,[.t 141],some 5,some (.t 140,false)⟩,
 ⟨.t 143,.mv,[.v 9],none,some (.t 140,false)⟩,
 ⟨.t 144,.slL 1 false true,[.t 142,.t 143],none,some (.t 140,false)⟩,
 ⟨.t 145,.fad 3,[.l 5],none,some (.t 140,false)⟩,
 ⟨.t 146,.ldLc 5 false 1,[.t 145],some 5,some (.t 140,false)⟩,
 ⟨.t 147,.mv,[.v 9],none,some (.t 140,false)⟩,
 ⟨.t 148,.iad 1,[.t 146,.t 147],none,some (.t 140,false)⟩,
 ⟨.t 149,.ldRo false 1,[.t 148],none,some (.t 140,false)⟩,
 ⟨.t 150,.call 28,[.t 144,.t 149],none,some (.t 140,false)⟩,
 op (.t 151) .pick [.t 140,.c (.bool true),.t 150],
 op (.t 152) .mv [.t 151],
 ⟨.t 153,.mv,[.v 0],none,some (.t 152,false)⟩,
 ⟨.t 154,.fad 2,[.l 8],none,some (.t 152,false)⟩,
 ⟨.t 155,.ldLc 8 false 1,[.t 154],some 8,some (.t 152,false)⟩,
 ⟨.t 156,.mv,[.v 10],none,some (.t 152,false)⟩,
 ⟨.t 157,.iad 11,[.t 155,.t 156],none,some (.t 152,false)⟩,
 ⟨.t 158,.fad 2,[.t 157],none,some (.t 152,false)⟩,
 ⟨.t 159,.ldRo true 3,[.t 158],none,some (.t 152,false)⟩,
 ⟨.t 160,.fad 4,[.l 5],none,some (.t 152,false)⟩,
 ⟨.t 161,.ldLc 5 false 1,[.t 160],some 5,some (.t 152,false)⟩,
 ⟨.t 162,.mv,[.v 9],none,some (.t 152,false)⟩,
 ⟨.t 163,.iad 5,[.t 161,.t 162],none,some (.t 152,false)⟩,
 ⟨.t 164,.ldAn true 5,[.t 163],none,some (.t 152,false)⟩,
 ⟨.t 165,.mv,[.v 3],none,some (.t 152,false)⟩,
 ⟨.t 166,.call 15,[.t 153,.t 159,.t 164,.t 165],none,some (.t 152,false)⟩,
 ⟨.t 167,.un .not,[.t 166],none,some (.t 152,false)⟩,
 op (.t 168) .pick [.t 152,.c (.bool true),.t 167]]
def a15r84 : List AOper := [
 op (.v 6) .mv [.c (.bool false)]]
def a15s85 : ACode := .reg [] a15r84
def a15s86 : ACode := .seq a15s85 .ret
def a15s87 : ACode := .test [] a15r83 (.t 168) a15s86 .skip
def a15s88 : ACode := .seq a15s82 a15s87
def a15s89 : ACode := .blk 4 a15s88
def a15r90 : List AOper := [
 op (.t 128) .mv [.v 9],
 op (.t 129) (.bin .add) [.t 128,.c (.int .i64 1)],
 op (.v 9) .mv [.t 129]]
def a15s91 : ACode := .reg [] a15r90
def a15s92 : ACode := .seq a15s89 a15s91
def a15s93 : ACode := .seq a15s80 a15s92
def a15s94 : ACode := .loop a15s93
def a15s95 : ACode := .blk 3 a15s94
def a15s96 : ACode := .seq a15s78 a15s95
def a15r97 : List AOper := [
 op (.v 11) .mv [.c (.int .i64 0)]]
def a15s98 : ACode := .reg [] a15r97
def a15r99 : List AOper := [
 op (.t 169) .mv [.v 11],
 op (.t 170) (.fad 2) [.l 8],
 ⟨.t 171,.ldLc 8 false 1,[.t 170],some 8,none⟩,
 op (.t 172) .lenL [.t 171],
 op (.t 173) (.bin .lss) [.t 169,.t 172]]
def a15s100 : ACode := .test [] a15r99 (.t 173) .skip (.exit 5)
def a15r101 : List AOper := [
 op (.t 176) (.fad 2) [.l 8],
 ⟨.t 177,.ldLc 8 false 1,[.t 176],some 8,none⟩,
 op (.t 178) .mv [.v 11],
 op (.t 179) (.iad 11) [.t 177,.t 178],
 op (.t 180) (.fad 2) [.t 179],
 op (.t 181) (.fad 2) [.t 180],
 op (.t 182) (.ldRo false 1) [.t 181],
 op (.t 183) .mv [.t 182],
 ⟨.t 184,.fad 2,[.l 8],none,some (.t 183,true)⟩,
 ⟨.t 185,.ldLc 8 false 1,[.t 184],some 8,some (.t 183,true)⟩,
 ⟨.t 186,.mv,[.v 11],none,some (.t 183,true)⟩,
 ⟨.t 187,.iad 11,[.t 185,.t 186],none,some (.t 183,true)⟩,
 ⟨.t 188,.fad 5,[.t 187],none,some (.t 183,true)⟩,
 ⟨.t 189,.ldRo false 1,[.t 188],none,some (.t 183,true)⟩,
 ⟨.t 190,.un .not,[.t 189],none,some (.t 183,true)⟩,
 op (.t 191) .pick [.t 183,.t 190,.c (.bool false)],
 op (.t 192) .mv [.t 191],
 ⟨.t 193,.fad 3,[.l 5],none,some (.t 192,true)⟩,
 ⟨.t 194,.ldLc 5 false 1,[.t 193],some 5,some (.t 192,true)⟩,
 ⟨.t 195,.fad 2,[.l 8],none,some (.t 192,true)⟩,
 ⟨.t 196,.ldLc 8 false 1,[.t 195],some 8,some (.t 192,true)⟩,
 ⟨.t 197,.mv,[.v 11],none,some (.t 192,true)⟩,
 ⟨.t 198,.iad 11,[.t 196,.t 197],none,some (.t 192,true)⟩,
 ⟨.t 199,.fad 0,[.t 198],none,some (.t 192,true)⟩,
 ⟨.t 200,.ldRo false 1,[.t 199],none,some (.t 192,true)⟩,
 ⟨.t 201,.call 28,[.t 194,.t 200],none,some (.t 192,true)⟩,
 ⟨.t 202,.un .not,[.t 201],none,some (.t 192,true)⟩,
 op (.t 203) .pick [.t 192,.t 202,.c (.bool false)]]
def a15r102 : List AOper := [
 op (.v 6) .mv [.c (.bool false)]]
def a15s103 : ACode := .reg [] a15r102
def a15s104 : ACode := .seq a15s103 .ret
def a15s105 : ACode := .test [] a15r101 (.t 203) a15s104 .skip
def a15s106 : ACode := .blk 6 a15s105
def a15r107 : List AOper := [
 op (.t 174) .mv [.v 11],
 op (.t 175) (.bin .add) [.t 174,.c (.int .i64 1)],
 op (.v 11) .mv [.t 175]]
def a15s108 : ACode := .reg [] a15r107
def a15s109 : ACode := .seq a15s106 a15s108
def a15s110 : ACode := .seq a15s100 a15s109
def a15s111 : ACode := .loop a15s110
def a15s112 : ACode := .blk 5 a15s111
def a15s113 : ACode := .seq a15s98 a15s112
def a15r114 : List AOper := [
 op (.v 6) .mv [.c (.bool true)]]
def a15s115 : ACode := .reg [] a15r114
def a15s116 : ACode := .seq a15s115 .ret
def a15s117 : ACode := .seq a15s113 a15s116
def a15s118 : ACode := .seq a15s96 a15s117
def a15s119 : ACode := .seq a15s76 a15s118
def a15s120 : ACode := .seq a15s71 a15s119
def a15s121 : ACode := .seq a15s66 a15s120
def a15s122 : ACode := .seq a15s64 a15s121
def a15s123 : ACode := .seq a15s40 a15s122
def a15s124 : ACode := .seq a15s11 a15s123
def a15s125 : ACode := .seq a15s6 a15s124
def a15s126 : ACode := .seq a15s1 a15s125
def a15c : ACode :=
  a15s126
def a15 : AFn := { np := 4,nv := 13,results := [.v 6],code := a15c }
def a15v : List Nat := [0,1,2,3,5,6,8,9,10,11,12,13,62]
def a15b : List Nat := [4,5,8]

def a16r0 : List AOper := [
 ⟨.bx,.boxV,[.v 0],some 2,none⟩,
 ⟨.bx,.alloc [.int .u8 0,.int .i64 0,.str [],.list true [],.list true []],[],some 3,none⟩,
 op (.v 4) .mv [.c (.bool false)]]
def a16s1 : ACode := .reg [2,3] a16r0
def a16r2 : List AOper := [
 op (.t 7) (.fad 3) [.l 2],
 ⟨.t 8,.ldLc 2 false 1,[.t 7],some 2,none⟩,
 op (.t 9) .mv [.v 1],
 op (.t 10) (.call 30) [.t 8,.t 9],
 op (.v 5) .mv [.t 10]]
def a16s3 : ACode := .reg [] a16r2
def a16r4 : List AOper := [
 op (.t 11) .mv [.v 5],
 op (.t 12) (.bin .lss) [.t 11,.c (.int .i64 0)],
 op (.t 13) .mv [.t 12],
 ⟨.t 14,.fad 0,[.l 2],none,some (.t 13,false)⟩,
 ⟨.t 15,.ldLc 2 false 1,[.t 14],some 2,some (.t 13,false)⟩,
 ⟨.t 16,.bin .neq,[.t 15,.c (.int .u8 6)],none,some (.t 13,false)⟩,
 op (.t 17) .pick [.t 13,.c (.bool true),.t 16]]
def a16r5 : List AOper := [
 op (.t 18) (.build [.int .u8 0,.int .i64 0,.str [],.list true [],.list true []] []) [],
 ⟨.none,.stLc 3 5,[.l 3,.ts 18],some 3,none⟩,
 op (.v 4) .mv [.c (.bool false)]]
def a16s6 : ACode := .reg [] a16r5
def a16s7 : ACode := .seq a16s6 .ret
def a16s8 : ACode := .test [] a16r4 (.t 17) a16s7 .skip
def a16r9 : List AOper := [
 op (.t 19) (.fad 4) [.l 2],
 ⟨.t 20,.ldLc 2 false 1,[.t 19],some 2,none⟩,
 op (.t 21) .mv [.v 5],
 op (.t 22) (.iad 5) [.t 20,.t 21],
 op (.t 23) (.ldAn true 5) [.t 22],
 ⟨.none,.stLc 3 5,[.l 3,.ts 23],some 3,none⟩,
 op (.v 4) .mv [.c (.bool true)]]
def a16s10 : ACode := .reg [] a16r9
def a16s11 : ACode := .seq a16s10 .ret
def a16s12 : ACode := .seq a16s8 a16s11
def a16s13 : ACode := .seq a16s3 a16s12
def a16s14 : ACode := .seq a16s1 a16s13
def a16c : ACode :=
  a16s14
def a16 : AFn := { np := 2,nv := 6,results := [.bx 3 true 5,.v 4],code := a16c }
def a16v : List Nat := [0,1,2,4,5,6]
def a16b : List Nat := [2,3]

def a19r0 : List AOper := [
 ⟨.bx,.boxV,[.v 1],some 4,none⟩,
 ⟨.bx,.boxV,[.v 2],some 5,none⟩,
 ⟨.bx,.boxV,[.v 3],some 6,none⟩,
 ⟨.bx,.alloc [.int .u8 0,.int .i64 0,.str [],.list true [],.list true []],[],some 7,none⟩,
 op (.v 8) .mv [.c (.bool false)],
 op (.v 9) .mv [.c (.int .i64 0)]]
def a19s1 : ACode := .reg [4,5,6,7] a19r0
def a19r2 : List AOper := [
 op (.t 12) .mv [.v 0],
 ⟨.t 13,.ldLc 6 true 5,[.l 6],some 6,none⟩,
 op (.t 14) (.build [.nilp,.int .u8 0,.int .i64 0,.str [],.list true [],.list true [],.bool false] [(0,1),(1,5),(6,1)]) [.t 12,.t 13,.c (.bool false)],
 ⟨.bx,.alloc [.nilp,.int .u8 0,.int .i64 0,.str [],.list true [],.list true [],.bool false],[],some 10,none⟩,
 ⟨.none,.stLc 10 7,[.l 10,.ts 14],some 10,none⟩]
def a19s3 : ACode := .reg [10] a19r2
def a19r4 : List AOper := [
 ⟨.t 15,.ldLc 10 true 7,[.l 10],some 10,none⟩,
 ⟨.t 16,.ldLc 4 true 3,[.l 4],some 4,none⟩,
 ⟨.t 17,.ldLc 5 true 5,[.l 5],some 5,none⟩,
 op (.t 18) (.call 26) [.t 15,.t 16,.t 17],
 op (.t 19) (.ext 0) [.t 18],
 op (.t 20) (.ext 1) [.t 18],
 op (.t 21) (.ext 2) [.t 18],
 ⟨.none,.stLc 7 5,[.l 7,.ts 19],some 7,none⟩,
 op (.v 8) .mv [.t 20],
 op (.v 9) .mv [.t 21]]
def a19s5 : ACode := .reg [] a19r4
def a19s6 : ACode := .seq a19s5 .ret
def a19s7 : ACode := .seq a19s3 a19s6
def a19s8 : ACode := .seq a19s1 a19s7
def a19c : ACode :=
  a19s8
def a19 : AFn := { np := 4,nv := 11,results := [.bx 7 true 5,.v 8,.v 9],code := a19c }
def a19v : List Nat := [0,1,2,3,5,6,7,8,9,10,11]
def a19b : List Nat := [4,5,6,7,10]

def a20r0 : List AOper := [
 ⟨.bx,.boxV,[.v 2],some 3,none⟩,
 ⟨.bx,.alloc [.int .u8 0,.int .i64 0,.str [],.list true [],.list true []],[],some 4,none⟩,
 op (.v 5) .mv [.c (.str [])],
 op (.v 6) .mv [.c (.int .i64 0)]]
def a20s1 : ACode := .reg [3,4] a20r0
def a20r2 : List AOper := [
 op (.t 15) (.build [.int .u8 0,.int .i64 0,.str [],.list true [],.list true []] [(0,1)]) [.c (.int .u8 6)],
 op (.v 7) (.allocO [.int .u8 0,.int .i64 0,.str [],.list true [],.list true []]) [],
 op .none (.stSt 5) [.v 7,.ts 15]]
def a20s3 : ACode := .reg [] a20r2
def a20r4 : List AOper := [
 op (.v 12) .mv [.v 1],
 op (.v 13) .lenL [.v 12],
 op (.v 14) .mv [.c (.int .i64 0)]]
def a20s5 : ACode := .reg [] a20r4
def a20r6 : List AOper := [
 op (.t 19) (.bin .lss) [.v 14,.v 13]]
def a20s7 : ACode := .test [] a20r6 (.t 19) .skip (.exit 0)
def a20r8 : List AOper := [
 op (.t 20) (.iad 10) [.v 12,.v 14],
 op (.t 21) (.ldRo true 10) [.t 20],
 ⟨.bx,.alloc [.str [],.str [],.list true [],.bool false,.bool false,.int .u8 0,.int .i64 0,.str [],.list true [],.list true []],[],some 8,none⟩,
 ⟨.none,.stLc 8 10,[.l 8,.ts 21],some 8,none⟩]
def a20s9 : ACode := .reg [8] a20r8
def a20r10 : List AOper := [
 ⟨.t 23,.ldLc 3 true 5,[.l 3],some 3,none⟩,
 op (.t 24) (.fad 0) [.l 8],
 ⟨.t 25,.ldLc 8 false 1,[.t 24],some 8,none⟩,
 op (.t 26) (.call 16) [.t 23,.t 25],
 op (.t 22) .mv [.t 26],
 op (.t 27) (.ext 0) [.t 22],
 op (.t 28) (.ext 1) [.t 22],
 ⟨.bx,.alloc [.int .u8 0,.int .i64 0,.str [],.list true [],.list true []],[],some 9,none⟩,
 ⟨.none,.stLc 9 5,[.l 9,.ts 27],some 9,none⟩,
 op (.v 10) .mv [.t 28]]
def a20s11 : ACode := .reg [9] a20r10
def a20r12 : List AOper := [
 op (.v 11) .mv [.c (.int .i64 0)]]
def a20s13 : ACode := .reg [] a20r12
def a20r14 : List AOper := [
 op (.t 30) .mv [.v 10],
 op (.t 29) .mv [.t 30]]
def a20r15 : List AOper := [
 op (.t 32) .mv [.v 0],
 op (.t 33) (.fad 1) [.l 8],
 ⟨.t 34,.ldLc 8 true 3,[.t 33],some 8,none⟩,
 ⟨.t 35,.ldLc 9 true 5,[.l 9],some 9,none⟩,
 op (.t 36) (.call 13) [.t 32,.t 34,.t 35],
 op (.t 31) .mv [.t 36],
 op (.t 37) (.ext 0) [.t 31],
 op (.t 38) (.ext 1) [.t 31],
 ⟨.none,.stLc 9 5,[.l 9,.ts 37],some 9,none⟩,
 op (.v 11) .mv [.t 38]]
def a20s16 : ACode := .reg [] a20r15
def a20r17 : List AOper := [
 op (.t 40) (.fad 4) [.l 8],
 ⟨.t 41,.ldLc 8 false 1,[.t 40],some 8,none⟩,
 op (.t 39) .mv [.t 41]]
def a20r18 : List AOper := [
 op (.t 43) .mv [.v 0],
 op (.t 44) (.fad 1) [.l 8],
 ⟨.t 45,.ldLc 8 true 3,[.t 44],some 8,none⟩,
 op (.t 46) (.fad 5) [.l 8],
 ⟨.t 47,.ldLc 8 true 5,[.t 46],some 8,none⟩,
 op (.t 48) (.build [.int .u8 0,.int .i64 0,.str [],.list true [],.list true []] []) [],
 op (.t 49) (.call 19) [.t 43,.t 45,.t 47,.t 48],
 op (.t 42) .mv [.t 49],
 op (.t 50) (.ext 0) [.t 42],
 op (.t 51) (.ext 1) [.t 42],
 op (.t 52) (.ext 2) [.t 42],
 ⟨.none,.stLc 9 5,[.l 9,.ts 50],some 9,none⟩,
 op (.v 10) .mv [.t 51],
 op (.v 11) .mv [.t 52]]
def a20s19 : ACode := .reg [] a20r18
def a20r20 : List AOper := [
 op (.t 54) (.fad 1) [.l 8],
 op (.t 55) (.fad 2) [.t 54],
 ⟨.t 56,.ldLc 8 false 1,[.t 55],some 8,none⟩,
 op (.t 53) .mv [.t 56]]
def a20r21 : List AOper := [
 op (.v 11) .mv [.c (.int .i64 9)]]
def a20s22 : ACode := .reg [] a20r21
def a20s23 : ACode := .test [] a20r20 (.t 53) a20s22 .skip
def a20s24 : ACode := .test [] a20r17 (.t 39) a20s19 a20s23
def a20s25 : ACode := .test [] a20r14 (.t 29) a20s16 a20s24
def a20s26 : ACode := .blk 2 a20s25
def a20r27 : List AOper := [
 op (.t 57) .mv [.v 11],
 op (.t 58) (.bin .neq) [.t 57,.c (.int .i64 0)]]
def a20r28 : List AOper := [
 op (.t 59) (.build [.int .u8 0,.int .i64 0,.str [],.list true [],.list true []] []) [],
 op (.t 60) (.fad 0) [.l 8],
 ⟨.t 61,.ldLc 8 false 1,[.t 60],some 8,none⟩,
 op (.t 62) .mv [.v 11],
 ⟨.none,.stLc 4 5,[.l 4,.ts 59],some 4,none⟩,
 op (.v 5) .mv [.t 61],
 op (.v 6) .mv [.t 62]]
def a20s29 : ACode := .reg [] a20r28
def a20s30 : ACode := .seq a20s29 .ret
def a20s31 : ACode := .test [] a20r27 (.t 58) a20s30 .skip
def a20r32 : List AOper := [
 op (.t 63) .mv [.v 10]]
def a20r33 : List AOper := [
 op (.t 64) (.fad 0) [.l 8],
 ⟨.t 65,.ldLc 8 false 1,[.t 64],some 8,none⟩,
 ⟨.t 66,.ldLc 9 true 5,[.l 9],some 9,none⟩,
 op (.t 67) (.call 31) [.v 7,.t 65,.t 66]]
def a20s34 : ACode := .reg [] a20r33
def a20s35 : ACode := .test [] a20r32 (.t 63) a20s34 .skip
def a20s36 : ACode := .seq a20s31 a20s35
def a20s37 : ACode := .seq a20s26 a20s36
def a20s38 : ACode := .seq a20s13 a20s37
def a20s39 : ACode := .seq a20s11 a20s38
def a20s40 : ACode := .seq a20s9 a20s39
def a20s41 : ACode := .blk 1 a20s40
def a20r42 : List AOper := [
 op (.t 68) (.bin .add) [.v 14,.c (.int .i64 1)],
 op (.v 14) .mv [.t 68]]
def a20s43 : ACode := .reg [] a20r42
def a20s44 : ACode := .seq a20s41 a20s43
def a20s45 : ACode := .seq a20s7 a20s44
def a20s46 : ACode := .loop a20s45
def a20s47 : ACode := .blk 0 a20s46
def a20s48 : ACode := .seq a20s5 a20s47
def a20r49 : List AOper := [
 op (.t 69) (.ldSt true 5) [.v 7],
 ⟨.none,.stLc 4 5,[.l 4,.ts 69],some 4,none⟩,
 op (.v 5) .mv [.c (.str [])],
 op (.v 6) .mv [.c (.int .i64 0)]]
def a20s50 : ACode := .reg [] a20r49
def a20s51 : ACode := .seq a20s50 .ret
def a20s52 : ACode := .seq a20s48 a20s51
def a20s53 : ACode := .seq a20s3 a20s52
def a20s54 : ACode := .seq a20s1 a20s53
def a20c : ACode :=
  a20s54
def a20 : AFn := { np := 3,nv := 15,results := [.bx 4 true 5,.v 5,.v 6],code := a20c }
def a20v : List Nat := [0,1,2,5,6,7,8,9,11,12,13,14,16,17,18]
def a20b : List Nat := [3,4,8,9]

def a23r0 : List AOper := [
 op (.v 1) .mv [.c (.list true [])],
 op (.v 2) .mv [.c (.int .i64 0)],
 op (.v 3) .mv [.c (.int .i64 0)]]
def a23s1 : ACode := .reg [] a23r0
def a23r2 : List AOper := [
 op (.t 13) .mv [.v 0],
 op (.t 14) (.call 33) [.t 13],
 op (.t 12) .mv [.t 14],
 op (.t 15) (.ext 0) [.t 12],
 op (.t 16) (.ext 1) [.t 12],
 op (.t 17) (.ext 2) [.t 12],
 op (.v 4) .mv [.ts 15],
 op (.v 5) .mv [.t 16],
 op (.v 6) .mv [.t 17]]
def a23s3 : ACode := .reg [] a23r2
def a23r4 : List AOper := [
 op (.t 18) .mv [.v 6],
 op (.t 19) (.bin .neq) [.t 18,.c (.int .i64 0)]]
def a23r5 : List AOper := [
 op (.t 20) .mv [.v 5],
 op (.t 21) .mv [.v 6],
 op (.v 1) .mv [.c (.list true [])],
 op (.v 2) .mv [.t 20],
 op (.v 3) .mv [.t 21]]
def a23s6 : ACode := .reg [] a23r5
def a23s7 : ACode := .seq a23s6 .ret
def a23s8 : ACode := .test [] a23r4 (.t 19) a23s7 .skip
def a23r9 : List AOper := [
 op (.t 22) .mv [.v 4],
 op (.t 23) (.build [.list true [],.int .i64 0,.int .i64 0,.int .i64 0,.int .i64 0] [(0,1)]) [.t 22],
 op (.t 24) .boxO [.ts 23],
 op (.v 7) .mv [.t 24]]
def a23s10 : ACode := .reg [] a23r9
def a23r11 : List AOper := [
 op (.v 8) .mv [.c (.list true [])]]
def a23s12 : ACode := .reg [] a23r11
def a23r13 : List AOper := [
 op (.v 9) .mv [.c (.bool true)]]
def a23s14 : ACode := .reg [] a23r13
def a23r15 : List AOper := [
 op (.t 25) .mv [.v 9],
 op (.t 26) .mv [.t 25],
 ⟨.t 27,.mv,[.v 7],none,some (.t 26,false)⟩,
 ⟨.t 28,.nilchk,[.t 27],none,some (.t 26,false)⟩,
 ⟨.t 29,.fad 4,[.t 28],none,some (.t 26,false)⟩,
 ⟨.t 30,.ldSt false 1,[.t 29],none,some (.t 26,false)⟩,
 ⟨.t 31,.bin .eql,[.t 30,.c (.int .i64 0)],none,some (.t 26,false)⟩,
 ⟨.t 32,.mv,[.t 31],none,some (.t 26,false)⟩,
 ⟨.t 33,.mv,[.v 7],none,some (.t 32,true)⟩,
 ⟨.t 34,.call 34,[.t 33,.c (.int .u8 0)],none,some (.t 32,true)⟩,
 ⟨.t 35,.un .not,[.t 34],none,some (.t 32,true)⟩,
 ⟨.t 36,.pick,[.t 32,.t 35,.c (.bool false)],none,some (.t 26,false)⟩,
 op (.t 37) .pick [.t 26,.c (.bool true),.t 36]]
def a23s16 : ACode := .test [] a23r15 (.t 37) .skip (.exit 0)
def a23r17 : List AOper := [
 op (.t 38) .mv [.v 7],
 op (.t 39) (.call 35) [.t 38],
 ⟨.bx,.alloc [.int .u8 0,.str [],.list true [],.list true []],[],some 10,none⟩,
 ⟨.none,.stLc 10 4,[.l 10,.ts 39],some 10,none⟩]
def a23s18 : ACode := .reg [10] a23r17
def a23r19 : List AOper := [
 op (.t 40) .mv [.vs 8],
 ⟨.t 41,.ldLc 10 true 4,[.l 10],some 10,none⟩,
 op (.t 42) (.bslice 4 [[.int .u8 0,.str [],.list true [],.list true []]] [0]) [.t 41],
 op (.t 43) (.app 4 72) [.ts 40,.t 42],
 op (.v 8) .mv [.ts 43]]
def a23s20 : ACode := .reg [] a23r19
def a23s21 : ACode := .seq a23s18 a23s20
def a23s22 : ACode := .blk 1 a23s21
def a23r23 : List AOper := [
 op (.v 9) .mv [.c (.bool false)]]
def a23s24 : ACode := .reg [] a23r23
def a23s25 : ACode := .seq a23s22 a23s24
def a23s26 : ACode := .seq a23s16 a23s25
def a23s27 : ACode := .loop a23s26
def a23s28 : ACode := .blk 0 a23s27
def a23s29 : ACode := .seq a23s14 a23s28
def a23r30 : List AOper := [
 op (.t 44) .mv [.v 7],
 op (.t 45) .nilchk [.t 44],
 op (.t 46) (.fad 4) [.t 45],
 op (.t 47) (.ldSt false 1) [.t 46],
 op (.t 48) (.bin .neq) [.t 47,.c (.int .i64 0)]]
def a23r31 : List AOper := [
 op (.t 49) .mv [.v 7],
 op (.t 50) .nilchk [.t 49],
 op (.t 51) (.fad 3) [.t 50],
 op (.t 52) (.ldSt false 1) [.t 51],
 op (.t 53) .mv [.v 7],
 op (.t 54) .nilchk [.t 53],
 op (.t 55) (.fad 4) [.t 54],
 op (.t 56) (.ldSt false 1) [.t 55],
 op (.v 1) .mv [.c (.list true [])],
 op (.v 2) .mv [.t 52],
 op (.v 3) .mv [.t 56]]
def a23s32 : ACode := .reg [] a23r31
def a23s33 : ACode := .seq a23s32 .ret
def a23s34 : ACode := .test [] a23r30 (.t 48) a23s33 .skip
def a23r35 : List AOper := [
 op (.t 57) .mv [.v 8],
 op (.v 1) .mv [.ts 57],
 op (.v 2) .mv [.c (.int .i64 0)],
 op (.v 3) .mv [.c (.int .i64 0)]]
def a23s36 : ACode := .reg [] a23r35
def a23s37 : ACode := .seq a23s36 .ret
def a23s38 : ACode := .seq a23s34 a23s37
def a23s39 : ACode := .seq a23s29 a23s38
def a23s40 : ACode := .seq a23s12 a23s39
def a23s41 : ACode := .seq a23s10 a23s40
def a23s42 : ACode := .seq a23s8 a23s41
def a23s43 : ACode := .seq a23s3 a23s42
def a23s44 : ACode := .seq a23s1 a23s43
def a23c : ACode :=
  a23s44
def a23 : AFn := { np := 1,nv := 11,results := [.v 1,.v 2,.v 3],code := a23c }
def a23v : List Nat := [0,2,3,4,5,6,7,8,9,10,11]
def a23b : List Nat := [10]

def a24r0 : List AOper := [
 op (.v 1) .mv [.c (.nilp)],
 op (.v 2) .mv [.c (.str [])],
 op (.v 3) .mv [.c (.int .i64 0)]]
def a24s1 : ACode := .reg [] a24r0
def a24r2 : List AOper := [
 op (.t 18) .mv [.v 0],
 op (.t 19) (.call 36) [.t 18],
 op (.t 20) .mkM [],
 op (.t 21) (.build [.list true [],.nilm] [(0,1),(1,1)]) [.t 19,.t 20],
 op (.t 22) .boxO [.ts 21],
 op (.v 4) .mv [.t 22]]
def a24s3 : ACode := .reg [] a24r2
def a24r4 : List AOper := [
 op (.v 14) .mv [.v 0],
 op (.v 15) .lenL [.v 14],
 op (.v 16) .mv [.c (.int .i64 0)]]
def a24s5 : ACode := .reg [] a24r4
def a24r6 : List AOper := [
 op (.t 26) (.bin .lss) [.v 16,.v 15]]
def a24s7 : ACode := .test [] a24r6 (.t 26) .skip (.exit 0)
def a24r8 : List AOper := [
 op (.t 27) .mv [.v 16],
 op (.t 28) (.iad 4) [.v 14,.v 16],
 op (.t 29) (.ldRo true 4) [.t 28],
 ⟨.bx,.alloc [.int .u8 0,.str [],.list true [],.list true []],[],some 6,none⟩,
 op (.v 5) .mv [.t 27],
 ⟨.none,.stLc 6 4,[.l 6,.ts 29],some 6,none⟩]
def a24s9 : ACode := .reg [6] a24r8
def a24r10 : List AOper := [
 op (.t 31) .mv [.v 4],
 op (.t 32) .nilchk [.t 31],
 op (.t 33) (.fad 1) [.t 32],
 op (.t 34) (.ldSt false 1) [.t 33],
 op (.t 35) (.fad 1) [.l 6],
 ⟨.t 36,.ldLc 6 false 1,[.t 35],some 6,none⟩,
 op (.t 37) (.mget 1 [.int .i64 0] false true) [.t 34,.t 36],
 op (.t 30) .mv [.t 37],
 op (.t 38) (.ext 0) [.t 30],
 op (.t 39) (.ext 1) [.t 30],
 op (.t 8) .mv [.t 38],
 op (.v 7) .mv [.t 39]]
def a24s11 : ACode := .reg [] a24r10
def a24r12 : List AOper := [
 op (.t 40) .mv [.v 7],
 op (.t 41) .mv [.t 40],
 ⟨.t 42,.slA 4 1 false false,[.c (.ro [.str [66,111,111,108,101,97,110],.str [73,68],.str [73,110,116],.str [83,116,114,105,110,103]])],none,some (.t 41,false)⟩,
 ⟨.t 43,.fad 1,[.l 6],none,some (.t 41,false)⟩,
 ⟨.t 44,.ldLc 6 false 1,[.t 43],some 6,some (.t 41,false)⟩,
 ⟨.t 45,.call 37,[.t 42,.t 44],none,some (.t 41,false)⟩,
 op (.t 46) .pick [.t 41,.c (.bool true),.t 45]]
def a24r13 : List AOper := [
 op (.t 47) (.fad 1) [.l 6],
 ⟨.t 48,.ldLc 6 false 1,[.t 47],some 6,none⟩,
 op (.v 1) .mv [.c (.nilp)],
 op (.v 2) .mv [.t 48],
 op (.v 3) .mv [.c (.int .i64 7)]]
def a24s14 : ACode := .reg [] a24r13
def a24s15 : ACode := .seq a24s14 .ret
def a24s16 : ACode := .test [] a24r12 (.t 46) a24s15 .skip
def a24s17 : ACode := .seq a24s11 a24s16
def a24r18 : List AOper := [
 op (.t 49) (.fad 1) [.l 6],
 ⟨.t 50,.ldLc 6 false 1,[.t 49],some 6,none⟩,
 op (.t 51) (.call 38) [.t 50,.c (.str [95,95])]]
def a24r19 : List AOper := [
 op (.t 52) (.fad 1) [.l 6],
 ⟨.t 53,.ldLc 6 false 1,[.t 52],some 6,none⟩,
 op (.v 1) .mv [.c (.nilp)],
 op (.v 2) .mv [.t 53],
 op (.v 3) .mv [.c (.int .i64 1)]]
def a24s20 : ACode := .reg [] a24r19
def a24s21 : ACode := .seq a24s20 .ret
def a24s22 : ACode := .test [] a24r18 (.t 51) a24s21 .skip
def a24r23 : List AOper := [
 op (.t 54) .mv [.v 4],
 op (.t 55) .nilchk [.t 54],
 op (.t 56) (.fad 1) [.t 55],
 op (.t 57) (.ldSt false 1) [.t 56],
 op (.t 58) (.fad 1) [.l 6],
 ⟨.t 59,.ldLc 6 false 1,[.t 58],some 6,none⟩,
 op (.t 60) .mv [.v 5],
 op .none (.mset 1) [.t 57,.t 59,.t 60]]
def a24s24 : ACode := .reg [] a24r23
def a24s25 : ACode := .seq a24s22 a24s24
def a24s26 : ACode := .seq a24s17 a24s25
def a24s27 : ACode := .seq a24s9 a24s26
def a24s28 : ACode := .blk 1 a24s27
def a24r29 : List AOper := [
 op (.t 61) (.bin .add) [.v 16,.c (.int .i64 1)],
 op (.v 16) .mv [.t 61]]
def a24s30 : ACode := .reg [] a24r29
def a24s31 : ACode := .seq a24s28 a24s30
def a24s32 : ACode := .seq a24s7 a24s31
def a24s33 : ACode := .loop a24s32
def a24s34 : ACode := .blk 0 a24s33
def a24s35 : ACode := .seq a24s5 a24s34
def a24r36 : List AOper := [
 op (.v 17) .mv [.v 0],
 op (.v 18) .lenL [.v 17],
 op (.v 19) .mv [.c (.int .i64 0)]]
def a24s37 : ACode := .reg [] a24r36
def a24r38 : List AOper := [
 op (.t 65) (.bin .lss) [.v 19,.v 18]]
def a24s39 : ACode := .test [] a24r38 (.t 65) .skip (.exit 2)
def a24r40 : List AOper := [
 op (.t 66) (.iad 4) [.v 17,.v 19],
 op (.t 67) (.ldRo true 4) [.t 66],
 ⟨.bx,.alloc [.int .u8 0,.str [],.list true [],.list true []],[],some 8,none⟩,
 ⟨.none,.stLc 8 4,[.l 8,.ts 67],some 8,none⟩]
def a24s41 : ACode := .reg [8] a24r40
def a24r42 : List AOper := [
 op (.t 68) .mv [.v 4],
 ⟨.t 69,.ldLc 8 true 4,[.l 8],some 8,none⟩,
 op (.t 70) (.call 39) [.t 68,.t 69],
 ⟨.bx,.alloc [.int .i64 0,.str []],[],some 9,none⟩,
 ⟨.none,.stLc 9 2,[.l 9,.t 70],some 9,none⟩]
def a24s43 : ACode := .reg [9] a24r42
def a24r44 : List AOper := [
 op (.t 71) (.fad 0) [.l 9],
 ⟨.t 72,.ldLc 9 false 1,[.t 71],some 9,none⟩,
 op (.t 73) (.bin .neq) [.t 72,.c (.int .i64 0)]]
def a24r45 : List AOper := [
 op (.t 74) (.fad 1) [.l 9],
 ⟨.t 75,.ldLc 9 false 1,[.t 74],some 9,none⟩,
 op (.t 76) (.fad 0) [.l 9],
 ⟨.t 77,.ldLc 9 false 1,[.t 76],some 9,none⟩,
 op (.v 1) .mv [.c (.nilp)],
 op (.v 2) .mv [.t 75],
 op (.v 3) .mv [.t 77]]
def a24s46 : ACode := .reg [] a24r45
def a24s47 : ACode := .seq a24s46 .ret
def a24s48 : ACode := .test [] a24r44 (.t 73) a24s47 .skip
def a24s49 : ACode := .seq a24s43 a24s48
def a24s50 : ACode := .seq a24s41 a24s49
def a24s51 : ACode := .blk 3 a24s50
def a24r52 : List AOper := [
 op (.t 78) (.bin .add) [.v 19,.c (.int .i64 1)],
 op (.v 19) .mv [.t 78]]
def a24s53 : ACode := .reg [] a24r52
def a24s54 : ACode := .seq a24s51 a24s53
def a24s55 : ACode := .seq a24s39 a24s54
def a24s56 : ACode := .loop a24s55
def a24s57 : ACode := .blk 2 a24s56
def a24s58 : ACode := .seq a24s37 a24s57
def a24r59 : List AOper := [
 op (.t 80) .mv [.v 4],
 op (.t 81) (.call 40) [.t 80,.c (.str [81,117,101,114,121])],
 op (.t 79) .mv [.t 81],
 op (.t 82) (.ext 0) [.t 79],
 op (.t 83) (.ext 1) [.t 79],
 ⟨.bx,.alloc [.int .u8 0,.str [],.list true [],.list true []],[],some 10,none⟩,
 ⟨.none,.stLc 10 4,[.l 10,.ts 82],some 10,none⟩,
 op (.v 11) .mv [.t 83]]
def a24s60 : ACode := .reg [10] a24r59
def a24r61 : List AOper := [
 op (.t 84) .mv [.v 11],
 op (.t 85) (.un .not) [.t 84],
 op (.t 86) .mv [.t 85],
 ⟨.t 87,.fad 0,[.l 10],none,some (.t 86,false)⟩,
 ⟨.t 88,.ldLc 10 false 1,[.t 87],some 10,some (.t 86,false)⟩,
 ⟨.t 89,.bin .neq,[.t 88,.c (.int .u8 1)],none,some (.t 86,false)⟩,
 op (.t 90) .pick [.t 86,.c (.bool true),.t 89]]
def a24r62 : List AOper := [
 op (.v 1) .mv [.c (.nilp)],
 op (.v 2) .mv [.c (.str [81,117,101,114,121])],
 op (.v 3) .mv [.c (.int .i64 6)]]
def a24s63 : ACode := .reg [] a24r62
def a24s64 : ACode := .seq a24s63 .ret
def a24s65 : ACode := .test [] a24r61 (.t 90) a24s64 .skip
def a24s66 : ACode := .seq a24s60 a24s65
def a24r67 : List AOper := [
 op (.v 20) .mv [.v 0],
 op (.v 21) .lenL [.v 20],
 op (.v 22) .mv [.c (.int .i64 0)]]
def a24s68 : ACode := .reg [] a24r67
def a24r69 : List AOper := [
 op (.t 94) (.bin .lss) [.v 22,.v 21]]
def a24s70 : ACode := .test [] a24r69 (.t 94) .skip (.exit 4)
def a24r71 : List AOper := [
 op (.t 95) (.iad 4) [.v 20,.v 22],
 op (.t 96) (.ldRo true 4) [.t 95],
 ⟨.bx,.alloc [.int .u8 0,.str [],.list true [],.list true []],[],some 12,none⟩,
 ⟨.none,.stLc 12 4,[.l 12,.ts 96],some 12,none⟩]
def a24s72 : ACode := .reg [12] a24r71
def a24r73 : List AOper := [
 op (.t 97) .mv [.v 4],
 ⟨.t 98,.ldLc 12 true 4,[.l 12],some 12,none⟩,
 op (.t 99) (.call 41) [.t 97,.t 98],
 ⟨.bx,.alloc [.int .i64 0,.str []],[],some 13,none⟩,
 ⟨.none,.stLc 13 2,[.l 13,.t 99],some 13,none⟩]
def a24s74 : ACode := .reg [13] a24r73
def a24r75 : List AOper := [
 op (.t 100) (.fad 0) [.l 13],
 ⟨.t 101,.ldLc 13 false 1,[.t 100],some 13,none⟩,
 op (.t 102) (.bin .neq) [.t 101,.c (.int .i64 0)]]
def a24r76 : List AOper := [
 op (.t 103) (.fad 1) [.l 13],
 ⟨.t 104,.ldLc 13 false 1,[.t 103],some 13,none⟩,
 op (.t 105) (.fad 0) [.l 13],
 ⟨.t 106,.ldLc 13 false 1,[.t 105],some 13,none⟩,
 op (.v 1) .mv [.c (.nilp)],
 op (.v 2) .mv [.t 104],
 op (.v 3) .mv [.t 106]]
def a24s77 : ACode := .reg [] a24r76
def a24s78 : ACode := .seq a24s77 .ret
def a24s79 : ACode := .test [] a24r75 (.t 102) a24s78 .skip
def a24s80 : ACode := .seq a24s74 a24s79
def a24s81 : ACode := .seq a24s72 a24s80
def a24s82 : ACode := .blk 5 a24s81
def a24r83 : List AOper := [
 op (.t 107) (.bin .add) [.v 22,.c (.int .i64 1)],
 op (.v 22) .mv [.t 107]]
def a24s84 : ACode := .reg [] a24r83
def a24s85 : ACode := .seq a24s82 a24s84
def a24s86 : ACode := .seq a24s70 a24s85
def a24s87 : ACode := .loop a24s86
def a24s88 : ACode := .blk 4 a24s87
def a24s89 : ACode := .seq a24s68 a24s88
def a24r90 : List AOper := [
 op (.t 108) .mv [.v 4],
 op (.v 1) .mv [.t 108],
 op (.v 2) .mv [.c (.str [])],
 op (.v 3) .mv [.c (.int .i64 0)]]
def a24s91 : ACode := .reg [] a24r90
def a24s92 : ACode := .seq a24s91 .ret
def a24s93 : ACode := .seq a24s89 a24s92
def a24s94 : ACode := .seq a24s66 a24s93
def a24s95 : ACode := .seq a24s58 a24s94
def a24s96 : ACode := .seq a24s35 a24s95
def a24s97 : ACode := .seq a24s3 a24s96
def a24s98 : ACode := .seq a24s1 a24s97
def a24c : ACode :=
  a24s98
def a24 : AFn := { np := 1,nv := 23,results := [.v 1,.v 2,.v 3],code := a24c }
def a24v : List Nat := [0,2,3,4,5,6,7,9,11,12,13,14,16,17,23,24,25,62,63,64,91,92,93]
def a24b : List Nat := [6,8,9,10,12,13]

def a25r0 : List AOper := [
 op (.v 1) .mv [.c (.nilp)],
 op (.v 2) .mv [.c (.str [])],
 op (.v 3) .mv [.c (.int .i64 0)]]
def a25s1 : ACode := .reg [] a25r0
def a25r2 : List AOper := [
 op (.t 14) .mv [.v 0],
 op (.t 15) (.build [.list true []] [(0,1)]) [.t 14],
 op (.t 16) .boxO [.ts 15],
 op (.v 4) .mv [.t 16]]
def a25s3 : ACode := .reg [] a25r2
def a25r4 : List AOper := [
 op (.v 5) .mv [.c (.list true [])]]
def a25s5 : ACode := .reg [] a25r4
def a25r6 : List AOper := [
 op (.v 6) .mv [.c (.int .i64 0)]]
def a25s7 : ACode := .reg [] a25r6
def a25r8 : List AOper := [
 op (.t 17) .mv [.v 6],
 op (.t 18) .mv [.v 0],
 op (.t 19) .lenL [.t 18],
 op (.t 20) (.bin .lss) [.t 17,.t 19]]
def a25s9 : ACode := .test [] a25r8 (.t 20) .skip (.exit 0)
def a25r10 : List AOper := [
 op (.t 23) .mv [.v 0],
 op (.t 24) .mv [.v 6],
 op (.t 25) (.iad 4) [.t 23,.t 24],
 op (.t 26) (.fad 1) [.t 25],
 op (.t 27) (.ldRo false 1) [.t 26],
 op (.v 7) .mv [.t 27]]
def a25s11 : ACode := .reg [] a25r10
def a25r12 : List AOper := [
 op (.t 28) .mv [.v 7],
 op (.t 29) (.call 42) [.t 28],
 op (.t 30) .mv [.t 29],
 ⟨.t 31,.mv,[.v 5],none,some (.t 30,false)⟩,
 ⟨.t 32,.mv,[.v 7],none,some (.t 30,false)⟩,
 ⟨.t 33,.call 28,[.t 31,.t 32],none,some (.t 30,false)⟩,
 op (.t 34) .pick [.t 30,.c (.bool true),.t 33]]
def a25r13 : List AOper := [
 op (.t 35) .mv [.v 7],
 op (.v 1) .mv [.c (.nilp)],
 op (.v 2) .mv [.t 35],
 op (.v 3) .mv [.c (.int .i64 7)]]
def a25s14 : ACode := .reg [] a25r13
def a25s15 : ACode := .seq a25s14 .ret
def a25s16 : ACode := .test [] a25r12 (.t 34) a25s15 .skip
def a25r17 : List AOper := [
 op (.t 36) .mv [.v 7],
 op (.t 37) (.call 43) [.t 36,.c (.str [95,95])]]
def a25r18 : List AOper := [
 op (.t 38) .mv [.v 7],
 op (.v 1) .mv [.c (.nilp)],
 op (.v 2) .mv [.t 38],
 op (.v 3) .mv [.c (.int .i64 1)]]
def a25s19 : ACode := .reg [] a25r18
def a25s20 : ACode := .seq a25s19 .ret
def a25s21 : ACode := .test [] a25r17 (.t 37) a25s20 .skip
def a25r22 : List AOper := [
 op (.t 39) .mv [.vs 5],
 op (.t 40) .mv [.v 7],
 op (.t 41) (.bslice 1 [[.str []]] [0]) [.t 40],
 op (.t 42) (.app 1 16) [.ts 39,.t 41],
 op (.v 5) .mv [.ts 42]]
def a25s23 : ACode := .reg [] a25r22
def a25s24 : ACode := .seq a25s21 a25s23
def a25s25 : ACode := .seq a25s16 a25s24
def a25s26 : ACode := .seq a25s11 a25s25
def a25s27 : ACode := .blk 1 a25s26
def a25r28 : List AOper := [
 op (.t 21) .mv [.v 6],
 op (.t 22) (.bin .add) [.t 21,.c (.int .i64 1)],
 op (.v 6) .mv [.t 22]]
def a25s29 : ACode := .reg [] a25r28
def a25s30 : ACode := .seq a25s27 a25s29
def a25s31 : ACode := .seq a25s9 a25s30
def a25s32 : ACode := .loop a25s31
def a25s33 : ACode := .blk 0 a25s32
def a25s34 : ACode := .seq a25s7 a25s33
def a25r35 : List AOper := [
 op (.v 8) .mv [.c (.int .i64 0)]]
def a25s36 : ACode := .reg [] a25r35
def a25r37 : List AOper := [
 op (.t 43) .mv [.v 8],
 op (.t 44) .mv [.v 0],
 op (.t 45) .lenL [.t 44],
 op (.t 46) (.bin .lss) [.t 43,.t 45]]
def a25s38 : ACode := .test [] a25r37 (.t 46) .skip (.exit 2)
def a25r39 : List AOper := [
 op (.t 50) .mv [.v 4],
 op (.t 51) .mv [.v 0],
 op (.t 52) .mv [.v 8],
 op (.t 53) (.iad 4) [.t 51,.t 52],
 op (.t 54) (.ldRo true 4) [.t 53],
 op (.t 55) (.call 44) [.t 50,.t 54],
 op (.t 49) .mv [.t 55],
 op (.t 56) (.ext 0) [.t 49],
 op (.t 57) (.ext 1) [.t 49],
 op (.v 9) .mv [.t 56],
 op (.v 10) .mv [.t 57]]
def a25s40 : ACode := .reg [] a25r39
def a25r41 : List AOper := [
 op (.t 58) .mv [.v 10],
 op (.t 59) (.bin .neq) [.t 58,.c (.int .i64 0)]]
def a25r42 : List AOper := [
 op (.t 60) .mv [.v 9],
 op (.t 61) .mv [.v 10],
 op (.v 1) .mv [.c (.nilp)],
 op (.v 2) .mv [.t 60],
 op (.v 3) .mv [.t 61]]
def a25s43 : ACode := .reg [] a25r42
def a25s44 : ACode := .seq a25s43 .ret
def a25s45 : ACode := .test [] a25r41 (.t 59) a25s44 .skip
def a25s46 : ACode := .seq a25s40 a25s45
def a25s47 : ACode := .blk 3 a25s46
def a25r48 : List AOper := [
 op (.t 47) .mv [.v 8],
 op (.t 48) (.bin .add) [.t 47,.c (.int .i64 1)],
 op (.v 8) .mv [.t 48]]
def a25s49 : ACode := .reg [] a25r48
def a25s50 : ACode := .seq a25s47 a25s49
def a25s51 : ACode := .seq a25s38 a25s50
def a25s52 : ACode := .loop a25s51
def a25s53 : ACode := .blk 2 a25s52
def a25s54 : ACode := .seq a25s36 a25s53
def a25r55 : List AOper := [
 op (.t 62) .mv [.v 4],
 op (.t 63) (.call 27) [.t 62,.c (.str [81,117,101,114,121])],
 op (.t 64) (.fld 0 1 false) [.t 63],
 op (.t 65) (.bin .neq) [.t 64,.c (.int .u8 1)]]
def a25r56 : List AOper := [
 op (.v 1) .mv [.c (.nilp)],
 op (.v 2) .mv [.c (.str [81,117,101,114,121])],
 op (.v 3) .mv [.c (.int .i64 6)]]
def a25s57 : ACode := .reg [] a25r56
def a25s58 : ACode := .seq a25s57 .ret
def a25s59 : ACode := .test [] a25r55 (.t 65) a25s58 .skip
def a25r60 : List AOper := [
 op (.v 11) .mv [.c (.int .i64 0)]]
def a25s61 : ACode := .reg [] a25r60
def a25r62 : List AOper := [
 op (.t 66) .mv [.v 11],
 op (.t 67) .mv [.v 0],
 op (.t 68) .lenL [.t 67],
 op (.t 69) (.bin .lss) [.t 66,.t 68]]
def a25s63 : ACode := .test [] a25r62 (.t 69) .skip (.exit 4)
def a25r64 : List AOper := [
 op (.t 72) .mv [.v 0],
 op (.t 73) .mv [.v 11],
 op (.t 74) (.iad 4) [.t 72,.t 73],
 op (.t 75) (.fad 0) [.t 74],
 op (.t 76) (.ldRo false 1) [.t 75],
 op (.t 77) (.bin .neq) [.t 76,.c (.int .u8 1)],
 op (.t 78) .mv [.t 77],
 ⟨.t 79,.mv,[.v 0],none,some (.t 78,true)⟩,
 ⟨.t 80,.mv,[.v 11],none,some (.t 78,true)⟩,
 ⟨.t 81,.iad 4,[.t 79,.t 80],none,some (.t 78,true)⟩,
 ⟨.t 82,.fad 0,[.t 81],none,some (.t 78,true)⟩,
 ⟨.t 83,.ldRo false 1,[.t 82],none,some (.t 78,true)⟩,
 ⟨.t 84,.bin .neq,[.t 83,.c (.int .u8 2)],none,some (.t 78,true)⟩,
 op (.t 85) .pick [.t 78,.t 84,.c (.bool false)]]
def a25s65 : ACode := .test [] a25r64 (.t 85) (.exit 5) .skip
def a25r66 : List AOper := [
 op (.v 12) .mv [.c (.int .i64 0)]]
def a25s67 : ACode := .reg [] a25r66
def a25r68 : List AOper := [
 op (.t 86) .mv [.v 12],
 op (.t 87) .mv [.v 0],
 op (.t 88) .mv [.v 11],
 op (.t 89) (.iad 4) [.t 87,.t 88],
 op (.t 90) (.fad 2) [.t 89],
 op (.t 91) (.ldRo false 1) [.t 90],
 op (.t 92) .lenL [.t 91],
 op (.t 93) (.bin .lss) [.t 86,.t 92]]
def a25s69 : ACode := .test [] a25r68 (.t 93) .skip (.exit 6)
def a25r70 : List AOper := [
 op (.t 96) .mv [.v 4],
 op (.t 97) .mv [.v 0],
 op (.t 98) .mv [.v 11],
 op (.t 99) (.iad 4) [.t 97,.t 98],
 op (.t 100) (.ldRo true 4) [.t 99],
 op (.t 101) .mv [.v 0],
 op (.t 102) .mv [.v 11],
 op (.t 103) (.iad 4) [.t 101,.t 102],
 op (.t 104) (.fad 2) [.t 103],
 op (.t 105) (.ldRo false 1) [.t 104],
 op (.t 106) .mv [.v 12],
 op (.t 107) (.iad 11) [.t 105,.t 106],
 op (.t 108) (.ldRo true 11) [.t 107],
 op (.t 109) (.call 45) [.t 96,.t 100,.t 108],
 op (.t 110) (.un .not) [.t 109]]
def a25r71 : List AOper := [
 op (.t 111) .mv [.v 0],
 op (.t 112) .mv [.v 11],
 op (.t 113) (.iad 4) [.t 111,.t 112],
 op (.t 114) (.fad 2) [.t 113],
 op (.t 115) (.ldRo false 1) [.t 114],
 op (.t 116) .mv [.v 12],
 op (.t 117) (.iad 11) [.t 115,.t 116],
 op (.t 118) (.fad 0) [.t 117],
 op (.t 119) (.ldRo false 1) [.t 118],
 op (.v 1) .mv [.c (.nilp)],
 op (.v 2) .mv [.t 119],
 op (.v 3) .mv [.c (.int .i64 3)]]
def a25s72 : ACode := .reg [] a25r71
def a25s73 : ACode := .seq a25s72 .ret
def a25s74 : ACode := .test [] a25r70 (.t 110) a25s73 .skip
def a25s75 : ACode := .blk 7 a25s74
def a25r76 : List AOper := [
 op (.t 94) .mv [.v 12],
 op (.t 95) (.bin .add) [.t 94,.c (.int .i64 1)],
 op (.v 12) .mv [.t 95]]
def a25s77 : ACode := .reg [] a25r76
def a25s78 : ACode := .seq a25s75 a25s77
def a25s79 : ACode := .seq a25s69 a25s78
def a25s80 : ACode := .loop a25s79
def a25s81 : ACode := .blk 6 a25s80
def a25s82 : ACode := .seq a25s67 a25s81
def a25s83 : ACode := .seq a25s65 a25s82
def a25s84 : ACode := .blk 5 a25s83
def a25r85 : List AOper := [
 op (.t 70) .mv [.v 11],
 op (.t 71) (.bin .add) [.t 70,.c (.int .i64 1)],
 op (.v 11) .mv [.t 71]]
def a25s86 : ACode := .reg [] a25r85
def a25s87 : ACode := .seq a25s84 a25s86
def a25s88 : ACode := .seq a25s63 a25s87
def a25s89 : ACode := .loop a25s88
def a25s90 : ACode := .blk 4 a25s89
def a25s91 : ACode := .seq a25s61 a25s90
def a25r92 : List AOper := [
 op (.t 120) .mv [.v 4],
 op (.v 1) .mv [.t 120],
 op (.v 2) .mv [.c (.str [])],
 op (.v 3) .mv [.c (.int .i64 0)]]
def a25s93 : ACode := .reg [] a25r92
def a25s94 : ACode := .seq a25s93 .ret
def a25s95 : ACode := .seq a25s91 a25s94
def a25s96 : ACode := .seq a25s59 a25s95
def a25s97 : ACode := .seq a25s54 a25s96
def a25s98 : ACode := .seq a25s34 a25s97
def a25s99 : ACode := .seq a25s5 a25s98
def a25s100 : ACode := .seq a25s3 a25s99
def a25s101 : ACode := .seq a25s1 a25s100
def a25c : ACode :=
  a25s101
def a25 : AFn := { np := 1,nv := 13,results := [.v 1,.v 2,.v 3],code := a25c }
def a25v : List Nat := [0,2,3,4,5,6,7,8,9,10,11,12,13]
def a25b : List Nat := []

def a26r0 : List AOper := [
 ⟨.bx,.boxV,[.v 0],some 3,none⟩,
 ⟨.bx,.boxV,[.v 1],some 4,none⟩,
 ⟨.bx,.boxV,[.v 2],some 5,none⟩,
 ⟨.bx,.alloc [.int .u8 0,.int .i64 0,.str [],.list true [],.list true []],[],some 6,none⟩,
 op (.v 7) .mv [.c (.bool false)],
 op (.v 8) .mv [.c (.int .i64 0)]]
def a26s1 : ACode := .reg [3,4,5,6] a26r0
def a26r2 : List AOper := [
 op (.t 11) (.fad 0) [.l 5],
 ⟨.t 12,.ldLc 5 false 1,[.t 11],some 5,none⟩,
 op (.t 13) (.bin .eql) [.t 12,.c (.int .u8 7)],
 op (.t 14) .mv [.t 13],
 ⟨.t 15,.fad 6,[.l 3],none,some (.t 14,true)⟩,
 ⟨.t 16,.ldLc 3 false 1,[.t 15],some 3,some (.t 14,true)⟩,
 ⟨.t 17,.un .not,[.t 16],none,some (.t 14,true)⟩,
 op (.t 18) .pick [.t 14,.t 17,.c (.bool false)]]
def a26r3 : List AOper := [
 op (.t 20) (.fad 1) [.l 3],
 ⟨.t 21,.ldLc 3 true 5,[.t 20],some 3,none⟩,
 op (.t 22) (.fad 2) [.l 5],
 ⟨.t 23,.ldLc 5 false 1,[.t 22],some 5,none⟩,
 op (.t 24) (.call 16) [.t 21,.t 23],
 op (.t 19) .mv [.t 24],
 op (.t 25) (.ext 0) [.t 19],
 op (.t 26) (.ext 1) [.t 19],
 ⟨.bx,.alloc [.int .u8 0,.int .i64 0,.str [],.list true [],.list true []],[],some 9,none⟩,
 ⟨.none,.stLc 9 5,[.l 9,.ts 25],some 9,none⟩,
 op (.v 10) .mv [.t 26]]
def a26s4 : ACode := .reg [9] a26r3
def a26r5 : List AOper := [
 op (.t 27) .mv [.v 10],
 op (.t 28) .mv [.t 27],
 ⟨.t 29,.fad 0,[.l 9],none,some (.t 28,true)⟩,
 ⟨.t 30,.ldLc 9 false 1,[.t 29],some 9,some (.t 28,true)⟩,
 ⟨.t 31,.bin .eql,[.t 30,.c (.int .u8 0)],none,some (.t 28,true)⟩,
 op (.t 32) .pick [.t 28,.t 31,.c (.bool false)],
 op (.t 33) .mv [.t 32],
 ⟨.t 34,.fad 2,[.l 4],none,some (.t 33,true)⟩,
 ⟨.t 35,.ldLc 4 false 1,[.t 34],some 4,some (.t 33,true)⟩,
 op (.t 36) .pick [.t 33,.t 35,.c (.bool false)]]
def a26r6 : List AOper := [
 op (.t 37) (.build [.int .u8 0,.int .i64 0,.str [],.list true [],.list true []] []) [],
 ⟨.none,.stLc 6 5,[.l 6,.ts 37],some 6,none⟩,
 op (.v 7) .mv [.c (.bool false)],
 op (.v 8) .mv [.c (.int .i64 9)]]
def a26s7 : ACode := .reg [] a26r6
def a26s8 : ACode := .seq a26s7 .ret
def a26s9 : ACode := .test [] a26r5 (.t 36) a26s8 .skip
def a26r10 : List AOper := [
 ⟨.t 38,.ldLc 9 true 5,[.l 9],some 9,none⟩,
 op (.t 39) .mv [.v 10],
 ⟨.none,.stLc 6 5,[.l 6,.ts 38],some 6,none⟩,
 op (.v 7) .mv [.t 39],
 op (.v 8) .mv [.c (.int .i64 0)]]
def a26s11 : ACode := .reg [] a26r10
def a26s12 : ACode := .seq a26s11 .ret
def a26s13 : ACode := .seq a26s9 a26s12
def a26s14 : ACode := .seq a26s4 a26s13
def a26s15 : ACode := .test [] a26r2 (.t 18) a26s14 .skip
def a26r16 : List AOper := [
 op (.t 40) (.fad 0) [.l 5],
 ⟨.t 41,.ldLc 5 false 1,[.t 40],some 5,none⟩,
 op (.t 42) (.bin .eql) [.t 41,.c (.int .u8 0)]]
def a26r17 : List AOper := [
 op (.t 43) (.fad 2) [.l 4],
 ⟨.t 44,.ldLc 4 false 1,[.t 43],some 4,none⟩]
def a26r18 : List AOper := [
 op (.t 45) (.build [.int .u8 0,.int .i64 0,.str [],.list true [],.list true []] []) [],
 ⟨.none,.stLc 6 5,[.l 6,.ts 45],some 6,none⟩,
 op (.v 7) .mv [.c (.bool false)],
 op (.v 8) .mv [.c (.int .i64 9)]]
def a26s19 : ACode := .reg [] a26r18
def a26s20 : ACode := .seq a26s19 .ret
def a26s21 : ACode := .test [] a26r17 (.t 44) a26s20 .skip
def a26r22 : List AOper := [
 ⟨.t 46,.ldLc 5 true 5,[.l 5],some 5,none⟩,
 ⟨.none,.stLc 6 5,[.l 6,.ts 46],some 6,none⟩,
 op (.v 7) .mv [.c (.bool true)],
 op (.v 8) .mv [.c (.int .i64 0)]]
def a26s23 : ACode := .reg [] a26r22
def a26s24 : ACode := .seq a26s23 .ret
def a26s25 : ACode := .seq a26s21 a26s24
def a26s26 : ACode := .test [] a26r16 (.t 42) a26s25 .skip
def a26r27 : List AOper := [
 op (.t 47) (.fad 1) [.l 4],
 ⟨.t 48,.ldLc 4 false 1,[.t 47],some 4,none⟩,
 op (.t 49) .lenL [.t 48],
 op (.t 50) (.bin .gtr) [.t 49,.c (.int .i64 0)]]
def a26r28 : List AOper := [
 ⟨.t 51,.ldLc 3 true 7,[.l 3],some 3,none⟩,
 op (.t 52) (.fad 1) [.l 4],
 ⟨.t 53,.ldLc 4 false 1,[.t 52],some 4,none⟩,
 op (.t 54) (.iad 3) [.t 53,.c (.int .i64 0)],
 op (.t 55) (.ldRo true 3) [.t 54],
 ⟨.t 56,.ldLc 5 true 5,[.l 5],some 5,none⟩,
 op (.t 57) (.call 46) [.t 51,.t 55,.t 56],
 op (.t 58) (.ext 0) [.t 57],
 op (.t 59) (.ext 1) [.t 57],
 op (.t 60) (.ext 2) [.t 57],
 ⟨.none,.stLc 6 5,[.l 6,.ts 58],some 6,none⟩,
 op (.v 7) .mv [.t 59],
 op (.v 8) .mv [.t 60]]
def a26s29 : ACode := .reg [] a26r28
def a26s30 : ACode := .seq a26s29 .ret
def a26s31 : ACode := .test [] a26r27 (.t 50) a26s30 .skip
def a26r32 : List AOper := [
 ⟨.t 61,.ldLc 3 true 7,[.l 3],some 3,none⟩,
 op (.t 62) (.fad 0) [.l 4],
 ⟨.t 63,.ldLc 4 false 1,[.t 62],some 4,none⟩,
 ⟨.t 64,.ldLc 5 true 5,[.l 5],some 5,none⟩,
 op (.t 65) (.call 47) [.t 61,.t 63,.t 64],
 op (.t 66) (.ext 0) [.t 65],
 op (.t 67) (.ext 1) [.t 65],
 op (.t 68) (.ext 2) [.t 65],
 ⟨.none,.stLc 6 5,[.l 6,.ts 66],some 6,none⟩,
 op (.v 7) .mv [.t 67],
 op (.v 8) .mv [.t 68]]
def a26s33 : ACode := .reg [] a26r32
def a26s34 : ACode := .seq a26s33 .ret
def a26s35 : ACode := .seq a26s31 a26s34
def a26s36 : ACode := .seq a26s26 a26s35
def a26s37 : ACode := .seq a26s15 a26s36
def a26s38 : ACode := .seq a26s1 a26s37
def a26c : ACode :=
  a26s38
def a26 : AFn := { np := 3,nv := 11,results := [.bx 6 true 5,.v 7,.v 8],code := a26c }
def a26v : List Nat := [0,1,2,3,4,5,6,7,8,9,10]
def a26b : List Nat := [3,4,5,6,9]

def a27r0 : List AOper := [
 ⟨.bx,.alloc [.int .u8 0,.str [],.list true [],.list true []],[],some 2,none⟩]
def a27s1 : ACode := .reg [2] a27r0
def a27r2 : List AOper := [
 op (.v 3) .mv [.c (.int .i64 0)]]
def a27s3 : ACode := .reg [] a27r2
def a27r4 : List AOper := [
 op (.t 6) .mv [.v 3],
 op (.t 7) .mv [.v 0],
 op (.t 8) .nilchk [.t 7],
 op (.t 9) (.fad 0) [.t 8],
 op (.t 10) (.ldSt false 1) [.t 9],
 op (.t 11) .lenL [.t 10],
 op (.t 12) (.bin .lss) [.t 6,.t 11]]
def a27s5 : ACode := .test [] a27r4 (.t 12) .skip (.exit 0)
def a27r6 : List AOper := [
 op (.t 15) .mv [.v 0],
 op (.t 16) .nilchk [.t 15],
 op (.t 17) (.fad 0) [.t 16],
 op (.t 18) (.ldSt false 1) [.t 17],
 op (.t 19) .mv [.v 3],
 op (.t 20) (.iad 4) [.t 18,.t 19],
 op (.t 21) (.fad 1) [.t 20],
 op (.t 22) (.ldRo false 1) [.t 21],
 op (.t 23) .mv [.v 1],
 op (.t 24) (.bin .eql) [.t 22,.t 23]]
def a27r7 : List AOper := [
 op (.t 25) .mv [.v 0],
 op (.t 26) .nilchk [.t 25],
 op (.t 27) (.fad 0) [.t 26],
 op (.t 28) (.ldSt false 1) [.t 27],
 op (.t 29) .mv [.v 3],
 op (.t 30) (.iad 4) [.t 28,.t 29],
 op (.t 31) (.ldRo true 4) [.t 30],
 ⟨.none,.stLc 2 4,[.l 2,.ts 31],some 2,none⟩]
def a27s8 : ACode := .reg [] a27r7
def a27s9 : ACode := .seq a27s8 .ret
def a27s10 : ACode := .test [] a27r6 (.t 24) a27s9 .skip
def a27s11 : ACode := .blk 1 a27s10
def a27r12 : List AOper := [
 op (.t 13) .mv [.v 3],
 op (.t 14) (.bin .add) [.t 13,.c (.int .i64 1)],
 op (.v 3) .mv [.t 14]]
def a27s13 : ACode := .reg [] a27r12
def a27s14 : ACode := .seq a27s11 a27s13
def a27s15 : ACode := .seq a27s5 a27s14
def a27s16 : ACode := .loop a27s15
def a27s17 : ACode := .blk 0 a27s16
def a27s18 : ACode := .seq a27s3 a27s17
def a27r19 : List AOper := [
 op (.t 32) (.build [.int .u8 0,.str [],.list true [],.list true []] []) [],
 ⟨.none,.stLc 2 4,[.l 2,.ts 32],some 2,none⟩]
def a27s20 : ACode := .reg [] a27r19
def a27s21 : ACode := .seq a27s20 .ret
def a27s22 : ACode := .seq a27s18 a27s21
def a27s23 : ACode := .seq a27s1 a27s22
def a27c : ACode :=
  a27s23
def a27 : AFn := { np := 2,nv := 4,results := [.bx 2 true 4],code := a27c }
def a27v : List Nat := [0,1,4,5]
def a27b : List Nat := [2]

def a28r0 : List AOper := [
 op (.v 2) .mv [.c (.bool false)]]
def a28s1 : ACode := .reg [] a28r0
def a28r2 : List AOper := [
 op (.v 3) .mv [.c (.int .i64 0)]]
def a28s3 : ACode := .reg [] a28r2
def a28r4 : List AOper := [
 op (.t 6) .mv [.v 3],
 op (.t 7) .mv [.v 0],
 op (.t 8) .lenL [.t 7],
 op (.t 9) (.bin .lss) [.t 6,.t 8]]
def a28s5 : ACode := .test [] a28r4 (.t 9) .skip (.exit 0)
def a28r6 : List AOper := [
 op (.t 12) .mv [.v 0],
 op (.t 13) .mv [.v 3],
 op (.t 14) (.iad 1) [.t 12,.t 13],
 op (.t 15) (.ldRo false 1) [.t 14],
 op (.t 16) .mv [.v 1],
 op (.t 17) (.bin .eql) [.t 15,.t 16]]
def a28r7 : List AOper := [
 op (.v 2) .mv [.c (.bool true)]]
def a28s8 : ACode := .reg [] a28r7
def a28s9 : ACode := .seq a28s8 .ret
def a28s10 : ACode := .test [] a28r6 (.t 17) a28s9 .skip
def a28s11 : ACode := .blk 1 a28s10
def a28r12 : List AOper := [
 op (.t 10) .mv [.v 3],
 op (.t 11) (.bin .add) [.t 10,.c (.int .i64 1)],
 op (.v 3) .mv [.t 11]]
def a28s13 : ACode := .reg [] a28r12
def a28s14 : ACode := .seq a28s11 a28s13
def a28s15 : ACode := .seq a28s5 a28s14
def a28s16 : ACode := .loop a28s15
def a28s17 : ACode := .blk 0 a28s16
def a28s18 : ACode := .seq a28s3 a28s17
def a28r19 : List AOper := [
 op (.v 2) .mv [.c (.bool false)]]
def a28s20 : ACode := .reg [] a28r19
def a28s21 : ACode := .seq a28s20 .ret
def a28s22 : ACode := .seq a28s18 a28s21
def a28s23 : ACode := .seq a28s1 a28s22
def a28c : ACode :=
  a28s23
def a28 : AFn := { np := 2,nv := 4,results := [.v 2],code := a28c }
def a28v : List Nat := [0,1,4,5]
def a28b : List Nat := []

def a29r0 : List AOper := [
 op (.v 2) .mv [.c (.int .i64 0)]]
def a29s1 : ACode := .reg [] a29r0
def a29r2 : List AOper := [
 op (.v 3) .mv [.c (.int .i64 0)]]
def a29s3 : ACode := .reg [] a29r2
def a29r4 : List AOper := [
 op (.t 6) .mv [.v 3],
 op (.t 7) .mv [.v 0],
 op (.t 8) .lenL [.t 7],
 op (.t 9) (.bin .lss) [.t 6,.t 8]]
def a29s5 : ACode := .test [] a29r4 (.t 9) .skip (.exit 0)
def a29r6 : List AOper := [
 op (.t 12) .mv [.v 0],
 op (.t 13) .mv [.v 3],
 op (.t 14) (.iad 11) [.t 12,.t 13],
 op (.t 15) (.fad 0) [.t 14],
 op (.t 16) (.ldRo false 1) [.t 15],
 op (.t 17) .mv [.v 1],
 op (.t 18) (.bin .eql) [.t 16,.t 17]]
def a29r7 : List AOper := [
 op (.t 19) .mv [.v 3],
 op (.v 2) .mv [.t 19]]
def a29s8 : ACode := .reg [] a29r7
def a29s9 : ACode := .seq a29s8 .ret
def a29s10 : ACode := .test [] a29r6 (.t 18) a29s9 .skip
def a29s11 : ACode := .blk 1 a29s10
def a29r12 : List AOper := [
 op (.t 10) .mv [.v 3],
 op (.t 11) (.bin .add) [.t 10,.c (.int .i64 1)],
 op (.v 3) .mv [.t 11]]
def a29s13 : ACode := .reg [] a29r12
def a29s14 : ACode := .seq a29s11 a29s13
def a29s15 : ACode := .seq a29s5 a29s14
def a29s16 : ACode := .loop a29s15
def a29s17 : ACode := .blk 0 a29s16
def a29s18 : ACode := .seq a29s3 a29s17
def a29r19 : List AOper := [
 op (.v 2) .mv [.c (.int .i64 (-1))]]
def a29s20 : ACode := .reg [] a29r19
def a29s21 : ACode := .seq a29s20 .ret
def a29s22 : ACode := .seq a29s18 a29s21
def a29s23 : ACode := .seq a29s1 a29s22
def a29c : ACode :=
  a29s23
def a29 : AFn := { np := 2,nv := 4,results := [.v 2],code := a29c }
def a29v : List Nat := [0,1,4,5]
def a29b : List Nat := []

def a30r0 : List AOper := [
 op (.v 2) .mv [.c (.int .i64 0)]]
def a30s1 : ACode := .reg [] a30r0
def a30r2 : List AOper := [
 op (.t 6) .mv [.v 0],
 op (.v 4) .lenL [.t 6],
 op (.v 5) .mv [.c (.int .i64 0)]]
def a30s3 : ACode := .reg [] a30r2
def a30r4 : List AOper := [
 op (.t 9) (.bin .lss) [.v 5,.v 4]]
def a30s5 : ACode := .test [] a30r4 (.t 9) .skip (.exit 0)
def a30r6 : List AOper := [
 op (.t 10) .mv [.v 5],
 op (.v 3) .mv [.t 10]]
def a30s7 : ACode := .reg [] a30r6
def a30r8 : List AOper := [
 op (.t 11) .mv [.v 1],
 op (.t 12) .mv [.v 0],
 op (.t 13) .mv [.v 3],
 op (.t 14) (.iad 1) [.t 12,.t 13],
 op (.t 15) (.ldRo false 1) [.t 14],
 op (.t 16) (.bin .eql) [.t 11,.t 15]]
def a30r9 : List AOper := [
 op (.t 17) .mv [.v 3],
 op (.v 2) .mv [.t 17]]
def a30s10 : ACode := .reg [] a30r9
def a30s11 : ACode := .seq a30s10 .ret
def a30s12 : ACode := .test [] a30r8 (.t 16) a30s11 .skip
def a30s13 : ACode := .seq a30s7 a30s12
def a30s14 : ACode := .blk 1 a30s13
def a30r15 : List AOper := [
 op (.t 18) (.bin .add) [.v 5,.c (.int .i64 1)],
 op (.v 5) .mv [.t 18]]
def a30s16 : ACode := .reg [] a30r15
def a30s17 : ACode := .seq a30s14 a30s16
def a30s18 : ACode := .seq a30s5 a30s17
def a30s19 : ACode := .loop a30s18
def a30s20 : ACode := .blk 0 a30s19
def a30s21 : ACode := .seq a30s3 a30s20
def a30r22 : List AOper := [
 op (.v 2) .mv [.c (.int .i64 (-1))]]
def a30s23 : ACode := .reg [] a30r22
def a30s24 : ACode := .seq a30s23 .ret
def a30s25 : ACode := .seq a30s21 a30s24
def a30s26 : ACode := .seq a30s1 a30s25
def a30c : ACode :=
  a30s26
def a30 : AFn := { np := 2,nv := 6,results := [.v 2],code := a30c }
def a30v : List Nat := [0,1,4,5,7,8]
def a30b : List Nat := []

def a31r0 : List AOper := [
 ⟨.bx,.boxV,[.v 2],some 3,none⟩]
def a31s1 : ACode := .reg [3] a31r0
def a31r2 : List AOper := [
 op (.t 6) .mv [.v 0],
 op (.t 7) .mv [.v 0],
 op (.t 8) .mv [.v 0],
 op (.t 9) .nilchk [.t 8],
 op (.t 10) (.fad 3) [.t 9],
 op (.t 11) (.ldStSR 3) [.t 10,.v 0],
 op (.t 12) .mv [.v 1],
 op (.t 13) (.bslice 1 [[.str []]] [0]) [.t 12],
 op (.t 14) (.app 1 16) [.ts 11,.t 13],
 op (.t 15) .mv [.v 0],
 op (.t 16) .nilchk [.t 15],
 op (.t 17) (.fad 4) [.t 16],
 op (.t 18) (.ldStSR 4) [.t 17,.v 0],
 ⟨.t 19,.ldLc 3 true 5,[.l 3],some 3,none⟩,
 op (.t 20) (.bslice 5 [[.int .u8 0,.int .i64 0,.str [],.list true [],.list true []]] [0]) [.t 19],
 op (.t 21) (.app 5 80) [.ts 18,.t 20],
 op (.t 22) .nilchk [.t 6],
 op (.t 23) (.fad 3) [.t 22],
 op .none (.stSt 1) [.t 23,.ts 14],
 op (.t 24) .nilchk [.t 7],
 op (.t 25) (.fad 4) [.t 24],
 op .none (.stSt 1) [.t 25,.ts 21]]
def a31s3 : ACode := .reg [] a31r2
def a31s4 : ACode := .seq a31s1 a31s3
def a31c : ACode :=
  a31s4
def a31 : AFn := { np := 3,nv := 4,results := [],code := a31c }
def a31v : List Nat := [0,1,2,5]
def a31b : List Nat := [3]

def a33r0 : List AOper := [
 op (.v 1) .mv [.c (.list true [])],
 op (.v 2) .mv [.c (.int .i64 0)],
 op (.v 3) .mv [.c (.int .i64 0)]]
def a33s1 : ACode := .reg [] a33r0
def a33r2 : List AOper := [
 op (.t 12) .mv [.v 0],
 op (.t 13) .lenS [.t 12],
 op (.t 14) (.bin .gtr) [.t 13,.c (.int .i64 2000)]]
def a33r3 : List AOper := [
 op (.v 1) .mv [.c (.list true [])],
 op (.v 2) .mv [.c (.int .i64 0)],
 op (.v 3) .mv [.c (.int .i64 2)]]
def a33s4 : ACode := .reg [] a33r3
def a33s5 : ACode := .seq a33s4 .ret
def a33s6 : ACode := .test [] a33r2 (.t 14) a33s5 .skip
def a33r7 : List AOper := [
 op (.v 4) .mv [.c (.list true [])]]
def a33s8 : ACode := .reg [] a33r7
def a33r9 : List AOper := [
 op (.v 5) .mv [.c (.int .i64 0)]]
def a33s10 : ACode := .reg [] a33r9
def a33r11 : List AOper := [
 op (.t 15) .mv [.v 5],
 op (.t 16) .mv [.v 0],
 op (.t 17) .lenS [.t 16],
 op (.t 18) (.bin .lss) [.t 15,.t 17]]
def a33s12 : ACode := .test [] a33r11 (.t 18) .skip (.exit 0)
def a33r13 : List AOper := [
 op (.t 19) .mv [.v 0],
 op (.t 20) .mv [.v 5],
 op (.t 21) .idxS [.t 19,.t 20],
 op (.v 6) .mv [.t 21]]
def a33s14 : ACode := .reg [] a33r13
def a33r15 : List AOper := [
 op (.t 23) .mv [.v 6],
 op (.t 24) (.bin .eql) [.t 23,.c (.int .u8 32)],
 op (.t 25) .mv [.t 24],
 ⟨.t 26,.mv,[.v 6],none,some (.t 25,false)⟩,
 ⟨.t 27,.bin .eql,[.t 26,.c (.int .u8 10)],none,some (.t 25,false)⟩,
 op (.t 28) .pick [.t 25,.c (.bool true),.t 27],
 op (.t 29) .mv [.t 28],
 ⟨.t 30,.mv,[.v 6],none,some (.t 29,false)⟩,
 ⟨.t 31,.bin .eql,[.t 30,.c (.int .u8 9)],none,some (.t 29,false)⟩,
 op (.t 32) .pick [.t 29,.c (.bool true),.t 31],
 op (.t 33) .mv [.t 32],
 ⟨.t 34,.mv,[.v 6],none,some (.t 33,false)⟩,
 ⟨.t 35,.bin .eql,[.t 34,.c (.int .u8 13)],none,some (.t 33,false)⟩,
 op (.t 36) .pick [.t 33,.c (.bool true),.t 35],
 op (.t 37) .mv [.t 36],
 ⟨.t 38,.mv,[.v 6],none,some (.t 37,false)⟩,
 ⟨.t 39,.bin .eql,[.t 38,.c (.int .u8 44)],none,some (.t 37,false)⟩,
 op (.t 40) .pick [.t 37,.c (.bool true),.t 39],
 op (.t 22) .mv [.t 40]]
def a33r16 : List AOper := [
 op (.t 41) .mv [.v 5],
 op (.t 42) (.bin .add) [.t 41,.c (.int .i64 1)],
 op (.v 5) .mv [.t 42]]
def a33s17 : ACode := .reg [] a33r16
def a33s18 : ACode := .seq a33s17 (.exit 1)
def a33r19 : List AOper := [
 op (.t 44) .mv [.v 6],
 op (.t 45) (.bin .eql) [.t 44,.c (.int .u8 35)],
 op (.t 43) .mv [.t 45]]
def a33r20 : List AOper := [
 op (.t 46) .mv [.v 5],
 op (.t 47) .mv [.v 0],
 op (.t 48) .lenS [.t 47],
 op (.t 49) (.bin .lss) [.t 46,.t 48],
 op (.t 50) .mv [.t 49],
 ⟨.t 51,.mv,[.v 0],none,some (.t 50,true)⟩,
 ⟨.t 52,.mv,[.v 5],none,some (.t 50,true)⟩,
 ⟨.t 53,.idxS,[.t 51,.t 52],none,some (.t 50,true)⟩,
 ⟨.t 54,.bin .neq,[.t 53,.c (.int .u8 10)],none,some (.t 50,true)⟩,
 op (.t 55) .pick [.t 50,.t 54,.c (.bool false)]]
def a33s21 : ACode := .test [] a33r20 (.t 55) .skip (.exit 3)
def a33r22 : List AOper := [
 op (.t 56) .mv [.v 5],
 op (.t 57) (.bin .add) [.t 56,.c (.int .i64 1)],
 op (.v 5) .mv [.t 57]]
def a33s23 : ACode := .reg [] a33r22
def a33s24 : ACode := .blk 4 a33s23
def a33s25 : ACode := .seq a33s21 a33s24
def a33s26 : ACode := .loop a33s25
def a33s27 : ACode := .blk 3 a33s26
def a33s28 : ACode := .seq a33s27 (.exit 1)
def a33s29 : ACode := .test [] a33r19 (.t 43) a33s28 .skip
def a33s30 : ACode := .test [] a33r15 (.t 22) a33s18 a33s29
def a33s31 : ACode := .blk 2 a33s30
def a33r32 : List AOper := [
 op (.t 59) .mv [.v 0],
 op (.t 60) .mv [.v 5],
 op (.t 61) (.call 48) [.t 59,.t 60],
 op (.t 58) .mv [.t 61],
 op (.t 62) (.ext 0) [.t 58],
 op (.t 63) (.ext 1) [.t 58],
 op (.t 64) (.ext 2) [.t 58],
 op (.t 65) (.ext 3) [.t 58],
 ⟨.bx,.alloc [.int .u8 0,.str [],.int .i64 0,.int .i64 0],[],some 7,none⟩,
 ⟨.none,.stLc 7 4,[.l 7,.t 62],some 7,none⟩,
 op (.v 8) .mv [.t 63],
 op (.v 9) .mv [.t 64],
 op (.v 10) .mv [.t 65]]
def a33s33 : ACode := .reg [7] a33r32
def a33r34 : List AOper := [
 op (.t 66) .mv [.v 10],
 op (.t 67) (.bin .neq) [.t 66,.c (.int .i64 0)]]
def a33r35 : List AOper := [
 op (.t 68) .mv [.v 9],
 op (.t 69) .mv [.v 10],
 op (.v 1) .mv [.c (.list true [])],
 op (.v 2) .mv [.t 68],
 op (.v 3) .mv [.t 69]]
def a33s36 : ACode := .reg [] a33r35
def a33s37 : ACode := .seq a33s36 .ret
def a33s38 : ACode := .test [] a33r34 (.t 67) a33s37 .skip
def a33r39 : List AOper := [
 op (.t 70) .mv [.v 5],
 op (.t 71) (.fad 3) [.l 7],
 ⟨.none,.stLc 7 1,[.t 71,.t 70],some 7,none⟩]
def a33s40 : ACode := .reg [] a33r39
def a33r41 : List AOper := [
 op (.t 72) .mv [.vs 4],
 ⟨.t 73,.ldLc 7 true 4,[.l 7],some 7,none⟩,
 op (.t 74) (.bslice 4 [[.int .u8 0,.str [],.int .i64 0,.int .i64 0]] [0]) [.t 73],
 op (.t 75) (.app 4 40) [.ts 72,.t 74],
 op (.v 4) .mv [.ts 75]]
def a33s42 : ACode := .reg [] a33r41
def a33r43 : List AOper := [
 op (.t 76) .mv [.v 8],
 op (.v 5) .mv [.t 76]]
def a33s44 : ACode := .reg [] a33r43
def a33s45 : ACode := .seq a33s42 a33s44
def a33s46 : ACode := .seq a33s40 a33s45
def a33s47 : ACode := .seq a33s38 a33s46
def a33s48 : ACode := .seq a33s33 a33s47
def a33s49 : ACode := .seq a33s31 a33s48
def a33s50 : ACode := .seq a33s14 a33s49
def a33s51 : ACode := .blk 1 a33s50
def a33s52 : ACode := .seq a33s12 a33s51
def a33s53 : ACode := .loop a33s52
def a33s54 : ACode := .blk 0 a33s53
def a33r55 : List AOper := [
 op (.t 77) .mv [.vs 4],
 op (.t 78) .mv [.v 5],
 op (.t 79) (.build [.int .u8 0,.str [],.int .i64 0,.int .i64 0] [(3,1)]) [.t 78],
 op (.t 80) (.bslice 4 [[.int .u8 0,.str [],.int .i64 0,.int .i64 0]] [0]) [.t 79],
 op (.t 81) (.app 4 40) [.ts 77,.t 80],
 op (.v 1) .mv [.ts 81],
 op (.v 2) .mv [.c (.int .i64 0)],
 op (.v 3) .mv [.c (.int .i64 0)]]
def a33s56 : ACode := .reg [] a33r55
def a33s57 : ACode := .seq a33s56 .ret
def a33s58 : ACode := .seq a33s54 a33s57
def a33s59 : ACode := .seq a33s10 a33s58
def a33s60 : ACode := .seq a33s8 a33s59
def a33s61 : ACode := .seq a33s6 a33s60
def a33s62 : ACode := .seq a33s1 a33s61
def a33c : ACode :=
  a33s62
def a33 : AFn := { np := 1,nv := 11,results := [.v 1,.v 2,.v 3],code := a33c }
def a33v : List Nat := [0,2,3,4,5,6,7,8,9,10,11]
def a33b : List Nat := [7]

def a34r0 : List AOper := [
 op (.v 2) .mv [.c (.bool false)]]
def a34s1 : ACode := .reg [] a34r0
def a34r2 : List AOper := [
 op (.t 5) .mv [.v 0],
 op (.t 6) .nilchk [.t 5],
 op (.t 7) (.fad 4) [.t 6],
 op (.t 8) (.ldSt false 1) [.t 7],
 op (.t 9) (.bin .eql) [.t 8,.c (.int .i64 0)],
 op (.t 10) .mv [.t 9],
 ⟨.t 11,.mv,[.v 0],none,some (.t 10,true)⟩,
 ⟨.t 12,.nilchk,[.t 11],none,some (.t 10,true)⟩,
 ⟨.t 13,.fad 0,[.t 12],none,some (.t 10,true)⟩,
 ⟨.t 14,.ldSt false 1,[.t 13],none,some (.t 10,true)⟩,
 ⟨.t 15,.mv,[.v 0],none,some (.t 10,true)⟩,
 ⟨.t 16,.nilchk,[.t 15],none,some (.t 10,true)⟩,
 ⟨.t 17,.fad 1,[.t 16],none,some (.t 10,true)⟩,
 ⟨.t 18,.ldSt false 1,[.t 17],none,some (.t 10,true)⟩,
 ⟨.t 19,.iad 4,[.t 14,.t 18],none,some (.t 10,true)⟩,
 ⟨.t 20,.fad 0,[.t 19],none,some (.t 10,true)⟩,
 ⟨.t 21,.ldRo false 1,[.t 20],none,some (.t 10,true)⟩,
 ⟨.t 22,.mv,[.v 1],none,some (.t 10,true)⟩,
 ⟨.t 23,.bin .eql,[.t 21,.t 22],none,some (.t 10,true)⟩,
 op (.t 24) .pick [.t 10,.t 23,.c (.bool false)],
 op (.v 2) .mv [.t 24]]
def a34s3 : ACode := .reg [] a34r2
def a34s4 : ACode := .seq a34s3 .ret
def a34s5 : ACode := .seq a34s1 a34s4
def a34c : ACode :=
  a34s5
def a34 : AFn := { np := 2,nv := 3,results := [.v 2],code := a34c }
def a34v : List Nat := [0,1,4]
def a34b : List Nat := []

def a35r0 : List AOper := [
 ⟨.bx,.alloc [.int .u8 0,.str [],.list true [],.list true []],[],some 1,none⟩]
def a35s1 : ACode := .reg [1] a35r0
def a35r2 : List AOper := [
 ⟨.bx,.alloc [.int .u8 0,.str [],.list true [],.list true []],[],some 2,none⟩]
def a35s3 : ACode := .reg [2] a35r2
def a35r4 : List AOper := [
 op (.t 11) .mv [.v 0],
 op (.t 12) (.call 49) [.t 11,.c (.str [116,121,112,101])],
 op (.t 10) .mv [.t 12]]
def a35r5 : List AOper := [
 op (.t 13) (.fad 0) [.l 2],
 ⟨.none,.stLc 2 1,[.t 13,.c (.int .u8 1)],some 2,none⟩]
def a35s6 : ACode := .reg [] a35r5
def a35r7 : List AOper := [
 op (.t 15) .mv [.v 0],
 op (.t 16) (.call 49) [.t 15,.c (.str [105,110,116,101,114,102,97,99,101])],
 op (.t 14) .mv [.t 16]]
def a35r8 : List AOper := [
 op (.t 17) (.fad 0) [.l 2],
 ⟨.none,.stLc 2 1,[.t 17,.c (.int .u8 2)],some 2,none⟩]
def a35s9 : ACode := .reg [] a35r8
def a35r10 : List AOper := [
 op (.t 19) .mv [.v 0],
 op (.t 20) (.call 49) [.t 19,.c (.str [117,110,105,111,110])],
 op (.t 18) .mv [.t 20]]
def a35r11 : List AOper := [
 op (.t 21) (.fad 0) [.l 2],
 ⟨.none,.stLc 2 1,[.t 21,.c (.int .u8 3)],some 2,none⟩]
def a35s12 : ACode := .reg [] a35r11
def a35r13 : List AOper := [
 op (.t 23) .mv [.v 0],
 op (.t 24) (.call 49) [.t 23,.c (.str [101,110,117,109])],
 op (.t 22) .mv [.t 24]]
def a35r14 : List AOper := [
 op (.t 25) (.fad 0) [.l 2],
 ⟨.none,.stLc 2 1,[.t 25,.c (.int .u8 4)],some 2,none⟩]
def a35s15 : ACode := .reg [] a35r14
def a35r16 : List AOper := [
 op (.t 27) .mv [.v 0],
 op (.t 28) (.call 49) [.t 27,.c (.str [105,110,112,117,116])],
 op (.t 26) .mv [.t 28]]
def a35r17 : List AOper := [
 op (.t 29) (.fad 0) [.l 2],
 ⟨.none,.stLc 2 1,[.t 29,.c (.int .u8 5)],some 2,none⟩]
def a35s18 : ACode := .reg [] a35r17
def a35r19 : List AOper := [
 op (.t 7) .mv [.v 0],
 op (.t 8) (.call 50) [.t 7,.c (.int .i64 4)]]
def a35s20 : ACode := .reg [] a35r19
def a35r21 : List AOper := [
 ⟨.t 9,.ldLc 2 true 4,[.l 2],some 2,none⟩,
 ⟨.none,.stLc 1 4,[.l 1,.ts 9],some 1,none⟩]
def a35s22 : ACode := .reg [] a35r21
def a35s23 : ACode := .seq a35s22 .ret
def a35s24 : ACode := .seq a35s20 a35s23
def a35s25 : ACode := .test [] a35r16 (.t 26) a35s18 a35s24
def a35s26 : ACode := .test [] a35r13 (.t 22) a35s15 a35s25
def a35s27 : ACode := .test [] a35r10 (.t 18) a35s12 a35s26
def a35s28 : ACode := .test [] a35r7 (.t 14) a35s9 a35s27
def a35s29 : ACode := .test [] a35r4 (.t 10) a35s6 a35s28
def a35s30 : ACode := .blk 0 a35s29
def a35r31 : List AOper := [
 op (.t 30) .mv [.v 0],
 op (.t 31) .nilchk [.t 30],
 op (.t 32) (.fad 1) [.t 31],
 op (.t 33) (.ldSt false 1) [.t 32],
 op (.t 34) (.bin .add) [.t 33,.c (.int .i64 1)],
 op (.t 35) .nilchk [.t 30],
 op (.t 36) (.fad 1) [.t 35],
 op .none (.stSt 1) [.t 36,.t 34]]
def a35s32 : ACode := .reg [] a35r31
def a35r33 : List AOper := [
 op (.t 37) .mv [.v 0],
 op (.t 38) (.call 51) [.t 37],
 op (.t 39) (.fad 1) [.l 2],
 ⟨.none,.stLc 2 1,[.t 39,.t 38],some 2,none⟩]
def a35s34 : ACode := .reg [] a35r33
def a35r35 : List AOper := [
 op (.t 40) (.fad 0) [.l 2],
 ⟨.v 6,.ldLc 2 false 1,[.t 40],some 2,none⟩]
def a35s36 : ACode := .reg [] a35r35
def a35r37 : List AOper := [
 op (.t 87) (.bin .eql) [.v 6,.c (.int .u8 3)],
 op (.t 86) .mv [.t 87]]
def a35r38 : List AOper := [
 op (.t 88) .mv [.v 0],
 op (.t 89) (.call 52) [.t 88,.c (.str [61])]]
def a35s39 : ACode := .reg [] a35r38
def a35r40 : List AOper := [
 op (.t 90) .mv [.v 0],
 op (.t 91) (.call 53) [.t 90,.c (.str [124])],
 op (.t 92) (.fad 3) [.l 2],
 ⟨.none,.stLc 2 1,[.t 92,.ts 91],some 2,none⟩]
def a35s41 : ACode := .reg [] a35r40
def a35s42 : ACode := .seq a35s39 a35s41
def a35r43 : List AOper := [
 op (.t 94) (.bin .eql) [.v 6,.c (.int .u8 4)],
 op (.t 93) .mv [.t 94]]
def a35r44 : List AOper := [
 op (.t 95) .mv [.v 0],
 op (.t 96) (.call 52) [.t 95,.c (.str [123])]]
def a35s45 : ACode := .reg [] a35r44
def a35r46 : List AOper := [
 op (.v 3) .mv [.c (.bool true)]]
def a35s47 : ACode := .reg [] a35r46
def a35r48 : List AOper := [
 op (.t 97) .mv [.v 0],
 op (.t 98) .nilchk [.t 97],
 op (.t 99) (.fad 4) [.t 98],
 op (.t 100) (.ldSt false 1) [.t 99],
 op (.t 101) (.bin .eql) [.t 100,.c (.int .i64 0)],
 op (.t 102) .mv [.t 101],
 ⟨.t 103,.mv,[.v 3],none,some (.t 102,true)⟩,
 ⟨.t 104,.mv,[.t 103],none,some (.t 102,true)⟩,
 ⟨.t 105,.mv,[.v 0],none,some (.t 104,false)⟩,
 ⟨.t 106,.call 54,[.t 105,.c (.str [125])],none,some (.t 104,false)⟩,
 ⟨.t 107,.un .not,[.t 106],none,some (.t 104,false)⟩,
 ⟨.t 108,.pick,[.t 104,.c (.bool true),.t 107],none,some (.t 102,true)⟩,
 op (.t 109) .pick [.t 102,.t 108,.c (.bool false)]]
def a35s49 : ACode := .test [] a35r48 (.t 109) .skip (.exit 4)
def a35r50 : List AOper := [
 op (.t 110) .mv [.v 0],
 op (.t 111) (.call 49) [.t 110,.c (.str [116,114,117,101])],
 op (.t 112) .mv [.t 111],
 ⟨.t 113,.mv,[.v 0],none,some (.t 112,false)⟩,
 ⟨.t 114,.call 49,[.t 113,.c (.str [102,97,108,115,101])],none,some (.t 112,false)⟩,
 op (.t 115) .pick [.t 112,.c (.bool true),.t 114],
 op (.t 116) .mv [.t 115],
 ⟨.t 117,.mv,[.v 0],none,some (.t 116,false)⟩,
 ⟨.t 118,.call 49,[.t 117,.c (.str [110,117,108,108])],none,some (.t 116,false)⟩,
 op (.t 119) .pick [.t 116,.c (.bool true),.t 118]]
def a35r51 : List AOper := [
 op (.t 120) .mv [.v 0],
 op (.t 121) (.call 50) [.t 120,.c (.int .i64 4)]]
def a35s52 : ACode := .reg [] a35r51
def a35s53 : ACode := .test [] a35r50 (.t 119) a35s52 .skip
def a35r54 : List AOper := [
 op (.t 122) (.fad 3) [.l 2],
 ⟨.t 123,.ldLcS 2,[.t 122],some 2,none⟩,
 op (.t 124) .mv [.v 0],
 op (.t 125) (.call 51) [.t 124],
 op (.t 126) (.bslice 1 [[.str []]] [0]) [.t 125],
 op (.t 127) (.app 1 16) [.ts 123,.t 126],
 op (.t 128) (.fad 3) [.l 2],
 ⟨.none,.stLc 2 1,[.t 128,.ts 127],some 2,none⟩]
def a35s55 : ACode := .reg [] a35r54
def a35s56 : ACode := .seq a35s53 a35s55
def a35s57 : ACode := .blk 5 a35s56
def a35r58 : List AOper := [
 op (.v 3) .mv [.c (.bool false)]]
def a35s59 : ACode := .reg [] a35r58
def a35s60 : ACode := .seq a35s57 a35s59
def a35s61 : ACode := .seq a35s49 a35s60
def a35s62 : ACode := .loop a35s61
def a35s63 : ACode := .blk 4 a35s62
def a35s64 : ACode := .seq a35s47 a35s63
def a35s65 : ACode := .seq a35s45 a35s64
def a35r66 : List AOper := [
 op (.t 130) (.bin .eql) [.v 6,.c (.int .u8 5)],
 op (.t 129) .mv [.t 130]]
def a35r67 : List AOper := [
 op (.t 131) .mv [.v 0],
 op (.t 132) (.call 52) [.t 131,.c (.str [123])]]
def a35s68 : ACode := .reg [] a35r67
def a35r69 : List AOper := [
 op (.t 133) .mv [.v 0],
 op (.t 134) (.call 55) [.t 133,.c (.str [125])],
 op (.t 135) (.fad 2) [.l 2],
 ⟨.none,.stLc 2 1,[.t 135,.ts 134],some 2,none⟩]
def a35s70 : ACode := .reg [] a35r69
def a35s71 : ACode := .seq a35s68 a35s70
def a35r72 : List AOper := [
 op (.t 42) (.fad 0) [.l 2],
 ⟨.t 43,.ldLc 2 false 1,[.t 42],some 2,none⟩,
 op (.t 44) (.bin .eql) [.t 43,.c (.int .u8 1)],
 op (.t 45) .mv [.t 44],
 ⟨.t 46,.mv,[.v 0],none,some (.t 45,true)⟩,
 ⟨.t 47,.call 54,[.t 46,.c (.str [105,109,112,108,101,109,101,110,116,115])],none,some (.t 45,true)⟩,
 op (.t 48) .pick [.t 45,.t 47,.c (.bool false)]]
def a35r73 : List AOper := [
 op (.t 49) .mv [.v 0],
 op (.t 50) (.call 53) [.t 49,.c (.str [38])],
 op (.t 51) (.fad 3) [.l 2],
 ⟨.none,.stLc 2 1,[.t 51,.ts 50],some 2,none⟩]
def a35s74 : ACode := .reg [] a35r73
def a35s75 : ACode := .test [] a35r72 (.t 48) a35s74 .skip
def a35r76 : List AOper := [
 op (.t 52) .mv [.v 0],
 op (.t 53) (.call 52) [.t 52,.c (.str [123])]]
def a35s77 : ACode := .reg [] a35r76
def a35r78 : List AOper := [
 op (.v 4) .mv [.c (.bool true)]]
def a35s79 : ACode := .reg [] a35r78
def a35r80 : List AOper := [
 op (.t 54) .mv [.v 0],
 op (.t 55) .nilchk [.t 54],
 op (.t 56) (.fad 4) [.t 55],
 op (.t 57) (.ldSt false 1) [.t 56],
 op (.t 58) (.bin .eql) [.t 57,.c (.int .i64 0)],
 op (.t 59) .mv [.t 58],
 ⟨.t 60,.mv,[.v 4],none,some (.t 59,true)⟩,
 ⟨.t 61,.mv,[.t 60],none,some (.t 59,true)⟩,
 ⟨.t 62,.mv,[.v 0],none,some (.t 61,false)⟩,
 ⟨.t 63,.call 54,[.t 62,.c (.str [125])],none,some (.t 61,false)⟩,
 ⟨.t 64,.un .not,[.t 63],none,some (.t 61,false)⟩,
 ⟨.t 65,.pick,[.t 61,.c (.bool true),.t 64],none,some (.t 59,true)⟩,
 op (.t 66) .pick [.t 59,.t 65,.c (.bool false)]]
def a35s81 : ACode := .test [] a35r80 (.t 66) .skip (.exit 2)
def a35r82 : List AOper := [
 op (.t 67) .mv [.v 0],
 op (.t 68) (.call 51) [.t 67],
 op (.t 69) (.build [.str [],.list true [],.str [],.list true [],.bool false,.bool false,.int .u8 0,.int .i64 0,.str [],.list true [],.list true []] [(0,1)]) [.t 68],
 ⟨.bx,.alloc [.str [],.list true [],.str [],.list true [],.bool false,.bool false,.int .u8 0,.int .i64 0,.str [],.list true [],.list true []],[],some 5,none⟩,
 ⟨.none,.stLc 5 11,[.l 5,.ts 69],some 5,none⟩]
def a35s83 : ACode := .reg [5] a35r82
def a35r84 : List AOper := [
 op (.t 70) .mv [.v 0],
 op (.t 71) (.call 54) [.t 70,.c (.str [40])]]
def a35r85 : List AOper := [
 op (.t 72) .mv [.v 0],
 op (.t 73) (.call 55) [.t 72,.c (.str [41])],
 op (.t 74) (.fad 1) [.l 5],
 ⟨.none,.stLc 5 1,[.t 74,.ts 73],some 5,none⟩]
def a35s86 : ACode := .reg [] a35r85
def a35s87 : ACode := .test [] a35r84 (.t 71) a35s86 .skip
def a35r88 : List AOper := [
 op (.t 75) .mv [.v 0],
 op (.t 76) (.call 52) [.t 75,.c (.str [58])]]
def a35s89 : ACode := .reg [] a35r88
def a35r90 : List AOper := [
 op (.t 77) .mv [.v 0],
 op (.t 78) (.call 56) [.t 77],
 op (.t 79) (.fad 2) [.l 5],
 ⟨.none,.stLc 5 3,[.t 79,.ts 78],some 5,none⟩]
def a35s91 : ACode := .reg [] a35r90
def a35r92 : List AOper := [
 op (.t 80) (.fad 2) [.l 2],
 ⟨.t 81,.ldLcS 2,[.t 80],some 2,none⟩,
 ⟨.t 82,.ldLc 5 true 11,[.l 5],some 5,none⟩,
 op (.t 83) (.bslice 11 [[.str [],.list true [],.str [],.list true [],.bool false,.bool false,.int .u8 0,.int .i64 0,.str [],.list true [],.list true []]] [0]) [.t 82],
 op (.t 84) (.app 11 176) [.ts 81,.t 83],
 op (.t 85) (.fad 2) [.l 2],
 ⟨.none,.stLc 2 1,[.t 85,.ts 84],some 2,none⟩]
def a35s93 : ACode := .reg [] a35r92
def a35s94 : ACode := .seq a35s91 a35s93
def a35s95 : ACode := .seq a35s89 a35s94
def a35s96 : ACode := .seq a35s87 a35s95
def a35s97 : ACode := .seq a35s83 a35s96
def a35s98 : ACode := .blk 3 a35s97
def a35r99 : List AOper := [
 op (.v 4) .mv [.c (.bool false)]]
def a35s100 : ACode := .reg [] a35r99
def a35s101 : ACode := .seq a35s98 a35s100
def a35s102 : ACode := .seq a35s81 a35s101
def a35s103 : ACode := .loop a35s102
def a35s104 : ACode := .blk 2 a35s103
def a35s105 : ACode := .seq a35s79 a35s104
def a35s106 : ACode := .seq a35s77 a35s105
def a35s107 : ACode := .seq a35s75 a35s106
def a35s108 : ACode := .test [] a35r66 (.t 129) a35s71 a35s107
def a35s109 : ACode := .test [] a35r43 (.t 93) a35s65 a35s108
def a35s110 : ACode := .test [] a35r37 (.t 86) a35s42 a35s109
def a35s111 : ACode := .blk 1 a35s110
def a35s112 : ACode := .seq a35s36 a35s111
def a35r113 : List AOper := [
 ⟨.t 136,.ldLc 2 true 4,[.l 2],some 2,none⟩,
 ⟨.none,.stLc 1 4,[.l 1,.ts 136],some 1,none⟩]
def a35s114 : ACode := .reg [] a35r113
def a35s115 : ACode := .seq a35s114 .ret
def a35s116 : ACode := .seq a35s112 a35s115
def a35s117 : ACode := .seq a35s34 a35s116
def a35s118 : ACode := .seq a35s32 a35s117
def a35s119 : ACode := .seq a35s30 a35s118
def a35s120 : ACode := .seq a35s3 a35s119
def a35s121 : ACode := .seq a35s1 a35s120
def a35c : ACode :=
  a35s121
def a35 : AFn := { np := 1,nv := 7,results := [.bx 1 true 4],code := a35c }
def a35v : List Nat := [0,2,3,4,5,6,41]
def a35b : List Nat := [1,2,5]

def a36 : AFn := { np := 1,nv := 0,results := [],code := .skip,ext := some (cloneX 4 72) }
def a37r0 : List AOper := [
 op (.v 2) .mv [.c (.bool false)]]
def a37s1 : ACode := .reg [] a37r0
def a37r2 : List AOper := [
 op (.t 5) .mv [.v 0],
 op (.t 6) .mv [.v 1],
 op (.t 7) (.call 30) [.t 5,.t 6],
 op (.t 8) (.bin .geq) [.t 7,.c (.int .i64 0)],
 op (.v 2) .mv [.t 8]]
def a37s3 : ACode := .reg [] a37r2
def a37s4 : ACode := .seq a37s3 .ret
def a37s5 : ACode := .seq a37s1 a37s4
def a37c : ACode :=
  a37s5
def a37 : AFn := { np := 2,nv := 3,results := [.v 2],code := a37c }
def a37v : List Nat := [0,1,4]
def a37b : List Nat := []

def a38r0 : List AOper := [
 op (.v 2) .mv [.c (.bool false)]]
def a38s1 : ACode := .reg [] a38r0
def a38r2 : List AOper := [
 op (.t 5) .mv [.v 0],
 op (.t 6) .mv [.v 1],
 op (.t 7) (.call 57) [.t 5,.t 6],
 op (.v 2) .mv [.t 7]]
def a38s3 : ACode := .reg [] a38r2
def a38s4 : ACode := .seq a38s3 .ret
def a38s5 : ACode := .seq a38s1 a38s4
def a38c : ACode :=
  a38s5
def a38 : AFn := { np := 2,nv := 3,results := [.v 2],code := a38c }
def a38v : List Nat := [0,1,4]
def a38b : List Nat := []

def a39r0 : List AOper := [
 ⟨.bx,.boxV,[.v 1],some 2,none⟩,
 ⟨.bx,.alloc [.int .i64 0,.str []],[],some 3,none⟩]
def a39s1 : ACode := .reg [2,3] a39r0
def a39r2 : List AOper := [
 op (.t 16) (.fad 2) [.l 2],
 ⟨.t 17,.ldLc 2 false 1,[.t 16],some 2,none⟩,
 op (.t 18) (.call 59) [.t 17],
 op (.t 19) (.fad 3) [.l 2],
 ⟨.t 20,.ldLc 2 false 1,[.t 19],some 2,none⟩,
 op (.t 21) (.app 1 16) [.ts 18,.t 20],
 op (.t 22) (.call 58) [.t 21],
 ⟨.bx,.alloc [.int .i64 0,.str []],[],some 4,none⟩,
 ⟨.none,.stLc 4 2,[.l 4,.t 22],some 4,none⟩]
def a39s3 : ACode := .reg [4] a39r2
def a39r4 : List AOper := [
 op (.t 23) (.fad 0) [.l 4],
 ⟨.t 24,.ldLc 4 false 1,[.t 23],some 4,none⟩,
 op (.t 25) (.bin .neq) [.t 24,.c (.int .i64 0)],
 op (.t 26) .mv [.t 25],
 ⟨.t 27,.fad 0,[.l 2],none,some (.t 26,true)⟩,
 ⟨.t 28,.ldLc 2 false 1,[.t 27],some 2,some (.t 26,true)⟩,
 ⟨.t 29,.bin .neq,[.t 28,.c (.int .u8 1)],none,some (.t 26,true)⟩,
 op (.t 30) .pick [.t 26,.t 29,.c (.bool false)]]
def a39r5 : List AOper := [
 ⟨.t 31,.ldLc 4 true 2,[.l 4],some 4,none⟩,
 ⟨.none,.stLc 3 2,[.l 3,.t 31],some 3,none⟩]
def a39s6 : ACode := .reg [] a39r5
def a39s7 : ACode := .seq a39s6 .ret
def a39s8 : ACode := .test [] a39r4 (.t 30) a39s7 .skip
def a39s9 : ACode := .seq a39s3 a39s8
def a39r10 : List AOper := [
 op (.t 32) (.fad 2) [.l 2],
 ⟨.t 33,.ldLc 2 false 1,[.t 32],some 2,none⟩,
 op (.t 34) (.call 59) [.t 33],
 op (.t 35) (.call 58) [.t 34],
 ⟨.bx,.alloc [.int .i64 0,.str []],[],some 5,none⟩,
 ⟨.none,.stLc 5 2,[.l 5,.t 35],some 5,none⟩]
def a39s11 : ACode := .reg [5] a39r10
def a39r12 : List AOper := [
 op (.t 36) (.fad 0) [.l 5],
 ⟨.t 37,.ldLc 5 false 1,[.t 36],some 5,none⟩,
 op (.t 38) (.bin .neq) [.t 37,.c (.int .i64 0)]]
def a39r13 : List AOper := [
 ⟨.t 39,.ldLc 5 true 2,[.l 5],some 5,none⟩,
 ⟨.none,.stLc 3 2,[.l 3,.t 39],some 3,none⟩]
def a39s14 : ACode := .reg [] a39r13
def a39s15 : ACode := .seq a39s14 .ret
def a39s16 : ACode := .test [] a39r12 (.t 38) a39s15 .skip
def a39s17 : ACode := .seq a39s11 a39s16
def a39r18 : List AOper := [
 op (.t 40) (.fad 3) [.l 2],
 ⟨.t 41,.ldLc 2 false 1,[.t 40],some 2,none⟩,
 op (.t 42) (.call 58) [.t 41],
 ⟨.bx,.alloc [.int .i64 0,.str []],[],some 6,none⟩,
 ⟨.none,.stLc 6 2,[.l 6,.t 42],some 6,none⟩]
def a39s19 : ACode := .reg [6] a39r18
def a39r20 : List AOper := [
 op (.t 43) (.fad 0) [.l 6],
 ⟨.t 44,.ldLc 6 false 1,[.t 43],some 6,none⟩,
 op (.t 45) (.bin .neq) [.t 44,.c (.int .i64 0)]]
def a39r21 : List AOper := [
 ⟨.t 46,.ldLc 6 true 2,[.l 6],some 6,none⟩,
 ⟨.none,.stLc 3 2,[.l 3,.t 46],some 3,none⟩]
def a39s22 : ACode := .reg [] a39r21
def a39s23 : ACode := .seq a39s22 .ret
def a39s24 : ACode := .test [] a39r20 (.t 45) a39s23 .skip
def a39s25 : ACode := .seq a39s19 a39s24
def a39r26 : List AOper := [
 op (.t 47) (.fad 2) [.l 2],
 ⟨.v 13,.ldLc 2 false 1,[.t 47],some 2,none⟩,
 op (.v 14) .lenL [.v 13],
 op (.v 15) .mv [.c (.int .i64 0)]]
def a39s27 : ACode := .reg [] a39r26
def a39r28 : List AOper := [
 op (.t 51) (.bin .lss) [.v 15,.v 14]]
def a39s29 : ACode := .test [] a39r28 (.t 51) .skip (.exit 0)
def a39r30 : List AOper := [
 op (.t 52) (.iad 11) [.v 13,.v 15],
 op (.t 53) (.ldRo true 11) [.t 52],
 ⟨.bx,.alloc [.str [],.list true [],.str [],.list true [],.bool false,.bool false,.int .u8 0,.int .i64 0,.str [],.list true [],.list true []],[],some 7,none⟩,
 ⟨.none,.stLc 7 11,[.l 7,.ts 53],some 7,none⟩]
def a39s31 : ACode := .reg [7] a39r30
def a39r32 : List AOper := [
 op (.t 54) .mv [.v 0],
 ⟨.t 55,.ldLc 7 true 11,[.l 7],some 7,none⟩,
 op (.t 56) (.fad 0) [.l 2],
 ⟨.t 57,.ldLc 2 false 1,[.t 56],some 2,none⟩,
 op (.t 58) (.bin .eql) [.t 57,.c (.int .u8 5)],
 op (.t 59) (.call 60) [.t 54,.t 55,.t 58],
 ⟨.bx,.alloc [.int .i64 0,.str []],[],some 8,none⟩,
 ⟨.none,.stLc 8 2,[.l 8,.t 59],some 8,none⟩]
def a39s33 : ACode := .reg [8] a39r32
def a39r34 : List AOper := [
 op (.t 60) (.fad 0) [.l 8],
 ⟨.t 61,.ldLc 8 false 1,[.t 60],some 8,none⟩,
 op (.t 62) (.bin .neq) [.t 61,.c (.int .i64 0)]]
def a39r35 : List AOper := [
 ⟨.t 63,.ldLc 8 true 2,[.l 8],some 8,none⟩,
 ⟨.none,.stLc 3 2,[.l 3,.t 63],some 3,none⟩]
def a39s36 : ACode := .reg [] a39r35
def a39s37 : ACode := .seq a39s36 .ret
def a39s38 : ACode := .test [] a39r34 (.t 62) a39s37 .skip
def a39s39 : ACode := .seq a39s33 a39s38
def a39s40 : ACode := .seq a39s31 a39s39
def a39s41 : ACode := .blk 1 a39s40
def a39r42 : List AOper := [
 op (.t 64) (.bin .add) [.v 15,.c (.int .i64 1)],
 op (.v 15) .mv [.t 64]]
def a39s43 : ACode := .reg [] a39r42
def a39s44 : ACode := .seq a39s41 a39s43
def a39s45 : ACode := .seq a39s29 a39s44
def a39s46 : ACode := .loop a39s45
def a39s47 : ACode := .blk 0 a39s46
def a39s48 : ACode := .seq a39s27 a39s47
def a39r49 : List AOper := [
 op (.t 65) .mkM [],
 op .none (.mset 0) [.t 65,.c (.int .u8 1),.c (.int .u8 2)],
 op .none (.mset 0) [.t 65,.c (.int .u8 3),.c (.int .u8 1)],
 op (.t 66) .mv [.t 65],
 op (.t 67) (.fad 0) [.l 2],
 ⟨.t 68,.ldLc 2 false 1,[.t 67],some 2,none⟩,
 op (.t 69) (.mget 0 [.int .u8 0] false false) [.t 66,.t 68],
 op (.v 9) .mv [.t 69]]
def a39s50 : ACode := .reg [] a39r49
def a39r51 : List AOper := [
 op (.t 70) (.fad 3) [.l 2],
 ⟨.v 16,.ldLc 2 false 1,[.t 70],some 2,none⟩,
 op (.v 17) .lenL [.v 16],
 op (.v 18) .mv [.c (.int .i64 0)]]
def a39s52 : ACode := .reg [] a39r51
def a39r53 : List AOper := [
 op (.t 74) (.bin .lss) [.v 18,.v 17]]
def a39s54 : ACode := .test [] a39r53 (.t 74) .skip (.exit 2)
def a39r55 : List AOper := [
 op (.t 75) (.iad 1) [.v 16,.v 18],
 op (.t 76) (.ldRo false 1) [.t 75],
 op (.v 10) .mv [.t 76]]
def a39s56 : ACode := .reg [] a39r55
def a39r57 : List AOper := [
 op (.t 78) .mv [.v 0],
 op (.t 79) .mv [.v 10],
 op (.t 80) (.call 40) [.t 78,.t 79],
 op (.t 77) .mv [.t 80],
 op (.t 81) (.ext 0) [.t 77],
 op (.t 82) (.ext 1) [.t 77],
 ⟨.bx,.alloc [.int .u8 0,.str [],.list true [],.list true []],[],some 11,none⟩,
 ⟨.none,.stLc 11 4,[.l 11,.ts 81],some 11,none⟩,
 op (.v 12) .mv [.t 82]]
def a39s58 : ACode := .reg [11] a39r57
def a39r59 : List AOper := [
 op (.t 84) (.fad 0) [.l 2],
 ⟨.t 85,.ldLc 2 false 1,[.t 84],some 2,none⟩,
 op (.t 86) (.bin .eql) [.t 85,.c (.int .u8 4)],
 op (.t 83) .mv [.t 86]]
def a39r60 : List AOper := [
 op (.t 88) .mv [.v 12],
 op (.t 89) (.un .not) [.t 88],
 op (.t 87) .mv [.t 89]]
def a39r61 : List AOper := [
 op (.t 90) .mv [.v 10],
 op (.t 91) (.build [.int .i64 0,.str []] [(0,1),(1,1)]) [.c (.int .i64 6),.t 90],
 ⟨.none,.stLc 3 2,[.l 3,.t 91],some 3,none⟩]
def a39s62 : ACode := .reg [] a39r61
def a39s63 : ACode := .seq a39s62 .ret
def a39r64 : List AOper := [
 op (.t 93) (.fad 0) [.l 11],
 ⟨.t 94,.ldLc 11 false 1,[.t 93],some 11,none⟩,
 op (.t 95) .mv [.v 9],
 op (.t 96) (.bin .neq) [.t 94,.t 95],
 op (.t 97) .mv [.t 96],
 ⟨.t 98,.mv,[.v 10],none,some (.t 97,false)⟩,
 ⟨.t 99,.call 61,[.t 98],none,some (.t 97,false)⟩,
 op (.t 100) .pick [.t 97,.c (.bool true),.t 99],
 op (.t 92) .mv [.t 100]]
def a39r65 : List AOper := [
 op (.t 101) .mv [.v 10],
 op (.t 102) (.build [.int .i64 0,.str []] [(0,1),(1,1)]) [.c (.int .i64 8),.t 101],
 ⟨.none,.stLc 3 2,[.l 3,.t 102],some 3,none⟩]
def a39s66 : ACode := .reg [] a39r65
def a39s67 : ACode := .seq a39s66 .ret
def a39r68 : List AOper := [
 op (.t 104) (.fad 0) [.l 2],
 ⟨.t 105,.ldLc 2 false 1,[.t 104],some 2,none⟩,
 op (.t 106) (.bin .eql) [.t 105,.c (.int .u8 1)],
 op (.t 107) .mv [.t 106],
 ⟨.t 108,.mv,[.v 0],none,some (.t 107,true)⟩,
 ⟨.t 109,.ldLc 2 true 4,[.l 2],some 2,some (.t 107,true)⟩,
 ⟨.t 110,.ldLc 11 true 4,[.l 11],some 11,some (.t 107,true)⟩,
 ⟨.t 111,.call 62,[.t 108,.t 109,.t 110],none,some (.t 107,true)⟩,
 ⟨.t 112,.un .not,[.t 111],none,some (.t 107,true)⟩,
 op (.t 113) .pick [.t 107,.t 112,.c (.bool false)],
 op (.t 103) .mv [.t 113]]
def a39r69 : List AOper := [
 op (.t 114) .mv [.v 10],
 op (.t 115) (.build [.int .i64 0,.str []] [(0,1),(1,1)]) [.c (.int .i64 3),.t 114],
 ⟨.none,.stLc 3 2,[.l 3,.t 115],some 3,none⟩]
def a39s70 : ACode := .reg [] a39r69
def a39s71 : ACode := .seq a39s70 .ret
def a39s72 : ACode := .test [] a39r68 (.t 103) a39s71 .skip
def a39s73 : ACode := .test [] a39r64 (.t 92) a39s67 a39s72
def a39s74 : ACode := .test [] a39r60 (.t 87) a39s63 a39s73
def a39s75 : ACode := .test [] a39r59 (.t 83) .skip a39s74
def a39s76 : ACode := .blk 4 a39s75
def a39s77 : ACode := .seq a39s58 a39s76
def a39s78 : ACode := .seq a39s56 a39s77
def a39s79 : ACode := .blk 3 a39s78
def a39r80 : List AOper := [
 op (.t 116) (.bin .add) [.v 18,.c (.int .i64 1)],
 op (.v 18) .mv [.t 116]]
def a39s81 : ACode := .reg [] a39r80
def a39s82 : ACode := .seq a39s79 a39s81
def a39s83 : ACode := .seq a39s54 a39s82
def a39s84 : ACode := .loop a39s83
def a39s85 : ACode := .blk 2 a39s84
def a39s86 : ACode := .seq a39s52 a39s85
def a39r87 : List AOper := [
 op (.t 117) (.build [.int .i64 0,.str []] []) [],
 ⟨.none,.stLc 3 2,[.l 3,.t 117],some 3,none⟩]
def a39s88 : ACode := .reg [] a39r87
def a39s89 : ACode := .seq a39s88 .ret
def a39s90 : ACode := .seq a39s86 a39s89
def a39s91 : ACode := .seq a39s50 a39s90
def a39s92 : ACode := .seq a39s48 a39s91
def a39s93 : ACode := .seq a39s25 a39s92
def a39s94 : ACode := .seq a39s17 a39s93
def a39s95 : ACode := .seq a39s9 a39s94
def a39s96 : ACode := .seq a39s1 a39s95
def a39c : ACode :=
  a39s96
def a39 : AFn := { np := 2,nv := 19,results := [.bx 3 true 2],code := a39c }
def a39v : List Nat := [0,1,3,4,5,6,7,9,10,11,13,14,15,48,49,50,71,72,73]
def a39b : List Nat := [2,3,4,5,6,7,8,11]

def a40r0 : List AOper := [
 ⟨.bx,.alloc [.int .u8 0,.str [],.list true [],.list true []],[],some 2,none⟩,
 op (.v 3) .mv [.c (.bool false)]]
def a40s1 : ACode := .reg [2] a40r0
def a40r2 : List AOper := [
 op (.t 8) .mv [.v 0],
 op (.t 9) (.binP .eql) [.t 8,.c (.nilp)]]
def a40r3 : List AOper := [
 op (.t 10) (.build [.int .u8 0,.str [],.list true [],.list true []] []) [],
 ⟨.none,.stLc 2 4,[.l 2,.ts 10],some 2,none⟩,
 op (.v 3) .mv [.c (.bool false)]]
def a40s4 : ACode := .reg [] a40r3
def a40s5 : ACode := .seq a40s4 .ret
def a40s6 : ACode := .test [] a40r2 (.t 9) a40s5 .skip
def a40r7 : List AOper := [
 op (.t 12) .mv [.v 0],
 op (.t 13) .nilchk [.t 12],
 op (.t 14) (.fad 1) [.t 13],
 op (.t 15) (.ldSt false 1) [.t 14],
 op (.t 16) .mv [.v 1],
 op (.t 17) (.mget 1 [.int .i64 0] false true) [.t 15,.t 16],
 op (.t 11) .mv [.t 17],
 op (.t 18) (.ext 0) [.t 11],
 op (.t 19) (.ext 1) [.t 11],
 op (.v 4) .mv [.t 18],
 op (.v 5) .mv [.t 19]]
def a40s8 : ACode := .reg [] a40r7
def a40r9 : List AOper := [
 op (.t 20) .mv [.v 5],
 op (.t 21) (.un .not) [.t 20]]
def a40r10 : List AOper := [
 op (.t 22) (.build [.int .u8 0,.str [],.list true [],.list true []] []) [],
 ⟨.none,.stLc 2 4,[.l 2,.ts 22],some 2,none⟩,
 op (.v 3) .mv [.c (.bool false)]]
def a40s11 : ACode := .reg [] a40r10
def a40s12 : ACode := .seq a40s11 .ret
def a40s13 : ACode := .test [] a40r9 (.t 21) a40s12 .skip
def a40r14 : List AOper := [
 op (.t 23) .mv [.v 0],
 op (.t 24) .nilchk [.t 23],
 op (.t 25) (.fad 0) [.t 24],
 op (.t 26) (.ldSt false 1) [.t 25],
 op (.t 27) .mv [.v 4],
 op (.t 28) (.iad 4) [.t 26,.t 27],
 op (.t 29) (.ldRo true 4) [.t 28],
 ⟨.none,.stLc 2 4,[.l 2,.ts 29],some 2,none⟩,
 op (.v 3) .mv [.c (.bool true)]]
def a40s15 : ACode := .reg [] a40r14
def a40s16 : ACode := .seq a40s15 .ret
def a40s17 : ACode := .seq a40s13 a40s16
def a40s18 : ACode := .seq a40s8 a40s17
def a40s19 : ACode := .seq a40s6 a40s18
def a40s20 : ACode := .seq a40s1 a40s19
def a40c : ACode :=
  a40s20
def a40 : AFn := { np := 2,nv := 6,results := [.bx 2 true 4,.v 3],code := a40c }
def a40v : List Nat := [0,1,4,5,6,7]
def a40b : List Nat := [2]

def a41r0 : List AOper := [
 ⟨.bx,.boxV,[.v 1],some 2,none⟩,
 ⟨.bx,.alloc [.int .i64 0,.str []],[],some 3,none⟩]
def a41s1 : ACode := .reg [2,3] a41r0
def a41r2 : List AOper := [
 op (.t 8) (.fad 0) [.l 2],
 ⟨.t 9,.ldLc 2 false 1,[.t 8],some 2,none⟩,
 op (.t 10) (.bin .neq) [.t 9,.c (.int .u8 1)],
 op (.t 11) .mv [.t 10],
 ⟨.t 12,.fad 0,[.l 2],none,some (.t 11,true)⟩,
 ⟨.t 13,.ldLc 2 false 1,[.t 12],some 2,some (.t 11,true)⟩,
 ⟨.t 14,.bin .neq,[.t 13,.c (.int .u8 2)],none,some (.t 11,true)⟩,
 op (.t 15) .pick [.t 11,.t 14,.c (.bool false)]]
def a41r3 : List AOper := [
 op (.t 16) (.build [.int .i64 0,.str []] []) [],
 ⟨.none,.stLc 3 2,[.l 3,.t 16],some 3,none⟩]
def a41s4 : ACode := .reg [] a41r3
def a41s5 : ACode := .seq a41s4 .ret
def a41s6 : ACode := .test [] a41r2 (.t 15) a41s5 .skip
def a41r7 : List AOper := [
 op (.t 17) (.fad 2) [.l 2],
 ⟨.v 6,.ldLc 2 false 1,[.t 17],some 2,none⟩,
 op (.v 7) .lenL [.v 6],
 op (.v 8) .mv [.c (.int .i64 0)]]
def a41s8 : ACode := .reg [] a41r7
def a41r9 : List AOper := [
 op (.t 21) (.bin .lss) [.v 8,.v 7]]
def a41s10 : ACode := .test [] a41r9 (.t 21) .skip (.exit 0)
def a41r11 : List AOper := [
 op (.t 22) (.iad 11) [.v 6,.v 8],
 op (.t 23) (.ldRo true 11) [.t 22],
 ⟨.bx,.alloc [.str [],.list true [],.str [],.list true [],.bool false,.bool false,.int .u8 0,.int .i64 0,.str [],.list true [],.list true []],[],some 4,none⟩,
 ⟨.none,.stLc 4 11,[.l 4,.ts 23],some 4,none⟩]
def a41s12 : ACode := .reg [4] a41r11
def a41r13 : List AOper := [
 op (.t 24) (.fad 1) [.l 4],
 ⟨.t 25,.ldLc 4 false 1,[.t 24],some 4,none⟩,
 op (.t 26) .lenL [.t 25],
 op (.t 27) (.bin .eql) [.t 26,.c (.int .i64 0)],
 op (.v 5) .mv [.t 27]]
def a41s14 : ACode := .reg [] a41r13
def a41r15 : List AOper := [
 op (.t 28) (.fad 1) [.l 2],
 ⟨.v 9,.ldLc 2 false 1,[.t 28],some 2,none⟩]
def a41s16 : ACode := .reg [] a41r15
def a41r17 : List AOper := [
 op (.t 31) (.bin .eql) [.v 9,.c (.str [81,117,101,114,121])],
 op (.t 30) .mv [.t 31]]
def a41r18 : List AOper := [
 op (.t 32) .mv [.v 0],
 ⟨.t 33,.ldLc 4 true 11,[.l 4],some 4,none⟩,
 op (.t 34) (.call 63) [.t 32,.t 33],
 op (.t 35) .mv [.t 34],
 ⟨.t 36,.mv,[.v 0],none,some (.t 35,false)⟩,
 ⟨.t 37,.ldLc 4 true 11,[.l 4],some 4,some (.t 35,false)⟩,
 ⟨.t 38,.call 64,[.t 36,.t 37],none,some (.t 35,false)⟩,
 op (.t 39) .pick [.t 35,.c (.bool true),.t 38],
 op (.v 5) .mv [.t 39]]
def a41s19 : ACode := .reg [] a41r18
def a41r20 : List AOper := [
 op (.t 41) (.bin .eql) [.v 9,.c (.str [77,117,116,97,116,105,111,110])],
 op (.t 40) .mv [.t 41]]
def a41r21 : List AOper := [
 op (.t 42) (.fad 0) [.l 2],
 ⟨.t 43,.ldLc 2 false 1,[.t 42],some 2,none⟩,
 op (.t 44) (.bin .eql) [.t 43,.c (.int .u8 1)],
 op (.t 45) .mv [.t 44],
 ⟨.t 46,.mv,[.v 0],none,some (.t 45,true)⟩,
 ⟨.t 47,.ldLc 4 true 11,[.l 4],some 4,some (.t 45,true)⟩,
 ⟨.t 48,.call 65,[.t 46,.t 47],none,some (.t 45,true)⟩,
 op (.t 49) .pick [.t 45,.t 48,.c (.bool false)],
 op (.v 5) .mv [.t 49]]
def a41s22 : ACode := .reg [] a41r21
def a41s23 : ACode := .test [] a41r20 (.t 40) a41s22 .skip
def a41s24 : ACode := .test [] a41r17 (.t 30) a41s19 a41s23
def a41s25 : ACode := .blk 2 a41s24
def a41s26 : ACode := .seq a41s16 a41s25
def a41r27 : List AOper := [
 op (.t 50) .mv [.v 5],
 op (.t 51) (.un .not) [.t 50]]
def a41r28 : List AOper := [
 op (.t 52) (.fad 0) [.l 4],
 ⟨.t 53,.ldLc 4 false 1,[.t 52],some 4,none⟩,
 op (.t 54) (.build [.int .i64 0,.str []] [(0,1),(1,1)]) [.c (.int .i64 3),.t 53],
 ⟨.none,.stLc 3 2,[.l 3,.t 54],some 3,none⟩]
def a41s29 : ACode := .reg [] a41r28
def a41s30 : ACode := .seq a41s29 .ret
def a41s31 : ACode := .test [] a41r27 (.t 51) a41s30 .skip
def a41s32 : ACode := .seq a41s26 a41s31
def a41s33 : ACode := .seq a41s14 a41s32
def a41s34 : ACode := .seq a41s12 a41s33
def a41s35 : ACode := .blk 1 a41s34
def a41r36 : List AOper := [
 op (.t 55) (.bin .add) [.v 8,.c (.int .i64 1)],
 op (.v 8) .mv [.t 55]]
def a41s37 : ACode := .reg [] a41r36
def a41s38 : ACode := .seq a41s35 a41s37
def a41s39 : ACode := .seq a41s10 a41s38
def a41s40 : ACode := .loop a41s39
def a41s41 : ACode := .blk 0 a41s40
def a41s42 : ACode := .seq a41s8 a41s41
def a41r43 : List AOper := [
 op (.t 56) (.build [.int .i64 0,.str []] []) [],
 ⟨.none,.stLc 3 2,[.l 3,.t 56],some 3,none⟩]
def a41s44 : ACode := .reg [] a41r43
def a41s45 : ACode := .seq a41s44 .ret
def a41s46 : ACode := .seq a41s42 a41s45
def a41s47 : ACode := .seq a41s6 a41s46
def a41s48 : ACode := .seq a41s1 a41s47
def a41c : ACode :=
  a41s48
def a41 : AFn := { np := 2,nv := 10,results := [.bx 3 true 2],code := a41c }
def a41v : List Nat := [0,1,3,4,6,7,18,19,20,29]
def a41b : List Nat := [2,3,4]

def a42r0 : List AOper := [
 op (.v 1) .mv [.c (.bool false)]]
def a42s1 : ACode := .reg [] a42r0
def a42r2 : List AOper := [
 op (.t 3) .mv [.v 0],
 op (.t 4) (.bin .eql) [.t 3,.c (.str [66,111,111,108,101,97,110])],
 op (.t 5) .mv [.t 4],
 ⟨.t 6,.mv,[.v 0],none,some (.t 5,false)⟩,
 ⟨.t 7,.bin .eql,[.t 6,.c (.str [73,68])],none,some (.t 5,false)⟩,
 op (.t 8) .pick [.t 5,.c (.bool true),.t 7],
 op (.t 9) .mv [.t 8],
 ⟨.t 10,.mv,[.v 0],none,some (.t 9,false)⟩,
 ⟨.t 11,.bin .eql,[.t 10,.c (.str [73,110,116])],none,some (.t 9,false)⟩,
 op (.t 12) .pick [.t 9,.c (.bool true),.t 11],
 op (.t 13) .mv [.t 12],
 ⟨.t 14,.mv,[.v 0],none,some (.t 13,false)⟩,
 ⟨.t 15,.bin .eql,[.t 14,.c (.str [83,116,114,105,110,103])],none,some (.t 13,false)⟩,
 op (.t 16) .pick [.t 13,.c (.bool true),.t 15],
 op (.v 1) .mv [.t 16]]
def a42s3 : ACode := .reg [] a42r2
def a42s4 : ACode := .seq a42s3 .ret
def a42s5 : ACode := .seq a42s1 a42s4
def a42c : ACode :=
  a42s5
def a42 : AFn := { np := 1,nv := 2,results := [.v 1],code := a42c }
def a42v : List Nat := [0,2]
def a42b : List Nat := []

def a43r0 : List AOper := [
 op (.v 2) .mv [.c (.bool false)]]
def a43s1 : ACode := .reg [] a43r0
def a43r2 : List AOper := [
 op (.t 5) .mv [.v 0],
 op (.t 6) .lenS [.t 5],
 op (.t 7) .mv [.v 1],
 op (.t 8) .lenS [.t 7],
 op (.t 9) (.bin .geq) [.t 6,.t 8],
 op (.t 10) .mv [.t 9],
 ⟨.t 11,.mv,[.v 0],none,some (.t 10,true)⟩,
 ⟨.t 12,.mv,[.v 1],none,some (.t 10,true)⟩,
 ⟨.t 13,.lenS,[.t 12],none,some (.t 10,true)⟩,
 ⟨.t 14,.slS false true,[.t 11,.t 13],none,some (.t 10,true)⟩,
 ⟨.t 15,.mv,[.v 1],none,some (.t 10,true)⟩,
 ⟨.t 16,.bin .eql,[.t 14,.t 15],none,some (.t 10,true)⟩,
 op (.t 17) .pick [.t 10,.t 16,.c (.bool false)],
 op (.v 2) .mv [.t 17]]
def a43s3 : ACode := .reg [] a43r2
def a43s4 : ACode := .seq a43s3 .ret
def a43s5 : ACode := .seq a43s1 a43s4
def a43c : ACode :=
  a43s5
def a43 : AFn := { np := 2,nv := 3,results := [.v 2],code := a43c }
def a43v : List Nat := [0,1,4]
def a43b : List Nat := []

def a44r0 : List AOper := [
 ⟨.bx,.boxV,[.v 1],some 2,none⟩,
 op (.v 3) .mv [.c (.str [])],
 op (.v 4) .mv [.c (.int .i64 0)]]
def a44s1 : ACode := .reg [2] a44r0
def a44r2 : List AOper := [
 op (.t 19) (.fad 0) [.l 2],
 ⟨.t 20,.ldLc 2 false 1,[.t 19],some 2,none⟩,
 op (.t 21) (.bin .eql) [.t 20,.c (.int .u8 1)]]
def a44r3 : List AOper := [
 op (.t 23) (.fad 2) [.l 2],
 ⟨.t 24,.ldLc 2 false 1,[.t 23],some 2,none⟩,
 op (.t 25) (.call 67) [.t 24],
 op (.t 26) (.call 66) [.t 25],
 op (.t 22) .mv [.t 26],
 op (.t 27) (.ext 0) [.t 22],
 op (.t 28) (.ext 1) [.t 22],
 op (.v 5) .mv [.t 27],
 op (.v 6) .mv [.t 28]]
def a44s4 : ACode := .reg [] a44r3
def a44r5 : List AOper := [
 op (.t 29) .mv [.v 6],
 op (.t 30) (.bin .neq) [.t 29,.c (.int .i64 0)]]
def a44r6 : List AOper := [
 op (.t 31) .mv [.v 5],
 op (.t 32) .mv [.v 6],
 op (.v 3) .mv [.t 31],
 op (.v 4) .mv [.t 32]]
def a44s7 : ACode := .reg [] a44r6
def a44s8 : ACode := .seq a44s7 .ret
def a44s9 : ACode := .test [] a44r5 (.t 30) a44s8 .skip
def a44r10 : List AOper := [
 op (.t 34) (.fad 3) [.l 2],
 ⟨.t 35,.ldLc 2 false 1,[.t 34],some 2,none⟩,
 op (.t 36) (.call 66) [.t 35],
 op (.t 33) .mv [.t 36],
 op (.t 37) (.ext 0) [.t 33],
 op (.t 38) (.ext 1) [.t 33],
 op (.v 5) .mv [.t 37],
 op (.v 6) .mv [.t 38]]
def a44s11 : ACode := .reg [] a44r10
def a44r12 : List AOper := [
 op (.t 39) .mv [.v 6],
 op (.t 40) (.bin .neq) [.t 39,.c (.int .i64 0)]]
def a44r13 : List AOper := [
 op (.t 41) .mv [.v 5],
 op (.t 42) .mv [.v 6],
 op (.v 3) .mv [.t 41],
 op (.v 4) .mv [.t 42]]
def a44s14 : ACode := .reg [] a44r13
def a44s15 : ACode := .seq a44s14 .ret
def a44s16 : ACode := .test [] a44r12 (.t 40) a44s15 .skip
def a44s17 : ACode := .seq a44s11 a44s16
def a44s18 : ACode := .seq a44s9 a44s17
def a44s19 : ACode := .seq a44s4 a44s18
def a44r20 : List AOper := [
 op (.v 7) .mv [.c (.list true [])]]
def a44s21 : ACode := .reg [] a44r20
def a44r22 : List AOper := [
 op (.t 43) .mv [.vs 7],
 op (.t 44) (.fad 2) [.l 2],
 ⟨.t 45,.ldLc 2 false 1,[.t 44],some 2,none⟩,
 op (.t 46) (.call 67) [.t 45],
 op (.t 47) (.app 1 16) [.ts 43,.t 46],
 op (.v 7) .mv [.ts 47]]
def a44s23 : ACode := .reg [] a44r22
def a44r24 : List AOper := [
 op (.t 49) .mv [.vs 7],
 op (.t 50) (.fad 3) [.l 2],
 ⟨.t 51,.ldLc 2 false 1,[.t 50],some 2,none⟩,
 op (.t 52) (.app 1 16) [.ts 49,.t 51],
 op (.t 53) (.call 66) [.t 52],
 op (.t 48) .mv [.t 53],
 op (.t 54) (.ext 0) [.t 48],
 op (.t 55) (.ext 1) [.t 48],
 op (.v 8) .mv [.t 54],
 op (.v 9) .mv [.t 55]]
def a44s25 : ACode := .reg [] a44r24
def a44r26 : List AOper := [
 op (.t 56) .mv [.v 9],
 op (.t 57) (.bin .neq) [.t 56,.c (.int .i64 0)]]
def a44r27 : List AOper := [
 op (.t 58) .mv [.v 8],
 op (.t 59) .mv [.v 9],
 op (.v 3) .mv [.t 58],
 op (.v 4) .mv [.t 59]]
def a44s28 : ACode := .reg [] a44r27
def a44s29 : ACode := .seq a44s28 .ret
def a44s30 : ACode := .test [] a44r26 (.t 57) a44s29 .skip
def a44s31 : ACode := .seq a44s25 a44s30
def a44s32 : ACode := .seq a44s23 a44s31
def a44s33 : ACode := .seq a44s21 a44s32
def a44s34 : ACode := .test [] a44r2 (.t 21) a44s19 a44s33
def a44r35 : List AOper := [
 op (.v 10) .mv [.c (.int .i64 0)]]
def a44s36 : ACode := .reg [] a44r35
def a44r37 : List AOper := [
 op (.t 60) .mv [.v 10],
 op (.t 61) (.fad 2) [.l 2],
 ⟨.t 62,.ldLc 2 false 1,[.t 61],some 2,none⟩,
 op (.t 63) .lenL [.t 62],
 op (.t 64) (.bin .lss) [.t 60,.t 63]]
def a44s38 : ACode := .test [] a44r37 (.t 64) .skip (.exit 0)
def a44r39 : List AOper := [
 op (.t 68) .mv [.v 0],
 op (.t 69) (.fad 2) [.l 2],
 ⟨.t 70,.ldLc 2 false 1,[.t 69],some 2,none⟩,
 op (.t 71) .mv [.v 10],
 op (.t 72) (.iad 11) [.t 70,.t 71],
 op (.t 73) (.ldRo true 11) [.t 72],
 op (.t 74) (.fad 0) [.l 2],
 ⟨.t 75,.ldLc 2 false 1,[.t 74],some 2,none⟩,
 op (.t 76) (.bin .eql) [.t 75,.c (.int .u8 5)],
 op (.t 77) (.call 68) [.t 68,.t 73,.t 76],
 op (.t 67) .mv [.t 77],
 op (.t 78) (.ext 0) [.t 67],
 op (.t 79) (.ext 1) [.t 67],
 op (.v 11) .mv [.t 78],
 op (.v 12) .mv [.t 79]]
def a44s40 : ACode := .reg [] a44r39
def a44r41 : List AOper := [
 op (.t 80) .mv [.v 12],
 op (.t 81) (.bin .neq) [.t 80,.c (.int .i64 0)]]
def a44r42 : List AOper := [
 op (.t 82) .mv [.v 11],
 op (.t 83) .mv [.v 12],
 op (.v 3) .mv [.t 82],
 op (.v 4) .mv [.t 83]]
def a44s43 : ACode := .reg [] a44r42
def a44s44 : ACode := .seq a44s43 .ret
def a44s45 : ACode := .test [] a44r41 (.t 81) a44s44 .skip
def a44s46 : ACode := .seq a44s40 a44s45
def a44s47 : ACode := .blk 1 a44s46
def a44r48 : List AOper := [
 op (.t 65) .mv [.v 10],
 op (.t 66) (.bin .add) [.t 65,.c (.int .i64 1)],
 op (.v 10) .mv [.t 66]]
def a44s49 : ACode := .reg [] a44r48
def a44s50 : ACode := .seq a44s47 a44s49
def a44s51 : ACode := .seq a44s38 a44s50
def a44s52 : ACode := .loop a44s51
def a44s53 : ACode := .blk 0 a44s52
def a44s54 : ACode := .seq a44s36 a44s53
def a44r55 : List AOper := [
 op (.v 13) .mv [.c (.int .i64 0)]]
def a44s56 : ACode := .reg [] a44r55
def a44r57 : List AOper := [
 op (.t 84) .mv [.v 13],
 op (.t 85) (.fad 3) [.l 2],
 ⟨.t 86,.ldLc 2 false 1,[.t 85],some 2,none⟩,
 op (.t 87) .lenL [.t 86],
 op (.t 88) (.bin .lss) [.t 84,.t 87],
 op (.t 89) .mv [.t 88],
 ⟨.t 90,.fad 0,[.l 2],none,some (.t 89,true)⟩,
 ⟨.t 91,.ldLc 2 false 1,[.t 90],some 2,some (.t 89,true)⟩,
 ⟨.t 92,.bin .neq,[.t 91,.c (.int .u8 4)],none,some (.t 89,true)⟩,
 op (.t 93) .pick [.t 89,.t 92,.c (.bool false)]]
def a44s58 : ACode := .test [] a44r57 (.t 93) .skip (.exit 2)
def a44r59 : List AOper := [
 op (.t 96) (.fad 3) [.l 2],
 ⟨.t 97,.ldLc 2 false 1,[.t 96],some 2,none⟩,
 op (.t 98) .mv [.v 13],
 op (.t 99) (.iad 1) [.t 97,.t 98],
 op (.t 100) (.ldRo false 1) [.t 99],
 op (.v 14) .mv [.t 100]]
def a44s60 : ACode := .reg [] a44r59
def a44r61 : List AOper := [
 op (.t 101) .mv [.v 0],
 op (.t 102) .mv [.v 14],
 op (.t 103) (.call 27) [.t 101,.t 102],
 ⟨.bx,.alloc [.int .u8 0,.str [],.list true [],.list true []],[],some 15,none⟩,
 ⟨.none,.stLc 15 4,[.l 15,.ts 103],some 15,none⟩]
def a44s62 : ACode := .reg [15] a44r61
def a44r63 : List AOper := [
 op (.t 105) (.fad 0) [.l 15],
 ⟨.t 106,.ldLc 15 false 1,[.t 105],some 15,none⟩,
 op (.t 107) (.bin .eql) [.t 106,.c (.int .u8 0)],
 op (.t 104) .mv [.t 107]]
def a44r64 : List AOper := [
 op (.t 108) .mv [.v 14],
 op (.v 3) .mv [.t 108],
 op (.v 4) .mv [.c (.int .i64 6)]]
def a44s65 : ACode := .reg [] a44r64
def a44s66 : ACode := .seq a44s65 .ret
def a44r67 : List AOper := [
 op (.t 110) (.fad 0) [.l 2],
 ⟨.t 111,.ldLc 2 false 1,[.t 110],some 2,none⟩,
 op (.t 112) (.bin .eql) [.t 111,.c (.int .u8 1)],
 op (.t 113) .mv [.t 112],
 ⟨.t 114,.fad 0,[.l 15],none,some (.t 113,true)⟩,
 ⟨.t 115,.ldLc 15 false 1,[.t 114],some 15,some (.t 113,true)⟩,
 ⟨.t 116,.bin .neq,[.t 115,.c (.int .u8 2)],none,some (.t 113,true)⟩,
 op (.t 117) .pick [.t 113,.t 116,.c (.bool false)],
 op (.t 118) .mv [.t 117],
 ⟨.t 119,.fad 0,[.l 2],none,some (.t 118,false)⟩,
 ⟨.t 120,.ldLc 2 false 1,[.t 119],some 2,some (.t 118,false)⟩,
 ⟨.t 121,.bin .eql,[.t 120,.c (.int .u8 3)],none,some (.t 118,false)⟩,
 ⟨.t 122,.mv,[.t 121],none,some (.t 118,false)⟩,
 ⟨.t 123,.fad 0,[.l 15],none,some (.t 122,true)⟩,
 ⟨.t 124,.ldLc 15 false 1,[.t 123],some 15,some (.t 122,true)⟩,
 ⟨.t 125,.bin .neq,[.t 124,.c (.int .u8 1)],none,some (.t 122,true)⟩,
 ⟨.t 126,.pick,[.t 122,.t 125,.c (.bool false)],none,some (.t 118,false)⟩,
 op (.t 127) .pick [.t 118,.c (.bool true),.t 126],
 op (.t 128) .mv [.t 127],
 ⟨.t 129,.fad 0,[.l 2],none,some (.t 128,false)⟩,
 ⟨.t 130,.ldLc 2 false 1,[.t 129],some 2,some (.t 128,false)⟩,
 ⟨.t 131,.bin .eql,[.t 130,.c (.int .u8 2)],none,some (.t 128,false)⟩,
 op (.t 132) .pick [.t 128,.c (.bool true),.t 131],
 op (.t 133) .mv [.t 132],
 ⟨.t 134,.mv,[.v 14],none,some (.t 133,false)⟩,
 ⟨.t 135,.call 69,[.t 134],none,some (.t 133,false)⟩,
 op (.t 136) .pick [.t 133,.c (.bool true),.t 135],
 op (.t 109) .mv [.t 136]]
def a44r68 : List AOper := [
 op (.t 137) .mv [.v 14],
 op (.v 3) .mv [.t 137],
 op (.v 4) .mv [.c (.int .i64 8)]]
def a44s69 : ACode := .reg [] a44r68
def a44s70 : ACode := .seq a44s69 .ret
def a44s71 : ACode := .test [] a44r67 (.t 109) a44s70 .skip
def a44s72 : ACode := .test [] a44r63 (.t 104) a44s66 a44s71
def a44s73 : ACode := .blk 4 a44s72
def a44r74 : List AOper := [
 op (.v 16) .mv [.c (.int .i64 0)]]
def a44s75 : ACode := .reg [] a44r74
def a44r76 : List AOper := [
 op (.t 138) .mv [.v 16],
 op (.t 139) (.fad 2) [.l 15],
 ⟨.t 140,.ldLc 15 false 1,[.t 139],some 15,none⟩,
 op (.t 141) .lenL [.t 140],
 op (.t 142) (.bin .lss) [.t 138,.t 141],
 op (.t 143) .mv [.t 142],
 ⟨.t 144,.fad 0,[.l 2],none,some (.t 143,true)⟩,
 ⟨.t 145,.ldLc 2 false 1,[.t 144],some 2,some (.t 143,true)⟩,
 ⟨.t 146,.bin .eql,[.t 145,.c (.int .u8 1)],none,some (.t 143,true)⟩,
 op (.t 147) .pick [.t 143,.t 146,.c (.bool false)]]
def a44s77 : ACode := .test [] a44r76 (.t 147) .skip (.exit 5)
def a44r78 : List AOper := [
 op (.t 150) (.fad 2) [.l 2],
 ⟨.t 151,.ldLc 2 false 1,[.t 150],some 2,none⟩,
 op (.t 152) (.fad 2) [.l 15],
 ⟨.t 153,.ldLc 15 false 1,[.t 152],some 15,none⟩,
 op (.t 154) .mv [.v 16],
 op (.t 155) (.iad 11) [.t 153,.t 154],
 op (.t 156) (.fad 0) [.t 155],
 op (.t 157) (.ldRo false 1) [.t 156],
 op (.t 158) (.call 29) [.t 151,.t 157],
 op (.v 17) .mv [.t 158]]
def a44s79 : ACode := .reg [] a44r78
def a44r80 : List AOper := [
 op (.t 159) .mv [.v 17],
 op (.t 160) (.bin .lss) [.t 159,.c (.int .i64 0)],
 op (.t 161) .mv [.t 160],
 ⟨.t 162,.fad 2,[.l 2],none,some (.t 161,false)⟩,
 ⟨.t 163,.ldLc 2 false 1,[.t 162],some 2,some (.t 161,false)⟩,
 ⟨.t 164,.mv,[.v 17],none,some (.t 161,false)⟩,
 ⟨.t 165,.iad 11,[.t 163,.t 164],none,some (.t 161,false)⟩,
 ⟨.t 166,.fad 2,[.t 165],none,some (.t 161,false)⟩,
 ⟨.t 167,.ldRo true 3,[.t 166],none,some (.t 161,false)⟩,
 ⟨.t 168,.fad 2,[.l 15],none,some (.t 161,false)⟩,
 ⟨.t 169,.ldLc 15 false 1,[.t 168],some 15,some (.t 161,false)⟩,
 ⟨.t 170,.mv,[.v 16],none,some (.t 161,false)⟩,
 ⟨.t 171,.iad 11,[.t 169,.t 170],none,some (.t 161,false)⟩,
 ⟨.t 172,.fad 2,[.t 171],none,some (.t 161,false)⟩,
 ⟨.t 173,.ldRo true 3,[.t 172],none,some (.t 161,false)⟩,
 ⟨.t 174,.call 70,[.t 167,.t 173],none,some (.t 161,false)⟩,
 ⟨.t 175,.un .not,[.t 174],none,some (.t 161,false)⟩,
 op (.t 176) .pick [.t 161,.c (.bool true),.t 175]]
def a44r81 : List AOper := [
 op (.t 177) .mv [.v 14],
 op (.v 3) .mv [.t 177],
 op (.v 4) .mv [.c (.int .i64 3)]]
def a44s82 : ACode := .reg [] a44r81
def a44s83 : ACode := .seq a44s82 .ret
def a44s84 : ACode := .test [] a44r80 (.t 176) a44s83 .skip
def a44s85 : ACode := .seq a44s79 a44s84
def a44s86 : ACode := .blk 6 a44s85
def a44r87 : List AOper := [
 op (.t 148) .mv [.v 16],
 op (.t 149) (.bin .add) [.t 148,.c (.int .i64 1)],
 op (.v 16) .mv [.t 149]]
def a44s88 : ACode := .reg [] a44r87
def a44s89 : ACode := .seq a44s86 a44s88
def a44s90 : ACode := .seq a44s77 a44s89
def a44s91 : ACode := .loop a44s90
def a44s92 : ACode := .blk 5 a44s91
def a44s93 : ACode := .seq a44s75 a44s92
def a44s94 : ACode := .seq a44s73 a44s93
def a44s95 : ACode := .seq a44s62 a44s94
def a44s96 : ACode := .seq a44s60 a44s95
def a44s97 : ACode := .blk 3 a44s96
def a44r98 : List AOper := [
 op (.t 94) .mv [.v 13],
 op (.t 95) (.bin .add) [.t 94,.c (.int .i64 1)],
 op (.v 13) .mv [.t 95]]
def a44s99 : ACode := .reg [] a44r98
def a44s100 : ACode := .seq a44s97 a44s99
def a44s101 : ACode := .seq a44s58 a44s100
def a44s102 : ACode := .loop a44s101
def a44s103 : ACode := .blk 2 a44s102
def a44s104 : ACode := .seq a44s56 a44s103
def a44r105 : List AOper := [
 op (.v 3) .mv [.c (.str [])],
 op (.v 4) .mv [.c (.int .i64 0)]]
def a44s106 : ACode := .reg [] a44r105
def a44s107 : ACode := .seq a44s106 .ret
def a44s108 : ACode := .seq a44s104 a44s107
def a44s109 : ACode := .seq a44s54 a44s108
def a44s110 : ACode := .seq a44s34 a44s109
def a44s111 : ACode := .seq a44s1 a44s110
def a44c : ACode :=
  a44s111
def a44 : AFn := { np := 2,nv := 18,results := [.v 3,.v 4],code := a44c }
def a44v : List Nat := [0,1,3,4,5,6,7,8,9,10,11,12,13,14,15,16,17,18]
def a44b : List Nat := [2,15]

def a45r0 : List AOper := [
 ⟨.bx,.boxV,[.v 1],some 3,none⟩,
 ⟨.bx,.boxV,[.v 2],some 4,none⟩,
 op (.v 5) .mv [.c (.bool false)]]
def a45s1 : ACode := .reg [3,4] a45r0
def a45r2 : List AOper := [
 op (.t 8) (.fad 1) [.l 3],
 ⟨.v 7,.ldLc 3 false 1,[.t 8],some 3,none⟩]
def a45s3 : ACode := .reg [] a45r2
def a45r4 : List AOper := [
 op (.t 11) (.bin .eql) [.v 7,.c (.str [81,117,101,114,121])],
 op (.t 10) .mv [.t 11]]
def a45r5 : List AOper := [
 op (.t 12) (.fad 2) [.l 4],
 ⟨.t 13,.ldLc 4 true 3,[.t 12],some 4,none⟩,
 op (.t 14) (.call 71) [.t 13],
 op (.v 6) .mv [.t 14]]
def a45s6 : ACode := .reg [] a45r5
def a45r7 : List AOper := [
 op (.t 15) .mv [.v 0],
 op (.t 16) .mv [.v 6],
 op (.t 17) (.call 72) [.t 15,.t 16],
 op (.t 18) (.un .not) [.t 17]]
def a45r8 : List AOper := [
 op (.v 5) .mv [.c (.bool false)]]
def a45s9 : ACode := .reg [] a45r8
def a45s10 : ACode := .seq a45s9 .ret
def a45s11 : ACode := .test [] a45r7 (.t 18) a45s10 .skip
def a45r12 : List AOper := [
 op (.t 19) (.fad 1) [.l 4],
 ⟨.t 20,.ldLc 4 false 1,[.t 19],some 4,none⟩,
 op (.t 21) .lenL [.t 20],
 op (.t 22) (.bin .eql) [.t 21,.c (.int .i64 1)]]
def a45r13 : List AOper := [
 op (.t 23) (.fad 1) [.l 4],
 ⟨.t 24,.ldLc 4 false 1,[.t 23],some 4,none⟩,
 op (.t 25) (.iad 11) [.t 24,.c (.int .i64 0)],
 op (.t 26) (.ldRo true 11) [.t 25],
 op (.t 27) (.call 73) [.t 26],
 op (.t 28) .mv [.t 27],
 ⟨.t 29,.fad 2,[.l 4],none,some (.t 28,true)⟩,
 ⟨.t 30,.fad 1,[.t 29],none,some (.t 28,true)⟩,
 ⟨.t 31,.ldLc 4 false 1,[.t 30],some 4,some (.t 28,true)⟩,
 ⟨.t 32,.lenL,[.t 31],none,some (.t 28,true)⟩,
 ⟨.t 33,.bin .eql,[.t 32,.c (.int .i64 0)],none,some (.t 28,true)⟩,
 op (.t 34) .pick [.t 28,.t 33,.c (.bool false)],
 op (.t 35) .mv [.t 34],
 ⟨.t 36,.fad 2,[.l 4],none,some (.t 35,true)⟩,
 ⟨.t 37,.fad 2,[.t 36],none,some (.t 35,true)⟩,
 ⟨.t 38,.ldLc 4 false 1,[.t 37],some 4,some (.t 35,true)⟩,
 ⟨.t 39,.un .not,[.t 38],none,some (.t 35,true)⟩,
 op (.t 40) .pick [.t 35,.t 39,.c (.bool false)],
 op (.v 5) .mv [.t 40]]
def a45s14 : ACode := .reg [] a45r13
def a45s15 : ACode := .seq a45s14 .ret
def a45s16 : ACode := .test [] a45r12 (.t 22) a45s15 .skip
def a45r17 : List AOper := [
 op (.t 41) (.fad 1) [.l 4],
 ⟨.t 42,.ldLc 4 false 1,[.t 41],some 4,none⟩,
 op (.t 43) .lenL [.t 42],
 op (.t 44) (.bin .eql) [.t 43,.c (.int .i64 0)],
 op (.t 45) .mv [.t 44],
 ⟨.t 46,.fad 2,[.l 4],none,some (.t 45,true)⟩,
 ⟨.t 47,.fad 1,[.t 46],none,some (.t 45,true)⟩,
 ⟨.t 48,.ldLc 4 false 1,[.t 47],some 4,some (.t 45,true)⟩,
 ⟨.t 49,.lenL,[.t 48],none,some (.t 45,true)⟩,
 ⟨.t 50,.bin .gtr,[.t 49,.c (.int .i64 0)],none,some (.t 45,true)⟩,
 op (.t 51) .pick [.t 45,.t 50,.c (.bool false)],
 op (.t 52) .mv [.t 51],
 ⟨.t 53,.fad 2,[.l 4],none,some (.t 52,true)⟩,
 ⟨.t 54,.fad 2,[.t 53],none,some (.t 52,true)⟩,
 ⟨.t 55,.ldLc 4 false 1,[.t 54],some 4,some (.t 52,true)⟩,
 op (.t 56) .pick [.t 52,.t 55,.c (.bool false)],
 op (.t 57) .mv [.t 56],
 ⟨.t 58,.fad 2,[.l 4],none,some (.t 57,true)⟩,
 ⟨.t 59,.fad 0,[.t 58],none,some (.t 57,true)⟩,
 ⟨.t 60,.ldLc 4 false 1,[.t 59],some 4,some (.t 57,true)⟩,
 ⟨.t 61,.bin .eql,[.t 60,.c (.str [])],none,some (.t 57,true)⟩,
 op (.t 62) .pick [.t 57,.t 61,.c (.bool false)],
 op (.t 63) .mv [.t 62],
 ⟨.t 64,.fad 2,[.l 4],none,some (.t 63,true)⟩,
 ⟨.t 65,.fad 1,[.t 64],none,some (.t 63,true)⟩,
 ⟨.t 66,.ldLc 4 false 1,[.t 65],some 4,some (.t 63,true)⟩,
 ⟨.t 67,.iad 3,[.t 66,.c (.int .i64 0)],none,some (.t 63,true)⟩,
 ⟨.t 68,.fad 1,[.t 67],none,some (.t 63,true)⟩,
 ⟨.t 69,.ldRo false 1,[.t 68],none,some (.t 63,true)⟩,
 ⟨.t 70,.lenL,[.t 69],none,some (.t 63,true)⟩,
 ⟨.t 71,.bin .eql,[.t 70,.c (.int .i64 0)],none,some (.t 63,true)⟩,
 op (.t 72) .pick [.t 63,.t 71,.c (.bool false)],
 op (.t 73) .mv [.t 72],
 ⟨.t 74,.fad 2,[.l 4],none,some (.t 73,true)⟩,
 ⟨.t 75,.fad 1,[.t 74],none,some (.t 73,true)⟩,
 ⟨.t 76,.ldLc 4 false 1,[.t 75],some 4,some (.t 73,true)⟩,
 ⟨.t 77,.iad 3,[.t 76,.c (.int .i64 0)],none,some (.t 73,true)⟩,
 ⟨.t 78,.fad 2,[.t 77],none,some (.t 73,true)⟩,
 ⟨.t 79,.ldRo false 1,[.t 78],none,some (.t 73,true)⟩,
 op (.t 80) .pick [.t 73,.t 79,.c (.bool false)],
 op (.v 5) .mv [.t 80]]
def a45s18 : ACode := .reg [] a45r17
def a45s19 : ACode := .seq a45s18 .ret
def a45s20 : ACode := .seq a45s16 a45s19
def a45s21 : ACode := .seq a45s11 a45s20
def a45s22 : ACode := .seq a45s6 a45s21
def a45r23 : List AOper := [
 op (.t 82) (.bin .eql) [.v 7,.c (.str [77,117,116,97,116,105,111,110])],
 op (.t 81) .mv [.t 82]]
def a45r24 : List AOper := [
 op (.t 83) (.fad 0) [.l 3],
 ⟨.t 84,.ldLc 3 false 1,[.t 83],some 3,none⟩,
 op (.t 85) (.bin .eql) [.t 84,.c (.int .u8 1)],
 op (.t 86) .mv [.t 85],
 ⟨.t 87,.mv,[.v 0],none,some (.t 86,true)⟩,
 ⟨.t 88,.ldLc 4 true 11,[.l 4],some 4,some (.t 86,true)⟩,
 ⟨.t 89,.call 74,[.t 87,.t 88],none,some (.t 86,true)⟩,
 op (.t 90) .pick [.t 86,.t 89,.c (.bool false)],
 op (.v 5) .mv [.t 90]]
def a45s25 : ACode := .reg [] a45r24
def a45s26 : ACode := .seq a45s25 .ret
def a45s27 : ACode := .test [] a45r23 (.t 81) a45s26 .skip
def a45s28 : ACode := .test [] a45r4 (.t 10) a45s22 a45s27
def a45s29 : ACode := .blk 0 a45s28
def a45s30 : ACode := .seq a45s3 a45s29
def a45r31 : List AOper := [
 op (.t 91) (.fad 1) [.l 4],
 ⟨.t 92,.ldLc 4 false 1,[.t 91],some 4,none⟩,
 op (.t 93) .lenL [.t 92],
 op (.t 94) (.bin .eql) [.t 93,.c (.int .i64 0)],
 op (.v 5) .mv [.t 94]]
def a45s32 : ACode := .reg [] a45r31
def a45s33 : ACode := .seq a45s32 .ret
def a45s34 : ACode := .seq a45s30 a45s33
def a45s35 : ACode := .seq a45s1 a45s34
def a45c : ACode :=
  a45s35
def a45 : AFn := { np := 3,nv := 8,results := [.v 5],code := a45c }
def a45v : List Nat := [0,1,2,4,5,6,7,9]
def a45b : List Nat := [3,4]

def a46r0 : List AOper := [
 ⟨.bx,.boxV,[.v 0],some 3,none⟩,
 ⟨.bx,.boxV,[.v 1],some 4,none⟩,
 ⟨.bx,.boxV,[.v 2],some 5,none⟩,
 ⟨.bx,.alloc [.int .u8 0,.int .i64 0,.str [],.list true [],.list true []],[],some 6,none⟩,
 op (.v 7) .mv [.c (.bool false)],
 op (.v 8) .mv [.c (.int .i64 0)]]
def a46s1 : ACode := .reg [3,4,5,6] a46r0
def a46r2 : List AOper := [
 ⟨.t 16,.ldLc 5 true 5,[.l 5],some 5,none⟩,
 op (.t 17) (.bslice 5 [[.int .u8 0,.int .i64 0,.str [],.list true [],.list true []]] [0]) [.t 16],
 op (.v 9) .mv [.ts 17]]
def a46s3 : ACode := .reg [] a46r2
def a46r4 : List AOper := [
 op (.t 18) (.fad 0) [.l 5],
 ⟨.t 19,.ldLc 5 false 1,[.t 18],some 5,none⟩,
 op (.t 20) (.bin .eql) [.t 19,.c (.int .u8 5)]]
def a46r5 : List AOper := [
 op (.t 21) (.fad 4) [.l 5],
 ⟨.t 22,.ldLc 5 false 1,[.t 21],some 5,none⟩,
 op (.v 9) .mv [.ts 22]]
def a46s6 : ACode := .reg [] a46r5
def a46s7 : ACode := .test [] a46r4 (.t 20) a46s6 .skip
def a46r8 : List AOper := [
 op (.t 23) (.build [.int .u8 0,.int .i64 0,.str [],.list true [],.list true []] [(0,1)]) [.c (.int .u8 5)],
 ⟨.bx,.alloc [.int .u8 0,.int .i64 0,.str [],.list true [],.list true []],[],some 10,none⟩,
 ⟨.none,.stLc 10 5,[.l 10,.ts 23],some 10,none⟩]
def a46s9 : ACode := .reg [10] a46r8
def a46r10 : List AOper := [
 op (.v 15) .mv [.v 9],
 op (.v 16) .lenL [.v 15],
 op (.v 17) .mv [.c (.int .i64 0)]]
def a46s11 : ACode := .reg [] a46r10
def a46r12 : List AOper := [
 op (.t 27) (.bin .lss) [.v 17,.v 16]]
def a46s13 : ACode := .test [] a46r12 (.t 27) .skip (.exit 0)
def a46r14 : List AOper := [
 op (.t 28) (.iad 5) [.v 15,.v 17],
 op (.t 29) (.ldAn true 5) [.t 28],
 ⟨.bx,.alloc [.int .u8 0,.int .i64 0,.str [],.list true [],.list true []],[],some 11,none⟩,
 ⟨.none,.stLc 11 5,[.l 11,.ts 29],some 11,none⟩]
def a46s15 : ACode := .reg [11] a46r14
def a46r16 : List AOper := [
 ⟨.t 31,.ldLc 3 true 7,[.l 3],some 3,none⟩,
 ⟨.t 32,.ldLc 4 true 3,[.l 4],some 4,none⟩,
 ⟨.t 33,.ldLc 11 true 5,[.l 11],some 11,none⟩,
 op (.t 34) (.call 26) [.t 31,.t 32,.t 33],
 op (.t 30) .mv [.t 34],
 op (.t 35) (.ext 0) [.t 30],
 op (.t 36) (.ext 1) [.t 30],
 op (.t 37) (.ext 2) [.t 30],
 ⟨.bx,.alloc [.int .u8 0,.int .i64 0,.str [],.list true [],.list true []],[],some 12,none⟩,
 ⟨.none,.stLc 12 5,[.l 12,.ts 35],some 12,none⟩,
 op (.v 13) .mv [.t 36],
 op (.v 14) .mv [.t 37]]
def a46s17 : ACode := .reg [12] a46r16
def a46r18 : List AOper := [
 op (.t 39) .mv [.v 14],
 op (.t 40) (.bin .neq) [.t 39,.c (.int .i64 0)],
 op (.t 38) .mv [.t 40]]
def a46r19 : List AOper := [
 op (.t 41) (.build [.int .u8 0,.int .i64 0,.str [],.list true [],.list true []] []) [],
 op (.t 42) .mv [.v 14],
 ⟨.none,.stLc 6 5,[.l 6,.ts 41],some 6,none⟩,
 op (.v 7) .mv [.c (.bool false)],
 op (.v 8) .mv [.t 42]]
def a46s20 : ACode := .reg [] a46r19
def a46s21 : ACode := .seq a46s20 .ret
def a46r22 : List AOper := [
 op (.t 44) .mv [.v 13],
 op (.t 45) (.un .not) [.t 44],
 op (.t 46) .mv [.t 45],
 ⟨.t 47,.fad 2,[.l 4],none,some (.t 46,true)⟩,
 ⟨.t 48,.ldLc 4 false 1,[.t 47],some 4,some (.t 46,true)⟩,
 op (.t 49) .pick [.t 46,.t 48,.c (.bool false)],
 op (.t 43) .mv [.t 49]]
def a46r23 : List AOper := [
 op (.t 50) (.build [.int .u8 0,.int .i64 0,.str [],.list true [],.list true []] []) [],
 ⟨.none,.stLc 6 5,[.l 6,.ts 50],some 6,none⟩,
 op (.v 7) .mv [.c (.bool false)],
 op (.v 8) .mv [.c (.int .i64 9)]]
def a46s24 : ACode := .reg [] a46r23
def a46s25 : ACode := .seq a46s24 .ret
def a46r26 : List AOper := [
 op (.t 52) .mv [.v 13],
 op (.t 53) (.un .not) [.t 52],
 op (.t 51) .mv [.t 53]]
def a46r27 : List AOper := [
 op (.t 54) (.build [.int .u8 0,.int .i64 0,.str [],.list true [],.list true []] []) [],
 ⟨.none,.stLc 12 5,[.l 12,.ts 54],some 12,none⟩]
def a46s28 : ACode := .reg [] a46r27
def a46s29 : ACode := .test [] a46r26 (.t 51) a46s28 .skip
def a46s30 : ACode := .test [] a46r22 (.t 43) a46s25 a46s29
def a46s31 : ACode := .test [] a46r18 (.t 38) a46s21 a46s30
def a46s32 : ACode := .blk 2 a46s31
def a46r33 : List AOper := [
 op (.t 55) (.fad 4) [.l 10],
 ⟨.t 56,.ldLcS 10,[.t 55],some 10,none⟩,
 ⟨.t 57,.ldLc 12 true 5,[.l 12],some 12,none⟩,
 op (.t 58) (.bslice 5 [[.int .u8 0,.int .i64 0,.str [],.list true [],.list true []]] [0]) [.t 57],
 op (.t 59) (.app 5 80) [.ts 56,.t 58],
 op (.t 60) (.fad 4) [.l 10],
 ⟨.none,.stLc 10 1,[.t 60,.ts 59],some 10,none⟩]
def a46s34 : ACode := .reg [] a46r33
def a46s35 : ACode := .seq a46s32 a46s34
def a46s36 : ACode := .seq a46s17 a46s35
def a46s37 : ACode := .seq a46s15 a46s36
def a46s38 : ACode := .blk 1 a46s37
def a46r39 : List AOper := [
 op (.t 61) (.bin .add) [.v 17,.c (.int .i64 1)],
 op (.v 17) .mv [.t 61]]
def a46s40 : ACode := .reg [] a46r39
def a46s41 : ACode := .seq a46s38 a46s40
def a46s42 : ACode := .seq a46s13 a46s41
def a46s43 : ACode := .loop a46s42
def a46s44 : ACode := .blk 0 a46s43
def a46s45 : ACode := .seq a46s11 a46s44
def a46r46 : List AOper := [
 ⟨.t 62,.ldLc 10 true 5,[.l 10],some 10,none⟩,
 ⟨.none,.stLc 6 5,[.l 6,.ts 62],some 6,none⟩,
 op (.v 7) .mv [.c (.bool true)],
 op (.v 8) .mv [.c (.int .i64 0)]]
def a46s47 : ACode := .reg [] a46r46
def a46s48 : ACode := .seq a46s47 .ret
def a46s49 : ACode := .seq a46s45 a46s48
def a46s50 : ACode := .seq a46s9 a46s49
def a46s51 : ACode := .seq a46s7 a46s50
def a46s52 : ACode := .seq a46s3 a46s51
def a46s53 : ACode := .seq a46s1 a46s52
def a46c : ACode :=
  a46s53
def a46 : AFn := { np := 3,nv := 18,results := [.bx 6 true 5,.v 7,.v 8],code := a46c }
def a46v : List Nat := [0,1,2,3,4,5,6,7,8,9,10,12,13,14,15,24,25,26]
def a46b : List Nat := [3,4,5,6,10,11,12]

def a47r0 : List AOper := [
 ⟨.bx,.boxV,[.v 0],some 3,none⟩,
 ⟨.bx,.boxV,[.v 2],some 4,none⟩,
 ⟨.bx,.alloc [.int .u8 0,.int .i64 0,.str [],.list true [],.list true []],[],some 5,none⟩,
 op (.v 6) .mv [.c (.bool false)],
 op (.v 7) .mv [.c (.int .i64 0)]]
def a47s1 : ACode := .reg [3,4,5] a47r0
def a47r2 : List AOper := [
 op (.t 15) (.fad 0) [.l 3],
 ⟨.t 16,.ldLc 3 false 1,[.t 15],some 3,none⟩,
 op (.t 17) .mv [.v 1],
 op (.t 18) (.call 40) [.t 16,.t 17],
 op (.t 14) .mv [.t 18],
 op (.t 19) (.ext 0) [.t 14],
 op (.t 20) (.ext 1) [.t 14],
 ⟨.bx,.alloc [.int .u8 0,.str [],.list true [],.list true []],[],some 8,none⟩,
 ⟨.none,.stLc 8 4,[.l 8,.ts 19],some 8,none⟩,
 op (.t 10) .mv [.t 20]]
def a47s3 : ACode := .reg [8] a47r2
def a47r4 : List AOper := [
 op (.t 22) .mv [.v 1],
 op (.t 23) (.bin .eql) [.t 22,.c (.str [73,110,116])],
 op (.t 24) .mv [.t 23],
 ⟨.t 25,.fad 0,[.l 4],none,some (.t 24,true)⟩,
 ⟨.t 26,.ldLc 4 false 1,[.t 25],some 4,some (.t 24,true)⟩,
 ⟨.t 27,.bin .eql,[.t 26,.c (.int .u8 1)],none,some (.t 24,true)⟩,
 op (.t 28) .pick [.t 24,.t 27,.c (.bool false)],
 op (.t 29) .mv [.t 28],
 ⟨.t 30,.fad 1,[.l 4],none,some (.t 29,true)⟩,
 ⟨.t 31,.ldLc 4 false 1,[.t 30],some 4,some (.t 29,true)⟩,
 ⟨.t 32,.fad 1,[.l 4],none,some (.t 29,true)⟩,
 ⟨.t 33,.ldLc 4 false 1,[.t 32],some 4,some (.t 29,true)⟩,
 ⟨.t 34,.conv .i32,[.t 33],none,some (.t 29,true)⟩,
 ⟨.t 35,.conv .i64,[.t 34],none,some (.t 29,true)⟩,
 ⟨.t 36,.bin .eql,[.t 31,.t 35],none,some (.t 29,true)⟩,
 op (.t 37) .pick [.t 29,.t 36,.c (.bool false)],
 op (.v 11) .mv [.t 37]]
def a47r5 : List AOper := [
 op (.t 38) .mv [.v 1],
 op (.t 39) (.bin .eql) [.t 38,.c (.str [83,116,114,105,110,103])],
 op (.t 40) .mv [.t 39],
 ⟨.t 41,.fad 0,[.l 4],none,some (.t 40,true)⟩,
 ⟨.t 42,.ldLc 4 false 1,[.t 41],some 4,some (.t 40,true)⟩,
 ⟨.t 43,.bin .eql,[.t 42,.c (.int .u8 2)],none,some (.t 40,true)⟩,
 op (.t 44) .pick [.t 40,.t 43,.c (.bool false)],
 op (.v 11) .mv [.t 44]]
def a47r6 : List AOper := [
 op (.t 45) .mv [.v 1],
 op (.t 46) (.bin .eql) [.t 45,.c (.str [66,111,111,108,101,97,110])],
 op (.t 47) .mv [.t 46],
 ⟨.t 48,.fad 0,[.l 4],none,some (.t 47,true)⟩,
 ⟨.t 49,.ldLc 4 false 1,[.t 48],some 4,some (.t 47,true)⟩,
 ⟨.t 50,.bin .eql,[.t 49,.c (.int .u8 3)],none,some (.t 47,true)⟩,
 op (.t 51) .pick [.t 47,.t 50,.c (.bool false)],
 op (.v 11) .mv [.t 51]]
def a47r7 : List AOper := [
 op (.t 52) .mv [.v 1],
 op (.t 53) (.bin .eql) [.t 52,.c (.str [73,68])],
 op (.t 54) .mv [.t 53],
 ⟨.t 55,.fad 0,[.l 4],none,some (.t 54,true)⟩,
 ⟨.t 56,.ldLc 4 false 1,[.t 55],some 4,some (.t 54,true)⟩,
 ⟨.t 57,.bin .eql,[.t 56,.c (.int .u8 2)],none,some (.t 54,true)⟩,
 op (.t 58) .pick [.t 54,.t 57,.c (.bool false)],
 op (.v 11) .mv [.t 58]]
def a47s8 : ACode := .reg [] a47r7
def a47s9 : ACode := .test [] a47r6 (.v 11) .skip a47s8
def a47s10 : ACode := .test [] a47r5 (.v 11) .skip a47s9
def a47s11 : ACode := .test [] a47r4 (.v 11) .skip a47s10
def a47r12 : List AOper := [
 ⟨.t 59,.ldLc 4 true 5,[.l 4],some 4,none⟩,
 ⟨.none,.stLc 5 5,[.l 5,.ts 59],some 5,none⟩,
 op (.v 6) .mv [.c (.bool true)],
 op (.v 7) .mv [.c (.int .i64 0)]]
def a47s13 : ACode := .reg [] a47r12
def a47s14 : ACode := .seq a47s13 .ret
def a47r15 : List AOper := [
 op (.t 61) .mv [.v 1],
 op (.t 62) (.bin .eql) [.t 61,.c (.str [73,68])],
 op (.t 63) .mv [.t 62],
 ⟨.t 64,.fad 0,[.l 4],none,some (.t 63,true)⟩,
 ⟨.t 65,.ldLc 4 false 1,[.t 64],some 4,some (.t 63,true)⟩,
 ⟨.t 66,.bin .eql,[.t 65,.c (.int .u8 1)],none,some (.t 63,true)⟩,
 op (.t 67) .pick [.t 63,.t 66,.c (.bool false)],
 op (.t 60) .mv [.t 67]]
def a47r16 : List AOper := [
 op (.t 68) (.fad 1) [.l 4],
 ⟨.t 69,.ldLc 4 false 1,[.t 68],some 4,none⟩,
 op (.t 70) (.call 75) [.t 69,.c (.int .i64 10)],
 op (.t 71) (.build [.int .u8 0,.int .i64 0,.str [],.list true [],.list true []] [(0,1),(2,1)]) [.c (.int .u8 2),.t 70],
 ⟨.none,.stLc 5 5,[.l 5,.ts 71],some 5,none⟩,
 op (.v 6) .mv [.c (.bool true)],
 op (.v 7) .mv [.c (.int .i64 0)]]
def a47s17 : ACode := .reg [] a47r16
def a47s18 : ACode := .seq a47s17 .ret
def a47r19 : List AOper := [
 op (.t 73) (.fad 0) [.l 8],
 ⟨.t 74,.ldLc 8 false 1,[.t 73],some 8,none⟩,
 op (.t 75) (.bin .eql) [.t 74,.c (.int .u8 4)],
 op (.t 76) .mv [.t 75],
 ⟨.t 77,.fad 0,[.l 4],none,some (.t 76,true)⟩,
 ⟨.t 78,.ldLc 4 false 1,[.t 77],some 4,some (.t 76,true)⟩,
 ⟨.t 79,.bin .eql,[.t 78,.c (.int .u8 4)],none,some (.t 76,true)⟩,
 ⟨.t 80,.mv,[.t 79],none,some (.t 76,true)⟩,
 ⟨.t 81,.fad 0,[.l 4],none,some (.t 80,false)⟩,
 ⟨.t 82,.ldLc 4 false 1,[.t 81],some 4,some (.t 80,false)⟩,
 ⟨.t 83,.bin .eql,[.t 82,.c (.int .u8 2)],none,some (.t 80,false)⟩,
 ⟨.t 84,.mv,[.t 83],none,some (.t 80,false)⟩,
 ⟨.t 85,.fad 6,[.l 3],none,some (.t 84,true)⟩,
 ⟨.t 86,.ldLc 3 false 1,[.t 85],some 3,some (.t 84,true)⟩,
 ⟨.t 87,.pick,[.t 84,.t 86,.c (.bool false)],none,some (.t 80,false)⟩,
 ⟨.t 88,.pick,[.t 80,.c (.bool true),.t 87],none,some (.t 76,true)⟩,
 op (.t 89) .pick [.t 76,.t 88,.c (.bool false)],
 op (.t 90) .mv [.t 89],
 ⟨.t 91,.fad 3,[.l 8],none,some (.t 90,true)⟩,
 ⟨.t 92,.ldLc 8 false 1,[.t 91],some 8,some (.t 90,true)⟩,
 ⟨.t 93,.fad 2,[.l 4],none,some (.t 90,true)⟩,
 ⟨.t 94,.ldLc 4 false 1,[.t 93],some 4,some (.t 90,true)⟩,
 ⟨.t 95,.call 37,[.t 92,.t 94],none,some (.t 90,true)⟩,
 op (.t 96) .pick [.t 90,.t 95,.c (.bool false)],
 op (.t 72) .mv [.t 96]]
def a47r20 : List AOper := [
 op (.t 97) (.fad 2) [.l 4],
 ⟨.t 98,.ldLc 4 false 1,[.t 97],some 4,none⟩,
 op (.t 99) (.build [.int .u8 0,.int .i64 0,.str [],.list true [],.list true []] [(0,1),(2,1)]) [.c (.int .u8 4),.t 98],
 ⟨.none,.stLc 5 5,[.l 5,.ts 99],some 5,none⟩,
 op (.v 6) .mv [.c (.bool true)],
 op (.v 7) .mv [.c (.int .i64 0)]]
def a47s21 : ACode := .reg [] a47r20
def a47s22 : ACode := .seq a47s21 .ret
def a47r23 : List AOper := [
 op (.t 101) (.fad 0) [.l 8],
 ⟨.t 102,.ldLc 8 false 1,[.t 101],some 8,none⟩,
 op (.t 103) (.bin .eql) [.t 102,.c (.int .u8 5)],
 op (.t 104) .mv [.t 103],
 ⟨.t 105,.fad 0,[.l 4],none,some (.t 104,true)⟩,
 ⟨.t 106,.ldLc 4 false 1,[.t 105],some 4,some (.t 104,true)⟩,
 ⟨.t 107,.bin .eql,[.t 106,.c (.int .u8 6)],none,some (.t 104,true)⟩,
 op (.t 108) .pick [.t 104,.t 107,.c (.bool false)],
 op (.t 100) .mv [.t 108]]
def a47r24 : List AOper := [
 ⟨.t 110,.ldLc 3 true 7,[.l 3],some 3,none⟩,
 op (.t 111) (.fad 2) [.l 8],
 ⟨.t 112,.ldLc 8 false 1,[.t 111],some 8,none⟩,
 ⟨.t 113,.ldLc 4 true 5,[.l 4],some 4,none⟩,
 op (.t 114) (.call 76) [.t 110,.t 112,.t 113],
 op (.t 109) .mv [.t 114],
 op (.t 115) (.ext 0) [.t 109],
 op (.t 116) (.ext 1) [.t 109],
 op (.t 117) (.ext 2) [.t 109],
 ⟨.bx,.alloc [.int .u8 0,.int .i64 0,.str [],.list true [],.list true []],[],some 9,none⟩,
 ⟨.none,.stLc 9 5,[.l 9,.ts 115],some 9,none⟩,
 op (.t 12) .mv [.t 116],
 op (.v 10) .mv [.t 117]]
def a47s25 : ACode := .reg [9] a47r24
def a47r26 : List AOper := [
 ⟨.t 118,.ldLc 9 true 5,[.l 9],some 9,none⟩,
 op (.t 119) .mv [.v 10],
 op (.t 120) (.bin .eql) [.t 119,.c (.int .i64 0)],
 op (.t 121) .mv [.v 10],
 ⟨.none,.stLc 5 5,[.l 5,.ts 118],some 5,none⟩,
 op (.v 6) .mv [.t 120],
 op (.v 7) .mv [.t 121]]
def a47s27 : ACode := .reg [] a47r26
def a47s28 : ACode := .seq a47s27 .ret
def a47s29 : ACode := .seq a47s25 a47s28
def a47s30 : ACode := .test [] a47r23 (.t 100) a47s29 .skip
def a47s31 : ACode := .test [] a47r19 (.t 72) a47s22 a47s30
def a47s32 : ACode := .test [] a47r15 (.t 60) a47s18 a47s31
def a47s33 : ACode := .test [] [] (.v 11) a47s14 a47s32
def a47s34 : ACode := .seq a47s11 a47s33
def a47s35 : ACode := .blk 0 a47s34
def a47r36 : List AOper := [
 op (.t 122) (.build [.int .u8 0,.int .i64 0,.str [],.list true [],.list true []] []) [],
 ⟨.none,.stLc 5 5,[.l 5,.ts 122],some 5,none⟩,
 op (.v 6) .mv [.c (.bool false)],
 op (.v 7) .mv [.c (.int .i64 8)]]
def a47s37 : ACode := .reg [] a47r36
def a47s38 : ACode := .seq a47s37 .ret
def a47s39 : ACode := .seq a47s35 a47s38
def a47s40 : ACode := .seq a47s3 a47s39
def a47s41 : ACode := .seq a47s1 a47s40
def a47c : ACode :=
  a47s41
def a47 : AFn := { np := 3,nv := 12,results := [.bx 5 true 5,.v 6,.v 7],code := a47c }
def a47v : List Nat := [0,1,2,3,5,6,7,8,9,11,13,21]
def a47b : List Nat := [3,4,5,8,9]

def a48r0 : List AOper := [
 ⟨.bx,.alloc [.int .u8 0,.str [],.int .i64 0,.int .i64 0],[],some 2,none⟩,
 op (.v 3) .mv [.c (.int .i64 0)],
 op (.v 4) .mv [.c (.int .i64 0)],
 op (.v 5) .mv [.c (.int .i64 0)]]
def a48s1 : ACode := .reg [2] a48r0
def a48r2 : List AOper := [
 op (.t 10) .mv [.v 0],
 op (.t 11) .mv [.v 1],
 op (.t 12) .idxS [.t 10,.t 11],
 op (.v 6) .mv [.t 12]]
def a48s3 : ACode := .reg [] a48r2
def a48r4 : List AOper := [
 op (.t 13) .mv [.v 1],
 op (.v 7) .mv [.t 13]]
def a48s5 : ACode := .reg [] a48r4
def a48r6 : List AOper := [
 op (.t 15) .mv [.v 6],
 op (.t 16) (.call 77) [.t 15],
 op (.t 14) .mv [.t 16]]
def a48r7 : List AOper := [
 op (.t 17) .mv [.v 7],
 op (.t 18) .mv [.v 0],
 op (.t 19) .lenS [.t 18],
 op (.t 20) (.bin .lss) [.t 17,.t 19],
 op (.t 21) .mv [.t 20],
 ⟨.t 22,.mv,[.v 0],none,some (.t 21,true)⟩,
 ⟨.t 23,.mv,[.v 7],none,some (.t 21,true)⟩,
 ⟨.t 24,.idxS,[.t 22,.t 23],none,some (.t 21,true)⟩,
 ⟨.t 25,.call 77,[.t 24],none,some (.t 21,true)⟩,
 ⟨.t 26,.mv,[.t 25],none,some (.t 21,true)⟩,
 ⟨.t 27,.mv,[.v 0],none,some (.t 26,false)⟩,
 ⟨.t 28,.mv,[.v 7],none,some (.t 26,false)⟩,
 ⟨.t 29,.idxS,[.t 27,.t 28],none,some (.t 26,false)⟩,
 ⟨.t 30,.call 78,[.t 29],none,some (.t 26,false)⟩,
 ⟨.t 31,.pick,[.t 26,.c (.bool true),.t 30],none,some (.t 21,true)⟩,
 op (.t 32) .pick [.t 21,.t 31,.c (.bool false)]]
def a48s8 : ACode := .test [] a48r7 (.t 32) .skip (.exit 1)
def a48r9 : List AOper := [
 op (.t 33) .mv [.v 7],
 op (.t 34) (.bin .add) [.t 33,.c (.int .i64 1)],
 op (.v 7) .mv [.t 34]]
def a48s10 : ACode := .reg [] a48r9
def a48s11 : ACode := .blk 2 a48s10
def a48s12 : ACode := .seq a48s8 a48s11
def a48s13 : ACode := .loop a48s12
def a48s14 : ACode := .blk 1 a48s13
def a48r15 : List AOper := [
 op (.t 35) .mv [.v 7],
 op (.t 36) .mv [.v 1],
 op (.t 37) (.bin .sub) [.t 35,.t 36],
 op (.t 38) (.bin .gtr) [.t 37,.c (.int .i64 32)]]
def a48r16 : List AOper := [
 op (.t 39) (.build [.int .u8 0,.str [],.int .i64 0,.int .i64 0] []) [],
 op (.t 40) .mv [.v 1],
 ⟨.none,.stLc 2 4,[.l 2,.t 39],some 2,none⟩,
 op (.v 3) .mv [.c (.int .i64 0)],
 op (.v 4) .mv [.t 40],
 op (.v 5) .mv [.c (.int .i64 2)]]
def a48s17 : ACode := .reg [] a48r16
def a48s18 : ACode := .seq a48s17 .ret
def a48s19 : ACode := .test [] a48r15 (.t 38) a48s18 .skip
def a48r20 : List AOper := [
 op (.t 41) .mv [.v 0],
 op (.t 42) .mv [.v 1],
 op (.t 43) .mv [.v 7],
 op (.t 44) (.slS true true) [.t 41,.t 42,.t 43],
 op (.t 45) (.build [.int .u8 0,.str [],.int .i64 0,.int .i64 0] [(0,1),(1,1)]) [.c (.int .u8 1),.t 44],
 op (.t 46) .mv [.v 7],
 ⟨.none,.stLc 2 4,[.l 2,.t 45],some 2,none⟩,
 op (.v 3) .mv [.t 46],
 op (.v 4) .mv [.c (.int .i64 0)],
 op (.v 5) .mv [.c (.int .i64 0)]]
def a48s21 : ACode := .reg [] a48r20
def a48s22 : ACode := .seq a48s21 .ret
def a48s23 : ACode := .seq a48s19 a48s22
def a48s24 : ACode := .seq a48s14 a48s23
def a48r25 : List AOper := [
 op (.t 48) .mv [.v 6],
 op (.t 49) (.bin .eql) [.t 48,.c (.int .u8 45)],
 op (.t 50) .mv [.t 49],
 ⟨.t 51,.mv,[.v 6],none,some (.t 50,false)⟩,
 ⟨.t 52,.call 78,[.t 51],none,some (.t 50,false)⟩,
 op (.t 53) .pick [.t 50,.c (.bool true),.t 52],
 op (.t 47) .mv [.t 53]]
def a48r26 : List AOper := [
 op (.t 54) .mv [.v 0],
 op (.t 55) .mv [.v 1],
 op (.t 56) (.call 79) [.t 54,.t 55],
 op (.t 57) (.ext 0) [.t 56],
 op (.t 58) (.ext 1) [.t 56],
 op (.t 59) (.ext 2) [.t 56],
 op (.t 60) (.ext 3) [.t 56],
 ⟨.none,.stLc 2 4,[.l 2,.t 57],some 2,none⟩,
 op (.v 3) .mv [.t 58],
 op (.v 4) .mv [.t 59],
 op (.v 5) .mv [.t 60]]
def a48s27 : ACode := .reg [] a48r26
def a48s28 : ACode := .seq a48s27 .ret
def a48r29 : List AOper := [
 op (.t 62) .mv [.v 6],
 op (.t 63) (.bin .eql) [.t 62,.c (.int .u8 34)],
 op (.t 61) .mv [.t 63]]
def a48r30 : List AOper := [
 op (.t 64) .mv [.v 0],
 op (.t 65) .mv [.v 1],
 op (.t 66) (.call 80) [.t 64,.t 65],
 op (.t 67) (.ext 0) [.t 66],
 op (.t 68) (.ext 1) [.t 66],
 op (.t 69) (.ext 2) [.t 66],
 op (.t 70) (.ext 3) [.t 66],
 ⟨.none,.stLc 2 4,[.l 2,.t 67],some 2,none⟩,
 op (.v 3) .mv [.t 68],
 op (.v 4) .mv [.t 69],
 op (.v 5) .mv [.t 70]]
def a48s31 : ACode := .reg [] a48r30
def a48s32 : ACode := .seq a48s31 .ret
def a48r33 : List AOper := [
 op (.t 72) .mv [.v 6],
 op (.t 73) (.bin .eql) [.t 72,.c (.int .u8 46)],
 op (.t 71) .mv [.t 73]]
def a48r34 : List AOper := [
 op (.t 74) .mv [.v 0],
 op (.t 75) .lenS [.t 74],
 op (.t 76) .mv [.v 1],
 op (.t 77) (.bin .sub) [.t 75,.t 76],
 op (.t 78) (.bin .geq) [.t 77,.c (.int .i64 3)],
 op (.t 79) .mv [.t 78],
 ⟨.t 80,.mv,[.v 0],none,some (.t 79,true)⟩,
 ⟨.t 81,.mv,[.v 1],none,some (.t 79,true)⟩,
 ⟨.t 82,.bin .add,[.t 81,.c (.int .i64 1)],none,some (.t 79,true)⟩,
 ⟨.t 83,.idxS,[.t 80,.t 82],none,some (.t 79,true)⟩,
 ⟨.t 84,.bin .eql,[.t 83,.c (.int .u8 46)],none,some (.t 79,true)⟩,
 op (.t 85) .pick [.t 79,.t 84,.c (.bool false)],
 op (.t 86) .mv [.t 85],
 ⟨.t 87,.mv,[.v 0],none,some (.t 86,true)⟩,
 ⟨.t 88,.mv,[.v 1],none,some (.t 86,true)⟩,
 ⟨.t 89,.bin .add,[.t 88,.c (.int .i64 2)],none,some (.t 86,true)⟩,
 ⟨.t 90,.idxS,[.t 87,.t 89],none,some (.t 86,true)⟩,
 ⟨.t 91,.bin .eql,[.t 90,.c (.int .u8 46)],none,some (.t 86,true)⟩,
 op (.t 92) .pick [.t 86,.t 91,.c (.bool false)]]
def a48r35 : List AOper := [
 op (.t 93) (.build [.int .u8 0,.str [],.int .i64 0,.int .i64 0] [(0,1),(1,1)]) [.c (.int .u8 4),.c (.str [46,46,46])],
 op (.t 94) .mv [.v 1],
 op (.t 95) (.bin .add) [.t 94,.c (.int .i64 3)],
 ⟨.none,.stLc 2 4,[.l 2,.t 93],some 2,none⟩,
 op (.v 3) .mv [.t 95],
 op (.v 4) .mv [.c (.int .i64 0)],
 op (.v 5) .mv [.c (.int .i64 0)]]
def a48s36 : ACode := .reg [] a48r35
def a48s37 : ACode := .seq a48s36 .ret
def a48s38 : ACode := .test [] a48r34 (.t 92) a48s37 .skip
def a48r39 : List AOper := [
 op (.t 96) (.build [.int .u8 0,.str [],.int .i64 0,.int .i64 0] []) [],
 op (.t 97) .mv [.v 1],
 ⟨.none,.stLc 2 4,[.l 2,.t 96],some 2,none⟩,
 op (.v 3) .mv [.c (.int .i64 0)],
 op (.v 4) .mv [.t 97],
 op (.v 5) .mv [.c (.int .i64 4)]]
def a48s40 : ACode := .reg [] a48r39
def a48s41 : ACode := .seq a48s40 .ret
def a48s42 : ACode := .seq a48s38 a48s41
end Go.Cb.CodeA
