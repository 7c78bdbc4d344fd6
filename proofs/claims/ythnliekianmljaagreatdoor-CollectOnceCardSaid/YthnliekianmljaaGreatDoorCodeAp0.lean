/- The functions of the seat, told as code of the abstract machine. No conditions. -/
import Derived.Test.YthnliekianmljaaGreatDoorXAm1
namespace Go.Cb.CodeA
open Go Go.Cb

abbrev op (d : Dst) (k : Kind) (a : List Opd) : AOper := ⟨d,k,a,none,none⟩
def a7r0 : List AOper := [
 op (.v 1) .mv [.c (.bool false)]]
def a7s1 : ACode := .reg [] a7r0
def a7r2 : List AOper := [
 op (.t 11) (.call 9) [],
 op (.t 12) (.un .not) [.t 11]]
def a7r3 : List AOper := [
 op (.v 1) .mv [.c (.bool false)]]
def a7s4 : ACode := .reg [] a7r3
def a7s5 : ACode := .seq a7s4 .ret
def a7s6 : ACode := .test [] a7r2 (.t 12) a7s5 .skip
def a7r7 : List AOper := [
 op (.t 14) (.call 11) [],
 op (.t 13) .mv [.t 14],
 op (.t 15) (.ext 0) [.t 13],
 op (.t 16) (.ext 1) [.t 13],
 op (.v 2) .mv [.t 15],
 op (.t 4) .mv [.t 16]]
def a7s8 : ACode := .reg [] a7r7
def a7r9 : List AOper := [
 op (.v 3) .mv [.c (.str [123])]]
def a7s10 : ACode := .reg [] a7r9
def a7r11 : List AOper := [
 op (.v 4) .mv [.c (.int .i64 0)]]
def a7s12 : ACode := .reg [] a7r11
def a7r13 : List AOper := [
 op (.t 17) .mv [.v 4],
 op (.t 18) .mv [.v 0],
 op (.t 19) (.conv .i64) [.t 18],
 op (.t 20) (.bin .rem) [.t 19,.c (.int .i64 20)],
 op (.t 21) (.bin .leq) [.t 17,.t 20]]
def a7s14 : ACode := .test [] a7r13 (.t 21) .skip (.exit 0)
def a7r15 : List AOper := [
 op (.t 24) .mv [.v 3],
 op (.t 25) (.bin .add) [.t 24,.c (.str [32,46,46,46,70])],
 op (.v 3) .mv [.t 25]]
def a7s16 : ACode := .reg [] a7r15
def a7s17 : ACode := .blk 1 a7s16
def a7r18 : List AOper := [
 op (.t 22) .mv [.v 4],
 op (.t 23) (.bin .add) [.t 22,.c (.int .i64 1)],
 op (.v 4) .mv [.t 23]]
def a7s19 : ACode := .reg [] a7r18
def a7s20 : ACode := .seq a7s17 a7s19
def a7s21 : ACode := .seq a7s14 a7s20
def a7s22 : ACode := .loop a7s21
def a7s23 : ACode := .blk 0 a7s22
def a7s24 : ACode := .seq a7s12 a7s23
def a7r25 : List AOper := [
 op (.t 27) .mv [.v 3],
 op (.t 28) (.bin .add) [.t 27,.c (.str [125,32,102,114,97,103,109,101,110,116,32,70,32,111,110,32,81,117,101,114,121,32,123,112,101,111,112,108,101,32,123,110,97,109,101,125,32,46,46,46,70,32,120,58,32,112,101,111,112,108,101,32,123,97,103,101,125,125])],
 op (.t 29) (.call 10) [.t 28],
 op (.t 26) .mv [.t 29],
 op (.t 30) (.ext 0) [.t 26],
 op (.t 31) (.ext 1) [.t 26],
 op (.t 32) (.ext 2) [.t 26],
 ⟨.bx,.alloc [.list true [],.list true []],[],some 5,none⟩,
 ⟨.none,.stLc 5 2,[.l 5,.ts 30],some 5,none⟩,
 op (.t 8) .mv [.t 31],
 op (.v 6) .mv [.t 32]]
def a7s26 : ACode := .reg [5] a7r25
def a7r27 : List AOper := [
 op (.t 33) .mv [.v 6],
 op (.t 34) (.bin .neq) [.t 33,.c (.int .i64 0)]]
def a7r28 : List AOper := [
 op (.v 1) .mv [.c (.bool false)]]
def a7s29 : ACode := .reg [] a7r28
def a7s30 : ACode := .seq a7s29 .ret
def a7s31 : ACode := .test [] a7r27 (.t 34) a7s30 .skip
def a7r32 : List AOper := [
 op (.t 35) .mv [.v 2],
 ⟨.t 36,.ldLc 5 true 2,[.l 5],some 5,none⟩,
 op (.t 37) (.fad 0) [.l 5],
 ⟨.t 38,.ldLc 5 false 1,[.t 37],some 5,none⟩,
 op (.t 39) (.iad 4) [.t 38,.c (.int .i64 0)],
 op (.t 40) (.fad 3) [.t 39],
 op (.t 41) (.ldRo false 1) [.t 40],
 op (.t 42) (.build [.int .u8 0,.int .i64 0,.str [],.list true [],.list true []] []) [],
 op (.t 43) (.call 12) [.t 35,.t 36,.c (.str [81,117,101,114,121]),.t 41,.t 42],
 op (.v 7) .mv [.ts 43]]
def a7s33 : ACode := .reg [] a7r32
def a7r34 : List AOper := [
 op (.t 44) .mv [.v 7],
 op (.t 45) .lenL [.t 44],
 op (.t 46) (.bin .eql) [.t 45,.c (.int .i64 2)],
 op (.t 47) .mv [.t 46],
 ⟨.t 48,.mv,[.v 7],none,some (.t 47,true)⟩,
 ⟨.t 49,.iad 2,[.t 48,.c (.int .i64 0)],none,some (.t 47,true)⟩,
 ⟨.t 50,.fad 1,[.t 49],none,some (.t 47,true)⟩,
 ⟨.t 51,.ldStR false 1,[.t 50,.v 7],none,some (.t 47,true)⟩,
 ⟨.t 52,.lenL,[.t 51],none,some (.t 47,true)⟩,
 ⟨.t 53,.bin .eql,[.t 52,.c (.int .i64 1)],none,some (.t 47,true)⟩,
 op (.t 54) .pick [.t 47,.t 53,.c (.bool false)],
 op (.t 55) .mv [.t 54],
 ⟨.t 56,.mv,[.v 7],none,some (.t 55,true)⟩,
 ⟨.t 57,.iad 2,[.t 56,.c (.int .i64 1)],none,some (.t 55,true)⟩,
 ⟨.t 58,.fad 1,[.t 57],none,some (.t 55,true)⟩,
 ⟨.t 59,.ldStR false 1,[.t 58,.v 7],none,some (.t 55,true)⟩,
 ⟨.t 60,.lenL,[.t 59],none,some (.t 55,true)⟩,
 ⟨.t 61,.bin .eql,[.t 60,.c (.int .i64 1)],none,some (.t 55,true)⟩,
 op (.t 62) .pick [.t 55,.t 61,.c (.bool false)],
 op (.t 63) .mv [.t 62],
 ⟨.t 64,.mv,[.v 7],none,some (.t 63,true)⟩,
 ⟨.t 65,.iad 2,[.t 64,.c (.int .i64 1)],none,some (.t 63,true)⟩,
 ⟨.t 66,.fad 0,[.t 65],none,some (.t 63,true)⟩,
 ⟨.t 67,.ldSt false 1,[.t 66],none,some (.t 63,true)⟩,
 ⟨.t 68,.bin .eql,[.t 67,.c (.str [120])],none,some (.t 63,true)⟩,
 op (.t 69) .pick [.t 63,.t 68,.c (.bool false)],
 op (.t 70) .mv [.t 69],
 ⟨.t 71,.mv,[.v 2],none,some (.t 70,true)⟩,
 ⟨.t 72,.ldLc 5 true 2,[.l 5],some 5,some (.t 70,true)⟩,
 ⟨.t 73,.fad 0,[.l 5],none,some (.t 70,true)⟩,
 ⟨.t 74,.ldLc 5 false 1,[.t 73],some 5,some (.t 70,true)⟩,
 ⟨.t 75,.iad 4,[.t 74,.c (.int .i64 0)],none,some (.t 70,true)⟩,
 ⟨.t 76,.fad 3,[.t 75],none,some (.t 70,true)⟩,
 ⟨.t 77,.ldRo false 1,[.t 76],none,some (.t 70,true)⟩,
 ⟨.t 78,.build [.int .u8 0,.int .i64 0,.str [],.list true [],.list true []] [],[],none,some (.t 70,true)⟩,
 ⟨.t 79,.callA 12 5,[.t 71,.t 72,.c (.str [67,97,116]),.t 77,.t 78,.v 7],none,some (.t 70,true)⟩,
 ⟨.t 80,.lenL,[.t 79],none,some (.t 70,true)⟩,
 ⟨.t 81,.bin .eql,[.t 80,.c (.int .i64 0)],none,some (.t 70,true)⟩,
 op (.t 82) .pick [.t 70,.t 81,.c (.bool false)],
 op (.v 1) .mv [.t 82]]
def a7s35 : ACode := .reg [] a7r34
def a7s36 : ACode := .seq a7s35 .ret
def a7s37 : ACode := .seq a7s33 a7s36
def a7s38 : ACode := .seq a7s31 a7s37
def a7s39 : ACode := .seq a7s26 a7s38
def a7s40 : ACode := .seq a7s24 a7s39
def a7s41 : ACode := .seq a7s10 a7s40
def a7s42 : ACode := .seq a7s8 a7s41
def a7s43 : ACode := .seq a7s6 a7s42
def a7s44 : ACode := .seq a7s1 a7s43
def a7c : ACode :=
  a7s44
def a7 : AFn := { np := 1,nv := 8,results := [.v 1],code := a7c }
def a7v : List Nat := [0,2,3,5,6,7,9,10]
def a7b : List Nat := [5]

def a9r0 : List AOper := [
 op (.v 0) .mv [.c (.bool false)]]
def a9s1 : ACode := .reg [] a9r0
def a9r2 : List AOper := [
 op (.t 8) (.call 11) [],
 op (.t 7) .mv [.t 8],
 op (.t 9) (.ext 0) [.t 7],
 op (.t 10) (.ext 1) [.t 7],
 op (.v 1) .mv [.t 9],
 op (.t 2) .mv [.t 10]]
def a9s3 : ACode := .reg [] a9r2
def a9r4 : List AOper := [
 op (.t 12) (.call 10) [.c (.str [123,110,97,109,101,32,46,46,46,32,111,110,32,67,97,116,32,123,108,105,118,101,115,32,110,97,109,101,125,125])],
 op (.t 11) .mv [.t 12],
 op (.t 13) (.ext 0) [.t 11],
 op (.t 14) (.ext 1) [.t 11],
 op (.t 15) (.ext 2) [.t 11],
 ⟨.bx,.alloc [.list true [],.list true []],[],some 2,none⟩,
 ⟨.none,.stLc 2 2,[.l 2,.ts 13],some 2,none⟩,
 op (.t 4) .mv [.t 14],
 op (.t 5) .mv [.t 15]]
def a9s5 : ACode := .reg [2] a9r4
def a9r6 : List AOper := [
 op (.t 16) .mv [.v 1],
 ⟨.t 17,.ldLc 2 true 2,[.l 2],some 2,none⟩,
 op (.t 18) (.fad 0) [.l 2],
 ⟨.t 19,.ldLc 2 false 1,[.t 18],some 2,none⟩,
 op (.t 20) (.iad 4) [.t 19,.c (.int .i64 0)],
 op (.t 21) (.fad 3) [.t 20],
 op (.t 22) (.ldRo false 1) [.t 21],
 op (.t 23) (.build [.int .u8 0,.int .i64 0,.str [],.list true [],.list true []] []) [],
 op (.t 24) (.call 12) [.t 16,.t 17,.c (.str [67,97,116]),.t 22,.t 23],
 op (.v 3) .mv [.ts 24]]
def a9s7 : ACode := .reg [] a9r6
def a9r8 : List AOper := [
 op (.t 25) .mv [.v 3],
 op (.t 26) .lenL [.t 25],
 op (.t 27) (.bin .eql) [.t 26,.c (.int .i64 2)],
 op (.t 28) .mv [.t 27],
 ⟨.t 29,.mv,[.v 3],none,some (.t 28,true)⟩,
 ⟨.t 30,.iad 2,[.t 29,.c (.int .i64 0)],none,some (.t 28,true)⟩,
 ⟨.t 31,.fad 0,[.t 30],none,some (.t 28,true)⟩,
 ⟨.t 32,.ldSt false 1,[.t 31],none,some (.t 28,true)⟩,
 ⟨.t 33,.bin .eql,[.t 32,.c (.str [110,97,109,101])],none,some (.t 28,true)⟩,
 op (.t 34) .pick [.t 28,.t 33,.c (.bool false)],
 op (.t 35) .mv [.t 34],
 ⟨.t 36,.mv,[.v 3],none,some (.t 35,true)⟩,
 ⟨.t 37,.iad 2,[.t 36,.c (.int .i64 0)],none,some (.t 35,true)⟩,
 ⟨.t 38,.fad 1,[.t 37],none,some (.t 35,true)⟩,
 ⟨.t 39,.ldSt false 1,[.t 38],none,some (.t 35,true)⟩,
 ⟨.t 40,.lenL,[.t 39],none,some (.t 35,true)⟩,
 ⟨.t 41,.bin .eql,[.t 40,.c (.int .i64 2)],none,some (.t 35,true)⟩,
 op (.t 42) .pick [.t 35,.t 41,.c (.bool false)],
 op (.t 43) .mv [.t 42],
 ⟨.t 44,.mv,[.v 3],none,some (.t 43,true)⟩,
 ⟨.t 45,.iad 2,[.t 44,.c (.int .i64 1)],none,some (.t 43,true)⟩,
 ⟨.t 46,.fad 0,[.t 45],none,some (.t 43,true)⟩,
 ⟨.t 47,.ldSt false 1,[.t 46],none,some (.t 43,true)⟩,
 ⟨.t 48,.bin .eql,[.t 47,.c (.str [108,105,118,101,115])],none,some (.t 43,true)⟩,
 op (.t 49) .pick [.t 43,.t 48,.c (.bool false)],
 op (.v 0) .mv [.t 49]]
def a9s9 : ACode := .reg [] a9r8
def a9s10 : ACode := .seq a9s9 .ret
def a9s11 : ACode := .seq a9s7 a9s10
def a9s12 : ACode := .seq a9s5 a9s11
def a9s13 : ACode := .seq a9s3 a9s12
def a9s14 : ACode := .seq a9s1 a9s13
def a9c : ACode :=
  a9s14
def a9 : AFn := { np := 0,nv := 4,results := [.v 0],code := a9c }
def a9v : List Nat := [0,1,3,6]
def a9b : List Nat := [2]

def a10r0 : List AOper := [
 ⟨.bx,.alloc [.list true [],.list true []],[],some 1,none⟩,
 op (.v 2) .mv [.c (.int .i64 0)],
 op (.v 3) .mv [.c (.int .i64 0)]]
def a10s1 : ACode := .reg [1] a10r0
def a10r2 : List AOper := [
 op (.t 14) .mv [.v 0],
 op (.t 15) (.call 17) [.t 14],
 op (.t 13) .mv [.t 15],
 op (.t 16) (.ext 0) [.t 13],
 op (.t 17) (.ext 1) [.t 13],
 op (.t 18) (.ext 2) [.t 13],
 op (.v 4) .mv [.ts 16],
 op (.v 5) .mv [.t 17],
 op (.v 6) .mv [.t 18]]
def a10s3 : ACode := .reg [] a10r2
def a10r4 : List AOper := [
 op (.t 19) .mv [.v 6],
 op (.t 20) (.bin .neq) [.t 19,.c (.int .i64 0)]]
def a10r5 : List AOper := [
 op (.t 21) (.build [.list true [],.list true []] []) [],
 op (.t 22) .mv [.v 5],
 op (.t 23) .mv [.v 6],
 ⟨.none,.stLc 1 2,[.l 1,.ts 21],some 1,none⟩,
 op (.v 2) .mv [.t 22],
 op (.v 3) .mv [.t 23]]
def a10s6 : ACode := .reg [] a10r5
def a10s7 : ACode := .seq a10s6 .ret
def a10s8 : ACode := .test [] a10r4 (.t 20) a10s7 .skip
def a10r9 : List AOper := [
 op (.t 24) .mv [.v 4],
 op (.t 25) (.build [.list true [],.int .i64 0,.int .i64 0,.int .i64 0,.int .i64 0] [(0,1)]) [.t 24],
 op (.t 26) .boxO [.ts 25],
 op (.v 7) .mv [.t 26]]
def a10s10 : ACode := .reg [] a10r9
def a10r11 : List AOper := [
 ⟨.bx,.alloc [.list true [],.list true []],[],some 8,none⟩]
def a10s12 : ACode := .reg [8] a10r11
def a10r13 : List AOper := [
 op (.v 9) .mv [.c (.bool true)]]
def a10s14 : ACode := .reg [] a10r13
def a10r15 : List AOper := [
 op (.t 27) .mv [.v 9],
 op (.t 28) .mv [.t 27],
 ⟨.t 29,.mv,[.v 7],none,some (.t 28,false)⟩,
 ⟨.t 30,.nilchk,[.t 29],none,some (.t 28,false)⟩,
 ⟨.t 31,.fad 4,[.t 30],none,some (.t 28,false)⟩,
 ⟨.t 32,.ldSt false 1,[.t 31],none,some (.t 28,false)⟩,
 ⟨.t 33,.bin .eql,[.t 32,.c (.int .i64 0)],none,some (.t 28,false)⟩,
 ⟨.t 34,.mv,[.t 33],none,some (.t 28,false)⟩,
 ⟨.t 35,.mv,[.v 7],none,some (.t 34,true)⟩,
 ⟨.t 36,.call 18,[.t 35,.c (.int .u8 0)],none,some (.t 34,true)⟩,
 ⟨.t 37,.un .not,[.t 36],none,some (.t 34,true)⟩,
 ⟨.t 38,.pick,[.t 34,.t 37,.c (.bool false)],none,some (.t 28,false)⟩,
 op (.t 39) .pick [.t 28,.c (.bool true),.t 38]]
def a10s16 : ACode := .test [] a10r15 (.t 39) .skip (.exit 0)
def a10r17 : List AOper := [
 op (.t 40) .mv [.v 7],
 op (.t 41) (.call 19) [.t 40,.c (.str [102,114,97,103,109,101,110,116])]]
def a10r18 : List AOper := [
 op (.t 42) .mv [.v 7],
 op (.t 43) .nilchk [.t 42],
 op (.t 44) (.fad 1) [.t 43],
 op (.t 45) (.ldSt false 1) [.t 44],
 op (.t 46) (.bin .add) [.t 45,.c (.int .i64 1)],
 op (.t 47) .nilchk [.t 42],
 op (.t 48) (.fad 1) [.t 47],
 op .none (.stSt 1) [.t 48,.t 46]]
def a10s19 : ACode := .reg [] a10r18
def a10r20 : List AOper := [
 op (.t 49) .mv [.v 7],
 op (.t 50) (.call 19) [.t 49,.c (.str [111,110])]]
def a10r21 : List AOper := [
 op (.t 51) .mv [.v 7],
 op (.t 52) (.call 20) [.t 51,.c (.int .i64 4)]]
def a10s22 : ACode := .reg [] a10r21
def a10s23 : ACode := .test [] a10r20 (.t 50) a10s22 .skip
def a10r24 : List AOper := [
 op (.t 53) .mv [.v 7],
 op (.t 54) (.call 21) [.t 53],
 op (.t 55) (.build [.str [],.str [],.list true []] [(0,1)]) [.t 54],
 ⟨.bx,.alloc [.str [],.str [],.list true []],[],some 10,none⟩,
 ⟨.none,.stLc 10 3,[.l 10,.ts 55],some 10,none⟩]
def a10s25 : ACode := .reg [10] a10r24
def a10r26 : List AOper := [
 op (.t 56) .mv [.v 7],
 op (.t 57) (.call 22) [.t 56,.c (.str [111,110])]]
def a10s27 : ACode := .reg [] a10r26
def a10r28 : List AOper := [
 op (.t 58) .mv [.v 7],
 op (.t 59) (.call 21) [.t 58],
 op (.t 60) (.fad 1) [.l 10],
 ⟨.none,.stLc 10 1,[.t 60,.t 59],some 10,none⟩]
def a10s29 : ACode := .reg [] a10r28
def a10r30 : List AOper := [
 op (.t 61) .mv [.v 7],
 op (.t 62) (.call 23) [.t 61],
 op (.t 63) (.fad 2) [.l 10],
 ⟨.none,.stLc 10 1,[.t 63,.ts 62],some 10,none⟩]
def a10s31 : ACode := .reg [] a10r30
def a10r32 : List AOper := [
 op (.t 64) (.fad 1) [.l 8],
 ⟨.t 65,.ldLcS 8,[.t 64],some 8,none⟩,
 ⟨.t 66,.ldLc 10 true 3,[.l 10],some 10,none⟩,
 op (.t 67) (.bslice 3 [[.str [],.str [],.list true []]] [0]) [.t 66],
 op (.t 68) (.app 3 56) [.ts 65,.t 67],
 op (.t 69) (.fad 1) [.l 8],
 ⟨.none,.stLc 8 1,[.t 69,.ts 68],some 8,none⟩]
def a10s33 : ACode := .reg [] a10r32
def a10s34 : ACode := .seq a10s33 (.exit 1)
def a10s35 : ACode := .seq a10s31 a10s34
def a10s36 : ACode := .seq a10s29 a10s35
def a10s37 : ACode := .seq a10s27 a10s36
def a10s38 : ACode := .seq a10s25 a10s37
def a10s39 : ACode := .seq a10s23 a10s38
def a10s40 : ACode := .seq a10s19 a10s39
def a10s41 : ACode := .test [] a10r17 (.t 41) a10s40 .skip
def a10r42 : List AOper := [
 ⟨.bx,.alloc [.bool false,.str [],.list true [],.list true []],[],some 11,none⟩]
def a10s43 : ACode := .reg [11] a10r42
def a10r44 : List AOper := [
 op (.t 70) .mv [.v 7],
 op (.t 71) (.call 24) [.t 70,.c (.str [123])],
 op (.t 72) (.un .not) [.t 71]]
def a10r45 : List AOper := [
 op (.t 73) .mv [.v 7],
 op (.t 74) (.call 25) [.t 73,.c (.str [109,117,116,97,116,105,111,110])],
 op (.t 75) (.fad 0) [.l 11],
 ⟨.none,.stLc 11 1,[.t 75,.t 74],some 11,none⟩]
def a10s46 : ACode := .reg [] a10r45
def a10r47 : List AOper := [
 op (.t 76) (.fad 0) [.l 11],
 ⟨.t 77,.ldLc 11 false 1,[.t 76],some 11,none⟩,
 op (.t 78) (.un .not) [.t 77]]
def a10r48 : List AOper := [
 op (.t 79) .mv [.v 7],
 op (.t 80) (.call 26) [.t 79,.c (.str [113,117,101,114,121])]]
def a10s49 : ACode := .reg [] a10r48
def a10s50 : ACode := .test [] a10r47 (.t 78) a10s49 .skip
def a10r51 : List AOper := [
 op (.t 81) .mv [.v 7],
 op (.t 82) (.call 18) [.t 81,.c (.int .u8 1)]]
def a10r52 : List AOper := [
 op (.t 83) .mv [.v 7],
 op (.t 84) (.call 21) [.t 83],
 op (.t 85) (.fad 1) [.l 11],
 ⟨.none,.stLc 11 1,[.t 85,.t 84],some 11,none⟩]
def a10s53 : ACode := .reg [] a10r52
def a10s54 : ACode := .test [] a10r51 (.t 82) a10s53 .skip
def a10r55 : List AOper := [
 op (.t 86) .mv [.v 7],
 op (.t 87) (.call 25) [.t 86,.c (.str [40])]]
def a10r56 : List AOper := [
 op (.t 88) (.fad 2) [.l 11],
 ⟨.t 89,.ldLcS 11,[.t 88],some 11,none⟩,
 op (.t 90) .mv [.v 7],
 op (.t 91) (.call 27) [.t 90],
 op (.t 92) (.bslice 10 [[.str [],.str [],.list true [],.bool false,.bool false,.int .u8 0,.int .i64 0,.str [],.list true [],.list true []]] [0]) [.t 91],
 op (.t 93) (.app 10 152) [.ts 89,.t 92],
 op (.t 94) (.fad 2) [.l 11],
 ⟨.none,.stLc 11 1,[.t 94,.ts 93],some 11,none⟩]
def a10s57 : ACode := .reg [] a10r56
def a10r58 : List AOper := [
 op (.t 95) .mv [.v 7],
 op (.t 96) .nilchk [.t 95],
 op (.t 97) (.fad 4) [.t 96],
 op (.t 98) (.ldSt false 1) [.t 97],
 op (.t 99) (.bin .eql) [.t 98,.c (.int .i64 0)],
 op (.t 100) .mv [.t 99],
 ⟨.t 101,.mv,[.v 7],none,some (.t 100,true)⟩,
 ⟨.t 102,.call 25,[.t 101,.c (.str [41])],none,some (.t 100,true)⟩,
 ⟨.t 103,.un .not,[.t 102],none,some (.t 100,true)⟩,
 op (.t 104) .pick [.t 100,.t 103,.c (.bool false)]]
def a10s59 : ACode := .test [] a10r58 (.t 104) .skip (.exit 2)
def a10r60 : List AOper := [
 op (.t 105) (.fad 2) [.l 11],
 ⟨.t 106,.ldLcS 11,[.t 105],some 11,none⟩,
 op (.t 107) .mv [.v 7],
 op (.t 108) (.call 27) [.t 107],
 op (.t 109) (.bslice 10 [[.str [],.str [],.list true [],.bool false,.bool false,.int .u8 0,.int .i64 0,.str [],.list true [],.list true []]] [0]) [.t 108],
 op (.t 110) (.app 10 152) [.ts 106,.t 109],
 op (.t 111) (.fad 2) [.l 11],
 ⟨.none,.stLc 11 1,[.t 111,.ts 110],some 11,none⟩]
def a10s61 : ACode := .reg [] a10r60
def a10s62 : ACode := .blk 3 a10s61
def a10s63 : ACode := .seq a10s59 a10s62
def a10s64 : ACode := .loop a10s63
def a10s65 : ACode := .blk 2 a10s64
def a10s66 : ACode := .seq a10s57 a10s65
def a10s67 : ACode := .test [] a10r55 (.t 87) a10s66 .skip
def a10s68 : ACode := .seq a10s54 a10s67
def a10s69 : ACode := .seq a10s50 a10s68
def a10s70 : ACode := .seq a10s46 a10s69
def a10s71 : ACode := .test [] a10r44 (.t 72) a10s70 .skip
def a10r72 : List AOper := [
 op (.t 112) .mv [.v 7],
 op (.t 113) (.call 23) [.t 112],
 op (.t 114) (.fad 3) [.l 11],
 ⟨.none,.stLc 11 1,[.t 114,.ts 113],some 11,none⟩]
def a10s73 : ACode := .reg [] a10r72
def a10r74 : List AOper := [
 op (.t 115) (.fad 0) [.l 8],
 ⟨.t 116,.ldLcS 8,[.t 115],some 8,none⟩,
 ⟨.t 117,.ldLc 11 true 4,[.l 11],some 11,none⟩,
 op (.t 118) (.bslice 4 [[.bool false,.str [],.list true [],.list true []]] [0]) [.t 117],
 op (.t 119) (.app 4 72) [.ts 116,.t 118],
 op (.t 120) (.fad 0) [.l 8],
 ⟨.none,.stLc 8 1,[.t 120,.ts 119],some 8,none⟩]
def a10s75 : ACode := .reg [] a10r74
def a10s76 : ACode := .seq a10s73 a10s75
def a10s77 : ACode := .seq a10s71 a10s76
def a10s78 : ACode := .seq a10s43 a10s77
def a10s79 : ACode := .seq a10s41 a10s78
def a10s80 : ACode := .blk 1 a10s79
def a10r81 : List AOper := [
 op (.v 9) .mv [.c (.bool false)]]
def a10s82 : ACode := .reg [] a10r81
def a10s83 : ACode := .seq a10s80 a10s82
def a10s84 : ACode := .seq a10s16 a10s83
def a10s85 : ACode := .loop a10s84
def a10s86 : ACode := .blk 0 a10s85
def a10s87 : ACode := .seq a10s14 a10s86
def a10r88 : List AOper := [
 op (.t 121) .mv [.v 7],
 op (.t 122) .nilchk [.t 121],
 op (.t 123) (.fad 4) [.t 122],
 op (.t 124) (.ldSt false 1) [.t 123],
 op (.t 125) (.bin .neq) [.t 124,.c (.int .i64 0)]]
def a10r89 : List AOper := [
 op (.t 126) (.build [.list true [],.list true []] []) [],
 op (.t 127) .mv [.v 7],
 op (.t 128) .nilchk [.t 127],
 op (.t 129) (.fad 3) [.t 128],
 op (.t 130) (.ldSt false 1) [.t 129],
 op (.t 131) .mv [.v 7],
 op (.t 132) .nilchk [.t 131],
 op (.t 133) (.fad 4) [.t 132],
 op (.t 134) (.ldSt false 1) [.t 133],
 ⟨.none,.stLc 1 2,[.l 1,.ts 126],some 1,none⟩,
 op (.v 2) .mv [.t 130],
 op (.v 3) .mv [.t 134]]
def a10s90 : ACode := .reg [] a10r89
def a10s91 : ACode := .seq a10s90 .ret
def a10s92 : ACode := .test [] a10r88 (.t 125) a10s91 .skip
def a10r93 : List AOper := [
 ⟨.t 135,.ldLc 8 true 2,[.l 8],some 8,none⟩,
 ⟨.none,.stLc 1 2,[.l 1,.ts 135],some 1,none⟩,
 op (.v 2) .mv [.c (.int .i64 0)],
 op (.v 3) .mv [.c (.int .i64 0)]]
def a10s94 : ACode := .reg [] a10r93
def a10s95 : ACode := .seq a10s94 .ret
def a10s96 : ACode := .seq a10s92 a10s95
def a10s97 : ACode := .seq a10s87 a10s96
def a10s98 : ACode := .seq a10s12 a10s97
def a10s99 : ACode := .seq a10s10 a10s98
def a10s100 : ACode := .seq a10s8 a10s99
def a10s101 : ACode := .seq a10s3 a10s100
def a10s102 : ACode := .seq a10s1 a10s101
def a10c : ACode :=
  a10s102
def a10 : AFn := { np := 1,nv := 12,results := [.bx 1 true 2,.v 2,.v 3],code := a10c }
def a10v : List Nat := [0,2,3,4,5,6,7,8,9,10,11,12]
def a10b : List Nat := [1,8,10,11]

def a11r0 : List AOper := [
 op (.v 0) .mv [.c (.nilp)],
 op (.v 1) .mv [.c (.nilp)]]
def a11s1 : ACode := .reg [] a11r0
def a11r2 : List AOper := [
 op (.t 12) (.call 28) [.c (.str [105,110,116,101,114,102,97,99,101,32,78,97,109,101,100,32,123,32,110,97,109,101,58,32,83,116,114,105,110,103,33,32,125,32,101,110,117,109,32,77,111,111,100,32,123,32,72,65,80,80,89,32,83,65,68,32,125,32,116,121,112,101,32,80,101,114,115,111,110,32,105,109,112,108,101,109,101,110,116,115,32,78,97,109,101,100,32,123,32,110,97,109,101,58,32,83,116,114,105,110,103,33,32,97,103,101,58,32,73,110,116,32,109,111,111,100,58,32,77,111,111,100,32,102,114,105,101,110,100,115,58,32,91,80,101,114,115,111,110,33,93,32,112,101,116,58,32,80,101,116,32,116,97,103,115,58,32,91,83,116,114,105,110,103,93,32,125,32,116,121,112,101,32,67,97,116,32,105,109,112,108,101,109,101,110,116,115,32,78,97,109,101,100,32,123,32,110,97,109,101,58,32,83,116,114,105,110,103,33,32,108,105,118,101,115,58,32,73,110,116,33,32,111,119,110,101,114,58,32,80,101,114,115,111,110,32,125,32,116,121,112,101,32,68,111,103,32,123,32,98,97,114,107,115,58,32,66,111,111,108,101,97,110,32,125,32,117,110,105,111,110,32,80,101,116,32,61,32,67,97,116,32,124,32,68,111,103,32,105,110,112,117,116,32,80,101,114,115,111,110,73,110,32,123,32,110,97,109,101,58,32,83,116,114,105,110,103,32,97,103,101,58,32,73,110,116,32,61,32,55,32,109,111,111,100,58,32,77,111,111,100,32,102,114,105,101,110,100,115,58,32,91,73,68,33,93,32,112,101,116,58,32,73,68,32,116,97,103,115,58,32,91,83,116,114,105,110,103,93,32,125,32,105,110,112,117,116,32,67,97,116,73,110,32,123,32,110,97,109,101,58,32,83,116,114,105,110,103,33,32,108,105,118,101,115,58,32,73,110,116,32,111,119,110,101,114,58,32,73,68,32,125,32,105,110,112,117,116,32,68,111,103,73,110,32,123,32,98,97,114,107,115,58,32,66,111,111,108,101,97,110,32,125,32,116,121,112,101,32,81,117,101,114,121,32,123,32,112,101,114,115,111,110,40,105,100,58,32,73,68,33,41,58,32,80,101,114,115,111,110,32,110,97,109,101,100,40,105,100,58,32,73,68,33,41,58,32,78,97,109,101,100,32,112,101,111,112,108,101,58,32,91,80,101,114,115,111,110,33,93,33,32,112,101,116,115,58,32,91,80,101,116,33,93,33,32,97,108,108,58,32,91,78,97,109,101,100,33,93,33,32,125,32,116,121,112,101,32,77,117,116,97,116,105,111,110,32,123,32,99,114,101,97,116,101,80,101,114,115,111,110,40,105,100,58,32,73,68,33,44,32,105,110,112,117,116,58,32,80,101,114,115,111,110,73,110,33,41,58,32,80,101,114,115,111,110,32,117,112,100,97,116,101,80,101,114,115,111,110,40,105,100,58,32,73,68,33,44,32,105,110,112,117,116,58,32,80,101,114,115,111,110,73,110,33,41,58,32,80,101,114,115,111,110,32,100,101,108,101,116,101,80,101,114,115,111,110,40,105,100,58,32,73,68,33,41,58,32,80,101,114,115,111,110,32,99,114,101,97,116,101,67,97,116,40,105,100,58,32,73,68,33,44,32,105,110,112,117,116,58,32,67,97,116,73,110,33,41,58,32,67,97,116,32,99,114,101,97,116,101,68,111,103,40,105,100,58,32,73,68,33,44,32,105,110,112,117,116,58,32,68,111,103,73,110,33,41,58,32,68,111,103,32,100,101,108,101,116,101,67,97,116,40,105,100,58,32,73,68,33,41,58,32,67,97,116,32,125])],
 op (.t 11) .mv [.t 12],
 op (.t 13) (.ext 0) [.t 11],
 op (.t 14) (.ext 1) [.t 11],
 op (.t 15) (.ext 2) [.t 11],
 op (.v 2) .mv [.ts 13],
 op (.t 3) .mv [.t 14],
 op (.v 3) .mv [.t 15]]
def a11s3 : ACode := .reg [] a11r2
def a11r4 : List AOper := [
 op (.t 16) .mv [.v 3],
 op (.t 17) (.bin .neq) [.t 16,.c (.int .i64 0)]]
def a11r5 : List AOper := [
 op (.v 0) .mv [.c (.nilp)],
 op (.v 1) .mv [.c (.nilp)]]
def a11s6 : ACode := .reg [] a11r5
def a11s7 : ACode := .seq a11s6 .ret
def a11s8 : ACode := .test [] a11r4 (.t 17) a11s7 .skip
def a11r9 : List AOper := [
 op (.t 19) .mv [.v 2],
 op (.t 20) (.call 29) [.t 19],
 op (.t 18) .mv [.t 20],
 op (.t 21) (.ext 0) [.t 18],
 op (.t 22) (.ext 1) [.t 18],
 op (.t 23) (.ext 2) [.t 18],
 op (.v 4) .mv [.t 21],
 op (.t 6) .mv [.t 22],
 op (.t 7) .mv [.t 23]]
def a11s10 : ACode := .reg [] a11r9
def a11r11 : List AOper := [
 op (.t 25) .mv [.v 2],
 op (.t 26) (.call 30) [.t 25],
 op (.t 24) .mv [.t 26],
 op (.t 27) (.ext 0) [.t 24],
 op (.t 28) (.ext 1) [.t 24],
 op (.t 29) (.ext 2) [.t 24],
 op (.v 5) .mv [.t 27],
 op (.t 9) .mv [.t 28],
 op (.t 10) .mv [.t 29]]
def a11s12 : ACode := .reg [] a11r11
def a11r13 : List AOper := [
 op (.t 30) .mv [.v 4],
 op (.t 31) .mv [.v 5],
 op (.v 0) .mv [.t 30],
 op (.v 1) .mv [.t 31]]
def a11s14 : ACode := .reg [] a11r13
def a11s15 : ACode := .seq a11s14 .ret
def a11s16 : ACode := .seq a11s12 a11s15
def a11s17 : ACode := .seq a11s10 a11s16
def a11s18 : ACode := .seq a11s8 a11s17
def a11s19 : ACode := .seq a11s3 a11s18
def a11s20 : ACode := .seq a11s1 a11s19
def a11c : ACode :=
  a11s20
def a11 : AFn := { np := 0,nv := 6,results := [.v 0,.v 1],code := a11c }
def a11v : List Nat := [0,1,2,4,5,8]
def a11b : List Nat := []

def a12r0 : List AOper := [
 ⟨.bx,.boxV,[.v 1],some 5,none⟩,
 ⟨.bx,.boxV,[.v 4],some 6,none⟩,
 op (.v 7) .mv [.c (.list true [])]]
def a12s1 : ACode := .reg [5,6] a12r0
def a12r2 : List AOper := [
 op (.t 12) .mv [.v 0],
 ⟨.t 13,.ldLc 5 true 2,[.l 5],some 5,none⟩,
 op (.t 14) .mv [.v 2],
 ⟨.t 15,.ldLc 6 true 5,[.l 6],some 6,none⟩,
 op (.t 16) (.build [.nilp,.list true [],.list true [],.str [],.int .u8 0,.int .i64 0,.str [],.list true [],.list true [],.list true [],.list true []] [(0,1),(1,2),(3,1),(4,5)]) [.t 12,.t 13,.t 14,.t 15],
 op (.t 17) .boxO [.ts 16],
 op (.v 8) .mv [.t 17]]
def a12s3 : ACode := .reg [] a12r2
def a12r4 : List AOper := [
 op (.t 18) .mv [.v 8],
 op (.t 19) .mv [.v 3],
 op (.t 20) (.call 31) [.t 18,.t 19]]
def a12s5 : ACode := .reg [] a12r4
def a12r6 : List AOper := [
 op (.t 21) .mv [.v 8],
 op (.t 22) .nilchk [.t 21],
 op (.t 23) (.fad 10) [.t 22],
 op (.t 24) (.ldSt false 1) [.t 23],
 op (.v 7) .mv [.ts 24]]
def a12s7 : ACode := .reg [] a12r6
def a12s8 : ACode := .seq a12s7 .ret
def a12s9 : ACode := .seq a12s5 a12s8
def a12s10 : ACode := .seq a12s3 a12s9
def a12s11 : ACode := .seq a12s1 a12s10
def a12c : ACode :=
  a12s11
def a12 : AFn := { np := 5,nv := 9,results := [.v 7],code := a12c }
def a12v : List Nat := [0,1,2,3,4,6,9,10,11]
def a12b : List Nat := [5,6]

def a17r0 : List AOper := [
 op (.v 1) .mv [.c (.list true [])],
 op (.v 2) .mv [.c (.int .i64 0)],
 op (.v 3) .mv [.c (.int .i64 0)]]
def a17s1 : ACode := .reg [] a17r0
def a17r2 : List AOper := [
 op (.t 12) .mv [.v 0],
 op (.t 13) .lenS [.t 12],
 op (.t 14) (.bin .gtr) [.t 13,.c (.int .i64 2000)]]
def a17r3 : List AOper := [
 op (.v 1) .mv [.c (.list true [])],
 op (.v 2) .mv [.c (.int .i64 0)],
 op (.v 3) .mv [.c (.int .i64 2)]]
def a17s4 : ACode := .reg [] a17r3
def a17s5 : ACode := .seq a17s4 .ret
def a17s6 : ACode := .test [] a17r2 (.t 14) a17s5 .skip
def a17r7 : List AOper := [
 op (.v 4) .mv [.c (.list true [])]]
def a17s8 : ACode := .reg [] a17r7
def a17r9 : List AOper := [
 op (.v 5) .mv [.c (.int .i64 0)]]
def a17s10 : ACode := .reg [] a17r9
def a17r11 : List AOper := [
 op (.t 15) .mv [.v 5],
 op (.t 16) .mv [.v 0],
 op (.t 17) .lenS [.t 16],
 op (.t 18) (.bin .lss) [.t 15,.t 17]]
def a17s12 : ACode := .test [] a17r11 (.t 18) .skip (.exit 0)
def a17r13 : List AOper := [
 op (.t 19) .mv [.v 0],
 op (.t 20) .mv [.v 5],
 op (.t 21) .idxS [.t 19,.t 20],
 op (.v 6) .mv [.t 21]]
def a17s14 : ACode := .reg [] a17r13
def a17r15 : List AOper := [
 op (.t 23) .mv [.v 6],
 op (.t 24) (.bin .eql) [.t 23,.c (.int .u8 32)],
 op (.t 25) .mv [.t 24],
 ⟨.t 26,.mv,[.v 6],none,some (.t 25,false)⟩,
 ⟨.t 27,.bin .eql,[.t 26,.c (.int .u8 10)],none,some (.t 25,false)⟩,
 op (.t 28) .pick [.t 25,.c (.bool true),.t 27],
 op (.t 29) .mv [.t 28],
 ⟨.t 30,.mv,[.v 6],none,some (.t 29,false)⟩,
 ⟨.t 31,.bin .eql,[.t 30,.c (.int .u8 9)],none,some (.t 29,false)⟩,
 op (.t 32) .pick [.t 29,.c (.bool true),.t 31],
 op (.t 33) .mv [.t 32],
 ⟨.t 34,.mv,[.v 6],none,some (.t 33,false)⟩,
 ⟨.t 35,.bin .eql,[.t 34,.c (.int .u8 13)],none,some (.t 33,false)⟩,
 op (.t 36) .pick [.t 33,.c (.bool true),.t 35],
 op (.t 37) .mv [.t 36],
 ⟨.t 38,.mv,[.v 6],none,some (.t 37,false)⟩,
 ⟨.t 39,.bin .eql,[.t 38,.c (.int .u8 44)],none,some (.t 37,false)⟩,
 op (.t 40) .pick [.t 37,.c (.bool true),.t 39],
 op (.t 22) .mv [.t 40]]
def a17r16 : List AOper := [
 op (.t 41) .mv [.v 5],
 op (.t 42) (.bin .add) [.t 41,.c (.int .i64 1)],
 op (.v 5) .mv [.t 42]]
def a17s17 : ACode := .reg [] a17r16
def a17s18 : ACode := .seq a17s17 (.exit 1)
def a17r19 : List AOper := [
 op (.t 44) .mv [.v 6],
 op (.t 45) (.bin .eql) [.t 44,.c (.int .u8 35)],
 op (.t 43) .mv [.t 45]]
def a17r20 : List AOper := [
 op (.t 46) .mv [.v 5],
 op (.t 47) .mv [.v 0],
 op (.t 48) .lenS [.t 47],
 op (.t 49) (.bin .lss) [.t 46,.t 48],
 op (.t 50) .mv [.t 49],
 ⟨.t 51,.mv,[.v 0],none,some (.t 50,true)⟩,
 ⟨.t 52,.mv,[.v 5],none,some (.t 50,true)⟩,
 ⟨.t 53,.idxS,[.t 51,.t 52],none,some (.t 50,true)⟩,
 ⟨.t 54,.bin .neq,[.t 53,.c (.int .u8 10)],none,some (.t 50,true)⟩,
 op (.t 55) .pick [.t 50,.t 54,.c (.bool false)]]
def a17s21 : ACode := .test [] a17r20 (.t 55) .skip (.exit 3)
def a17r22 : List AOper := [
 op (.t 56) .mv [.v 5],
 op (.t 57) (.bin .add) [.t 56,.c (.int .i64 1)],
 op (.v 5) .mv [.t 57]]
def a17s23 : ACode := .reg [] a17r22
def a17s24 : ACode := .blk 4 a17s23
def a17s25 : ACode := .seq a17s21 a17s24
def a17s26 : ACode := .loop a17s25
def a17s27 : ACode := .blk 3 a17s26
def a17s28 : ACode := .seq a17s27 (.exit 1)
def a17s29 : ACode := .test [] a17r19 (.t 43) a17s28 .skip
def a17s30 : ACode := .test [] a17r15 (.t 22) a17s18 a17s29
def a17s31 : ACode := .blk 2 a17s30
def a17r32 : List AOper := [
 op (.t 59) .mv [.v 0],
 op (.t 60) .mv [.v 5],
 op (.t 61) (.call 38) [.t 59,.t 60],
 op (.t 58) .mv [.t 61],
 op (.t 62) (.ext 0) [.t 58],
 op (.t 63) (.ext 1) [.t 58],
 op (.t 64) (.ext 2) [.t 58],
 op (.t 65) (.ext 3) [.t 58],
 ⟨.bx,.alloc [.int .u8 0,.str [],.int .i64 0,.int .i64 0],[],some 7,none⟩,
 ⟨.none,.stLc 7 4,[.l 7,.t 62],some 7,none⟩,
 op (.v 8) .mv [.t 63],
 op (.v 9) .mv [.t 64],
 op (.v 10) .mv [.t 65]]
def a17s33 : ACode := .reg [7] a17r32
def a17r34 : List AOper := [
 op (.t 66) .mv [.v 10],
 op (.t 67) (.bin .neq) [.t 66,.c (.int .i64 0)]]
def a17r35 : List AOper := [
 op (.t 68) .mv [.v 9],
 op (.t 69) .mv [.v 10],
 op (.v 1) .mv [.c (.list true [])],
 op (.v 2) .mv [.t 68],
 op (.v 3) .mv [.t 69]]
def a17s36 : ACode := .reg [] a17r35
def a17s37 : ACode := .seq a17s36 .ret
def a17s38 : ACode := .test [] a17r34 (.t 67) a17s37 .skip
def a17r39 : List AOper := [
 op (.t 70) .mv [.v 5],
 op (.t 71) (.fad 3) [.l 7],
 ⟨.none,.stLc 7 1,[.t 71,.t 70],some 7,none⟩]
def a17s40 : ACode := .reg [] a17r39
def a17r41 : List AOper := [
 op (.t 72) .mv [.vs 4],
 ⟨.t 73,.ldLc 7 true 4,[.l 7],some 7,none⟩,
 op (.t 74) (.bslice 4 [[.int .u8 0,.str [],.int .i64 0,.int .i64 0]] [0]) [.t 73],
 op (.t 75) (.app 4 40) [.ts 72,.t 74],
 op (.v 4) .mv [.ts 75]]
def a17s42 : ACode := .reg [] a17r41
def a17r43 : List AOper := [
 op (.t 76) .mv [.v 8],
 op (.v 5) .mv [.t 76]]
def a17s44 : ACode := .reg [] a17r43
def a17s45 : ACode := .seq a17s42 a17s44
def a17s46 : ACode := .seq a17s40 a17s45
def a17s47 : ACode := .seq a17s38 a17s46
def a17s48 : ACode := .seq a17s33 a17s47
def a17s49 : ACode := .seq a17s31 a17s48
def a17s50 : ACode := .seq a17s14 a17s49
def a17s51 : ACode := .blk 1 a17s50
def a17s52 : ACode := .seq a17s12 a17s51
def a17s53 : ACode := .loop a17s52
def a17s54 : ACode := .blk 0 a17s53
def a17r55 : List AOper := [
 op (.t 77) .mv [.vs 4],
 op (.t 78) .mv [.v 5],
 op (.t 79) (.build [.int .u8 0,.str [],.int .i64 0,.int .i64 0] [(3,1)]) [.t 78],
 op (.t 80) (.bslice 4 [[.int .u8 0,.str [],.int .i64 0,.int .i64 0]] [0]) [.t 79],
 op (.t 81) (.app 4 40) [.ts 77,.t 80],
 op (.v 1) .mv [.ts 81],
 op (.v 2) .mv [.c (.int .i64 0)],
 op (.v 3) .mv [.c (.int .i64 0)]]
def a17s56 : ACode := .reg [] a17r55
def a17s57 : ACode := .seq a17s56 .ret
def a17s58 : ACode := .seq a17s54 a17s57
def a17s59 : ACode := .seq a17s10 a17s58
def a17s60 : ACode := .seq a17s8 a17s59
def a17s61 : ACode := .seq a17s6 a17s60
def a17s62 : ACode := .seq a17s1 a17s61
def a17c : ACode :=
  a17s62
def a17 : AFn := { np := 1,nv := 11,results := [.v 1,.v 2,.v 3],code := a17c }
def a17v : List Nat := [0,2,3,4,5,6,7,8,9,10,11]
def a17b : List Nat := [7]

def a18r0 : List AOper := [
 op (.v 2) .mv [.c (.bool false)]]
def a18s1 : ACode := .reg [] a18r0
def a18r2 : List AOper := [
 op (.t 5) .mv [.v 0],
 op (.t 6) .nilchk [.t 5],
 op (.t 7) (.fad 4) [.t 6],
 op (.t 8) (.ldSt false 1) [.t 7],
 op (.t 9) (.bin .eql) [.t 8,.c (.int .i64 0)],
 op (.t 10) .mv [.t 9],
 ⟨.t 11,.mv,[.v 0],none,some (.t 10,true)⟩,
 ⟨.t 12,.nilchk,[.t 11],none,some (.t 10,true)⟩,
 ⟨.t 13,.fad 0,[.t 12],none,some (.t 10,true)⟩,
 ⟨.t 14,.ldSt false 1,[.t 13],none,some (.t 10,true)⟩,
 ⟨.t 15,.mv,[.v 0],none,some (.t 10,true)⟩,
 ⟨.t 16,.nilchk,[.t 15],none,some (.t 10,true)⟩,
 ⟨.t 17,.fad 1,[.t 16],none,some (.t 10,true)⟩,
 ⟨.t 18,.ldSt false 1,[.t 17],none,some (.t 10,true)⟩,
 ⟨.t 19,.iad 4,[.t 14,.t 18],none,some (.t 10,true)⟩,
 ⟨.t 20,.fad 0,[.t 19],none,some (.t 10,true)⟩,
 ⟨.t 21,.ldRo false 1,[.t 20],none,some (.t 10,true)⟩,
 ⟨.t 22,.mv,[.v 1],none,some (.t 10,true)⟩,
 ⟨.t 23,.bin .eql,[.t 21,.t 22],none,some (.t 10,true)⟩,
 op (.t 24) .pick [.t 10,.t 23,.c (.bool false)],
 op (.v 2) .mv [.t 24]]
def a18s3 : ACode := .reg [] a18r2
def a18s4 : ACode := .seq a18s3 .ret
def a18s5 : ACode := .seq a18s1 a18s4
def a18c : ACode :=
  a18s5
def a18 : AFn := { np := 2,nv := 3,results := [.v 2],code := a18c }
def a18v : List Nat := [0,1,4]
def a18b : List Nat := []

def a19r0 : List AOper := [
 op (.v 2) .mv [.c (.bool false)]]
def a19s1 : ACode := .reg [] a19r0
def a19r2 : List AOper := [
 op (.t 5) .mv [.v 0],
 op (.t 6) .nilchk [.t 5],
 op (.t 7) (.fad 4) [.t 6],
 op (.t 8) (.ldSt false 1) [.t 7],
 op (.t 9) (.bin .eql) [.t 8,.c (.int .i64 0)],
 op (.t 10) .mv [.t 9],
 ⟨.t 11,.mv,[.v 0],none,some (.t 10,true)⟩,
 ⟨.t 12,.nilchk,[.t 11],none,some (.t 10,true)⟩,
 ⟨.t 13,.fad 0,[.t 12],none,some (.t 10,true)⟩,
 ⟨.t 14,.ldSt false 1,[.t 13],none,some (.t 10,true)⟩,
 ⟨.t 15,.mv,[.v 0],none,some (.t 10,true)⟩,
 ⟨.t 16,.nilchk,[.t 15],none,some (.t 10,true)⟩,
 ⟨.t 17,.fad 1,[.t 16],none,some (.t 10,true)⟩,
 ⟨.t 18,.ldSt false 1,[.t 17],none,some (.t 10,true)⟩,
 ⟨.t 19,.iad 4,[.t 14,.t 18],none,some (.t 10,true)⟩,
 ⟨.t 20,.fad 0,[.t 19],none,some (.t 10,true)⟩,
 ⟨.t 21,.ldRo false 1,[.t 20],none,some (.t 10,true)⟩,
 ⟨.t 22,.bin .eql,[.t 21,.c (.int .u8 1)],none,some (.t 10,true)⟩,
 op (.t 23) .pick [.t 10,.t 22,.c (.bool false)],
 op (.t 24) .mv [.t 23],
 ⟨.t 25,.mv,[.v 0],none,some (.t 24,true)⟩,
 ⟨.t 26,.nilchk,[.t 25],none,some (.t 24,true)⟩,
 ⟨.t 27,.fad 0,[.t 26],none,some (.t 24,true)⟩,
 ⟨.t 28,.ldSt false 1,[.t 27],none,some (.t 24,true)⟩,
 ⟨.t 29,.mv,[.v 0],none,some (.t 24,true)⟩,
 ⟨.t 30,.nilchk,[.t 29],none,some (.t 24,true)⟩,
 ⟨.t 31,.fad 1,[.t 30],none,some (.t 24,true)⟩,
 ⟨.t 32,.ldSt false 1,[.t 31],none,some (.t 24,true)⟩,
 ⟨.t 33,.iad 4,[.t 28,.t 32],none,some (.t 24,true)⟩,
 ⟨.t 34,.fad 1,[.t 33],none,some (.t 24,true)⟩,
 ⟨.t 35,.ldRo false 1,[.t 34],none,some (.t 24,true)⟩,
 ⟨.t 36,.mv,[.v 1],none,some (.t 24,true)⟩,
 ⟨.t 37,.bin .eql,[.t 35,.t 36],none,some (.t 24,true)⟩,
 op (.t 38) .pick [.t 24,.t 37,.c (.bool false)],
 op (.v 2) .mv [.t 38]]
def a19s3 : ACode := .reg [] a19r2
def a19s4 : ACode := .seq a19s3 .ret
def a19s5 : ACode := .seq a19s1 a19s4
def a19c : ACode :=
  a19s5
def a19 : AFn := { np := 2,nv := 3,results := [.v 2],code := a19c }
def a19v : List Nat := [0,1,4]
def a19b : List Nat := []

def a20r0 : List AOper := [
 op (.t 4) .mv [.v 0],
 op (.t 5) .nilchk [.t 4],
 op (.t 6) (.fad 4) [.t 5],
 op (.t 7) (.ldSt false 1) [.t 6],
 op (.t 8) (.bin .eql) [.t 7,.c (.int .i64 0)]]
def a20r1 : List AOper := [
 op (.t 9) .mv [.v 0],
 op (.t 10) .mv [.v 0],
 op (.t 11) .nilchk [.t 10],
 op (.t 12) (.fad 0) [.t 11],
 op (.t 13) (.ldSt false 1) [.t 12],
 op (.t 14) .mv [.v 0],
 op (.t 15) .nilchk [.t 14],
 op (.t 16) (.fad 1) [.t 15],
 op (.t 17) (.ldSt false 1) [.t 16],
 op (.t 18) (.iad 4) [.t 13,.t 17],
 op (.t 19) (.fad 3) [.t 18],
 op (.t 20) (.ldRo false 1) [.t 19],
 op (.t 21) .nilchk [.t 9],
 op (.t 22) (.fad 3) [.t 21],
 op .none (.stSt 1) [.t 22,.t 20]]
def a20s2 : ACode := .reg [] a20r1
def a20r3 : List AOper := [
 op (.t 23) .mv [.v 0],
 op (.t 24) .mv [.v 1],
 op (.t 25) .nilchk [.t 23],
 op (.t 26) (.fad 4) [.t 25],
 op .none (.stSt 1) [.t 26,.t 24]]
def a20s4 : ACode := .reg [] a20r3
def a20s5 : ACode := .seq a20s2 a20s4
def a20s6 : ACode := .test [] a20r0 (.t 8) a20s5 .skip
def a20c : ACode :=
  a20s6
def a20 : AFn := { np := 2,nv := 2,results := [],code := a20c }
def a20v : List Nat := [0,1]
def a20b : List Nat := []

def a21r0 : List AOper := [
 op (.v 1) .mv [.c (.str [])]]
def a21s1 : ACode := .reg [] a21r0
def a21r2 : List AOper := [
 op (.t 3) .mv [.v 0],
 op (.t 4) (.call 18) [.t 3,.c (.int .u8 1)],
 op (.t 5) (.un .not) [.t 4]]
def a21r3 : List AOper := [
 op (.t 6) .mv [.v 0],
 op (.t 7) (.call 20) [.t 6,.c (.int .i64 4)]]
def a21s4 : ACode := .reg [] a21r3
def a21r5 : List AOper := [
 op (.v 1) .mv [.c (.str [])]]
def a21s6 : ACode := .reg [] a21r5
def a21s7 : ACode := .seq a21s6 .ret
def a21s8 : ACode := .seq a21s4 a21s7
def a21s9 : ACode := .test [] a21r2 (.t 5) a21s8 .skip
def a21r10 : List AOper := [
 op (.t 8) .mv [.v 0],
 op (.t 9) .nilchk [.t 8],
 op (.t 10) (.fad 1) [.t 9],
 op (.t 11) (.ldSt false 1) [.t 10],
 op (.t 12) (.bin .add) [.t 11,.c (.int .i64 1)],
 op (.t 13) .nilchk [.t 8],
 op (.t 14) (.fad 1) [.t 13],
 op .none (.stSt 1) [.t 14,.t 12]]
def a21s11 : ACode := .reg [] a21r10
def a21r12 : List AOper := [
 op (.t 15) .mv [.v 0],
 op (.t 16) .nilchk [.t 15],
 op (.t 17) (.fad 0) [.t 16],
 op (.t 18) (.ldSt false 1) [.t 17],
 op (.t 19) .mv [.v 0],
 op (.t 20) .nilchk [.t 19],
 op (.t 21) (.fad 1) [.t 20],
 op (.t 22) (.ldSt false 1) [.t 21],
 op (.t 23) (.bin .sub) [.t 22,.c (.int .i64 1)],
 op (.t 24) (.iad 4) [.t 18,.t 23],
 op (.t 25) (.fad 1) [.t 24],
 op (.t 26) (.ldRo false 1) [.t 25],
 op (.v 1) .mv [.t 26]]
def a21s13 : ACode := .reg [] a21r12
def a21s14 : ACode := .seq a21s13 .ret
def a21s15 : ACode := .seq a21s11 a21s14
def a21s16 : ACode := .seq a21s9 a21s15
def a21s17 : ACode := .seq a21s1 a21s16
def a21c : ACode :=
  a21s17
def a21 : AFn := { np := 1,nv := 2,results := [.v 1],code := a21c }
def a21v : List Nat := [0,2]
def a21b : List Nat := []

def a22r0 : List AOper := [
 op (.t 4) .mv [.v 0],
 op (.t 5) .nilchk [.t 4],
 op (.t 6) (.fad 4) [.t 5],
 op (.t 7) (.ldSt false 1) [.t 6],
 op (.t 8) (.bin .eql) [.t 7,.c (.int .i64 0)],
 op (.t 9) .mv [.t 8],
 ⟨.t 10,.mv,[.v 0],none,some (.t 9,true)⟩,
 ⟨.t 11,.mv,[.v 1],none,some (.t 9,true)⟩,
 ⟨.t 12,.call 25,[.t 10,.t 11],none,some (.t 9,true)⟩,
 ⟨.t 13,.un .not,[.t 12],none,some (.t 9,true)⟩,
 op (.t 14) .pick [.t 9,.t 13,.c (.bool false)]]
def a22r1 : List AOper := [
 op (.t 15) .mv [.v 0],
 op (.t 16) (.call 20) [.t 15,.c (.int .i64 4)]]
def a22s2 : ACode := .reg [] a22r1
def a22s3 : ACode := .test [] a22r0 (.t 14) a22s2 .skip
def a22c : ACode :=
  a22s3
def a22 : AFn := { np := 2,nv := 2,results := [],code := a22c }
def a22v : List Nat := [0,1]
def a22b : List Nat := []

def a23r0 : List AOper := [
 op (.v 1) .mv [.c (.list true [])]]
def a23s1 : ACode := .reg [] a23r0
def a23r2 : List AOper := [
 op (.v 2) .mv [.c (.list true [])]]
def a23s3 : ACode := .reg [] a23r2
def a23r4 : List AOper := [
 op (.t 5) .mv [.v 0],
 op (.t 6) .nilchk [.t 5],
 op (.t 7) (.fad 4) [.t 6],
 op (.t 8) (.ldSt false 1) [.t 7],
 op (.t 9) (.bin .eql) [.t 8,.c (.int .i64 0)],
 op (.t 10) .mv [.t 9],
 ⟨.t 11,.mv,[.v 0],none,some (.t 10,true)⟩,
 ⟨.t 12,.call 39,[.t 11],none,some (.t 10,true)⟩,
 op (.t 13) .pick [.t 10,.t 12,.c (.bool false)]]
def a23r5 : List AOper := [
 op (.t 14) .mv [.v 0],
 op (.t 15) (.call 22) [.t 14,.c (.str [123])]]
def a23s6 : ACode := .reg [] a23r5
def a23r7 : List AOper := [
 op (.t 16) .mv [.v 0],
 op (.t 17) .nilchk [.t 16],
 op (.t 18) (.fad 4) [.t 17],
 op (.t 19) (.ldSt false 1) [.t 18],
 op (.t 20) (.bin .eql) [.t 19,.c (.int .i64 0)]]
def a23s8 : ACode := .test [] a23r7 (.t 20) .skip (.exit 0)
def a23r9 : List AOper := [
 op (.t 21) .mv [.v 0],
 op (.t 22) (.call 40) [.t 21],
 ⟨.bx,.alloc [.int .u8 0,.str [],.str [],.str [],.list true [],.list true [],.list true []],[],some 3,none⟩,
 ⟨.none,.stLc 3 7,[.l 3,.ts 22],some 3,none⟩]
def a23s10 : ACode := .reg [3] a23r9
def a23r11 : List AOper := [
 op (.t 23) .mv [.vs 2],
 ⟨.t 24,.ldLc 3 true 7,[.l 3],some 3,none⟩,
 op (.t 25) (.bslice 7 [[.int .u8 0,.str [],.str [],.str [],.list true [],.list true [],.list true []]] [0]) [.t 24],
 op (.t 26) (.app 7 128) [.ts 23,.t 25],
 op (.v 2) .mv [.ts 26]]
def a23s12 : ACode := .reg [] a23r11
def a23r13 : List AOper := [
 op (.t 27) .mv [.v 0],
 op (.t 28) (.call 25) [.t 27,.c (.str [125])]]
def a23s14 : ACode := .test [] a23r13 (.t 28) (.exit 0) .skip
def a23s15 : ACode := .seq a23s12 a23s14
def a23s16 : ACode := .seq a23s10 a23s15
def a23s17 : ACode := .blk 1 a23s16
def a23s18 : ACode := .seq a23s8 a23s17
def a23s19 : ACode := .loop a23s18
def a23s20 : ACode := .blk 0 a23s19
def a23s21 : ACode := .seq a23s6 a23s20
def a23s22 : ACode := .test [] a23r4 (.t 13) a23s21 .skip
def a23r23 : List AOper := [
 op (.t 29) .mv [.v 0],
 op (.t 30) .nilchk [.t 29],
 op (.t 31) (.fad 2) [.t 30],
 op (.t 32) (.ldSt false 1) [.t 31],
 op (.t 33) (.bin .sub) [.t 32,.c (.int .i64 1)],
 op (.t 34) .nilchk [.t 29],
 op (.t 35) (.fad 2) [.t 34],
 op .none (.stSt 1) [.t 35,.t 33]]
def a23s24 : ACode := .reg [] a23r23
def a23r25 : List AOper := [
 op (.t 36) .mv [.v 2],
 op (.v 1) .mv [.ts 36]]
def a23s26 : ACode := .reg [] a23r25
def a23s27 : ACode := .seq a23s26 .ret
def a23s28 : ACode := .seq a23s24 a23s27
def a23s29 : ACode := .seq a23s22 a23s28
def a23s30 : ACode := .seq a23s3 a23s29
def a23s31 : ACode := .seq a23s1 a23s30
def a23c : ACode :=
  a23s31
def a23 : AFn := { np := 1,nv := 4,results := [.v 1],code := a23c }
def a23v : List Nat := [0,2,3,4]
def a23b : List Nat := [3]

def a24r0 : List AOper := [
 op (.v 2) .mv [.c (.bool false)]]
def a24s1 : ACode := .reg [] a24r0
def a24r2 : List AOper := [
 op (.t 5) .mv [.v 0],
 op (.t 6) .nilchk [.t 5],
 op (.t 7) (.fad 4) [.t 6],
 op (.t 8) (.ldSt false 1) [.t 7],
 op (.t 9) (.bin .eql) [.t 8,.c (.int .i64 0)],
 op (.t 10) .mv [.t 9],
 ⟨.t 11,.mv,[.v 0],none,some (.t 10,true)⟩,
 ⟨.t 12,.nilchk,[.t 11],none,some (.t 10,true)⟩,
 ⟨.t 13,.fad 0,[.t 12],none,some (.t 10,true)⟩,
 ⟨.t 14,.ldSt false 1,[.t 13],none,some (.t 10,true)⟩,
 ⟨.t 15,.mv,[.v 0],none,some (.t 10,true)⟩,
 ⟨.t 16,.nilchk,[.t 15],none,some (.t 10,true)⟩,
 ⟨.t 17,.fad 1,[.t 16],none,some (.t 10,true)⟩,
 ⟨.t 18,.ldSt false 1,[.t 17],none,some (.t 10,true)⟩,
 ⟨.t 19,.iad 4,[.t 14,.t 18],none,some (.t 10,true)⟩,
 ⟨.t 20,.fad 0,[.t 19],none,some (.t 10,true)⟩,
 ⟨.t 21,.ldRo false 1,[.t 20],none,some (.t 10,true)⟩,
 ⟨.t 22,.bin .eql,[.t 21,.c (.int .u8 4)],none,some (.t 10,true)⟩,
 op (.t 23) .pick [.t 10,.t 22,.c (.bool false)],
 op (.t 24) .mv [.t 23],
 ⟨.t 25,.mv,[.v 0],none,some (.t 24,true)⟩,
 ⟨.t 26,.nilchk,[.t 25],none,some (.t 24,true)⟩,
 ⟨.t 27,.fad 0,[.t 26],none,some (.t 24,true)⟩,
 ⟨.t 28,.ldSt false 1,[.t 27],none,some (.t 24,true)⟩,
 ⟨.t 29,.mv,[.v 0],none,some (.t 24,true)⟩,
 ⟨.t 30,.nilchk,[.t 29],none,some (.t 24,true)⟩,
 ⟨.t 31,.fad 1,[.t 30],none,some (.t 24,true)⟩,
 ⟨.t 32,.ldSt false 1,[.t 31],none,some (.t 24,true)⟩,
 ⟨.t 33,.iad 4,[.t 28,.t 32],none,some (.t 24,true)⟩,
 ⟨.t 34,.fad 1,[.t 33],none,some (.t 24,true)⟩,
 ⟨.t 35,.ldRo false 1,[.t 34],none,some (.t 24,true)⟩,
 ⟨.t 36,.mv,[.v 1],none,some (.t 24,true)⟩,
 ⟨.t 37,.bin .eql,[.t 35,.t 36],none,some (.t 24,true)⟩,
 op (.t 38) .pick [.t 24,.t 37,.c (.bool false)],
 op (.v 2) .mv [.t 38]]
def a24s3 : ACode := .reg [] a24r2
def a24s4 : ACode := .seq a24s3 .ret
def a24s5 : ACode := .seq a24s1 a24s4
def a24c : ACode :=
  a24s5
def a24 : AFn := { np := 2,nv := 3,results := [.v 2],code := a24c }
def a24v : List Nat := [0,1,4]
def a24b : List Nat := []

def a25r0 : List AOper := [
 op (.v 2) .mv [.c (.bool false)]]
def a25s1 : ACode := .reg [] a25r0
def a25r2 : List AOper := [
 op (.t 5) .mv [.v 0],
 op (.t 6) .mv [.v 1],
 op (.t 7) (.call 24) [.t 5,.t 6],
 op (.t 8) .mv [.t 7],
 ⟨.t 9,.mv,[.v 0],none,some (.t 8,false)⟩,
 ⟨.t 10,.mv,[.v 1],none,some (.t 8,false)⟩,
 ⟨.t 11,.call 19,[.t 9,.t 10],none,some (.t 8,false)⟩,
 op (.t 12) .pick [.t 8,.c (.bool true),.t 11]]
def a25r3 : List AOper := [
 op (.t 13) .mv [.v 0],
 op (.t 14) .nilchk [.t 13],
 op (.t 15) (.fad 1) [.t 14],
 op (.t 16) (.ldSt false 1) [.t 15],
 op (.t 17) (.bin .add) [.t 16,.c (.int .i64 1)],
 op (.t 18) .nilchk [.t 13],
 op (.t 19) (.fad 1) [.t 18],
 op .none (.stSt 1) [.t 19,.t 17]]
def a25s4 : ACode := .reg [] a25r3
def a25r5 : List AOper := [
 op (.v 2) .mv [.c (.bool true)]]
def a25s6 : ACode := .reg [] a25r5
def a25s7 : ACode := .seq a25s6 .ret
def a25s8 : ACode := .seq a25s4 a25s7
def a25s9 : ACode := .test [] a25r2 (.t 12) a25s8 .skip
def a25r10 : List AOper := [
 op (.v 2) .mv [.c (.bool false)]]
def a25s11 : ACode := .reg [] a25r10
def a25s12 : ACode := .seq a25s11 .ret
def a25s13 : ACode := .seq a25s9 a25s12
def a25s14 : ACode := .seq a25s1 a25s13
def a25c : ACode :=
  a25s14
def a25 : AFn := { np := 2,nv := 3,results := [.v 2],code := a25c }
def a25v : List Nat := [0,1,4]
def a25b : List Nat := []

def a26r0 : List AOper := [
 op (.t 4) .mv [.v 0],
 op (.t 5) .nilchk [.t 4],
 op (.t 6) (.fad 4) [.t 5],
 op (.t 7) (.ldSt false 1) [.t 6],
 op (.t 8) (.bin .eql) [.t 7,.c (.int .i64 0)],
 op (.t 9) .mv [.t 8],
 ⟨.t 10,.mv,[.v 0],none,some (.t 9,true)⟩,
 ⟨.t 11,.mv,[.v 1],none,some (.t 9,true)⟩,
 ⟨.t 12,.call 19,[.t 10,.t 11],none,some (.t 9,true)⟩,
 ⟨.t 13,.un .not,[.t 12],none,some (.t 9,true)⟩,
 op (.t 14) .pick [.t 9,.t 13,.c (.bool false)]]
def a26r1 : List AOper := [
 op (.t 15) .mv [.v 0],
 op (.t 16) (.call 20) [.t 15,.c (.int .i64 4)]]
def a26s2 : ACode := .reg [] a26r1
def a26s3 : ACode := .seq a26s2 .ret
def a26s4 : ACode := .test [] a26r0 (.t 14) a26s3 .skip
def a26r5 : List AOper := [
 op (.t 17) .mv [.v 0],
 op (.t 18) .nilchk [.t 17],
 op (.t 19) (.fad 1) [.t 18],
 op (.t 20) (.ldSt false 1) [.t 19],
 op (.t 21) (.bin .add) [.t 20,.c (.int .i64 1)],
 op (.t 22) .nilchk [.t 17],
 op (.t 23) (.fad 1) [.t 22],
 op .none (.stSt 1) [.t 23,.t 21]]
def a26s6 : ACode := .reg [] a26r5
def a26s7 : ACode := .seq a26s4 a26s6
def a26c : ACode :=
  a26s7
def a26 : AFn := { np := 2,nv := 2,results := [],code := a26c }
def a26v : List Nat := [0,1]
def a26b : List Nat := []

def a27r0 : List AOper := [
 ⟨.bx,.alloc [.str [],.str [],.list true [],.bool false,.bool false,.int .u8 0,.int .i64 0,.str [],.list true [],.list true []],[],some 1,none⟩]
def a27s1 : ACode := .reg [1] a27r0
def a27r2 : List AOper := [
 op (.t 4) .mv [.v 0],
 op (.t 5) (.call 22) [.t 4,.c (.str [36])]]
def a27s3 : ACode := .reg [] a27r2
def a27r4 : List AOper := [
 op (.t 6) .mv [.v 0],
 op (.t 7) (.call 21) [.t 6],
 op (.t 8) (.build [.str [],.str [],.list true [],.bool false,.bool false,.int .u8 0,.int .i64 0,.str [],.list true [],.list true []] [(0,1)]) [.t 7],
 ⟨.bx,.alloc [.str [],.str [],.list true [],.bool false,.bool false,.int .u8 0,.int .i64 0,.str [],.list true [],.list true []],[],some 2,none⟩,
 ⟨.none,.stLc 2 10,[.l 2,.ts 8],some 2,none⟩]
def a27s5 : ACode := .reg [2] a27r4
def a27r6 : List AOper := [
 op (.t 9) .mv [.v 0],
 op (.t 10) (.call 22) [.t 9,.c (.str [58])]]
def a27s7 : ACode := .reg [] a27r6
def a27r8 : List AOper := [
 op (.t 11) .mv [.v 0],
 op (.t 12) (.call 41) [.t 11],
 op (.t 13) (.fad 1) [.l 2],
 ⟨.none,.stLc 2 3,[.t 13,.ts 12],some 2,none⟩]
def a27s9 : ACode := .reg [] a27r8
def a27r10 : List AOper := [
 op (.t 14) .mv [.v 0],
 op (.t 15) (.call 25) [.t 14,.c (.str [61])]]
def a27r11 : List AOper := [
 op (.t 16) (.fad 4) [.l 2],
 ⟨.none,.stLc 2 1,[.t 16,.c (.bool true)],some 2,none⟩]
def a27s12 : ACode := .reg [] a27r11
def a27r13 : List AOper := [
 op (.t 17) .mv [.v 0],
 op (.t 18) (.call 42) [.t 17,.c (.bool true)],
 op (.t 19) (.fad 5) [.l 2],
 ⟨.none,.stLc 2 5,[.t 19,.ts 18],some 2,none⟩]
def a27s14 : ACode := .reg [] a27r13
def a27s15 : ACode := .seq a27s12 a27s14
def a27s16 : ACode := .test [] a27r10 (.t 15) a27s15 .skip
def a27r17 : List AOper := [
 ⟨.t 20,.ldLc 2 true 10,[.l 2],some 2,none⟩,
 ⟨.none,.stLc 1 10,[.l 1,.ts 20],some 1,none⟩]
def a27s18 : ACode := .reg [] a27r17
def a27s19 : ACode := .seq a27s18 .ret
def a27s20 : ACode := .seq a27s16 a27s19
def a27s21 : ACode := .seq a27s9 a27s20
def a27s22 : ACode := .seq a27s7 a27s21
def a27s23 : ACode := .seq a27s5 a27s22
def a27s24 : ACode := .seq a27s3 a27s23
def a27s25 : ACode := .seq a27s1 a27s24
def a27c : ACode :=
  a27s25
def a27 : AFn := { np := 1,nv := 3,results := [.bx 1 true 10],code := a27c }
def a27v : List Nat := [0,2,3]
def a27b : List Nat := [1,2]

def a28r0 : List AOper := [
 op (.v 1) .mv [.c (.list true [])],
 op (.v 2) .mv [.c (.int .i64 0)],
 op (.v 3) .mv [.c (.int .i64 0)]]
def a28s1 : ACode := .reg [] a28r0
def a28r2 : List AOper := [
 op (.t 13) .mv [.v 0],
 op (.t 14) (.call 17) [.t 13],
 op (.t 12) .mv [.t 14],
 op (.t 15) (.ext 0) [.t 12],
 op (.t 16) (.ext 1) [.t 12],
 op (.t 17) (.ext 2) [.t 12],
 op (.v 4) .mv [.ts 15],
 op (.v 5) .mv [.t 16],
 op (.v 6) .mv [.t 17]]
def a28s3 : ACode := .reg [] a28r2
def a28r4 : List AOper := [
 op (.t 18) .mv [.v 6],
 op (.t 19) (.bin .neq) [.t 18,.c (.int .i64 0)]]
def a28r5 : List AOper := [
 op (.t 20) .mv [.v 5],
 op (.t 21) .mv [.v 6],
 op (.v 1) .mv [.c (.list true [])],
 op (.v 2) .mv [.t 20],
 op (.v 3) .mv [.t 21]]
def a28s6 : ACode := .reg [] a28r5
def a28s7 : ACode := .seq a28s6 .ret
def a28s8 : ACode := .test [] a28r4 (.t 19) a28s7 .skip
def a28r9 : List AOper := [
 op (.t 22) .mv [.v 4],
 op (.t 23) (.build [.list true [],.int .i64 0,.int .i64 0,.int .i64 0,.int .i64 0] [(0,1)]) [.t 22],
 op (.t 24) .boxO [.ts 23],
 op (.v 7) .mv [.t 24]]
def a28s10 : ACode := .reg [] a28r9
def a28r11 : List AOper := [
 op (.v 8) .mv [.c (.list true [])]]
def a28s12 : ACode := .reg [] a28r11
def a28r13 : List AOper := [
 op (.v 9) .mv [.c (.bool true)]]
def a28s14 : ACode := .reg [] a28r13
def a28r15 : List AOper := [
 op (.t 25) .mv [.v 9],
 op (.t 26) .mv [.t 25],
 ⟨.t 27,.mv,[.v 7],none,some (.t 26,false)⟩,
 ⟨.t 28,.nilchk,[.t 27],none,some (.t 26,false)⟩,
 ⟨.t 29,.fad 4,[.t 28],none,some (.t 26,false)⟩,
 ⟨.t 30,.ldSt false 1,[.t 29],none,some (.t 26,false)⟩,
 ⟨.t 31,.bin .eql,[.t 30,.c (.int .i64 0)],none,some (.t 26,false)⟩,
 ⟨.t 32,.mv,[.t 31],none,some (.t 26,false)⟩,
 ⟨.t 33,.mv,[.v 7],none,some (.t 32,true)⟩,
 ⟨.t 34,.call 18,[.t 33,.c (.int .u8 0)],none,some (.t 32,true)⟩,
 ⟨.t 35,.un .not,[.t 34],none,some (.t 32,true)⟩,
 ⟨.t 36,.pick,[.t 32,.t 35,.c (.bool false)],none,some (.t 26,false)⟩,
 op (.t 37) .pick [.t 26,.c (.bool true),.t 36]]
def a28s16 : ACode := .test [] a28r15 (.t 37) .skip (.exit 0)
def a28r17 : List AOper := [
 op (.t 38) .mv [.v 7],
 op (.t 39) (.call 43) [.t 38],
 ⟨.bx,.alloc [.int .u8 0,.str [],.list true [],.list true []],[],some 10,none⟩,
 ⟨.none,.stLc 10 4,[.l 10,.ts 39],some 10,none⟩]
def a28s18 : ACode := .reg [10] a28r17
def a28r19 : List AOper := [
 op (.t 40) .mv [.vs 8],
 ⟨.t 41,.ldLc 10 true 4,[.l 10],some 10,none⟩,
 op (.t 42) (.bslice 4 [[.int .u8 0,.str [],.list true [],.list true []]] [0]) [.t 41],
 op (.t 43) (.app 4 72) [.ts 40,.t 42],
 op (.v 8) .mv [.ts 43]]
def a28s20 : ACode := .reg [] a28r19
def a28s21 : ACode := .seq a28s18 a28s20
def a28s22 : ACode := .blk 1 a28s21
def a28r23 : List AOper := [
 op (.v 9) .mv [.c (.bool false)]]
def a28s24 : ACode := .reg [] a28r23
def a28s25 : ACode := .seq a28s22 a28s24
def a28s26 : ACode := .seq a28s16 a28s25
def a28s27 : ACode := .loop a28s26
def a28s28 : ACode := .blk 0 a28s27
def a28s29 : ACode := .seq a28s14 a28s28
def a28r30 : List AOper := [
 op (.t 44) .mv [.v 7],
 op (.t 45) .nilchk [.t 44],
 op (.t 46) (.fad 4) [.t 45],
 op (.t 47) (.ldSt false 1) [.t 46],
 op (.t 48) (.bin .neq) [.t 47,.c (.int .i64 0)]]
def a28r31 : List AOper := [
 op (.t 49) .mv [.v 7],
 op (.t 50) .nilchk [.t 49],
 op (.t 51) (.fad 3) [.t 50],
 op (.t 52) (.ldSt false 1) [.t 51],
 op (.t 53) .mv [.v 7],
 op (.t 54) .nilchk [.t 53],
 op (.t 55) (.fad 4) [.t 54],
 op (.t 56) (.ldSt false 1) [.t 55],
 op (.v 1) .mv [.c (.list true [])],
 op (.v 2) .mv [.t 52],
 op (.v 3) .mv [.t 56]]
def a28s32 : ACode := .reg [] a28r31
def a28s33 : ACode := .seq a28s32 .ret
def a28s34 : ACode := .test [] a28r30 (.t 48) a28s33 .skip
def a28r35 : List AOper := [
 op (.t 57) .mv [.v 8],
 op (.v 1) .mv [.ts 57],
 op (.v 2) .mv [.c (.int .i64 0)],
 op (.v 3) .mv [.c (.int .i64 0)]]
def a28s36 : ACode := .reg [] a28r35
def a28s37 : ACode := .seq a28s36 .ret
def a28s38 : ACode := .seq a28s34 a28s37
def a28s39 : ACode := .seq a28s29 a28s38
def a28s40 : ACode := .seq a28s12 a28s39
def a28s41 : ACode := .seq a28s10 a28s40
def a28s42 : ACode := .seq a28s8 a28s41
def a28s43 : ACode := .seq a28s3 a28s42
def a28s44 : ACode := .seq a28s1 a28s43
def a28c : ACode :=
  a28s44
def a28 : AFn := { np := 1,nv := 11,results := [.v 1,.v 2,.v 3],code := a28c }
def a28v : List Nat := [0,2,3,4,5,6,7,8,9,10,11]
def a28b : List Nat := [10]

def a29r0 : List AOper := [
 op (.v 1) .mv [.c (.nilp)],
 op (.v 2) .mv [.c (.str [])],
 op (.v 3) .mv [.c (.int .i64 0)]]
def a29s1 : ACode := .reg [] a29r0
def a29r2 : List AOper := [
 op (.t 18) .mv [.v 0],
 op (.t 19) (.call 44) [.t 18],
 op (.t 20) .mkM [],
 op (.t 21) (.build [.list true [],.nilm] [(0,1),(1,1)]) [.t 19,.t 20],
 op (.t 22) .boxO [.ts 21],
 op (.v 4) .mv [.t 22]]
def a29s3 : ACode := .reg [] a29r2
def a29r4 : List AOper := [
 op (.v 14) .mv [.v 0],
 op (.v 15) .lenL [.v 14],
 op (.v 16) .mv [.c (.int .i64 0)]]
def a29s5 : ACode := .reg [] a29r4
def a29r6 : List AOper := [
 op (.t 26) (.bin .lss) [.v 16,.v 15]]
def a29s7 : ACode := .test [] a29r6 (.t 26) .skip (.exit 0)
def a29r8 : List AOper := [
 op (.t 27) .mv [.v 16],
 op (.t 28) (.iad 4) [.v 14,.v 16],
 op (.t 29) (.ldRo true 4) [.t 28],
 ⟨.bx,.alloc [.int .u8 0,.str [],.list true [],.list true []],[],some 6,none⟩,
 op (.v 5) .mv [.t 27],
 ⟨.none,.stLc 6 4,[.l 6,.ts 29],some 6,none⟩]
def a29s9 : ACode := .reg [6] a29r8
def a29r10 : List AOper := [
 op (.t 31) .mv [.v 4],
 op (.t 32) .nilchk [.t 31],
 op (.t 33) (.fad 1) [.t 32],
 op (.t 34) (.ldSt false 1) [.t 33],
 op (.t 35) (.fad 1) [.l 6],
 ⟨.t 36,.ldLc 6 false 1,[.t 35],some 6,none⟩,
 op (.t 37) (.mget 1 [.int .i64 0] false true) [.t 34,.t 36],
 op (.t 30) .mv [.t 37],
 op (.t 38) (.ext 0) [.t 30],
 op (.t 39) (.ext 1) [.t 30],
 op (.t 8) .mv [.t 38],
 op (.v 7) .mv [.t 39]]
def a29s11 : ACode := .reg [] a29r10
def a29r12 : List AOper := [
 op (.t 40) .mv [.v 7],
 op (.t 41) .mv [.t 40],
 ⟨.t 42,.slA 4 1 false false,[.c (.ro [.str [66,111,111,108,101,97,110],.str [73,68],.str [73,110,116],.str [83,116,114,105,110,103]])],none,some (.t 41,false)⟩,
 ⟨.t 43,.fad 1,[.l 6],none,some (.t 41,false)⟩,
 ⟨.t 44,.ldLc 6 false 1,[.t 43],some 6,some (.t 41,false)⟩,
 ⟨.t 45,.call 45,[.t 42,.t 44],none,some (.t 41,false)⟩,
 op (.t 46) .pick [.t 41,.c (.bool true),.t 45]]
def a29r13 : List AOper := [
 op (.t 47) (.fad 1) [.l 6],
 ⟨.t 48,.ldLc 6 false 1,[.t 47],some 6,none⟩,
 op (.v 1) .mv [.c (.nilp)],
 op (.v 2) .mv [.t 48],
 op (.v 3) .mv [.c (.int .i64 7)]]
def a29s14 : ACode := .reg [] a29r13
def a29s15 : ACode := .seq a29s14 .ret
def a29s16 : ACode := .test [] a29r12 (.t 46) a29s15 .skip
def a29s17 : ACode := .seq a29s11 a29s16
def a29r18 : List AOper := [
 op (.t 49) (.fad 1) [.l 6],
 ⟨.t 50,.ldLc 6 false 1,[.t 49],some 6,none⟩,
 op (.t 51) (.call 46) [.t 50,.c (.str [95,95])]]
def a29r19 : List AOper := [
 op (.t 52) (.fad 1) [.l 6],
 ⟨.t 53,.ldLc 6 false 1,[.t 52],some 6,none⟩,
 op (.v 1) .mv [.c (.nilp)],
 op (.v 2) .mv [.t 53],
 op (.v 3) .mv [.c (.int .i64 1)]]
def a29s20 : ACode := .reg [] a29r19
def a29s21 : ACode := .seq a29s20 .ret
def a29s22 : ACode := .test [] a29r18 (.t 51) a29s21 .skip
def a29r23 : List AOper := [
 op (.t 54) .mv [.v 4],
 op (.t 55) .nilchk [.t 54],
 op (.t 56) (.fad 1) [.t 55],
 op (.t 57) (.ldSt false 1) [.t 56],
 op (.t 58) (.fad 1) [.l 6],
 ⟨.t 59,.ldLc 6 false 1,[.t 58],some 6,none⟩,
 op (.t 60) .mv [.v 5],
 op .none (.mset 1) [.t 57,.t 59,.t 60]]
def a29s24 : ACode := .reg [] a29r23
def a29s25 : ACode := .seq a29s22 a29s24
def a29s26 : ACode := .seq a29s17 a29s25
def a29s27 : ACode := .seq a29s9 a29s26
def a29s28 : ACode := .blk 1 a29s27
def a29r29 : List AOper := [
 op (.t 61) (.bin .add) [.v 16,.c (.int .i64 1)],
 op (.v 16) .mv [.t 61]]
def a29s30 : ACode := .reg [] a29r29
def a29s31 : ACode := .seq a29s28 a29s30
def a29s32 : ACode := .seq a29s7 a29s31
def a29s33 : ACode := .loop a29s32
def a29s34 : ACode := .blk 0 a29s33
def a29s35 : ACode := .seq a29s5 a29s34
def a29r36 : List AOper := [
 op (.v 17) .mv [.v 0],
 op (.v 18) .lenL [.v 17],
 op (.v 19) .mv [.c (.int .i64 0)]]
def a29s37 : ACode := .reg [] a29r36
def a29r38 : List AOper := [
 op (.t 65) (.bin .lss) [.v 19,.v 18]]
def a29s39 : ACode := .test [] a29r38 (.t 65) .skip (.exit 2)
def a29r40 : List AOper := [
 op (.t 66) (.iad 4) [.v 17,.v 19],
 op (.t 67) (.ldRo true 4) [.t 66],
 ⟨.bx,.alloc [.int .u8 0,.str [],.list true [],.list true []],[],some 8,none⟩,
 ⟨.none,.stLc 8 4,[.l 8,.ts 67],some 8,none⟩]
def a29s41 : ACode := .reg [8] a29r40
def a29r42 : List AOper := [
 op (.t 68) .mv [.v 4],
 ⟨.t 69,.ldLc 8 true 4,[.l 8],some 8,none⟩,
 op (.t 70) (.call 47) [.t 68,.t 69],
 ⟨.bx,.alloc [.int .i64 0,.str []],[],some 9,none⟩,
 ⟨.none,.stLc 9 2,[.l 9,.t 70],some 9,none⟩]
def a29s43 : ACode := .reg [9] a29r42
def a29r44 : List AOper := [
 op (.t 71) (.fad 0) [.l 9],
 ⟨.t 72,.ldLc 9 false 1,[.t 71],some 9,none⟩,
 op (.t 73) (.bin .neq) [.t 72,.c (.int .i64 0)]]
def a29r45 : List AOper := [
 op (.t 74) (.fad 1) [.l 9],
 ⟨.t 75,.ldLc 9 false 1,[.t 74],some 9,none⟩,
 op (.t 76) (.fad 0) [.l 9],
 ⟨.t 77,.ldLc 9 false 1,[.t 76],some 9,none⟩,
 op (.v 1) .mv [.c (.nilp)],
 op (.v 2) .mv [.t 75],
 op (.v 3) .mv [.t 77]]
def a29s46 : ACode := .reg [] a29r45
def a29s47 : ACode := .seq a29s46 .ret
def a29s48 : ACode := .test [] a29r44 (.t 73) a29s47 .skip
def a29s49 : ACode := .seq a29s43 a29s48
def a29s50 : ACode := .seq a29s41 a29s49
def a29s51 : ACode := .blk 3 a29s50
def a29r52 : List AOper := [
 op (.t 78) (.bin .add) [.v 19,.c (.int .i64 1)],
 op (.v 19) .mv [.t 78]]
def a29s53 : ACode := .reg [] a29r52
def a29s54 : ACode := .seq a29s51 a29s53
def a29s55 : ACode := .seq a29s39 a29s54
def a29s56 : ACode := .loop a29s55
def a29s57 : ACode := .blk 2 a29s56
def a29s58 : ACode := .seq a29s37 a29s57
def a29r59 : List AOper := [
 op (.t 80) .mv [.v 4],
 op (.t 81) (.call 48) [.t 80,.c (.str [81,117,101,114,121])],
 op (.t 79) .mv [.t 81],
 op (.t 82) (.ext 0) [.t 79],
 op (.t 83) (.ext 1) [.t 79],
 ⟨.bx,.alloc [.int .u8 0,.str [],.list true [],.list true []],[],some 10,none⟩,
 ⟨.none,.stLc 10 4,[.l 10,.ts 82],some 10,none⟩,
 op (.v 11) .mv [.t 83]]
def a29s60 : ACode := .reg [10] a29r59
def a29r61 : List AOper := [
 op (.t 84) .mv [.v 11],
 op (.t 85) (.un .not) [.t 84],
 op (.t 86) .mv [.t 85],
 ⟨.t 87,.fad 0,[.l 10],none,some (.t 86,false)⟩,
 ⟨.t 88,.ldLc 10 false 1,[.t 87],some 10,some (.t 86,false)⟩,
 ⟨.t 89,.bin .neq,[.t 88,.c (.int .u8 1)],none,some (.t 86,false)⟩,
 op (.t 90) .pick [.t 86,.c (.bool true),.t 89]]
def a29r62 : List AOper := [
 op (.v 1) .mv [.c (.nilp)],
 op (.v 2) .mv [.c (.str [81,117,101,114,121])],
 op (.v 3) .mv [.c (.int .i64 6)]]
def a29s63 : ACode := .reg [] a29r62
def a29s64 : ACode := .seq a29s63 .ret
def a29s65 : ACode := .test [] a29r61 (.t 90) a29s64 .skip
def a29s66 : ACode := .seq a29s60 a29s65
def a29r67 : List AOper := [
 op (.v 20) .mv [.v 0],
 op (.v 21) .lenL [.v 20],
 op (.v 22) .mv [.c (.int .i64 0)]]
def a29s68 : ACode := .reg [] a29r67
def a29r69 : List AOper := [
 op (.t 94) (.bin .lss) [.v 22,.v 21]]
def a29s70 : ACode := .test [] a29r69 (.t 94) .skip (.exit 4)
def a29r71 : List AOper := [
 op (.t 95) (.iad 4) [.v 20,.v 22],
 op (.t 96) (.ldRo true 4) [.t 95],
 ⟨.bx,.alloc [.int .u8 0,.str [],.list true [],.list true []],[],some 12,none⟩,
 ⟨.none,.stLc 12 4,[.l 12,.ts 96],some 12,none⟩]
def a29s72 : ACode := .reg [12] a29r71
def a29r73 : List AOper := [
 op (.t 97) .mv [.v 4],
 ⟨.t 98,.ldLc 12 true 4,[.l 12],some 12,none⟩,
 op (.t 99) (.call 49) [.t 97,.t 98],
 ⟨.bx,.alloc [.int .i64 0,.str []],[],some 13,none⟩,
 ⟨.none,.stLc 13 2,[.l 13,.t 99],some 13,none⟩]
def a29s74 : ACode := .reg [13] a29r73
def a29r75 : List AOper := [
 op (.t 100) (.fad 0) [.l 13],
 ⟨.t 101,.ldLc 13 false 1,[.t 100],some 13,none⟩,
 op (.t 102) (.bin .neq) [.t 101,.c (.int .i64 0)]]
def a29r76 : List AOper := [
 op (.t 103) (.fad 1) [.l 13],
 ⟨.t 104,.ldLc 13 false 1,[.t 103],some 13,none⟩,
 op (.t 105) (.fad 0) [.l 13],
 ⟨.t 106,.ldLc 13 false 1,[.t 105],some 13,none⟩,
 op (.v 1) .mv [.c (.nilp)],
 op (.v 2) .mv [.t 104],
 op (.v 3) .mv [.t 106]]
def a29s77 : ACode := .reg [] a29r76
def a29s78 : ACode := .seq a29s77 .ret
def a29s79 : ACode := .test [] a29r75 (.t 102) a29s78 .skip
def a29s80 : ACode := .seq a29s74 a29s79
def a29s81 : ACode := .seq a29s72 a29s80
def a29s82 : ACode := .blk 5 a29s81
def a29r83 : List AOper := [
 op (.t 107) (.bin .add) [.v 22,.c (.int .i64 1)],
 op (.v 22) .mv [.t 107]]
def a29s84 : ACode := .reg [] a29r83
def a29s85 : ACode := .seq a29s82 a29s84
def a29s86 : ACode := .seq a29s70 a29s85
def a29s87 : ACode := .loop a29s86
def a29s88 : ACode := .blk 4 a29s87
def a29s89 : ACode := .seq a29s68 a29s88
def a29r90 : List AOper := [
 op (.t 108) .mv [.v 4],
 op (.v 1) .mv [.t 108],
 op (.v 2) .mv [.c (.str [])],
 op (.v 3) .mv [.c (.int .i64 0)]]
def a29s91 : ACode := .reg [] a29r90
def a29s92 : ACode := .seq a29s91 .ret
def a29s93 : ACode := .seq a29s89 a29s92
def a29s94 : ACode := .seq a29s66 a29s93
def a29s95 : ACode := .seq a29s58 a29s94
def a29s96 : ACode := .seq a29s35 a29s95
def a29s97 : ACode := .seq a29s3 a29s96
def a29s98 : ACode := .seq a29s1 a29s97
def a29c : ACode :=
  a29s98
def a29 : AFn := { np := 1,nv := 23,results := [.v 1,.v 2,.v 3],code := a29c }
def a29v : List Nat := [0,2,3,4,5,6,7,9,11,12,13,14,16,17,23,24,25,62,63,64,91,92,93]
def a29b : List Nat := [6,8,9,10,12,13]

def a30r0 : List AOper := [
 op (.v 1) .mv [.c (.nilp)],
 op (.v 2) .mv [.c (.str [])],
 op (.v 3) .mv [.c (.int .i64 0)]]
def a30s1 : ACode := .reg [] a30r0
def a30r2 : List AOper := [
 op (.t 14) .mv [.v 0],
 op (.t 15) (.build [.list true []] [(0,1)]) [.t 14],
 op (.t 16) .boxO [.ts 15],
 op (.v 4) .mv [.t 16]]
def a30s3 : ACode := .reg [] a30r2
def a30r4 : List AOper := [
 op (.v 5) .mv [.c (.list true [])]]
def a30s5 : ACode := .reg [] a30r4
def a30r6 : List AOper := [
 op (.v 6) .mv [.c (.int .i64 0)]]
def a30s7 : ACode := .reg [] a30r6
def a30r8 : List AOper := [
 op (.t 17) .mv [.v 6],
 op (.t 18) .mv [.v 0],
 op (.t 19) .lenL [.t 18],
 op (.t 20) (.bin .lss) [.t 17,.t 19]]
def a30s9 : ACode := .test [] a30r8 (.t 20) .skip (.exit 0)
def a30r10 : List AOper := [
 op (.t 23) .mv [.v 0],
 op (.t 24) .mv [.v 6],
 op (.t 25) (.iad 4) [.t 23,.t 24],
 op (.t 26) (.fad 1) [.t 25],
 op (.t 27) (.ldRo false 1) [.t 26],
 op (.v 7) .mv [.t 27]]
def a30s11 : ACode := .reg [] a30r10
def a30r12 : List AOper := [
 op (.t 28) .mv [.v 7],
 op (.t 29) (.call 50) [.t 28],
 op (.t 30) .mv [.t 29],
 ⟨.t 31,.mv,[.v 5],none,some (.t 30,false)⟩,
 ⟨.t 32,.mv,[.v 7],none,some (.t 30,false)⟩,
 ⟨.t 33,.call 51,[.t 31,.t 32],none,some (.t 30,false)⟩,
 op (.t 34) .pick [.t 30,.c (.bool true),.t 33]]
def a30r13 : List AOper := [
 op (.t 35) .mv [.v 7],
 op (.v 1) .mv [.c (.nilp)],
 op (.v 2) .mv [.t 35],
 op (.v 3) .mv [.c (.int .i64 7)]]
def a30s14 : ACode := .reg [] a30r13
def a30s15 : ACode := .seq a30s14 .ret
def a30s16 : ACode := .test [] a30r12 (.t 34) a30s15 .skip
def a30r17 : List AOper := [
 op (.t 36) .mv [.v 7],
 op (.t 37) (.call 52) [.t 36,.c (.str [95,95])]]
def a30r18 : List AOper := [
 op (.t 38) .mv [.v 7],
 op (.v 1) .mv [.c (.nilp)],
 op (.v 2) .mv [.t 38],
 op (.v 3) .mv [.c (.int .i64 1)]]
def a30s19 : ACode := .reg [] a30r18
def a30s20 : ACode := .seq a30s19 .ret
def a30s21 : ACode := .test [] a30r17 (.t 37) a30s20 .skip
def a30r22 : List AOper := [
 op (.t 39) .mv [.vs 5],
 op (.t 40) .mv [.v 7],
 op (.t 41) (.bslice 1 [[.str []]] [0]) [.t 40],
 op (.t 42) (.app 1 16) [.ts 39,.t 41],
 op (.v 5) .mv [.ts 42]]
def a30s23 : ACode := .reg [] a30r22
def a30s24 : ACode := .seq a30s21 a30s23
def a30s25 : ACode := .seq a30s16 a30s24
def a30s26 : ACode := .seq a30s11 a30s25
def a30s27 : ACode := .blk 1 a30s26
def a30r28 : List AOper := [
 op (.t 21) .mv [.v 6],
 op (.t 22) (.bin .add) [.t 21,.c (.int .i64 1)],
 op (.v 6) .mv [.t 22]]
def a30s29 : ACode := .reg [] a30r28
def a30s30 : ACode := .seq a30s27 a30s29
def a30s31 : ACode := .seq a30s9 a30s30
def a30s32 : ACode := .loop a30s31
def a30s33 : ACode := .blk 0 a30s32
def a30s34 : ACode := .seq a30s7 a30s33
def a30r35 : List AOper := [
 op (.v 8) .mv [.c (.int .i64 0)]]
def a30s36 : ACode := .reg [] a30r35
def a30r37 : List AOper := [
 op (.t 43) .mv [.v 8],
 op (.t 44) .mv [.v 0],
 op (.t 45) .lenL [.t 44],
 op (.t 46) (.bin .lss) [.t 43,.t 45]]
def a30s38 : ACode := .test [] a30r37 (.t 46) .skip (.exit 2)
def a30r39 : List AOper := [
 op (.t 50) .mv [.v 4],
 op (.t 51) .mv [.v 0],
 op (.t 52) .mv [.v 8],
 op (.t 53) (.iad 4) [.t 51,.t 52],
 op (.t 54) (.ldRo true 4) [.t 53],
 op (.t 55) (.call 53) [.t 50,.t 54],
 op (.t 49) .mv [.t 55],
 op (.t 56) (.ext 0) [.t 49],
 op (.t 57) (.ext 1) [.t 49],
 op (.v 9) .mv [.t 56],
 op (.v 10) .mv [.t 57]]
def a30s40 : ACode := .reg [] a30r39
def a30r41 : List AOper := [
 op (.t 58) .mv [.v 10],
 op (.t 59) (.bin .neq) [.t 58,.c (.int .i64 0)]]
def a30r42 : List AOper := [
 op (.t 60) .mv [.v 9],
 op (.t 61) .mv [.v 10],
 op (.v 1) .mv [.c (.nilp)],
 op (.v 2) .mv [.t 60],
 op (.v 3) .mv [.t 61]]
def a30s43 : ACode := .reg [] a30r42
def a30s44 : ACode := .seq a30s43 .ret
def a30s45 : ACode := .test [] a30r41 (.t 59) a30s44 .skip
def a30s46 : ACode := .seq a30s40 a30s45
def a30s47 : ACode := .blk 3 a30s46
def a30r48 : List AOper := [
 op (.t 47) .mv [.v 8],
 op (.t 48) (.bin .add) [.t 47,.c (.int .i64 1)],
 op (.v 8) .mv [.t 48]]
def a30s49 : ACode := .reg [] a30r48
def a30s50 : ACode := .seq a30s47 a30s49
def a30s51 : ACode := .seq a30s38 a30s50
def a30s52 : ACode := .loop a30s51
def a30s53 : ACode := .blk 2 a30s52
def a30s54 : ACode := .seq a30s36 a30s53
def a30r55 : List AOper := [
 op (.t 62) .mv [.v 4],
 op (.t 63) (.call 54) [.t 62,.c (.str [81,117,101,114,121])],
 op (.t 64) (.fld 0 1 false) [.t 63],
 op (.t 65) (.bin .neq) [.t 64,.c (.int .u8 1)]]
def a30r56 : List AOper := [
 op (.v 1) .mv [.c (.nilp)],
 op (.v 2) .mv [.c (.str [81,117,101,114,121])],
 op (.v 3) .mv [.c (.int .i64 6)]]
def a30s57 : ACode := .reg [] a30r56
def a30s58 : ACode := .seq a30s57 .ret
def a30s59 : ACode := .test [] a30r55 (.t 65) a30s58 .skip
def a30r60 : List AOper := [
 op (.v 11) .mv [.c (.int .i64 0)]]
def a30s61 : ACode := .reg [] a30r60
def a30r62 : List AOper := [
 op (.t 66) .mv [.v 11],
 op (.t 67) .mv [.v 0],
 op (.t 68) .lenL [.t 67],
 op (.t 69) (.bin .lss) [.t 66,.t 68]]
def a30s63 : ACode := .test [] a30r62 (.t 69) .skip (.exit 4)
def a30r64 : List AOper := [
 op (.t 72) .mv [.v 0],
 op (.t 73) .mv [.v 11],
 op (.t 74) (.iad 4) [.t 72,.t 73],
 op (.t 75) (.fad 0) [.t 74],
 op (.t 76) (.ldRo false 1) [.t 75],
 op (.t 77) (.bin .neq) [.t 76,.c (.int .u8 1)],
 op (.t 78) .mv [.t 77],
 ⟨.t 79,.mv,[.v 0],none,some (.t 78,true)⟩,
 ⟨.t 80,.mv,[.v 11],none,some (.t 78,true)⟩,
 ⟨.t 81,.iad 4,[.t 79,.t 80],none,some (.t 78,true)⟩,
 ⟨.t 82,.fad 0,[.t 81],none,some (.t 78,true)⟩,
 ⟨.t 83,.ldRo false 1,[.t 82],none,some (.t 78,true)⟩,
 ⟨.t 84,.bin .neq,[.t 83,.c (.int .u8 2)],none,some (.t 78,true)⟩,
 op (.t 85) .pick [.t 78,.t 84,.c (.bool false)]]
def a30s65 : ACode := .test [] a30r64 (.t 85) (.exit 5) .skip
def a30r66 : List AOper := [
 op (.v 12) .mv [.c (.int .i64 0)]]
def a30s67 : ACode := .reg [] a30r66
def a30r68 : List AOper := [
 op (.t 86) .mv [.v 12],
 op (.t 87) .mv [.v 0],
 op (.t 88) .mv [.v 11],
 op (.t 89) (.iad 4) [.t 87,.t 88],
 op (.t 90) (.fad 2) [.t 89],
 op (.t 91) (.ldRo false 1) [.t 90],
 op (.t 92) .lenL [.t 91],
 op (.t 93) (.bin .lss) [.t 86,.t 92]]
def a30s69 : ACode := .test [] a30r68 (.t 93) .skip (.exit 6)
def a30r70 : List AOper := [
 op (.t 96) .mv [.v 4],
 op (.t 97) .mv [.v 0],
 op (.t 98) .mv [.v 11],
 op (.t 99) (.iad 4) [.t 97,.t 98],
 op (.t 100) (.ldRo true 4) [.t 99],
 op (.t 101) .mv [.v 0],
 op (.t 102) .mv [.v 11],
 op (.t 103) (.iad 4) [.t 101,.t 102],
 op (.t 104) (.fad 2) [.t 103],
 op (.t 105) (.ldRo false 1) [.t 104],
 op (.t 106) .mv [.v 12],
 op (.t 107) (.iad 11) [.t 105,.t 106],
 op (.t 108) (.ldRo true 11) [.t 107],
 op (.t 109) (.call 55) [.t 96,.t 100,.t 108],
 op (.t 110) (.un .not) [.t 109]]
def a30r71 : List AOper := [
 op (.t 111) .mv [.v 0],
 op (.t 112) .mv [.v 11],
 op (.t 113) (.iad 4) [.t 111,.t 112],
 op (.t 114) (.fad 2) [.t 113],
 op (.t 115) (.ldRo false 1) [.t 114],
 op (.t 116) .mv [.v 12],
 op (.t 117) (.iad 11) [.t 115,.t 116],
 op (.t 118) (.fad 0) [.t 117],
 op (.t 119) (.ldRo false 1) [.t 118],
 op (.v 1) .mv [.c (.nilp)],
 op (.v 2) .mv [.t 119],
 op (.v 3) .mv [.c (.int .i64 3)]]
def a30s72 : ACode := .reg [] a30r71
def a30s73 : ACode := .seq a30s72 .ret
def a30s74 : ACode := .test [] a30r70 (.t 110) a30s73 .skip
def a30s75 : ACode := .blk 7 a30s74
def a30r76 : List AOper := [
 op (.t 94) .mv [.v 12],
 op (.t 95) (.bin .add) [.t 94,.c (.int .i64 1)],
 op (.v 12) .mv [.t 95]]
def a30s77 : ACode := .reg [] a30r76
def a30s78 : ACode := .seq a30s75 a30s77
def a30s79 : ACode := .seq a30s69 a30s78
def a30s80 : ACode := .loop a30s79
def a30s81 : ACode := .blk 6 a30s80
def a30s82 : ACode := .seq a30s67 a30s81
def a30s83 : ACode := .seq a30s65 a30s82
def a30s84 : ACode := .blk 5 a30s83
def a30r85 : List AOper := [
 op (.t 70) .mv [.v 11],
 op (.t 71) (.bin .add) [.t 70,.c (.int .i64 1)],
 op (.v 11) .mv [.t 71]]
def a30s86 : ACode := .reg [] a30r85
def a30s87 : ACode := .seq a30s84 a30s86
def a30s88 : ACode := .seq a30s63 a30s87
def a30s89 : ACode := .loop a30s88
def a30s90 : ACode := .blk 4 a30s89
def a30s91 : ACode := .seq a30s61 a30s90
def a30r92 : List AOper := [
 op (.t 120) .mv [.v 4],
 op (.v 1) .mv [.t 120],
 op (.v 2) .mv [.c (.str [])],
 op (.v 3) .mv [.c (.int .i64 0)]]
def a30s93 : ACode := .reg [] a30r92
def a30s94 : ACode := .seq a30s93 .ret
def a30s95 : ACode := .seq a30s91 a30s94
def a30s96 : ACode := .seq a30s59 a30s95
def a30s97 : ACode := .seq a30s54 a30s96
def a30s98 : ACode := .seq a30s34 a30s97
def a30s99 : ACode := .seq a30s5 a30s98
def a30s100 : ACode := .seq a30s3 a30s99
def a30s101 : ACode := .seq a30s1 a30s100
def a30c : ACode :=
  a30s101
def a30 : AFn := { np := 1,nv := 13,results := [.v 1,.v 2,.v 3],code := a30c }
def a30v : List Nat := [0,2,3,4,5,6,7,8,9,10,11,12,13]
def a30b : List Nat := []

def a31r0 : List AOper := [
 op (.v 4) .mv [.v 1],
 op (.v 5) .lenL [.v 4],
 op (.v 6) .mv [.c (.int .i64 0)]]
def a31s1 : ACode := .reg [] a31r0
def a31r2 : List AOper := [
 op (.t 10) (.bin .lss) [.v 6,.v 5]]
def a31s3 : ACode := .test [] a31r2 (.t 10) .skip (.exit 0)
def a31r4 : List AOper := [
 op (.t 11) (.iad 7) [.v 4,.v 6],
 op (.t 12) (.ldAn true 7) [.t 11],
 op (.v 2) (.allocO [.int .u8 0,.str [],.str [],.str [],.list true [],.list true [],.list true []]) [],
 op .none (.stSt 7) [.v 2,.ts 12]]
def a31s5 : ACode := .reg [] a31r4
def a31r6 : List AOper := [
 op (.t 13) .mv [.v 0],
 op (.t 14) (.ldSt true 7) [.v 2],
 op (.t 15) (.call 56) [.t 13,.t 14],
 op (.t 16) (.un .not) [.t 15]]
def a31s7 : ACode := .test [] a31r6 (.t 16) (.exit 1) .skip
def a31r8 : List AOper := [
 op (.t 17) (.fad 0) [.v 2],
 op (.v 7) (.ldSt false 1) [.t 17]]
def a31s9 : ACode := .reg [] a31r8
def a31r10 : List AOper := [
 op (.t 33) (.bin .eql) [.v 7,.c (.int .u8 1)],
 op (.t 32) .mv [.t 33]]
def a31r11 : List AOper := [
 op (.t 34) .mv [.v 0],
 op (.t 35) (.ldSt true 7) [.v 2],
 op (.t 36) (.call 57) [.t 34,.t 35]]
def a31s12 : ACode := .reg [] a31r11
def a31r13 : List AOper := [
 op (.t 38) (.bin .eql) [.v 7,.c (.int .u8 2)],
 op (.t 37) .mv [.t 38]]
def a31r14 : List AOper := [
 op (.t 39) .mv [.v 0],
 op (.t 40) .nilchk [.t 39],
 op (.t 41) (.fad 1) [.t 40],
 op (.t 42) (.fad 1) [.t 41],
 op (.t 43) (.ldSt false 1) [.t 42],
 op (.t 44) (.mkF 59 0) [.v 2],
 op (.t 45) (.call 58) [.t 43,.t 44],
 op (.v 3) .mv [.t 45]]
def a31s15 : ACode := .reg [] a31r14
def a31r16 : List AOper := [
 op (.t 46) .mv [.v 3],
 op (.t 47) (.bin .lss) [.t 46,.c (.int .i64 0)],
 op (.t 48) .mv [.t 47],
 ⟨.t 49,.mv,[.v 0],none,some (.t 48,false)⟩,
 ⟨.t 50,.nilchk,[.t 49],none,some (.t 48,false)⟩,
 ⟨.t 51,.fad 9,[.t 50],none,some (.t 48,false)⟩,
 ⟨.t 52,.ldSt false 1,[.t 51],none,some (.t 48,false)⟩,
 ⟨.t 53,.fad 2,[.v 2],none,some (.t 48,false)⟩,
 ⟨.t 54,.ldSt false 1,[.t 53],none,some (.t 48,false)⟩,
 ⟨.t 55,.call 45,[.t 52,.t 54],none,some (.t 48,false)⟩,
 op (.t 56) .pick [.t 48,.c (.bool true),.t 55]]
def a31s17 : ACode := .test [] a31r16 (.t 56) (.exit 1) .skip
def a31r18 : List AOper := [
 op (.t 57) .mv [.v 0],
 op (.t 58) .mv [.v 0],
 op (.t 59) .nilchk [.t 58],
 op (.t 60) (.fad 9) [.t 59],
 op (.t 61) .ldStS [.t 60],
 op (.t 62) (.fad 2) [.v 2],
 op (.t 63) (.ldSt false 1) [.t 62],
 op (.t 64) (.bslice 1 [[.str []]] [0]) [.t 63],
 op (.t 65) (.app 1 16) [.ts 61,.t 64],
 op (.t 66) .nilchk [.t 57],
 op (.t 67) (.fad 9) [.t 66],
 op .none (.stSt 1) [.t 67,.ts 65]]
def a31s19 : ACode := .reg [] a31r18
def a31r20 : List AOper := [
 op (.t 68) .mv [.v 0],
 op (.t 69) .mv [.v 0],
 op (.t 70) .nilchk [.t 69],
 op (.t 71) (.fad 1) [.t 70],
 op (.t 72) (.fad 1) [.t 71],
 op (.t 73) (.ldSt false 1) [.t 72],
 op (.t 74) .mv [.v 3],
 op (.t 75) (.iad 3) [.t 73,.t 74],
 op (.t 76) (.fad 1) [.t 75],
 op (.t 77) (.ldRo false 1) [.t 76],
 op (.t 78) (.call 60) [.t 68,.t 77]]
def a31r21 : List AOper := [
 op (.t 79) .mv [.v 0],
 op (.t 80) .mv [.v 0],
 op (.t 81) .nilchk [.t 80],
 op (.t 82) (.fad 1) [.t 81],
 op (.t 83) (.fad 1) [.t 82],
 op (.t 84) (.ldSt false 1) [.t 83],
 op (.t 85) .mv [.v 3],
 op (.t 86) (.iad 3) [.t 84,.t 85],
 op (.t 87) (.fad 2) [.t 86],
 op (.t 88) (.ldRo false 1) [.t 87],
 op (.t 89) (.call 31) [.t 79,.t 88]]
def a31s22 : ACode := .reg [] a31r21
def a31s23 : ACode := .test [] a31r20 (.t 78) a31s22 .skip
def a31s24 : ACode := .seq a31s19 a31s23
def a31s25 : ACode := .seq a31s17 a31s24
def a31s26 : ACode := .seq a31s15 a31s25
def a31r27 : List AOper := [
 op (.t 19) (.fad 3) [.v 2],
 op (.t 20) (.ldSt false 1) [.t 19],
 op (.t 21) (.bin .eql) [.t 20,.c (.str [])],
 op (.t 22) .mv [.t 21],
 ⟨.t 23,.mv,[.v 0],none,some (.t 22,false)⟩,
 ⟨.t 24,.fad 3,[.v 2],none,some (.t 22,false)⟩,
 ⟨.t 25,.ldSt false 1,[.t 24],none,some (.t 22,false)⟩,
 ⟨.t 26,.call 60,[.t 23,.t 25],none,some (.t 22,false)⟩,
 op (.t 27) .pick [.t 22,.c (.bool true),.t 26]]
def a31r28 : List AOper := [
 op (.t 28) .mv [.v 0],
 op (.t 29) (.fad 6) [.v 2],
 op (.t 30) (.ldSt false 1) [.t 29],
 op (.t 31) (.call 31) [.t 28,.t 30]]
def a31s29 : ACode := .reg [] a31r28
def a31s30 : ACode := .test [] a31r27 (.t 27) a31s29 .skip
def a31s31 : ACode := .test [] a31r13 (.t 37) a31s26 a31s30
def a31s32 : ACode := .test [] a31r10 (.t 32) a31s12 a31s31
def a31s33 : ACode := .blk 2 a31s32
def a31s34 : ACode := .seq a31s9 a31s33
def a31s35 : ACode := .seq a31s7 a31s34
def a31s36 : ACode := .seq a31s5 a31s35
def a31s37 : ACode := .blk 1 a31s36
def a31r38 : List AOper := [
 op (.t 90) (.bin .add) [.v 6,.c (.int .i64 1)],
 op (.v 6) .mv [.t 90]]
def a31s39 : ACode := .reg [] a31r38
def a31s40 : ACode := .seq a31s37 a31s39
def a31s41 : ACode := .seq a31s3 a31s40
def a31s42 : ACode := .loop a31s41
def a31s43 : ACode := .blk 0 a31s42
def a31s44 : ACode := .seq a31s1 a31s43
def a31c : ACode :=
  a31s44
def a31 : AFn := { np := 2,nv := 8,results := [],code := a31c }
def a31v : List Nat := [0,1,5,6,7,8,9,18]
def a31b : List Nat := []

def a38r0 : List AOper := [
 ⟨.bx,.alloc [.int .u8 0,.str [],.int .i64 0,.int .i64 0],[],some 2,none⟩,
 op (.v 3) .mv [.c (.int .i64 0)],
 op (.v 4) .mv [.c (.int .i64 0)],
 op (.v 5) .mv [.c (.int .i64 0)]]
def a38s1 : ACode := .reg [2] a38r0
def a38r2 : List AOper := [
 op (.t 10) .mv [.v 0],
 op (.t 11) .mv [.v 1],
 op (.t 12) .idxS [.t 10,.t 11],
 op (.v 6) .mv [.t 12]]
def a38s3 : ACode := .reg [] a38r2
def a38r4 : List AOper := [
 op (.t 13) .mv [.v 1],
 op (.v 7) .mv [.t 13]]
def a38s5 : ACode := .reg [] a38r4
def a38r6 : List AOper := [
 op (.t 15) .mv [.v 6],
 op (.t 16) (.call 64) [.t 15],
 op (.t 14) .mv [.t 16]]
def a38r7 : List AOper := [
 op (.t 17) .mv [.v 7],
 op (.t 18) .mv [.v 0],
 op (.t 19) .lenS [.t 18],
 op (.t 20) (.bin .lss) [.t 17,.t 19],
 op (.t 21) .mv [.t 20],
 ⟨.t 22,.mv,[.v 0],none,some (.t 21,true)⟩,
 ⟨.t 23,.mv,[.v 7],none,some (.t 21,true)⟩,
 ⟨.t 24,.idxS,[.t 22,.t 23],none,some (.t 21,true)⟩,
 ⟨.t 25,.call 64,[.t 24],none,some (.t 21,true)⟩,
 ⟨.t 26,.mv,[.t 25],none,some (.t 21,true)⟩,
 ⟨.t 27,.mv,[.v 0],none,some (.t 26,false)⟩,
 ⟨.t 28,.mv,[.v 7],none,some (.t 26,false)⟩,
 ⟨.t 29,.idxS,[.t 27,.t 28],none,some (.t 26,false)⟩,
 ⟨.t 30,.call 65,[.t 29],none,some (.t 26,false)⟩,
 ⟨.t 31,.pick,[.t 26,.c (.bool true),.t 30],none,some (.t 21,true)⟩,
 op (.t 32) .pick [.t 21,.t 31,.c (.bool false)]]
def a38s8 : ACode := .test [] a38r7 (.t 32) .skip (.exit 1)
def a38r9 : List AOper := [
 op (.t 33) .mv [.v 7],
 op (.t 34) (.bin .add) [.t 33,.c (.int .i64 1)],
 op (.v 7) .mv [.t 34]]
def a38s10 : ACode := .reg [] a38r9
def a38s11 : ACode := .blk 2 a38s10
def a38s12 : ACode := .seq a38s8 a38s11
def a38s13 : ACode := .loop a38s12
def a38s14 : ACode := .blk 1 a38s13
def a38r15 : List AOper := [
 op (.t 35) .mv [.v 7],
 op (.t 36) .mv [.v 1],
 op (.t 37) (.bin .sub) [.t 35,.t 36],
 op (.t 38) (.bin .gtr) [.t 37,.c (.int .i64 32)]]
def a38r16 : List AOper := [
 op (.t 39) (.build [.int .u8 0,.str [],.int .i64 0,.int .i64 0] []) [],
 op (.t 40) .mv [.v 1],
 ⟨.none,.stLc 2 4,[.l 2,.t 39],some 2,none⟩,
 op (.v 3) .mv [.c (.int .i64 0)],
 op (.v 4) .mv [.t 40],
 op (.v 5) .mv [.c (.int .i64 2)]]
def a38s17 : ACode := .reg [] a38r16
def a38s18 : ACode := .seq a38s17 .ret
def a38s19 : ACode := .test [] a38r15 (.t 38) a38s18 .skip
def a38r20 : List AOper := [
 op (.t 41) .mv [.v 0],
 op (.t 42) .mv [.v 1],
 op (.t 43) .mv [.v 7],
 op (.t 44) (.slS true true) [.t 41,.t 42,.t 43],
 op (.t 45) (.build [.int .u8 0,.str [],.int .i64 0,.int .i64 0] [(0,1),(1,1)]) [.c (.int .u8 1),.t 44],
 op (.t 46) .mv [.v 7],
 ⟨.none,.stLc 2 4,[.l 2,.t 45],some 2,none⟩,
 op (.v 3) .mv [.t 46],
 op (.v 4) .mv [.c (.int .i64 0)],
 op (.v 5) .mv [.c (.int .i64 0)]]
def a38s21 : ACode := .reg [] a38r20
def a38s22 : ACode := .seq a38s21 .ret
def a38s23 : ACode := .seq a38s19 a38s22
def a38s24 : ACode := .seq a38s14 a38s23
def a38r25 : List AOper := [
 op (.t 48) .mv [.v 6],
 op (.t 49) (.bin .eql) [.t 48,.c (.int .u8 45)],
 op (.t 50) .mv [.t 49],
 ⟨.t 51,.mv,[.v 6],none,some (.t 50,false)⟩,
 ⟨.t 52,.call 65,[.t 51],none,some (.t 50,false)⟩,
 op (.t 53) .pick [.t 50,.c (.bool true),.t 52],
 op (.t 47) .mv [.t 53]]
def a38r26 : List AOper := [
 op (.t 54) .mv [.v 0],
 op (.t 55) .mv [.v 1],
 op (.t 56) (.call 66) [.t 54,.t 55],
 op (.t 57) (.ext 0) [.t 56],
 op (.t 58) (.ext 1) [.t 56],
 op (.t 59) (.ext 2) [.t 56],
 op (.t 60) (.ext 3) [.t 56],
 ⟨.none,.stLc 2 4,[.l 2,.t 57],some 2,none⟩,
 op (.v 3) .mv [.t 58],
 op (.v 4) .mv [.t 59],
 op (.v 5) .mv [.t 60]]
def a38s27 : ACode := .reg [] a38r26
def a38s28 : ACode := .seq a38s27 .ret
def a38r29 : List AOper := [
 op (.t 62) .mv [.v 6],
 op (.t 63) (.bin .eql) [.t 62,.c (.int .u8 34)],
 op (.t 61) .mv [.t 63]]
def a38r30 : List AOper := [
 op (.t 64) .mv [.v 0],
 op (.t 65) .mv [.v 1],
 op (.t 66) (.call 67) [.t 64,.t 65],
 op (.t 67) (.ext 0) [.t 66],
 op (.t 68) (.ext 1) [.t 66],
 op (.t 69) (.ext 2) [.t 66],
 op (.t 70) (.ext 3) [.t 66],
 ⟨.none,.stLc 2 4,[.l 2,.t 67],some 2,none⟩,
 op (.v 3) .mv [.t 68],
 op (.v 4) .mv [.t 69],
 op (.v 5) .mv [.t 70]]
def a38s31 : ACode := .reg [] a38r30
def a38s32 : ACode := .seq a38s31 .ret
def a38r33 : List AOper := [
 op (.t 72) .mv [.v 6],
 op (.t 73) (.bin .eql) [.t 72,.c (.int .u8 46)],
 op (.t 71) .mv [.t 73]]
def a38r34 : List AOper := [
 op (.t 74) .mv [.v 0],
 op (.t 75) .lenS [.t 74],
 op (.t 76) .mv [.v 1],
 op (.t 77) (.bin .sub) [.t 75,.t 76],
 op (.t 78) (.bin .geq) [.t 77,.c (.int .i64 3)],
 op (.t 79) .mv [.t 78],
 ⟨.t 80,.mv,[.v 0],none,some (.t 79,true)⟩,
 ⟨.t 81,.mv,[.v 1],none,some (.t 79,true)⟩,
 ⟨.t 82,.bin .add,[.t 81,.c (.int .i64 1)],none,some (.t 79,true)⟩,
 ⟨.t 83,.idxS,[.t 80,.t 82],none,some (.t 79,true)⟩,
 ⟨.t 84,.bin .eql,[.t 83,.c (.int .u8 46)],none,some (.t 79,true)⟩,
 op (.t 85) .pick [.t 79,.t 84,.c (.bool false)],
 op (.t 86) .mv [.t 85],
 ⟨.t 87,.mv,[.v 0],none,some (.t 86,true)⟩,
 ⟨.t 88,.mv,[.v 1],none,some (.t 86,true)⟩,
 ⟨.t 89,.bin .add,[.t 88,.c (.int .i64 2)],none,some (.t 86,true)⟩,
 ⟨.t 90,.idxS,[.t 87,.t 89],none,some (.t 86,true)⟩,
 ⟨.t 91,.bin .eql,[.t 90,.c (.int .u8 46)],none,some (.t 86,true)⟩,
 op (.t 92) .pick [.t 86,.t 91,.c (.bool false)]]
def a38r35 : List AOper := [
 op (.t 93) (.build [.int .u8 0,.str [],.int .i64 0,.int .i64 0] [(0,1),(1,1)]) [.c (.int .u8 4),.c (.str [46,46,46])],
 op (.t 94) .mv [.v 1],
 op (.t 95) (.bin .add) [.t 94,.c (.int .i64 3)],
 ⟨.none,.stLc 2 4,[.l 2,.t 93],some 2,none⟩,
 op (.v 3) .mv [.t 95],
 op (.v 4) .mv [.c (.int .i64 0)],
 op (.v 5) .mv [.c (.int .i64 0)]]
def a38s36 : ACode := .reg [] a38r35
def a38s37 : ACode := .seq a38s36 .ret
def a38s38 : ACode := .test [] a38r34 (.t 92) a38s37 .skip
def a38r39 : List AOper := [
 op (.t 96) (.build [.int .u8 0,.str [],.int .i64 0,.int .i64 0] []) [],
 op (.t 97) .mv [.v 1],
 ⟨.none,.stLc 2 4,[.l 2,.t 96],some 2,none⟩,
 op (.v 3) .mv [.c (.int .i64 0)],
 op (.v 4) .mv [.t 97],
 op (.v 5) .mv [.c (.int .i64 4)]]
def a38s40 : ACode := .reg [] a38r39
def a38s41 : ACode := .seq a38s40 .ret
def a38s42 : ACode := .seq a38s38 a38s41
def a38r43 : List AOper := [
 op (.t 99) .mv [.v 6],
 op (.t 100) (.bin .eql) [.t 99,.c (.int .u8 33)],
 op (.t 101) .mv [.t 100],
 ⟨.t 102,.mv,[.v 6],none,some (.t 101,false)⟩,
 ⟨.t 103,.bin .eql,[.t 102,.c (.int .u8 36)],none,some (.t 101,false)⟩,
 op (.t 104) .pick [.t 101,.c (.bool true),.t 103],
 op (.t 105) .mv [.t 104],
 ⟨.t 106,.mv,[.v 6],none,some (.t 105,false)⟩,
 ⟨.t 107,.bin .eql,[.t 106,.c (.int .u8 40)],none,some (.t 105,false)⟩,
 op (.t 108) .pick [.t 105,.c (.bool true),.t 107],
 op (.t 109) .mv [.t 108],
 ⟨.t 110,.mv,[.v 6],none,some (.t 109,false)⟩,
 ⟨.t 111,.bin .eql,[.t 110,.c (.int .u8 41)],none,some (.t 109,false)⟩,
 op (.t 112) .pick [.t 109,.c (.bool true),.t 111],
 op (.t 113) .mv [.t 112],
 ⟨.t 114,.mv,[.v 6],none,some (.t 113,false)⟩,
 ⟨.t 115,.bin .eql,[.t 114,.c (.int .u8 58)],none,some (.t 113,false)⟩,
 op (.t 116) .pick [.t 113,.c (.bool true),.t 115],
 op (.t 117) .mv [.t 116],
 ⟨.t 118,.mv,[.v 6],none,some (.t 117,false)⟩,
 ⟨.t 119,.bin .eql,[.t 118,.c (.int .u8 61)],none,some (.t 117,false)⟩,
 op (.t 120) .pick [.t 117,.c (.bool true),.t 119],
 op (.t 121) .mv [.t 120],
 ⟨.t 122,.mv,[.v 6],none,some (.t 121,false)⟩,
 ⟨.t 123,.bin .eql,[.t 122,.c (.int .u8 64)],none,some (.t 121,false)⟩,
 op (.t 124) .pick [.t 121,.c (.bool true),.t 123],
 op (.t 125) .mv [.t 124],
 ⟨.t 126,.mv,[.v 6],none,some (.t 125,false)⟩,
 ⟨.t 127,.bin .eql,[.t 126,.c (.int .u8 91)],none,some (.t 125,false)⟩,
 op (.t 128) .pick [.t 125,.c (.bool true),.t 127],
 op (.t 129) .mv [.t 128],
 ⟨.t 130,.mv,[.v 6],none,some (.t 129,false)⟩,
 ⟨.t 131,.bin .eql,[.t 130,.c (.int .u8 93)],none,some (.t 129,false)⟩,
 op (.t 132) .pick [.t 129,.c (.bool true),.t 131],
 op (.t 133) .mv [.t 132],
 ⟨.t 134,.mv,[.v 6],none,some (.t 133,false)⟩,
 ⟨.t 135,.bin .eql,[.t 134,.c (.int .u8 123)],none,some (.t 133,false)⟩,
 op (.t 136) .pick [.t 133,.c (.bool true),.t 135],
 op (.t 137) .mv [.t 136],
 ⟨.t 138,.mv,[.v 6],none,some (.t 137,false)⟩,
 ⟨.t 139,.bin .eql,[.t 138,.c (.int .u8 124)],none,some (.t 137,false)⟩,
 op (.t 140) .pick [.t 137,.c (.bool true),.t 139],
 op (.t 141) .mv [.t 140],
 ⟨.t 142,.mv,[.v 6],none,some (.t 141,false)⟩,
 ⟨.t 143,.bin .eql,[.t 142,.c (.int .u8 125)],none,some (.t 141,false)⟩,
 op (.t 144) .pick [.t 141,.c (.bool true),.t 143],
 op (.t 145) .mv [.t 144],
 ⟨.t 146,.mv,[.v 6],none,some (.t 145,false)⟩,
 ⟨.t 147,.bin .eql,[.t 146,.c (.int .u8 38)],none,some (.t 145,false)⟩,
 op (.t 148) .pick [.t 145,.c (.bool true),.t 147],
 op (.t 98) .mv [.t 148]]
def a38r44 : List AOper := [
 op (.t 149) .mv [.v 0],
 op (.t 150) .mv [.v 1],
 op (.t 151) .mv [.v 1],
 op (.t 152) (.bin .add) [.t 151,.c (.int .i64 1)],
 op (.t 153) (.slS true true) [.t 149,.t 150,.t 152],
 op (.t 154) (.build [.int .u8 0,.str [],.int .i64 0,.int .i64 0] [(0,1),(1,1)]) [.c (.int .u8 4),.t 153],
 op (.t 155) .mv [.v 1],
 op (.t 156) (.bin .add) [.t 155,.c (.int .i64 1)],
 ⟨.none,.stLc 2 4,[.l 2,.t 154],some 2,none⟩,
 op (.v 3) .mv [.t 156],
 op (.v 4) .mv [.c (.int .i64 0)],
 op (.v 5) .mv [.c (.int .i64 0)]]
def a38s45 : ACode := .reg [] a38r44
def a38s46 : ACode := .seq a38s45 .ret
def a38s47 : ACode := .test [] a38r43 (.t 98) a38s46 .skip
def a38s48 : ACode := .test [] a38r33 (.t 71) a38s42 a38s47
def a38s49 : ACode := .test [] a38r29 (.t 61) a38s32 a38s48
def a38s50 : ACode := .test [] a38r25 (.t 47) a38s28 a38s49
def a38s51 : ACode := .test [] a38r6 (.t 14) a38s24 a38s50
def a38s52 : ACode := .blk 0 a38s51
def a38r53 : List AOper := [
 op (.t 157) (.build [.int .u8 0,.str [],.int .i64 0,.int .i64 0] []) [],
 op (.t 158) .mv [.v 1],
 ⟨.none,.stLc 2 4,[.l 2,.t 157],some 2,none⟩,
 op (.v 3) .mv [.c (.int .i64 0)],
 op (.v 4) .mv [.t 158],
 op (.v 5) .mv [.c (.int .i64 4)]]
def a38s54 : ACode := .reg [] a38r53
def a38s55 : ACode := .seq a38s54 .ret
def a38s56 : ACode := .seq a38s52 a38s55
def a38s57 : ACode := .seq a38s5 a38s56
def a38s58 : ACode := .seq a38s3 a38s57
def a38s59 : ACode := .seq a38s1 a38s58
def a38c : ACode :=
  a38s59
def a38 : AFn := { np := 2,nv := 8,results := [.bx 2 true 4,.v 3,.v 4,.v 5],code := a38c }
def a38v : List Nat := [0,1,4,5,6,7,8,9]
def a38b : List Nat := [2]

def a39r0 : List AOper := [
 op (.v 1) .mv [.c (.bool false)]]
def a39s1 : ACode := .reg [] a39r0
def a39r2 : List AOper := [
 op (.t 3) .mv [.v 0],
 op (.t 4) .nilchk [.t 3],
 op (.t 5) (.fad 2) [.t 4],
 op (.t 6) (.ldSt false 1) [.t 5],
 op (.t 7) (.bin .add) [.t 6,.c (.int .i64 1)],
 op (.t 8) .nilchk [.t 3],
 op (.t 9) (.fad 2) [.t 8],
 op .none (.stSt 1) [.t 9,.t 7]]
def a39s3 : ACode := .reg [] a39r2
def a39r4 : List AOper := [
 op (.t 10) .mv [.v 0],
 op (.t 11) .nilchk [.t 10],
 op (.t 12) (.fad 2) [.t 11],
 op (.t 13) (.ldSt false 1) [.t 12],
 op (.t 14) (.bin .gtr) [.t 13,.c (.int .i64 24)]]
def a39r5 : List AOper := [
 op (.t 15) .mv [.v 0],
 op (.t 16) (.call 20) [.t 15,.c (.int .i64 5)]]
def a39s6 : ACode := .reg [] a39r5
def a39s7 : ACode := .test [] a39r4 (.t 14) a39s6 .skip
def a39r8 : List AOper := [
 op (.t 17) .mv [.v 0],
 op (.t 18) .nilchk [.t 17],
 op (.t 19) (.fad 4) [.t 18],
 op (.t 20) (.ldSt false 1) [.t 19],
 op (.t 21) (.bin .eql) [.t 20,.c (.int .i64 0)],
 op (.v 1) .mv [.t 21]]
def a39s9 : ACode := .reg [] a39r8
def a39s10 : ACode := .seq a39s9 .ret
def a39s11 : ACode := .seq a39s7 a39s10
def a39s12 : ACode := .seq a39s3 a39s11
def a39s13 : ACode := .seq a39s1 a39s12
def a39c : ACode :=
  a39s13
def a39 : AFn := { np := 1,nv := 2,results := [.v 1],code := a39c }
def a39v : List Nat := [0,2]
def a39b : List Nat := []

def a40r0 : List AOper := [
 ⟨.bx,.alloc [.int .u8 0,.str [],.str [],.str [],.list true [],.list true [],.list true []],[],some 1,none⟩]
def a40s1 : ACode := .reg [1] a40r0
def a40r2 : List AOper := [
 op (.t 5) .mv [.v 0],
 op (.t 6) (.call 25) [.t 5,.c (.str [46,46,46])],
 op (.t 7) (.un .not) [.t 6]]
def a40r3 : List AOper := [
 op (.t 8) .mv [.v 0],
 op (.t 9) (.call 21) [.t 8],
 op (.t 10) (.build [.int .u8 0,.str [],.str [],.str [],.list true [],.list true [],.list true []] [(0,1),(2,1)]) [.c (.int .u8 1),.t 9],
 ⟨.bx,.alloc [.int .u8 0,.str [],.str [],.str [],.list true [],.list true [],.list true []],[],some 2,none⟩,
 ⟨.none,.stLc 2 7,[.l 2,.ts 10],some 2,none⟩]
def a40s4 : ACode := .reg [2] a40r3
def a40r5 : List AOper := [
 op (.t 11) .mv [.v 0],
 op (.t 12) (.call 25) [.t 11,.c (.str [58])]]
def a40r6 : List AOper := [
 op (.t 13) (.fad 2) [.l 2],
 ⟨.t 14,.ldLc 2 false 1,[.t 13],some 2,none⟩,
 op (.t 15) (.fad 1) [.l 2],
 ⟨.none,.stLc 2 1,[.t 15,.t 14],some 2,none⟩]
def a40s7 : ACode := .reg [] a40r6
def a40r8 : List AOper := [
 op (.t 16) .mv [.v 0],
 op (.t 17) (.call 21) [.t 16],
 op (.t 18) (.fad 2) [.l 2],
 ⟨.none,.stLc 2 1,[.t 18,.t 17],some 2,none⟩]
def a40s9 : ACode := .reg [] a40r8
def a40s10 : ACode := .seq a40s7 a40s9
def a40s11 : ACode := .test [] a40r5 (.t 12) a40s10 .skip
def a40r12 : List AOper := [
 op (.t 19) .mv [.v 0],
 op (.t 20) (.call 68) [.t 19],
 op (.t 21) (.fad 4) [.l 2],
 ⟨.none,.stLc 2 1,[.t 21,.ts 20],some 2,none⟩]
def a40s13 : ACode := .reg [] a40r12
def a40r14 : List AOper := [
 op (.t 22) .mv [.v 0],
 op (.t 23) (.call 69) [.t 22],
 op (.t 24) (.fad 5) [.l 2],
 ⟨.none,.stLc 2 1,[.t 24,.ts 23],some 2,none⟩]
def a40s15 : ACode := .reg [] a40r14
def a40r16 : List AOper := [
 op (.t 25) .mv [.v 0],
 op (.t 26) (.call 24) [.t 25,.c (.str [123])]]
def a40r17 : List AOper := [
 op (.t 27) .mv [.v 0],
 op (.t 28) (.call 23) [.t 27],
 op (.t 29) (.fad 6) [.l 2],
 ⟨.none,.stLc 2 1,[.t 29,.ts 28],some 2,none⟩]
def a40s18 : ACode := .reg [] a40r17
def a40s19 : ACode := .test [] a40r16 (.t 26) a40s18 .skip
def a40r20 : List AOper := [
 ⟨.t 30,.ldLc 2 true 7,[.l 2],some 2,none⟩,
 ⟨.none,.stLc 1 7,[.l 1,.ts 30],some 1,none⟩]
def a40s21 : ACode := .reg [] a40r20
def a40s22 : ACode := .seq a40s21 .ret
def a40s23 : ACode := .seq a40s19 a40s22
def a40s24 : ACode := .seq a40s15 a40s23
def a40s25 : ACode := .seq a40s13 a40s24
def a40s26 : ACode := .seq a40s11 a40s25
def a40s27 : ACode := .seq a40s4 a40s26
def a40s28 : ACode := .test [] a40r2 (.t 7) a40s27 .skip
def a40r29 : List AOper := [
 op (.t 31) (.build [.int .u8 0,.str [],.str [],.str [],.list true [],.list true [],.list true []] [(0,1)]) [.c (.int .u8 3)],
 ⟨.bx,.alloc [.int .u8 0,.str [],.str [],.str [],.list true [],.list true [],.list true []],[],some 3,none⟩,
 ⟨.none,.stLc 3 7,[.l 3,.ts 31],some 3,none⟩]
def a40s30 : ACode := .reg [3] a40r29
def a40r31 : List AOper := [
 op (.t 32) .mv [.v 0],
 op (.t 33) (.call 25) [.t 32,.c (.str [111,110])]]
def a40r32 : List AOper := [
 op (.t 34) .mv [.v 0],
 op (.t 35) (.call 21) [.t 34],
 op (.t 36) (.fad 3) [.l 3],
 ⟨.none,.stLc 3 1,[.t 36,.t 35],some 3,none⟩]
def a40s33 : ACode := .reg [] a40r32
def a40r34 : List AOper := [
 op (.t 37) .mv [.v 0],
 op (.t 38) (.call 18) [.t 37,.c (.int .u8 1)]]
def a40r35 : List AOper := [
 op (.t 39) (.fad 0) [.l 3],
 ⟨.none,.stLc 3 1,[.t 39,.c (.int .u8 2)],some 3,none⟩]
def a40s36 : ACode := .reg [] a40r35
def a40r37 : List AOper := [
 op (.t 40) .mv [.v 0],
 op (.t 41) (.call 21) [.t 40],
 op (.t 42) (.fad 2) [.l 3],
 ⟨.none,.stLc 3 1,[.t 42,.t 41],some 3,none⟩]
def a40s38 : ACode := .reg [] a40r37
def a40r39 : List AOper := [
 op (.t 43) .mv [.v 0],
 op (.t 44) (.call 69) [.t 43],
 op (.t 45) (.fad 5) [.l 3],
 ⟨.none,.stLc 3 1,[.t 45,.ts 44],some 3,none⟩]
def a40s40 : ACode := .reg [] a40r39
def a40r41 : List AOper := [
 ⟨.t 46,.ldLc 3 true 7,[.l 3],some 3,none⟩,
 ⟨.none,.stLc 1 7,[.l 1,.ts 46],some 1,none⟩]
def a40s42 : ACode := .reg [] a40r41
def a40s43 : ACode := .seq a40s42 .ret
def a40s44 : ACode := .seq a40s40 a40s43
def a40s45 : ACode := .seq a40s38 a40s44
def a40s46 : ACode := .seq a40s36 a40s45
def a40s47 : ACode := .test [] a40r34 (.t 38) a40s46 .skip
def a40s48 : ACode := .test [] a40r31 (.t 33) a40s33 a40s47
def a40r49 : List AOper := [
 op (.t 47) .mv [.v 0],
 op (.t 48) (.call 69) [.t 47],
 op (.t 49) (.fad 5) [.l 3],
 ⟨.none,.stLc 3 1,[.t 49,.ts 48],some 3,none⟩]
def a40s50 : ACode := .reg [] a40r49
def a40r51 : List AOper := [
 op (.t 50) .mv [.v 0],
 op (.t 51) (.call 23) [.t 50],
 op (.t 52) (.fad 6) [.l 3],
 ⟨.none,.stLc 3 1,[.t 52,.ts 51],some 3,none⟩]
def a40s52 : ACode := .reg [] a40r51
def a40r53 : List AOper := [
 ⟨.t 53,.ldLc 3 true 7,[.l 3],some 3,none⟩,
 ⟨.none,.stLc 1 7,[.l 1,.ts 53],some 1,none⟩]
def a40s54 : ACode := .reg [] a40r53
def a40s55 : ACode := .seq a40s54 .ret
def a40s56 : ACode := .seq a40s52 a40s55
def a40s57 : ACode := .seq a40s50 a40s56
def a40s58 : ACode := .seq a40s48 a40s57
def a40s59 : ACode := .seq a40s30 a40s58
def a40s60 : ACode := .seq a40s28 a40s59
def a40s61 : ACode := .seq a40s1 a40s60
def a40c : ACode :=
  a40s61
def a40 : AFn := { np := 1,nv := 4,results := [.bx 1 true 7],code := a40c }
def a40v : List Nat := [0,2,3,4]
def a40b : List Nat := [1,2,3]

def a41r0 : List AOper := [
 ⟨.bx,.alloc [.str [],.list true [],.bool false],[],some 1,none⟩]
def a41s1 : ACode := .reg [1] a41r0
def a41r2 : List AOper := [
 ⟨.bx,.alloc [.str [],.list true [],.bool false],[],some 2,none⟩]
def a41s3 : ACode := .reg [2] a41r2
def a41r4 : List AOper := [
 op (.t 5) .mv [.v 0],
 op (.t 6) (.call 39) [.t 5]]
def a41r5 : List AOper := [
 op (.t 7) .mv [.v 0],
 op (.t 8) (.call 25) [.t 7,.c (.str [91])]]
def a41r6 : List AOper := [
 op (.t 9) .mv [.v 0],
 op (.t 10) (.call 41) [.t 9],
 ⟨.bx,.alloc [.str [],.list true [],.bool false],[],some 3,none⟩,
 ⟨.none,.stLc 3 3,[.l 3,.ts 10],some 3,none⟩]
def a41s7 : ACode := .reg [3] a41r6
def a41r8 : List AOper := [
 ⟨.t 11,.ldLc 3 true 3,[.l 3],some 3,none⟩,
 op (.t 12) (.bslice 3 [[.str [],.list true [],.bool false]] [0]) [.t 11],
 op (.t 13) (.fad 1) [.l 2],
 ⟨.none,.stLc 2 1,[.t 13,.ts 12],some 2,none⟩]
def a41s9 : ACode := .reg [] a41r8
def a41r10 : List AOper := [
 op (.t 14) .mv [.v 0],
 op (.t 15) (.call 22) [.t 14,.c (.str [93])]]
def a41s11 : ACode := .reg [] a41r10
def a41s12 : ACode := .seq a41s9 a41s11
def a41s13 : ACode := .seq a41s7 a41s12
def a41r14 : List AOper := [
 op (.t 16) .mv [.v 0],
 op (.t 17) (.call 21) [.t 16],
 op (.t 18) (.fad 0) [.l 2],
 ⟨.none,.stLc 2 1,[.t 18,.t 17],some 2,none⟩]
def a41s15 : ACode := .reg [] a41r14
def a41s16 : ACode := .test [] a41r5 (.t 8) a41s13 a41s15
def a41r17 : List AOper := [
 op (.t 19) .mv [.v 0],
 op (.t 20) (.call 25) [.t 19,.c (.str [33])],
 op (.t 21) (.fad 2) [.l 2],
 ⟨.none,.stLc 2 1,[.t 21,.t 20],some 2,none⟩]
def a41s18 : ACode := .reg [] a41r17
def a41s19 : ACode := .seq a41s16 a41s18
def a41s20 : ACode := .test [] a41r4 (.t 6) a41s19 .skip
def a41r21 : List AOper := [
 op (.t 22) .mv [.v 0],
 op (.t 23) .nilchk [.t 22],
 op (.t 24) (.fad 2) [.t 23],
 op (.t 25) (.ldSt false 1) [.t 24],
 op (.t 26) (.bin .sub) [.t 25,.c (.int .i64 1)],
 op (.t 27) .nilchk [.t 22],
 op (.t 28) (.fad 2) [.t 27],
 op .none (.stSt 1) [.t 28,.t 26]]
def a41s22 : ACode := .reg [] a41r21
def a41r23 : List AOper := [
 ⟨.t 29,.ldLc 2 true 3,[.l 2],some 2,none⟩,
 ⟨.none,.stLc 1 3,[.l 1,.ts 29],some 1,none⟩]
def a41s24 : ACode := .reg [] a41r23
def a41s25 : ACode := .seq a41s24 .ret
def a41s26 : ACode := .seq a41s22 a41s25
def a41s27 : ACode := .seq a41s20 a41s26
def a41s28 : ACode := .seq a41s3 a41s27
def a41s29 : ACode := .seq a41s1 a41s28
def a41c : ACode :=
  a41s29
def a41 : AFn := { np := 1,nv := 4,results := [.bx 1 true 3],code := a41c }
def a41v : List Nat := [0,2,3,4]
def a41b : List Nat := [1,2,3]

def a42r0 : List AOper := [
 ⟨.bx,.alloc [.int .u8 0,.int .i64 0,.str [],.list true [],.list true []],[],some 2,none⟩]
def a42s1 : ACode := .reg [2] a42r0
def a42r2 : List AOper := [
 ⟨.bx,.alloc [.int .u8 0,.int .i64 0,.str [],.list true [],.list true []],[],some 3,none⟩]
def a42s3 : ACode := .reg [3] a42r2
def a42r4 : List AOper := [
 op (.t 6) .mv [.v 0],
 op (.t 7) (.call 39) [.t 6]]
def a42r5 : List AOper := [
 op (.t 8) .mv [.v 0],
 op (.t 9) .mv [.v 1],
 op (.t 10) (.call 70) [.t 8,.t 9],
 ⟨.none,.stLc 3 5,[.l 3,.ts 10],some 3,none⟩]
def a42s6 : ACode := .reg [] a42r5
def a42s7 : ACode := .test [] a42r4 (.t 7) a42s6 .skip
def a42r8 : List AOper := [
 op (.t 11) .mv [.v 0],
 op (.t 12) .nilchk [.t 11],
 op (.t 13) (.fad 2) [.t 12],
 op (.t 14) (.ldSt false 1) [.t 13],
 op (.t 15) (.bin .sub) [.t 14,.c (.int .i64 1)],
 op (.t 16) .nilchk [.t 11],
 op (.t 17) (.fad 2) [.t 16],
 op .none (.stSt 1) [.t 17,.t 15]]
def a42s9 : ACode := .reg [] a42r8
def a42r10 : List AOper := [
 ⟨.t 18,.ldLc 3 true 5,[.l 3],some 3,none⟩,
 ⟨.none,.stLc 2 5,[.l 2,.ts 18],some 2,none⟩]
def a42s11 : ACode := .reg [] a42r10
def a42s12 : ACode := .seq a42s11 .ret
def a42s13 : ACode := .seq a42s9 a42s12
def a42s14 : ACode := .seq a42s7 a42s13
def a42s15 : ACode := .seq a42s3 a42s14
def a42s16 : ACode := .seq a42s1 a42s15
def a42c : ACode :=
  a42s16
def a42 : AFn := { np := 2,nv := 4,results := [.bx 2 true 5],code := a42c }
def a42v : List Nat := [0,1,4,5]
def a42b : List Nat := [2,3]

def a43r0 : List AOper := [
 ⟨.bx,.alloc [.int .u8 0,.str [],.list true [],.list true []],[],some 1,none⟩]
def a43s1 : ACode := .reg [1] a43r0
def a43r2 : List AOper := [
 ⟨.bx,.alloc [.int .u8 0,.str [],.list true [],.list true []],[],some 2,none⟩]
def a43s3 : ACode := .reg [2] a43r2
def a43r4 : List AOper := [
 op (.t 11) .mv [.v 0],
 op (.t 12) (.call 19) [.t 11,.c (.str [116,121,112,101])],
 op (.t 10) .mv [.t 12]]
def a43r5 : List AOper := [
 op (.t 13) (.fad 0) [.l 2],
 ⟨.none,.stLc 2 1,[.t 13,.c (.int .u8 1)],some 2,none⟩]
def a43s6 : ACode := .reg [] a43r5
def a43r7 : List AOper := [
 op (.t 15) .mv [.v 0],
 op (.t 16) (.call 19) [.t 15,.c (.str [105,110,116,101,114,102,97,99,101])],
 op (.t 14) .mv [.t 16]]
def a43r8 : List AOper := [
 op (.t 17) (.fad 0) [.l 2],
 ⟨.none,.stLc 2 1,[.t 17,.c (.int .u8 2)],some 2,none⟩]
def a43s9 : ACode := .reg [] a43r8
def a43r10 : List AOper := [
 op (.t 19) .mv [.v 0],
 op (.t 20) (.call 19) [.t 19,.c (.str [117,110,105,111,110])],
 op (.t 18) .mv [.t 20]]
def a43r11 : List AOper := [
 op (.t 21) (.fad 0) [.l 2],
 ⟨.none,.stLc 2 1,[.t 21,.c (.int .u8 3)],some 2,none⟩]
def a43s12 : ACode := .reg [] a43r11
def a43r13 : List AOper := [
 op (.t 23) .mv [.v 0],
 op (.t 24) (.call 19) [.t 23,.c (.str [101,110,117,109])],
 op (.t 22) .mv [.t 24]]
def a43r14 : List AOper := [
 op (.t 25) (.fad 0) [.l 2],
 ⟨.none,.stLc 2 1,[.t 25,.c (.int .u8 4)],some 2,none⟩]
def a43s15 : ACode := .reg [] a43r14
def a43r16 : List AOper := [
 op (.t 27) .mv [.v 0],
 op (.t 28) (.call 19) [.t 27,.c (.str [105,110,112,117,116])],
 op (.t 26) .mv [.t 28]]
def a43r17 : List AOper := [
 op (.t 29) (.fad 0) [.l 2],
 ⟨.none,.stLc 2 1,[.t 29,.c (.int .u8 5)],some 2,none⟩]
def a43s18 : ACode := .reg [] a43r17
def a43r19 : List AOper := [
 op (.t 7) .mv [.v 0],
 op (.t 8) (.call 20) [.t 7,.c (.int .i64 4)]]
def a43s20 : ACode := .reg [] a43r19
def a43r21 : List AOper := [
 ⟨.t 9,.ldLc 2 true 4,[.l 2],some 2,none⟩,
 ⟨.none,.stLc 1 4,[.l 1,.ts 9],some 1,none⟩]
def a43s22 : ACode := .reg [] a43r21
def a43s23 : ACode := .seq a43s22 .ret
def a43s24 : ACode := .seq a43s20 a43s23
def a43s25 : ACode := .test [] a43r16 (.t 26) a43s18 a43s24
def a43s26 : ACode := .test [] a43r13 (.t 22) a43s15 a43s25
def a43s27 : ACode := .test [] a43r10 (.t 18) a43s12 a43s26
def a43s28 : ACode := .test [] a43r7 (.t 14) a43s9 a43s27
def a43s29 : ACode := .test [] a43r4 (.t 10) a43s6 a43s28
def a43s30 : ACode := .blk 0 a43s29
def a43r31 : List AOper := [
 op (.t 30) .mv [.v 0],
 op (.t 31) .nilchk [.t 30],
 op (.t 32) (.fad 1) [.t 31],
 op (.t 33) (.ldSt false 1) [.t 32],
 op (.t 34) (.bin .add) [.t 33,.c (.int .i64 1)],
 op (.t 35) .nilchk [.t 30],
 op (.t 36) (.fad 1) [.t 35],
 op .none (.stSt 1) [.t 36,.t 34]]
def a43s32 : ACode := .reg [] a43r31
def a43r33 : List AOper := [
 op (.t 37) .mv [.v 0],
 op (.t 38) (.call 21) [.t 37],
 op (.t 39) (.fad 1) [.l 2],
 ⟨.none,.stLc 2 1,[.t 39,.t 38],some 2,none⟩]
def a43s34 : ACode := .reg [] a43r33
def a43r35 : List AOper := [
 op (.t 40) (.fad 0) [.l 2],
 ⟨.v 6,.ldLc 2 false 1,[.t 40],some 2,none⟩]
def a43s36 : ACode := .reg [] a43r35
def a43r37 : List AOper := [
 op (.t 87) (.bin .eql) [.v 6,.c (.int .u8 3)],
 op (.t 86) .mv [.t 87]]
def a43r38 : List AOper := [
 op (.t 88) .mv [.v 0],
 op (.t 89) (.call 22) [.t 88,.c (.str [61])]]
def a43s39 : ACode := .reg [] a43r38
def a43r40 : List AOper := [
 op (.t 90) .mv [.v 0],
 op (.t 91) (.call 71) [.t 90,.c (.str [124])],
 op (.t 92) (.fad 3) [.l 2],
 ⟨.none,.stLc 2 1,[.t 92,.ts 91],some 2,none⟩]
def a43s41 : ACode := .reg [] a43r40
def a43s42 : ACode := .seq a43s39 a43s41
def a43r43 : List AOper := [
 op (.t 94) (.bin .eql) [.v 6,.c (.int .u8 4)],
 op (.t 93) .mv [.t 94]]
def a43r44 : List AOper := [
 op (.t 95) .mv [.v 0],
 op (.t 96) (.call 22) [.t 95,.c (.str [123])]]
def a43s45 : ACode := .reg [] a43r44
def a43r46 : List AOper := [
 op (.v 3) .mv [.c (.bool true)]]
def a43s47 : ACode := .reg [] a43r46
def a43r48 : List AOper := [
 op (.t 97) .mv [.v 0],
 op (.t 98) .nilchk [.t 97],
 op (.t 99) (.fad 4) [.t 98],
 op (.t 100) (.ldSt false 1) [.t 99],
 op (.t 101) (.bin .eql) [.t 100,.c (.int .i64 0)],
 op (.t 102) .mv [.t 101],
 ⟨.t 103,.mv,[.v 3],none,some (.t 102,true)⟩,
 ⟨.t 104,.mv,[.t 103],none,some (.t 102,true)⟩,
 ⟨.t 105,.mv,[.v 0],none,some (.t 104,false)⟩,
 ⟨.t 106,.call 25,[.t 105,.c (.str [125])],none,some (.t 104,false)⟩,
 ⟨.t 107,.un .not,[.t 106],none,some (.t 104,false)⟩,
 ⟨.t 108,.pick,[.t 104,.c (.bool true),.t 107],none,some (.t 102,true)⟩,
 op (.t 109) .pick [.t 102,.t 108,.c (.bool false)]]
def a43s49 : ACode := .test [] a43r48 (.t 109) .skip (.exit 4)
def a43r50 : List AOper := [
 op (.t 110) .mv [.v 0],
 op (.t 111) (.call 19) [.t 110,.c (.str [116,114,117,101])],
 op (.t 112) .mv [.t 111],
 ⟨.t 113,.mv,[.v 0],none,some (.t 112,false)⟩,
 ⟨.t 114,.call 19,[.t 113,.c (.str [102,97,108,115,101])],none,some (.t 112,false)⟩,
 op (.t 115) .pick [.t 112,.c (.bool true),.t 114],
 op (.t 116) .mv [.t 115],
 ⟨.t 117,.mv,[.v 0],none,some (.t 116,false)⟩,
 ⟨.t 118,.call 19,[.t 117,.c (.str [110,117,108,108])],none,some (.t 116,false)⟩,
 op (.t 119) .pick [.t 116,.c (.bool true),.t 118]]
def a43r51 : List AOper := [
 op (.t 120) .mv [.v 0],
 op (.t 121) (.call 20) [.t 120,.c (.int .i64 4)]]
def a43s52 : ACode := .reg [] a43r51
def a43s53 : ACode := .test [] a43r50 (.t 119) a43s52 .skip
def a43r54 : List AOper := [
 op (.t 122) (.fad 3) [.l 2],
 ⟨.t 123,.ldLcS 2,[.t 122],some 2,none⟩,
 op (.t 124) .mv [.v 0],
 op (.t 125) (.call 21) [.t 124],
 op (.t 126) (.bslice 1 [[.str []]] [0]) [.t 125],
 op (.t 127) (.app 1 16) [.ts 123,.t 126],
 op (.t 128) (.fad 3) [.l 2],
 ⟨.none,.stLc 2 1,[.t 128,.ts 127],some 2,none⟩]
def a43s55 : ACode := .reg [] a43r54
def a43s56 : ACode := .seq a43s53 a43s55
def a43s57 : ACode := .blk 5 a43s56
def a43r58 : List AOper := [
 op (.v 3) .mv [.c (.bool false)]]
def a43s59 : ACode := .reg [] a43r58
def a43s60 : ACode := .seq a43s57 a43s59
def a43s61 : ACode := .seq a43s49 a43s60
def a43s62 : ACode := .loop a43s61
def a43s63 : ACode := .blk 4 a43s62
def a43s64 : ACode := .seq a43s47 a43s63
def a43s65 : ACode := .seq a43s45 a43s64
def a43r66 : List AOper := [
 op (.t 130) (.bin .eql) [.v 6,.c (.int .u8 5)],
 op (.t 129) .mv [.t 130]]
def a43r67 : List AOper := [
 op (.t 131) .mv [.v 0],
 op (.t 132) (.call 22) [.t 131,.c (.str [123])]]
def a43s68 : ACode := .reg [] a43r67
def a43r69 : List AOper := [
 op (.t 133) .mv [.v 0],
 op (.t 134) (.call 72) [.t 133,.c (.str [125])],
 op (.t 135) (.fad 2) [.l 2],
 ⟨.none,.stLc 2 1,[.t 135,.ts 134],some 2,none⟩]
def a43s70 : ACode := .reg [] a43r69
def a43s71 : ACode := .seq a43s68 a43s70
def a43r72 : List AOper := [
 op (.t 42) (.fad 0) [.l 2],
 ⟨.t 43,.ldLc 2 false 1,[.t 42],some 2,none⟩,
 op (.t 44) (.bin .eql) [.t 43,.c (.int .u8 1)],
 op (.t 45) .mv [.t 44],
 ⟨.t 46,.mv,[.v 0],none,some (.t 45,true)⟩,
 ⟨.t 47,.call 25,[.t 46,.c (.str [105,109,112,108,101,109,101,110,116,115])],none,some (.t 45,true)⟩,
 op (.t 48) .pick [.t 45,.t 47,.c (.bool false)]]
def a43r73 : List AOper := [
 op (.t 49) .mv [.v 0],
 op (.t 50) (.call 71) [.t 49,.c (.str [38])],
 op (.t 51) (.fad 3) [.l 2],
 ⟨.none,.stLc 2 1,[.t 51,.ts 50],some 2,none⟩]
def a43s74 : ACode := .reg [] a43r73
def a43s75 : ACode := .test [] a43r72 (.t 48) a43s74 .skip
def a43r76 : List AOper := [
 op (.t 52) .mv [.v 0],
 op (.t 53) (.call 22) [.t 52,.c (.str [123])]]
def a43s77 : ACode := .reg [] a43r76
def a43r78 : List AOper := [
 op (.v 4) .mv [.c (.bool true)]]
def a43s79 : ACode := .reg [] a43r78
def a43r80 : List AOper := [
 op (.t 54) .mv [.v 0],
 op (.t 55) .nilchk [.t 54],
 op (.t 56) (.fad 4) [.t 55],
 op (.t 57) (.ldSt false 1) [.t 56],
 op (.t 58) (.bin .eql) [.t 57,.c (.int .i64 0)],
 op (.t 59) .mv [.t 58],
 ⟨.t 60,.mv,[.v 4],none,some (.t 59,true)⟩,
 ⟨.t 61,.mv,[.t 60],none,some (.t 59,true)⟩,
 ⟨.t 62,.mv,[.v 0],none,some (.t 61,false)⟩,
 ⟨.t 63,.call 25,[.t 62,.c (.str [125])],none,some (.t 61,false)⟩,
 ⟨.t 64,.un .not,[.t 63],none,some (.t 61,false)⟩,
 ⟨.t 65,.pick,[.t 61,.c (.bool true),.t 64],none,some (.t 59,true)⟩,
 op (.t 66) .pick [.t 59,.t 65,.c (.bool false)]]
def a43s81 : ACode := .test [] a43r80 (.t 66) .skip (.exit 2)
def a43r82 : List AOper := [
 op (.t 67) .mv [.v 0],
 op (.t 68) (.call 21) [.t 67],
 op (.t 69) (.build [.str [],.list true [],.str [],.list true [],.bool false,.bool false,.int .u8 0,.int .i64 0,.str [],.list true [],.list true []] [(0,1)]) [.t 68],
 ⟨.bx,.alloc [.str [],.list true [],.str [],.list true [],.bool false,.bool false,.int .u8 0,.int .i64 0,.str [],.list true [],.list true []],[],some 5,none⟩,
 ⟨.none,.stLc 5 11,[.l 5,.ts 69],some 5,none⟩]
def a43s83 : ACode := .reg [5] a43r82
def a43r84 : List AOper := [
 op (.t 70) .mv [.v 0],
 op (.t 71) (.call 25) [.t 70,.c (.str [40])]]
def a43r85 : List AOper := [
 op (.t 72) .mv [.v 0],
 op (.t 73) (.call 72) [.t 72,.c (.str [41])],
 op (.t 74) (.fad 1) [.l 5],
 ⟨.none,.stLc 5 1,[.t 74,.ts 73],some 5,none⟩]
def a43s86 : ACode := .reg [] a43r85
def a43s87 : ACode := .test [] a43r84 (.t 71) a43s86 .skip
def a43r88 : List AOper := [
 op (.t 75) .mv [.v 0],
 op (.t 76) (.call 22) [.t 75,.c (.str [58])]]
def a43s89 : ACode := .reg [] a43r88
def a43r90 : List AOper := [
 op (.t 77) .mv [.v 0],
 op (.t 78) (.call 41) [.t 77],
 op (.t 79) (.fad 2) [.l 5],
 ⟨.none,.stLc 5 3,[.t 79,.ts 78],some 5,none⟩]
def a43s91 : ACode := .reg [] a43r90
def a43r92 : List AOper := [
 op (.t 80) (.fad 2) [.l 2],
 ⟨.t 81,.ldLcS 2,[.t 80],some 2,none⟩,
 ⟨.t 82,.ldLc 5 true 11,[.l 5],some 5,none⟩,
 op (.t 83) (.bslice 11 [[.str [],.list true [],.str [],.list true [],.bool false,.bool false,.int .u8 0,.int .i64 0,.str [],.list true [],.list true []]] [0]) [.t 82],
 op (.t 84) (.app 11 176) [.ts 81,.t 83],
 op (.t 85) (.fad 2) [.l 2],
 ⟨.none,.stLc 2 1,[.t 85,.ts 84],some 2,none⟩]
def a43s93 : ACode := .reg [] a43r92
def a43s94 : ACode := .seq a43s91 a43s93
def a43s95 : ACode := .seq a43s89 a43s94
def a43s96 : ACode := .seq a43s87 a43s95
def a43s97 : ACode := .seq a43s83 a43s96
def a43s98 : ACode := .blk 3 a43s97
def a43r99 : List AOper := [
 op (.v 4) .mv [.c (.bool false)]]
def a43s100 : ACode := .reg [] a43r99
def a43s101 : ACode := .seq a43s98 a43s100
def a43s102 : ACode := .seq a43s81 a43s101
def a43s103 : ACode := .loop a43s102
def a43s104 : ACode := .blk 2 a43s103
def a43s105 : ACode := .seq a43s79 a43s104
def a43s106 : ACode := .seq a43s77 a43s105
def a43s107 : ACode := .seq a43s75 a43s106
def a43s108 : ACode := .test [] a43r66 (.t 129) a43s71 a43s107
def a43s109 : ACode := .test [] a43r43 (.t 93) a43s65 a43s108
def a43s110 : ACode := .test [] a43r37 (.t 86) a43s42 a43s109
def a43s111 : ACode := .blk 1 a43s110
def a43s112 : ACode := .seq a43s36 a43s111
def a43r113 : List AOper := [
 ⟨.t 136,.ldLc 2 true 4,[.l 2],some 2,none⟩,
 ⟨.none,.stLc 1 4,[.l 1,.ts 136],some 1,none⟩]
def a43s114 : ACode := .reg [] a43r113
def a43s115 : ACode := .seq a43s114 .ret
def a43s116 : ACode := .seq a43s112 a43s115
def a43s117 : ACode := .seq a43s34 a43s116
def a43s118 : ACode := .seq a43s32 a43s117
def a43s119 : ACode := .seq a43s30 a43s118
def a43s120 : ACode := .seq a43s3 a43s119
def a43s121 : ACode := .seq a43s1 a43s120
def a43c : ACode :=
  a43s121
def a43 : AFn := { np := 1,nv := 7,results := [.bx 1 true 4],code := a43c }
def a43v : List Nat := [0,2,3,4,5,6,41]
def a43b : List Nat := [1,2,5]

def a44 : AFn := { np := 1,nv := 0,results := [],code := .skip,ext := some (cloneX 4 72) }
def a45r0 : List AOper := [
 op (.v 2) .mv [.c (.bool false)]]
def a45s1 : ACode := .reg [] a45r0
def a45r2 : List AOper := [
 op (.t 5) .mv [.v 0],
 op (.t 6) .mv [.v 1],
 op (.t 7) (.call 73) [.t 5,.t 6],
 op (.t 8) (.bin .geq) [.t 7,.c (.int .i64 0)],
 op (.v 2) .mv [.t 8]]
def a45s3 : ACode := .reg [] a45r2
def a45s4 : ACode := .seq a45s3 .ret
def a45s5 : ACode := .seq a45s1 a45s4
def a45c : ACode :=
  a45s5
def a45 : AFn := { np := 2,nv := 3,results := [.v 2],code := a45c }
def a45v : List Nat := [0,1,4]
def a45b : List Nat := []

def a46r0 : List AOper := [
 op (.v 2) .mv [.c (.bool false)]]
def a46s1 : ACode := .reg [] a46r0
def a46r2 : List AOper := [
 op (.t 5) .mv [.v 0],
 op (.t 6) .mv [.v 1],
 op (.t 7) (.call 74) [.t 5,.t 6],
 op (.v 2) .mv [.t 7]]
def a46s3 : ACode := .reg [] a46r2
def a46s4 : ACode := .seq a46s3 .ret
def a46s5 : ACode := .seq a46s1 a46s4
def a46c : ACode :=
  a46s5
def a46 : AFn := { np := 2,nv := 3,results := [.v 2],code := a46c }
def a46v : List Nat := [0,1,4]
def a46b : List Nat := []

def a47r0 : List AOper := [
 ⟨.bx,.boxV,[.v 1],some 2,none⟩,
 ⟨.bx,.alloc [.int .i64 0,.str []],[],some 3,none⟩]
def a47s1 : ACode := .reg [2,3] a47r0
def a47r2 : List AOper := [
 op (.t 16) (.fad 2) [.l 2],
 ⟨.t 17,.ldLc 2 false 1,[.t 16],some 2,none⟩,
 op (.t 18) (.call 76) [.t 17],
 op (.t 19) (.fad 3) [.l 2],
 ⟨.t 20,.ldLc 2 false 1,[.t 19],some 2,none⟩,
 op (.t 21) (.app 1 16) [.ts 18,.t 20],
 op (.t 22) (.call 75) [.t 21],
 ⟨.bx,.alloc [.int .i64 0,.str []],[],some 4,none⟩,
 ⟨.none,.stLc 4 2,[.l 4,.t 22],some 4,none⟩]
def a47s3 : ACode := .reg [4] a47r2
def a47r4 : List AOper := [
 op (.t 23) (.fad 0) [.l 4],
 ⟨.t 24,.ldLc 4 false 1,[.t 23],some 4,none⟩,
 op (.t 25) (.bin .neq) [.t 24,.c (.int .i64 0)],
 op (.t 26) .mv [.t 25],
 ⟨.t 27,.fad 0,[.l 2],none,some (.t 26,true)⟩,
 ⟨.t 28,.ldLc 2 false 1,[.t 27],some 2,some (.t 26,true)⟩,
 ⟨.t 29,.bin .neq,[.t 28,.c (.int .u8 1)],none,some (.t 26,true)⟩,
 op (.t 30) .pick [.t 26,.t 29,.c (.bool false)]]
def a47r5 : List AOper := [
 ⟨.t 31,.ldLc 4 true 2,[.l 4],some 4,none⟩,
 ⟨.none,.stLc 3 2,[.l 3,.t 31],some 3,none⟩]
def a47s6 : ACode := .reg [] a47r5
def a47s7 : ACode := .seq a47s6 .ret
def a47s8 : ACode := .test [] a47r4 (.t 30) a47s7 .skip
def a47s9 : ACode := .seq a47s3 a47s8
def a47r10 : List AOper := [
 op (.t 32) (.fad 2) [.l 2],
 ⟨.t 33,.ldLc 2 false 1,[.t 32],some 2,none⟩,
 op (.t 34) (.call 76) [.t 33],
 op (.t 35) (.call 75) [.t 34],
 ⟨.bx,.alloc [.int .i64 0,.str []],[],some 5,none⟩,
 ⟨.none,.stLc 5 2,[.l 5,.t 35],some 5,none⟩]
def a47s11 : ACode := .reg [5] a47r10
def a47r12 : List AOper := [
 op (.t 36) (.fad 0) [.l 5],
 ⟨.t 37,.ldLc 5 false 1,[.t 36],some 5,none⟩,
 op (.t 38) (.bin .neq) [.t 37,.c (.int .i64 0)]]
def a47r13 : List AOper := [
 ⟨.t 39,.ldLc 5 true 2,[.l 5],some 5,none⟩,
 ⟨.none,.stLc 3 2,[.l 3,.t 39],some 3,none⟩]
def a47s14 : ACode := .reg [] a47r13
def a47s15 : ACode := .seq a47s14 .ret
def a47s16 : ACode := .test [] a47r12 (.t 38) a47s15 .skip
def a47s17 : ACode := .seq a47s11 a47s16
def a47r18 : List AOper := [
 op (.t 40) (.fad 3) [.l 2],
 ⟨.t 41,.ldLc 2 false 1,[.t 40],some 2,none⟩,
 op (.t 42) (.call 75) [.t 41],
 ⟨.bx,.alloc [.int .i64 0,.str []],[],some 6,none⟩,
 ⟨.none,.stLc 6 2,[.l 6,.t 42],some 6,none⟩]
def a47s19 : ACode := .reg [6] a47r18
def a47r20 : List AOper := [
 op (.t 43) (.fad 0) [.l 6],
 ⟨.t 44,.ldLc 6 false 1,[.t 43],some 6,none⟩,
 op (.t 45) (.bin .neq) [.t 44,.c (.int .i64 0)]]
def a47r21 : List AOper := [
 ⟨.t 46,.ldLc 6 true 2,[.l 6],some 6,none⟩,
 ⟨.none,.stLc 3 2,[.l 3,.t 46],some 3,none⟩]
def a47s22 : ACode := .reg [] a47r21
def a47s23 : ACode := .seq a47s22 .ret
def a47s24 : ACode := .test [] a47r20 (.t 45) a47s23 .skip
def a47s25 : ACode := .seq a47s19 a47s24
def a47r26 : List AOper := [
 op (.t 47) (.fad 2) [.l 2],
 ⟨.v 13,.ldLc 2 false 1,[.t 47],some 2,none⟩,
 op (.v 14) .lenL [.v 13],
 op (.v 15) .mv [.c (.int .i64 0)]]
def a47s27 : ACode := .reg [] a47r26
def a47r28 : List AOper := [
 op (.t 51) (.bin .lss) [.v 15,.v 14]]
def a47s29 : ACode := .test [] a47r28 (.t 51) .skip (.exit 0)
def a47r30 : List AOper := [
 op (.t 52) (.iad 11) [.v 13,.v 15],
 op (.t 53) (.ldRo true 11) [.t 52],
 ⟨.bx,.alloc [.str [],.list true [],.str [],.list true [],.bool false,.bool false,.int .u8 0,.int .i64 0,.str [],.list true [],.list true []],[],some 7,none⟩,
 ⟨.none,.stLc 7 11,[.l 7,.ts 53],some 7,none⟩]
def a47s31 : ACode := .reg [7] a47r30
def a47r32 : List AOper := [
 op (.t 54) .mv [.v 0],
 ⟨.t 55,.ldLc 7 true 11,[.l 7],some 7,none⟩,
 op (.t 56) (.fad 0) [.l 2],
 ⟨.t 57,.ldLc 2 false 1,[.t 56],some 2,none⟩,
 op (.t 58) (.bin .eql) [.t 57,.c (.int .u8 5)],
 op (.t 59) (.call 77) [.t 54,.t 55,.t 58],
 ⟨.bx,.alloc [.int .i64 0,.str []],[],some 8,none⟩,
 ⟨.none,.stLc 8 2,[.l 8,.t 59],some 8,none⟩]
def a47s33 : ACode := .reg [8] a47r32
def a47r34 : List AOper := [
 op (.t 60) (.fad 0) [.l 8],
 ⟨.t 61,.ldLc 8 false 1,[.t 60],some 8,none⟩,
 op (.t 62) (.bin .neq) [.t 61,.c (.int .i64 0)]]
def a47r35 : List AOper := [
 ⟨.t 63,.ldLc 8 true 2,[.l 8],some 8,none⟩,
 ⟨.none,.stLc 3 2,[.l 3,.t 63],some 3,none⟩]
def a47s36 : ACode := .reg [] a47r35
def a47s37 : ACode := .seq a47s36 .ret
def a47s38 : ACode := .test [] a47r34 (.t 62) a47s37 .skip
def a47s39 : ACode := .seq a47s33 a47s38
def a47s40 : ACode := .seq a47s31 a47s39
def a47s41 : ACode := .blk 1 a47s40
def a47r42 : List AOper := [
 op (.t 64) (.bin .add) [.v 15,.c (.int .i64 1)],
 op (.v 15) .mv [.t 64]]
def a47s43 : ACode := .reg [] a47r42
def a47s44 : ACode := .seq a47s41 a47s43
def a47s45 : ACode := .seq a47s29 a47s44
def a47s46 : ACode := .loop a47s45
def a47s47 : ACode := .blk 0 a47s46
def a47s48 : ACode := .seq a47s27 a47s47
def a47r49 : List AOper := [
 op (.t 65) .mkM [],
 op .none (.mset 0) [.t 65,.c (.int .u8 1),.c (.int .u8 2)],
 op .none (.mset 0) [.t 65,.c (.int .u8 3),.c (.int .u8 1)],
 op (.t 66) .mv [.t 65],
 op (.t 67) (.fad 0) [.l 2],
 ⟨.t 68,.ldLc 2 false 1,[.t 67],some 2,none⟩,
 op (.t 69) (.mget 0 [.int .u8 0] false false) [.t 66,.t 68],
 op (.v 9) .mv [.t 69]]
def a47s50 : ACode := .reg [] a47r49
def a47r51 : List AOper := [
 op (.t 70) (.fad 3) [.l 2],
 ⟨.v 16,.ldLc 2 false 1,[.t 70],some 2,none⟩,
 op (.v 17) .lenL [.v 16],
 op (.v 18) .mv [.c (.int .i64 0)]]
def a47s52 : ACode := .reg [] a47r51
def a47r53 : List AOper := [
 op (.t 74) (.bin .lss) [.v 18,.v 17]]
def a47s54 : ACode := .test [] a47r53 (.t 74) .skip (.exit 2)
def a47r55 : List AOper := [
 op (.t 75) (.iad 1) [.v 16,.v 18],
 op (.t 76) (.ldRo false 1) [.t 75],
 op (.v 10) .mv [.t 76]]
def a47s56 : ACode := .reg [] a47r55
def a47r57 : List AOper := [
 op (.t 78) .mv [.v 0],
 op (.t 79) .mv [.v 10],
 op (.t 80) (.call 48) [.t 78,.t 79],
 op (.t 77) .mv [.t 80],
 op (.t 81) (.ext 0) [.t 77],
 op (.t 82) (.ext 1) [.t 77],
 ⟨.bx,.alloc [.int .u8 0,.str [],.list true [],.list true []],[],some 11,none⟩,
 ⟨.none,.stLc 11 4,[.l 11,.ts 81],some 11,none⟩,
 op (.v 12) .mv [.t 82]]
def a47s58 : ACode := .reg [11] a47r57
def a47r59 : List AOper := [
 op (.t 84) (.fad 0) [.l 2],
 ⟨.t 85,.ldLc 2 false 1,[.t 84],some 2,none⟩,
 op (.t 86) (.bin .eql) [.t 85,.c (.int .u8 4)],
 op (.t 83) .mv [.t 86]]
def a47r60 : List AOper := [
 op (.t 88) .mv [.v 12],
 op (.t 89) (.un .not) [.t 88],
 op (.t 87) .mv [.t 89]]
def a47r61 : List AOper := [
 op (.t 90) .mv [.v 10],
 op (.t 91) (.build [.int .i64 0,.str []] [(0,1),(1,1)]) [.c (.int .i64 6),.t 90],
 ⟨.none,.stLc 3 2,[.l 3,.t 91],some 3,none⟩]
def a47s62 : ACode := .reg [] a47r61
def a47s63 : ACode := .seq a47s62 .ret
def a47r64 : List AOper := [
 op (.t 93) (.fad 0) [.l 11],
 ⟨.t 94,.ldLc 11 false 1,[.t 93],some 11,none⟩,
 op (.t 95) .mv [.v 9],
 op (.t 96) (.bin .neq) [.t 94,.t 95],
 op (.t 97) .mv [.t 96],
 ⟨.t 98,.mv,[.v 10],none,some (.t 97,false)⟩,
 ⟨.t 99,.call 78,[.t 98],none,some (.t 97,false)⟩,
 op (.t 100) .pick [.t 97,.c (.bool true),.t 99],
 op (.t 92) .mv [.t 100]]
def a47r65 : List AOper := [
 op (.t 101) .mv [.v 10],
 op (.t 102) (.build [.int .i64 0,.str []] [(0,1),(1,1)]) [.c (.int .i64 8),.t 101],
 ⟨.none,.stLc 3 2,[.l 3,.t 102],some 3,none⟩]
def a47s66 : ACode := .reg [] a47r65
def a47s67 : ACode := .seq a47s66 .ret
def a47r68 : List AOper := [
 op (.t 104) (.fad 0) [.l 2],
 ⟨.t 105,.ldLc 2 false 1,[.t 104],some 2,none⟩,
 op (.t 106) (.bin .eql) [.t 105,.c (.int .u8 1)],
 op (.t 107) .mv [.t 106],
 ⟨.t 108,.mv,[.v 0],none,some (.t 107,true)⟩,
 ⟨.t 109,.ldLc 2 true 4,[.l 2],some 2,some (.t 107,true)⟩,
 ⟨.t 110,.ldLc 11 true 4,[.l 11],some 11,some (.t 107,true)⟩,
 ⟨.t 111,.call 79,[.t 108,.t 109,.t 110],none,some (.t 107,true)⟩,
 ⟨.t 112,.un .not,[.t 111],none,some (.t 107,true)⟩,
 op (.t 113) .pick [.t 107,.t 112,.c (.bool false)],
 op (.t 103) .mv [.t 113]]
def a47r69 : List AOper := [
 op (.t 114) .mv [.v 10],
 op (.t 115) (.build [.int .i64 0,.str []] [(0,1),(1,1)]) [.c (.int .i64 3),.t 114],
 ⟨.none,.stLc 3 2,[.l 3,.t 115],some 3,none⟩]
def a47s70 : ACode := .reg [] a47r69
def a47s71 : ACode := .seq a47s70 .ret
def a47s72 : ACode := .test [] a47r68 (.t 103) a47s71 .skip
def a47s73 : ACode := .test [] a47r64 (.t 92) a47s67 a47s72
def a47s74 : ACode := .test [] a47r60 (.t 87) a47s63 a47s73
def a47s75 : ACode := .test [] a47r59 (.t 83) .skip a47s74
def a47s76 : ACode := .blk 4 a47s75
def a47s77 : ACode := .seq a47s58 a47s76
def a47s78 : ACode := .seq a47s56 a47s77
def a47s79 : ACode := .blk 3 a47s78
def a47r80 : List AOper := [
 op (.t 116) (.bin .add) [.v 18,.c (.int .i64 1)],
 op (.v 18) .mv [.t 116]]
def a47s81 : ACode := .reg [] a47r80
def a47s82 : ACode := .seq a47s79 a47s81
def a47s83 : ACode := .seq a47s54 a47s82
def a47s84 : ACode := .loop a47s83
def a47s85 : ACode := .blk 2 a47s84
def a47s86 : ACode := .seq a47s52 a47s85
def a47r87 : List AOper := [
 op (.t 117) (.build [.int .i64 0,.str []] []) [],
 ⟨.none,.stLc 3 2,[.l 3,.t 117],some 3,none⟩]
def a47s88 : ACode := .reg [] a47r87
def a47s89 : ACode := .seq a47s88 .ret
def a47s90 : ACode := .seq a47s86 a47s89
def a47s91 : ACode := .seq a47s50 a47s90
def a47s92 : ACode := .seq a47s48 a47s91
def a47s93 : ACode := .seq a47s25 a47s92
def a47s94 : ACode := .seq a47s17 a47s93
def a47s95 : ACode := .seq a47s9 a47s94
def a47s96 : ACode := .seq a47s1 a47s95
def a47c : ACode :=
  a47s96
def a47 : AFn := { np := 2,nv := 19,results := [.bx 3 true 2],code := a47c }
def a47v : List Nat := [0,1,3,4,5,6,7,9,10,11,13,14,15,48,49,50,71,72,73]
def a47b : List Nat := [2,3,4,5,6,7,8,11]

def a48r0 : List AOper := [
 ⟨.bx,.alloc [.int .u8 0,.str [],.list true [],.list true []],[],some 2,none⟩,
 op (.v 3) .mv [.c (.bool false)]]
def a48s1 : ACode := .reg [2] a48r0
def a48r2 : List AOper := [
 op (.t 8) .mv [.v 0],
 op (.t 9) (.binP .eql) [.t 8,.c (.nilp)]]
def a48r3 : List AOper := [
 op (.t 10) (.build [.int .u8 0,.str [],.list true [],.list true []] []) [],
 ⟨.none,.stLc 2 4,[.l 2,.ts 10],some 2,none⟩,
 op (.v 3) .mv [.c (.bool false)]]
def a48s4 : ACode := .reg [] a48r3
def a48s5 : ACode := .seq a48s4 .ret
def a48s6 : ACode := .test [] a48r2 (.t 9) a48s5 .skip
def a48r7 : List AOper := [
 op (.t 12) .mv [.v 0],
 op (.t 13) .nilchk [.t 12],
 op (.t 14) (.fad 1) [.t 13],
 op (.t 15) (.ldSt false 1) [.t 14],
 op (.t 16) .mv [.v 1],
 op (.t 17) (.mget 1 [.int .i64 0] false true) [.t 15,.t 16],
 op (.t 11) .mv [.t 17],
 op (.t 18) (.ext 0) [.t 11],
 op (.t 19) (.ext 1) [.t 11],
 op (.v 4) .mv [.t 18],
 op (.v 5) .mv [.t 19]]
def a48s8 : ACode := .reg [] a48r7
def a48r9 : List AOper := [
 op (.t 20) .mv [.v 5],
 op (.t 21) (.un .not) [.t 20]]
def a48r10 : List AOper := [
 op (.t 22) (.build [.int .u8 0,.str [],.list true [],.list true []] []) [],
 ⟨.none,.stLc 2 4,[.l 2,.ts 22],some 2,none⟩,
 op (.v 3) .mv [.c (.bool false)]]
def a48s11 : ACode := .reg [] a48r10
def a48s12 : ACode := .seq a48s11 .ret
def a48s13 : ACode := .test [] a48r9 (.t 21) a48s12 .skip
def a48r14 : List AOper := [
 op (.t 23) .mv [.v 0],
 op (.t 24) .nilchk [.t 23],
 op (.t 25) (.fad 0) [.t 24],
 op (.t 26) (.ldSt false 1) [.t 25],
 op (.t 27) .mv [.v 4],
 op (.t 28) (.iad 4) [.t 26,.t 27],
 op (.t 29) (.ldRo true 4) [.t 28],
 ⟨.none,.stLc 2 4,[.l 2,.ts 29],some 2,none⟩,
 op (.v 3) .mv [.c (.bool true)]]
def a48s15 : ACode := .reg [] a48r14
def a48s16 : ACode := .seq a48s15 .ret
def a48s17 : ACode := .seq a48s13 a48s16
def a48s18 : ACode := .seq a48s8 a48s17
def a48s19 : ACode := .seq a48s6 a48s18
def a48s20 : ACode := .seq a48s1 a48s19
def a48c : ACode :=
  a48s20
def a48 : AFn := { np := 2,nv := 6,results := [.bx 2 true 4,.v 3],code := a48c }
def a48v : List Nat := [0,1,4,5,6,7]
def a48b : List Nat := [2]

def a49r0 : List AOper := [
 ⟨.bx,.boxV,[.v 1],some 2,none⟩,
 ⟨.bx,.alloc [.int .i64 0,.str []],[],some 3,none⟩]
def a49s1 : ACode := .reg [2,3] a49r0
def a49r2 : List AOper := [
 op (.t 8) (.fad 0) [.l 2],
 ⟨.t 9,.ldLc 2 false 1,[.t 8],some 2,none⟩,
 op (.t 10) (.bin .neq) [.t 9,.c (.int .u8 1)],
 op (.t 11) .mv [.t 10],
 ⟨.t 12,.fad 0,[.l 2],none,some (.t 11,true)⟩,
 ⟨.t 13,.ldLc 2 false 1,[.t 12],some 2,some (.t 11,true)⟩,
 ⟨.t 14,.bin .neq,[.t 13,.c (.int .u8 2)],none,some (.t 11,true)⟩,
 op (.t 15) .pick [.t 11,.t 14,.c (.bool false)]]
def a49r3 : List AOper := [
 op (.t 16) (.build [.int .i64 0,.str []] []) [],
 ⟨.none,.stLc 3 2,[.l 3,.t 16],some 3,none⟩]
def a49s4 : ACode := .reg [] a49r3
def a49s5 : ACode := .seq a49s4 .ret
def a49s6 : ACode := .test [] a49r2 (.t 15) a49s5 .skip
def a49r7 : List AOper := [
 op (.t 17) (.fad 2) [.l 2],
 ⟨.v 6,.ldLc 2 false 1,[.t 17],some 2,none⟩,
 op (.v 7) .lenL [.v 6],
 op (.v 8) .mv [.c (.int .i64 0)]]
def a49s8 : ACode := .reg [] a49r7
def a49r9 : List AOper := [
 op (.t 21) (.bin .lss) [.v 8,.v 7]]
def a49s10 : ACode := .test [] a49r9 (.t 21) .skip (.exit 0)
def a49r11 : List AOper := [
 op (.t 22) (.iad 11) [.v 6,.v 8],
 op (.t 23) (.ldRo true 11) [.t 22],
 ⟨.bx,.alloc [.str [],.list true [],.str [],.list true [],.bool false,.bool false,.int .u8 0,.int .i64 0,.str [],.list true [],.list true []],[],some 4,none⟩,
 ⟨.none,.stLc 4 11,[.l 4,.ts 23],some 4,none⟩]
def a49s12 : ACode := .reg [4] a49r11
def a49r13 : List AOper := [
 op (.t 24) (.fad 1) [.l 4],
 ⟨.t 25,.ldLc 4 false 1,[.t 24],some 4,none⟩,
 op (.t 26) .lenL [.t 25],
 op (.t 27) (.bin .eql) [.t 26,.c (.int .i64 0)],
 op (.v 5) .mv [.t 27]]
def a49s14 : ACode := .reg [] a49r13
def a49r15 : List AOper := [
 op (.t 28) (.fad 1) [.l 2],
 ⟨.v 9,.ldLc 2 false 1,[.t 28],some 2,none⟩]
def a49s16 : ACode := .reg [] a49r15
def a49r17 : List AOper := [
 op (.t 31) (.bin .eql) [.v 9,.c (.str [81,117,101,114,121])],
 op (.t 30) .mv [.t 31]]
def a49r18 : List AOper := [
 op (.t 32) .mv [.v 0],
 ⟨.t 33,.ldLc 4 true 11,[.l 4],some 4,none⟩,
 op (.t 34) (.call 80) [.t 32,.t 33],
 op (.t 35) .mv [.t 34],
 ⟨.t 36,.mv,[.v 0],none,some (.t 35,false)⟩,
 ⟨.t 37,.ldLc 4 true 11,[.l 4],some 4,some (.t 35,false)⟩,
 ⟨.t 38,.call 81,[.t 36,.t 37],none,some (.t 35,false)⟩,
 op (.t 39) .pick [.t 35,.c (.bool true),.t 38],
 op (.v 5) .mv [.t 39]]
def a49s19 : ACode := .reg [] a49r18
def a49r20 : List AOper := [
 op (.t 41) (.bin .eql) [.v 9,.c (.str [77,117,116,97,116,105,111,110])],
 op (.t 40) .mv [.t 41]]
def a49r21 : List AOper := [
 op (.t 42) (.fad 0) [.l 2],
 ⟨.t 43,.ldLc 2 false 1,[.t 42],some 2,none⟩,
 op (.t 44) (.bin .eql) [.t 43,.c (.int .u8 1)],
 op (.t 45) .mv [.t 44],
 ⟨.t 46,.mv,[.v 0],none,some (.t 45,true)⟩,
 ⟨.t 47,.ldLc 4 true 11,[.l 4],some 4,some (.t 45,true)⟩,
 ⟨.t 48,.call 82,[.t 46,.t 47],none,some (.t 45,true)⟩,
 op (.t 49) .pick [.t 45,.t 48,.c (.bool false)],
 op (.v 5) .mv [.t 49]]
def a49s22 : ACode := .reg [] a49r21
def a49s23 : ACode := .test [] a49r20 (.t 40) a49s22 .skip
def a49s24 : ACode := .test [] a49r17 (.t 30) a49s19 a49s23
def a49s25 : ACode := .blk 2 a49s24
def a49s26 : ACode := .seq a49s16 a49s25
def a49r27 : List AOper := [
 op (.t 50) .mv [.v 5],
 op (.t 51) (.un .not) [.t 50]]
def a49r28 : List AOper := [
 op (.t 52) (.fad 0) [.l 4],
 ⟨.t 53,.ldLc 4 false 1,[.t 52],some 4,none⟩,
 op (.t 54) (.build [.int .i64 0,.str []] [(0,1),(1,1)]) [.c (.int .i64 3),.t 53],
 ⟨.none,.stLc 3 2,[.l 3,.t 54],some 3,none⟩]
def a49s29 : ACode := .reg [] a49r28
def a49s30 : ACode := .seq a49s29 .ret
def a49s31 : ACode := .test [] a49r27 (.t 51) a49s30 .skip
def a49s32 : ACode := .seq a49s26 a49s31
def a49s33 : ACode := .seq a49s14 a49s32
def a49s34 : ACode := .seq a49s12 a49s33
def a49s35 : ACode := .blk 1 a49s34
def a49r36 : List AOper := [
 op (.t 55) (.bin .add) [.v 8,.c (.int .i64 1)],
 op (.v 8) .mv [.t 55]]
def a49s37 : ACode := .reg [] a49r36
def a49s38 : ACode := .seq a49s35 a49s37
def a49s39 : ACode := .seq a49s10 a49s38
def a49s40 : ACode := .loop a49s39
def a49s41 : ACode := .blk 0 a49s40
def a49s42 : ACode := .seq a49s8 a49s41
def a49r43 : List AOper := [
 op (.t 56) (.build [.int .i64 0,.str []] []) [],
 ⟨.none,.stLc 3 2,[.l 3,.t 56],some 3,none⟩]
def a49s44 : ACode := .reg [] a49r43
def a49s45 : ACode := .seq a49s44 .ret
def a49s46 : ACode := .seq a49s42 a49s45
def a49s47 : ACode := .seq a49s6 a49s46
def a49s48 : ACode := .seq a49s1 a49s47
def a49c : ACode :=
  a49s48
def a49 : AFn := { np := 2,nv := 10,results := [.bx 3 true 2],code := a49c }
def a49v : List Nat := [0,1,3,4,6,7,18,19,20,29]
def a49b : List Nat := [2,3,4]

def a50r0 : List AOper := [
 op (.v 1) .mv [.c (.bool false)]]
def a50s1 : ACode := .reg [] a50r0
def a50r2 : List AOper := [
 op (.t 3) .mv [.v 0],
 op (.t 4) (.bin .eql) [.t 3,.c (.str [66,111,111,108,101,97,110])],
 op (.t 5) .mv [.t 4],
 ⟨.t 6,.mv,[.v 0],none,some (.t 5,false)⟩,
 ⟨.t 7,.bin .eql,[.t 6,.c (.str [73,68])],none,some (.t 5,false)⟩,
 op (.t 8) .pick [.t 5,.c (.bool true),.t 7],
 op (.t 9) .mv [.t 8],
 ⟨.t 10,.mv,[.v 0],none,some (.t 9,false)⟩,
 ⟨.t 11,.bin .eql,[.t 10,.c (.str [73,110,116])],none,some (.t 9,false)⟩,
 op (.t 12) .pick [.t 9,.c (.bool true),.t 11],
 op (.t 13) .mv [.t 12],
 ⟨.t 14,.mv,[.v 0],none,some (.t 13,false)⟩,
 ⟨.t 15,.bin .eql,[.t 14,.c (.str [83,116,114,105,110,103])],none,some (.t 13,false)⟩,
 op (.t 16) .pick [.t 13,.c (.bool true),.t 15],
 op (.v 1) .mv [.t 16]]
def a50s3 : ACode := .reg [] a50r2
def a50s4 : ACode := .seq a50s3 .ret
def a50s5 : ACode := .seq a50s1 a50s4
def a50c : ACode :=
  a50s5
def a50 : AFn := { np := 1,nv := 2,results := [.v 1],code := a50c }
def a50v : List Nat := [0,2]
def a50b : List Nat := []

def a51r0 : List AOper := [
 op (.v 2) .mv [.c (.bool false)]]
def a51s1 : ACode := .reg [] a51r0
def a51r2 : List AOper := [
 op (.v 3) .mv [.c (.int .i64 0)]]
def a51s3 : ACode := .reg [] a51r2
def a51r4 : List AOper := [
 op (.t 6) .mv [.v 3],
 op (.t 7) .mv [.v 0],
 op (.t 8) .lenL [.t 7],
 op (.t 9) (.bin .lss) [.t 6,.t 8]]
def a51s5 : ACode := .test [] a51r4 (.t 9) .skip (.exit 0)
def a51r6 : List AOper := [
 op (.t 12) .mv [.v 0],
 op (.t 13) .mv [.v 3],
 op (.t 14) (.iad 1) [.t 12,.t 13],
 op (.t 15) (.ldRo false 1) [.t 14],
 op (.t 16) .mv [.v 1],
 op (.t 17) (.bin .eql) [.t 15,.t 16]]
def a51r7 : List AOper := [
 op (.v 2) .mv [.c (.bool true)]]
def a51s8 : ACode := .reg [] a51r7
def a51s9 : ACode := .seq a51s8 .ret
def a51s10 : ACode := .test [] a51r6 (.t 17) a51s9 .skip
def a51s11 : ACode := .blk 1 a51s10
def a51r12 : List AOper := [
 op (.t 10) .mv [.v 3],
 op (.t 11) (.bin .add) [.t 10,.c (.int .i64 1)],
 op (.v 3) .mv [.t 11]]
def a51s13 : ACode := .reg [] a51r12
def a51s14 : ACode := .seq a51s11 a51s13
def a51s15 : ACode := .seq a51s5 a51s14
def a51s16 : ACode := .loop a51s15
def a51s17 : ACode := .blk 0 a51s16
def a51s18 : ACode := .seq a51s3 a51s17
def a51r19 : List AOper := [
 op (.v 2) .mv [.c (.bool false)]]
def a51s20 : ACode := .reg [] a51r19
def a51s21 : ACode := .seq a51s20 .ret
def a51s22 : ACode := .seq a51s18 a51s21
def a51s23 : ACode := .seq a51s1 a51s22
def a51c : ACode :=
  a51s23
def a51 : AFn := { np := 2,nv := 4,results := [.v 2],code := a51c }
def a51v : List Nat := [0,1,4,5]
def a51b : List Nat := []

def a52r0 : List AOper := [
 op (.v 2) .mv [.c (.bool false)]]
def a52s1 : ACode := .reg [] a52r0
def a52r2 : List AOper := [
 op (.t 5) .mv [.v 0],
 op (.t 6) .lenS [.t 5],
 op (.t 7) .mv [.v 1],
 op (.t 8) .lenS [.t 7],
 op (.t 9) (.bin .geq) [.t 6,.t 8],
 op (.t 10) .mv [.t 9],
 ⟨.t 11,.mv,[.v 0],none,some (.t 10,true)⟩,
 ⟨.t 12,.mv,[.v 1],none,some (.t 10,true)⟩,
 ⟨.t 13,.lenS,[.t 12],none,some (.t 10,true)⟩,
 ⟨.t 14,.slS false true,[.t 11,.t 13],none,some (.t 10,true)⟩,
 ⟨.t 15,.mv,[.v 1],none,some (.t 10,true)⟩,
 ⟨.t 16,.bin .eql,[.t 14,.t 15],none,some (.t 10,true)⟩,
 op (.t 17) .pick [.t 10,.t 16,.c (.bool false)],
 op (.v 2) .mv [.t 17]]
def a52s3 : ACode := .reg [] a52r2
def a52s4 : ACode := .seq a52s3 .ret
def a52s5 : ACode := .seq a52s1 a52s4
def a52c : ACode :=
  a52s5
def a52 : AFn := { np := 2,nv := 3,results := [.v 2],code := a52c }
def a52v : List Nat := [0,1,4]
def a52b : List Nat := []

def a53r0 : List AOper := [
 ⟨.bx,.boxV,[.v 1],some 2,none⟩,
 op (.v 3) .mv [.c (.str [])],
 op (.v 4) .mv [.c (.int .i64 0)]]
def a53s1 : ACode := .reg [2] a53r0
def a53r2 : List AOper := [
 op (.t 19) (.fad 0) [.l 2],
 ⟨.t 20,.ldLc 2 false 1,[.t 19],some 2,none⟩,
 op (.t 21) (.bin .eql) [.t 20,.c (.int .u8 1)]]
def a53r3 : List AOper := [
 op (.t 23) (.fad 2) [.l 2],
 ⟨.t 24,.ldLc 2 false 1,[.t 23],some 2,none⟩,
 op (.t 25) (.call 84) [.t 24],
 op (.t 26) (.call 83) [.t 25],
 op (.t 22) .mv [.t 26],
 op (.t 27) (.ext 0) [.t 22],
 op (.t 28) (.ext 1) [.t 22],
 op (.v 5) .mv [.t 27],
 op (.v 6) .mv [.t 28]]
def a53s4 : ACode := .reg [] a53r3
def a53r5 : List AOper := [
 op (.t 29) .mv [.v 6],
 op (.t 30) (.bin .neq) [.t 29,.c (.int .i64 0)]]
def a53r6 : List AOper := [
 op (.t 31) .mv [.v 5],
 op (.t 32) .mv [.v 6],
 op (.v 3) .mv [.t 31],
 op (.v 4) .mv [.t 32]]
def a53s7 : ACode := .reg [] a53r6
def a53s8 : ACode := .seq a53s7 .ret
def a53s9 : ACode := .test [] a53r5 (.t 30) a53s8 .skip
def a53r10 : List AOper := [
 op (.t 34) (.fad 3) [.l 2],
 ⟨.t 35,.ldLc 2 false 1,[.t 34],some 2,none⟩,
 op (.t 36) (.call 83) [.t 35],
 op (.t 33) .mv [.t 36],
 op (.t 37) (.ext 0) [.t 33],
 op (.t 38) (.ext 1) [.t 33],
 op (.v 5) .mv [.t 37],
 op (.v 6) .mv [.t 38]]
def a53s11 : ACode := .reg [] a53r10
def a53r12 : List AOper := [
 op (.t 39) .mv [.v 6],
 op (.t 40) (.bin .neq) [.t 39,.c (.int .i64 0)]]
def a53r13 : List AOper := [
 op (.t 41) .mv [.v 5],
 op (.t 42) .mv [.v 6],
 op (.v 3) .mv [.t 41],
 op (.v 4) .mv [.t 42]]
def a53s14 : ACode := .reg [] a53r13
def a53s15 : ACode := .seq a53s14 .ret
def a53s16 : ACode := .test [] a53r12 (.t 40) a53s15 .skip
def a53s17 : ACode := .seq a53s11 a53s16
def a53s18 : ACode := .seq a53s9 a53s17
def a53s19 : ACode := .seq a53s4 a53s18
def a53r20 : List AOper := [
 op (.v 7) .mv [.c (.list true [])]]
def a53s21 : ACode := .reg [] a53r20
def a53r22 : List AOper := [
 op (.t 43) .mv [.vs 7],
 op (.t 44) (.fad 2) [.l 2],
 ⟨.t 45,.ldLc 2 false 1,[.t 44],some 2,none⟩,
 op (.t 46) (.call 84) [.t 45],
 op (.t 47) (.app 1 16) [.ts 43,.t 46],
 op (.v 7) .mv [.ts 47]]
def a53s23 : ACode := .reg [] a53r22
def a53r24 : List AOper := [
 op (.t 49) .mv [.vs 7],
 op (.t 50) (.fad 3) [.l 2],
 ⟨.t 51,.ldLc 2 false 1,[.t 50],some 2,none⟩,
 op (.t 52) (.app 1 16) [.ts 49,.t 51],
 op (.t 53) (.call 83) [.t 52],
 op (.t 48) .mv [.t 53],
 op (.t 54) (.ext 0) [.t 48],
 op (.t 55) (.ext 1) [.t 48],
 op (.v 8) .mv [.t 54],
 op (.v 9) .mv [.t 55]]
def a53s25 : ACode := .reg [] a53r24
def a53r26 : List AOper := [
 op (.t 56) .mv [.v 9],
 op (.t 57) (.bin .neq) [.t 56,.c (.int .i64 0)]]
def a53r27 : List AOper := [
 op (.t 58) .mv [.v 8],
 op (.t 59) .mv [.v 9],
 op (.v 3) .mv [.t 58],
 op (.v 4) .mv [.t 59]]
def a53s28 : ACode := .reg [] a53r27
def a53s29 : ACode := .seq a53s28 .ret
def a53s30 : ACode := .test [] a53r26 (.t 57) a53s29 .skip
def a53s31 : ACode := .seq a53s25 a53s30
def a53s32 : ACode := .seq a53s23 a53s31
def a53s33 : ACode := .seq a53s21 a53s32
def a53s34 : ACode := .test [] a53r2 (.t 21) a53s19 a53s33
def a53r35 : List AOper := [
 op (.v 10) .mv [.c (.int .i64 0)]]
def a53s36 : ACode := .reg [] a53r35
def a53r37 : List AOper := [
 op (.t 60) .mv [.v 10],
 op (.t 61) (.fad 2) [.l 2],
 ⟨.t 62,.ldLc 2 false 1,[.t 61],some 2,none⟩,
 op (.t 63) .lenL [.t 62],
 op (.t 64) (.bin .lss) [.t 60,.t 63]]
def a53s38 : ACode := .test [] a53r37 (.t 64) .skip (.exit 0)
def a53r39 : List AOper := [
 op (.t 68) .mv [.v 0],
 op (.t 69) (.fad 2) [.l 2],
 ⟨.t 70,.ldLc 2 false 1,[.t 69],some 2,none⟩,
 op (.t 71) .mv [.v 10],
 op (.t 72) (.iad 11) [.t 70,.t 71],
 op (.t 73) (.ldRo true 11) [.t 72],
 op (.t 74) (.fad 0) [.l 2],
 ⟨.t 75,.ldLc 2 false 1,[.t 74],some 2,none⟩,
 op (.t 76) (.bin .eql) [.t 75,.c (.int .u8 5)],
 op (.t 77) (.call 85) [.t 68,.t 73,.t 76],
 op (.t 67) .mv [.t 77],
 op (.t 78) (.ext 0) [.t 67],
 op (.t 79) (.ext 1) [.t 67],
 op (.v 11) .mv [.t 78],
 op (.v 12) .mv [.t 79]]
def a53s40 : ACode := .reg [] a53r39
def a53r41 : List AOper := [
 op (.t 80) .mv [.v 12],
 op (.t 81) (.bin .neq) [.t 80,.c (.int .i64 0)]]
def a53r42 : List AOper := [
 op (.t 82) .mv [.v 11],
 op (.t 83) .mv [.v 12],
 op (.v 3) .mv [.t 82],
 op (.v 4) .mv [.t 83]]
def a53s43 : ACode := .reg [] a53r42
def a53s44 : ACode := .seq a53s43 .ret
def a53s45 : ACode := .test [] a53r41 (.t 81) a53s44 .skip
def a53s46 : ACode := .seq a53s40 a53s45
def a53s47 : ACode := .blk 1 a53s46
def a53r48 : List AOper := [
 op (.t 65) .mv [.v 10],
 op (.t 66) (.bin .add) [.t 65,.c (.int .i64 1)],
 op (.v 10) .mv [.t 66]]
def a53s49 : ACode := .reg [] a53r48
def a53s50 : ACode := .seq a53s47 a53s49
def a53s51 : ACode := .seq a53s38 a53s50
def a53s52 : ACode := .loop a53s51
def a53s53 : ACode := .blk 0 a53s52
def a53s54 : ACode := .seq a53s36 a53s53
def a53r55 : List AOper := [
 op (.v 13) .mv [.c (.int .i64 0)]]
def a53s56 : ACode := .reg [] a53r55
def a53r57 : List AOper := [
 op (.t 84) .mv [.v 13],
 op (.t 85) (.fad 3) [.l 2],
 ⟨.t 86,.ldLc 2 false 1,[.t 85],some 2,none⟩,
 op (.t 87) .lenL [.t 86],
 op (.t 88) (.bin .lss) [.t 84,.t 87],
 op (.t 89) .mv [.t 88],
 ⟨.t 90,.fad 0,[.l 2],none,some (.t 89,true)⟩,
 ⟨.t 91,.ldLc 2 false 1,[.t 90],some 2,some (.t 89,true)⟩,
 ⟨.t 92,.bin .neq,[.t 91,.c (.int .u8 4)],none,some (.t 89,true)⟩,
 op (.t 93) .pick [.t 89,.t 92,.c (.bool false)]]
def a53s58 : ACode := .test [] a53r57 (.t 93) .skip (.exit 2)
def a53r59 : List AOper := [
 op (.t 96) (.fad 3) [.l 2],
 ⟨.t 97,.ldLc 2 false 1,[.t 96],some 2,none⟩,
 op (.t 98) .mv [.v 13],
 op (.t 99) (.iad 1) [.t 97,.t 98],
 op (.t 100) (.ldRo false 1) [.t 99],
 op (.v 14) .mv [.t 100]]
def a53s60 : ACode := .reg [] a53r59
def a53r61 : List AOper := [
 op (.t 101) .mv [.v 0],
 op (.t 102) .mv [.v 14],
 op (.t 103) (.call 54) [.t 101,.t 102],
 ⟨.bx,.alloc [.int .u8 0,.str [],.list true [],.list true []],[],some 15,none⟩,
 ⟨.none,.stLc 15 4,[.l 15,.ts 103],some 15,none⟩]
def a53s62 : ACode := .reg [15] a53r61
def a53r63 : List AOper := [
 op (.t 105) (.fad 0) [.l 15],
 ⟨.t 106,.ldLc 15 false 1,[.t 105],some 15,none⟩,
 op (.t 107) (.bin .eql) [.t 106,.c (.int .u8 0)],
 op (.t 104) .mv [.t 107]]
def a53r64 : List AOper := [
 op (.t 108) .mv [.v 14],
 op (.v 3) .mv [.t 108],
 op (.v 4) .mv [.c (.int .i64 6)]]
def a53s65 : ACode := .reg [] a53r64
def a53s66 : ACode := .seq a53s65 .ret
def a53r67 : List AOper := [
 op (.t 110) (.fad 0) [.l 2],
 ⟨.t 111,.ldLc 2 false 1,[.t 110],some 2,none⟩,
 op (.t 112) (.bin .eql) [.t 111,.c (.int .u8 1)],
 op (.t 113) .mv [.t 112],
 ⟨.t 114,.fad 0,[.l 15],none,some (.t 113,true)⟩,
 ⟨.t 115,.ldLc 15 false 1,[.t 114],some 15,some (.t 113,true)⟩,
 ⟨.t 116,.bin .neq,[.t 115,.c (.int .u8 2)],none,some (.t 113,true)⟩,
 op (.t 117) .pick [.t 113,.t 116,.c (.bool false)],
 op (.t 118) .mv [.t 117],
 ⟨.t 119,.fad 0,[.l 2],none,some (.t 118,false)⟩,
 ⟨.t 120,.ldLc 2 false 1,[.t 119],some 2,some (.t 118,false)⟩,
 ⟨.t 121,.bin .eql,[.t 120,.c (.int .u8 3)],none,some (.t 118,false)⟩,
 ⟨.t 122,.mv,[.t 121],none,some (.t 118,false)⟩,
 ⟨.t 123,.fad 0,[.l 15],none,some (.t 122,true)⟩,
 ⟨.t 124,.ldLc 15 false 1,[.t 123],some 15,some (.t 122,true)⟩,
 ⟨.t 125,.bin .neq,[.t 124,.c (.int .u8 1)],none,some (.t 122,true)⟩,
 ⟨.t 126,.pick,[.t 122,.t 125,.c (.bool false)],none,some (.t 118,false)⟩,
 op (.t 127) .pick [.t 118,.c (.bool true),.t 126],
 op (.t 128) .mv [.t 127],
 ⟨.t 129,.fad 0,[.l 2],none,some (.t 128,false)⟩,
 ⟨.t 130,.ldLc 2 false 1,[.t 129],some 2,some (.t 128,false)⟩,
 ⟨.t 131,.bin .eql,[.t 130,.c (.int .u8 2)],none,some (.t 128,false)⟩,
 op (.t 132) .pick [.t 128,.c (.bool true),.t 131],
 op (.t 133) .mv [.t 132],
 ⟨.t 134,.mv,[.v 14],none,some (.t 133,false)⟩,
 ⟨.t 135,.call 86,[.t 134],none,some (.t 133,false)⟩,
 op (.t 136) .pick [.t 133,.c (.bool true),.t 135],
 op (.t 109) .mv [.t 136]]
def a53r68 : List AOper := [
 op (.t 137) .mv [.v 14],
 op (.v 3) .mv [.t 137],
 op (.v 4) .mv [.c (.int .i64 8)]]
def a53s69 : ACode := .reg [] a53r68
def a53s70 : ACode := .seq a53s69 .ret
def a53s71 : ACode := .test [] a53r67 (.t 109) a53s70 .skip
def a53s72 : ACode := .test [] a53r63 (.t 104) a53s66 a53s71
def a53s73 : ACode := .blk 4 a53s72
def a53r74 : List AOper := [
 op (.v 16) .mv [.c (.int .i64 0)]]
def a53s75 : ACode := .reg [] a53r74
def a53r76 : List AOper := [
 op (.t 138) .mv [.v 16],
 op (.t 139) (.fad 2) [.l 15],
 ⟨.t 140,.ldLc 15 false 1,[.t 139],some 15,none⟩,
 op (.t 141) .lenL [.t 140],
 op (.t 142) (.bin .lss) [.t 138,.t 141],
 op (.t 143) .mv [.t 142],
 ⟨.t 144,.fad 0,[.l 2],none,some (.t 143,true)⟩,
 ⟨.t 145,.ldLc 2 false 1,[.t 144],some 2,some (.t 143,true)⟩,
 ⟨.t 146,.bin .eql,[.t 145,.c (.int .u8 1)],none,some (.t 143,true)⟩,
 op (.t 147) .pick [.t 143,.t 146,.c (.bool false)]]
def a53s77 : ACode := .test [] a53r76 (.t 147) .skip (.exit 5)
def a53r78 : List AOper := [
 op (.t 150) (.fad 2) [.l 2],
 ⟨.t 151,.ldLc 2 false 1,[.t 150],some 2,none⟩,
 op (.t 152) (.fad 2) [.l 15],
 ⟨.t 153,.ldLc 15 false 1,[.t 152],some 15,none⟩,
 op (.t 154) .mv [.v 16],
 op (.t 155) (.iad 11) [.t 153,.t 154],
 op (.t 156) (.fad 0) [.t 155],
 op (.t 157) (.ldRo false 1) [.t 156],
 op (.t 158) (.call 87) [.t 151,.t 157],
 op (.v 17) .mv [.t 158]]
def a53s79 : ACode := .reg [] a53r78
def a53r80 : List AOper := [
 op (.t 159) .mv [.v 17],
 op (.t 160) (.bin .lss) [.t 159,.c (.int .i64 0)],
 op (.t 161) .mv [.t 160],
 ⟨.t 162,.fad 2,[.l 2],none,some (.t 161,false)⟩,
 ⟨.t 163,.ldLc 2 false 1,[.t 162],some 2,some (.t 161,false)⟩,
 ⟨.t 164,.mv,[.v 17],none,some (.t 161,false)⟩,
 ⟨.t 165,.iad 11,[.t 163,.t 164],none,some (.t 161,false)⟩,
 ⟨.t 166,.fad 2,[.t 165],none,some (.t 161,false)⟩,
 ⟨.t 167,.ldRo true 3,[.t 166],none,some (.t 161,false)⟩,
 ⟨.t 168,.fad 2,[.l 15],none,some (.t 161,false)⟩,
 ⟨.t 169,.ldLc 15 false 1,[.t 168],some 15,some (.t 161,false)⟩,
 ⟨.t 170,.mv,[.v 16],none,some (.t 161,false)⟩,
 ⟨.t 171,.iad 11,[.t 169,.t 170],none,some (.t 161,false)⟩,
 ⟨.t 172,.fad 2,[.t 171],none,some (.t 161,false)⟩,
 ⟨.t 173,.ldRo true 3,[.t 172],none,some (.t 161,false)⟩,
 ⟨.t 174,.call 88,[.t 167,.t 173],none,some (.t 161,false)⟩,
 ⟨.t 175,.un .not,[.t 174],none,some (.t 161,false)⟩,
 op (.t 176) .pick [.t 161,.c (.bool true),.t 175]]
def a53r81 : List AOper := [
 op (.t 177) .mv [.v 14],
 op (.v 3) .mv [.t 177],
 op (.v 4) .mv [.c (.int .i64 3)]]
def a53s82 : ACode := .reg [] a53r81
def a53s83 : ACode := .seq a53s82 .ret
def a53s84 : ACode := .test [] a53r80 (.t 176) a53s83 .skip
def a53s85 : ACode := .seq a53s79 a53s84
def a53s86 : ACode := .blk 6 a53s85
def a53r87 : List AOper := [
 op (.t 148) .mv [.v 16],
 op (.t 149) (.bin .add) [.t 148,.c (.int .i64 1)],
 op (.v 16) .mv [.t 149]]
def a53s88 : ACode := .reg [] a53r87
def a53s89 : ACode := .seq a53s86 a53s88
def a53s90 : ACode := .seq a53s77 a53s89
def a53s91 : ACode := .loop a53s90
def a53s92 : ACode := .blk 5 a53s91
def a53s93 : ACode := .seq a53s75 a53s92
def a53s94 : ACode := .seq a53s73 a53s93
def a53s95 : ACode := .seq a53s62 a53s94
def a53s96 : ACode := .seq a53s60 a53s95
def a53s97 : ACode := .blk 3 a53s96
def a53r98 : List AOper := [
 op (.t 94) .mv [.v 13],
 op (.t 95) (.bin .add) [.t 94,.c (.int .i64 1)],
 op (.v 13) .mv [.t 95]]
def a53s99 : ACode := .reg [] a53r98
def a53s100 : ACode := .seq a53s97 a53s99
def a53s101 : ACode := .seq a53s58 a53s100
def a53s102 : ACode := .loop a53s101
def a53s103 : ACode := .blk 2 a53s102
def a53s104 : ACode := .seq a53s56 a53s103
def a53r105 : List AOper := [
 op (.v 3) .mv [.c (.str [])],
 op (.v 4) .mv [.c (.int .i64 0)]]
def a53s106 : ACode := .reg [] a53r105
def a53s107 : ACode := .seq a53s106 .ret
def a53s108 : ACode := .seq a53s104 a53s107
def a53s109 : ACode := .seq a53s54 a53s108
def a53s110 : ACode := .seq a53s34 a53s109
def a53s111 : ACode := .seq a53s1 a53s110
def a53c : ACode :=
  a53s111
def a53 : AFn := { np := 2,nv := 18,results := [.v 3,.v 4],code := a53c }
def a53v : List Nat := [0,1,3,4,5,6,7,8,9,10,11,12,13,14,15,16,17,18]
def a53b : List Nat := [2,15]

def a54r0 : List AOper := [
 ⟨.bx,.alloc [.int .u8 0,.str [],.list true [],.list true []],[],some 2,none⟩]
def a54s1 : ACode := .reg [2] a54r0
def a54r2 : List AOper := [
 op (.v 3) .mv [.c (.int .i64 0)]]
def a54s3 : ACode := .reg [] a54r2
def a54r4 : List AOper := [
 op (.t 6) .mv [.v 3],
 op (.t 7) .mv [.v 0],
 op (.t 8) .nilchk [.t 7],
 op (.t 9) (.fad 0) [.t 8],
 op (.t 10) (.ldSt false 1) [.t 9],
 op (.t 11) .lenL [.t 10],
 op (.t 12) (.bin .lss) [.t 6,.t 11]]
def a54s5 : ACode := .test [] a54r4 (.t 12) .skip (.exit 0)
def a54r6 : List AOper := [
 op (.t 15) .mv [.v 0],
 op (.t 16) .nilchk [.t 15],
 op (.t 17) (.fad 0) [.t 16],
 op (.t 18) (.ldSt false 1) [.t 17],
 op (.t 19) .mv [.v 3],
 op (.t 20) (.iad 4) [.t 18,.t 19],
 op (.t 21) (.fad 1) [.t 20],
 op (.t 22) (.ldRo false 1) [.t 21],
 op (.t 23) .mv [.v 1],
 op (.t 24) (.bin .eql) [.t 22,.t 23]]
def a54r7 : List AOper := [
 op (.t 25) .mv [.v 0],
 op (.t 26) .nilchk [.t 25],
 op (.t 27) (.fad 0) [.t 26],
 op (.t 28) (.ldSt false 1) [.t 27],
 op (.t 29) .mv [.v 3],
 op (.t 30) (.iad 4) [.t 28,.t 29],
 op (.t 31) (.ldRo true 4) [.t 30],
 ⟨.none,.stLc 2 4,[.l 2,.ts 31],some 2,none⟩]
def a54s8 : ACode := .reg [] a54r7
def a54s9 : ACode := .seq a54s8 .ret
def a54s10 : ACode := .test [] a54r6 (.t 24) a54s9 .skip
def a54s11 : ACode := .blk 1 a54s10
def a54r12 : List AOper := [
 op (.t 13) .mv [.v 3],
 op (.t 14) (.bin .add) [.t 13,.c (.int .i64 1)],
 op (.v 3) .mv [.t 14]]
def a54s13 : ACode := .reg [] a54r12
def a54s14 : ACode := .seq a54s11 a54s13
def a54s15 : ACode := .seq a54s5 a54s14
def a54s16 : ACode := .loop a54s15
def a54s17 : ACode := .blk 0 a54s16
def a54s18 : ACode := .seq a54s3 a54s17
def a54r19 : List AOper := [
 op (.t 32) (.build [.int .u8 0,.str [],.list true [],.list true []] []) [],
 ⟨.none,.stLc 2 4,[.l 2,.ts 32],some 2,none⟩]
def a54s20 : ACode := .reg [] a54r19
def a54s21 : ACode := .seq a54s20 .ret
def a54s22 : ACode := .seq a54s18 a54s21
def a54s23 : ACode := .seq a54s1 a54s22
def a54c : ACode :=
  a54s23
def a54 : AFn := { np := 2,nv := 4,results := [.bx 2 true 4],code := a54c }
def a54v : List Nat := [0,1,4,5]
def a54b : List Nat := [2]

def a55r0 : List AOper := [
 ⟨.bx,.boxV,[.v 1],some 3,none⟩,
 ⟨.bx,.boxV,[.v 2],some 4,none⟩,
 op (.v 5) .mv [.c (.bool false)]]
def a55s1 : ACode := .reg [3,4] a55r0
def a55r2 : List AOper := [
 op (.t 8) (.fad 1) [.l 3],
 ⟨.v 7,.ldLc 3 false 1,[.t 8],some 3,none⟩]
def a55s3 : ACode := .reg [] a55r2
def a55r4 : List AOper := [
 op (.t 11) (.bin .eql) [.v 7,.c (.str [81,117,101,114,121])],
 op (.t 10) .mv [.t 11]]
def a55r5 : List AOper := [
 op (.t 12) (.fad 2) [.l 4],
 ⟨.t 13,.ldLc 4 true 3,[.t 12],some 4,none⟩,
 op (.t 14) (.call 89) [.t 13],
 op (.v 6) .mv [.t 14]]
def a55s6 : ACode := .reg [] a55r5
def a55r7 : List AOper := [
 op (.t 15) .mv [.v 0],
 op (.t 16) .mv [.v 6],
 op (.t 17) (.call 90) [.t 15,.t 16],
 op (.t 18) (.un .not) [.t 17]]
def a55r8 : List AOper := [
 op (.v 5) .mv [.c (.bool false)]]
def a55s9 : ACode := .reg [] a55r8
def a55s10 : ACode := .seq a55s9 .ret
def a55s11 : ACode := .test [] a55r7 (.t 18) a55s10 .skip
def a55r12 : List AOper := [
 op (.t 19) (.fad 1) [.l 4],
 ⟨.t 20,.ldLc 4 false 1,[.t 19],some 4,none⟩,
 op (.t 21) .lenL [.t 20],
 op (.t 22) (.bin .eql) [.t 21,.c (.int .i64 1)]]
def a55r13 : List AOper := [
 op (.t 23) (.fad 1) [.l 4],
 ⟨.t 24,.ldLc 4 false 1,[.t 23],some 4,none⟩,
 op (.t 25) (.iad 11) [.t 24,.c (.int .i64 0)],
 op (.t 26) (.ldRo true 11) [.t 25],
 op (.t 27) (.call 91) [.t 26],
 op (.t 28) .mv [.t 27],
 ⟨.t 29,.fad 2,[.l 4],none,some (.t 28,true)⟩,
 ⟨.t 30,.fad 1,[.t 29],none,some (.t 28,true)⟩,
 ⟨.t 31,.ldLc 4 false 1,[.t 30],some 4,some (.t 28,true)⟩,
 ⟨.t 32,.lenL,[.t 31],none,some (.t 28,true)⟩,
 ⟨.t 33,.bin .eql,[.t 32,.c (.int .i64 0)],none,some (.t 28,true)⟩,
 op (.t 34) .pick [.t 28,.t 33,.c (.bool false)],
 op (.t 35) .mv [.t 34],
 ⟨.t 36,.fad 2,[.l 4],none,some (.t 35,true)⟩,
 ⟨.t 37,.fad 2,[.t 36],none,some (.t 35,true)⟩,
 ⟨.t 38,.ldLc 4 false 1,[.t 37],some 4,some (.t 35,true)⟩,
 ⟨.t 39,.un .not,[.t 38],none,some (.t 35,true)⟩,
 op (.t 40) .pick [.t 35,.t 39,.c (.bool false)],
 op (.v 5) .mv [.t 40]]
def a55s14 : ACode := .reg [] a55r13
def a55s15 : ACode := .seq a55s14 .ret
def a55s16 : ACode := .test [] a55r12 (.t 22) a55s15 .skip
def a55r17 : List AOper := [
 op (.t 41) (.fad 1) [.l 4],
 ⟨.t 42,.ldLc 4 false 1,[.t 41],some 4,none⟩,
 op (.t 43) .lenL [.t 42],
 op (.t 44) (.bin .eql) [.t 43,.c (.int .i64 0)],
 op (.t 45) .mv [.t 44],
 ⟨.t 46,.fad 2,[.l 4],none,some (.t 45,true)⟩,
 ⟨.t 47,.fad 1,[.t 46],none,some (.t 45,true)⟩,
 ⟨.t 48,.ldLc 4 false 1,[.t 47],some 4,some (.t 45,true)⟩,
 ⟨.t 49,.lenL,[.t 48],none,some (.t 45,true)⟩,
 ⟨.t 50,.bin .gtr,[.t 49,.c (.int .i64 0)],none,some (.t 45,true)⟩,
 op (.t 51) .pick [.t 45,.t 50,.c (.bool false)],
 op (.t 52) .mv [.t 51],
 ⟨.t 53,.fad 2,[.l 4],none,some (.t 52,true)⟩,
 ⟨.t 54,.fad 2,[.t 53],none,some (.t 52,true)⟩,
 ⟨.t 55,.ldLc 4 false 1,[.t 54],some 4,some (.t 52,true)⟩,
 op (.t 56) .pick [.t 52,.t 55,.c (.bool false)],
 op (.t 57) .mv [.t 56],
 ⟨.t 58,.fad 2,[.l 4],none,some (.t 57,true)⟩,
 ⟨.t 59,.fad 0,[.t 58],none,some (.t 57,true)⟩,
 ⟨.t 60,.ldLc 4 false 1,[.t 59],some 4,some (.t 57,true)⟩,
 ⟨.t 61,.bin .eql,[.t 60,.c (.str [])],none,some (.t 57,true)⟩,
 op (.t 62) .pick [.t 57,.t 61,.c (.bool false)],
 op (.t 63) .mv [.t 62],
 ⟨.t 64,.fad 2,[.l 4],none,some (.t 63,true)⟩,
 ⟨.t 65,.fad 1,[.t 64],none,some (.t 63,true)⟩,
 ⟨.t 66,.ldLc 4 false 1,[.t 65],some 4,some (.t 63,true)⟩,
 ⟨.t 67,.iad 3,[.t 66,.c (.int .i64 0)],none,some (.t 63,true)⟩,
 ⟨.t 68,.fad 1,[.t 67],none,some (.t 63,true)⟩,
 ⟨.t 69,.ldRo false 1,[.t 68],none,some (.t 63,true)⟩,
 ⟨.t 70,.lenL,[.t 69],none,some (.t 63,true)⟩,
 ⟨.t 71,.bin .eql,[.t 70,.c (.int .i64 0)],none,some (.t 63,true)⟩,
 op (.t 72) .pick [.t 63,.t 71,.c (.bool false)],
 op (.t 73) .mv [.t 72],
 ⟨.t 74,.fad 2,[.l 4],none,some (.t 73,true)⟩,
 ⟨.t 75,.fad 1,[.t 74],none,some (.t 73,true)⟩,
 ⟨.t 76,.ldLc 4 false 1,[.t 75],some 4,some (.t 73,true)⟩,
 ⟨.t 77,.iad 3,[.t 76,.c (.int .i64 0)],none,some (.t 73,true)⟩,
 ⟨.t 78,.fad 2,[.t 77],none,some (.t 73,true)⟩,
 ⟨.t 79,.ldRo false 1,[.t 78],none,some (.t 73,true)⟩,
 op (.t 80) .pick [.t 73,.t 79,.c (.bool false)],
 op (.v 5) .mv [.t 80]]
def a55s18 : ACode := .reg [] a55r17
def a55s19 : ACode := .seq a55s18 .ret
def a55s20 : ACode := .seq a55s16 a55s19
def a55s21 : ACode := .seq a55s11 a55s20
def a55s22 : ACode := .seq a55s6 a55s21
def a55r23 : List AOper := [
 op (.t 82) (.bin .eql) [.v 7,.c (.str [77,117,116,97,116,105,111,110])],
 op (.t 81) .mv [.t 82]]
def a55r24 : List AOper := [
 op (.t 83) (.fad 0) [.l 3],
 ⟨.t 84,.ldLc 3 false 1,[.t 83],some 3,none⟩,
 op (.t 85) (.bin .eql) [.t 84,.c (.int .u8 1)],
 op (.t 86) .mv [.t 85],
 ⟨.t 87,.mv,[.v 0],none,some (.t 86,true)⟩,
 ⟨.t 88,.ldLc 4 true 11,[.l 4],some 4,some (.t 86,true)⟩,
 ⟨.t 89,.call 92,[.t 87,.t 88],none,some (.t 86,true)⟩,
 op (.t 90) .pick [.t 86,.t 89,.c (.bool false)],
 op (.v 5) .mv [.t 90]]
def a55s25 : ACode := .reg [] a55r24
def a55s26 : ACode := .seq a55s25 .ret
def a55s27 : ACode := .test [] a55r23 (.t 81) a55s26 .skip
def a55s28 : ACode := .test [] a55r4 (.t 10) a55s22 a55s27
def a55s29 : ACode := .blk 0 a55s28
def a55s30 : ACode := .seq a55s3 a55s29
def a55r31 : List AOper := [
 op (.t 91) (.fad 1) [.l 4],
 ⟨.t 92,.ldLc 4 false 1,[.t 91],some 4,none⟩,
 op (.t 93) .lenL [.t 92],
 op (.t 94) (.bin .eql) [.t 93,.c (.int .i64 0)],
 op (.v 5) .mv [.t 94]]
def a55s32 : ACode := .reg [] a55r31
def a55s33 : ACode := .seq a55s32 .ret
def a55s34 : ACode := .seq a55s30 a55s33
def a55s35 : ACode := .seq a55s1 a55s34
def a55c : ACode :=
  a55s35
def a55 : AFn := { np := 3,nv := 8,results := [.v 5],code := a55c }
def a55v : List Nat := [0,1,2,4,5,6,7,9]
def a55b : List Nat := [3,4]

def a56r0 : List AOper := [
 op (.v 2) .boxO [.v 0],
 ⟨.bx,.boxV,[.v 1],some 3,none⟩,
 op (.v 4) .mv [.c (.bool false)]]
def a56s1 : ACode := .reg [3] a56r0
def a56r2 : List AOper := [
 op (.t 5) (.fad 5) [.l 3],
 ⟨.t 6,.ldLc 3 false 1,[.t 5],some 3,none⟩,
 op (.t 7) (.mkF 94 0) [.v 2],
 op (.t 8) (.call 93) [.t 6,.t 7],
 op (.t 9) (.un .not) [.t 8],
 op (.v 4) .mv [.t 9]]
def a56s3 : ACode := .reg [] a56r2
def a56s4 : ACode := .seq a56s3 .ret
def a56s5 : ACode := .seq a56s1 a56s4
def a56c : ACode :=
  a56s5
def a56 : AFn := { np := 2,nv := 5,results := [.v 4],code := a56c }
def a56v : List Nat := [0,1,2,3,4]
def a56b : List Nat := [3]

def a57r0 : List AOper := [
 ⟨.bx,.boxV,[.v 1],some 2,none⟩]
def a57s1 : ACode := .reg [2] a57r0
def a57r2 : List AOper := [
 op (.t 6) (.fad 2) [.l 2],
 ⟨.t 7,.ldLc 2 false 1,[.t 6],some 2,none⟩,
 op (.v 3) (.allocO [.str []]) [],
 op .none (.stSt 1) [.v 3,.t 7]]
def a57s3 : ACode := .reg [] a57r2
def a57r4 : List AOper := [
 op (.t 8) (.fad 1) [.l 2],
 ⟨.t 9,.ldLc 2 false 1,[.t 8],some 2,none⟩,
 op (.t 10) (.bin .neq) [.t 9,.c (.str [])]]
def a57r5 : List AOper := [
 op (.t 11) (.fad 1) [.l 2],
 ⟨.t 12,.ldLc 2 false 1,[.t 11],some 2,none⟩,
 op .none (.stSt 1) [.v 3,.t 12]]
def a57s6 : ACode := .reg [] a57r5
def a57s7 : ACode := .test [] a57r4 (.t 10) a57s6 .skip
def a57r8 : List AOper := [
 op (.t 13) .mv [.v 0],
 op (.t 14) .nilchk [.t 13],
 op (.t 15) (.fad 10) [.t 14],
 op (.t 16) (.ldSt false 1) [.t 15],
 op (.t 17) (.mkF 97 0) [.v 3],
 op (.t 18) (.call 96) [.t 16,.t 17],
 op (.v 4) .mv [.t 18]]
def a57s9 : ACode := .reg [] a57r8
def a57r10 : List AOper := [
 op (.t 19) .mv [.v 4],
 op (.t 20) (.bin .lss) [.t 19,.c (.int .i64 0)]]
def a57r11 : List AOper := [
 op (.t 21) .mv [.v 0],
 op (.t 22) .mv [.v 0],
 op (.t 23) .nilchk [.t 22],
 op (.t 24) (.fad 10) [.t 23],
 op (.t 25) .ldStS [.t 24],
 op (.t 26) (.ldSt false 1) [.v 3],
 op (.t 27) (.build [.str [],.list true []] [(0,1),(1,1)]) [.t 26,.c (.list true [])],
 op (.t 28) (.bsliceM 2 [[.str [],.list true []]] [0]) [.ts 27],
 op (.t 29) (.appM 2 40) [.ts 25,.t 28],
 op (.t 30) .nilchk [.t 21],
 op (.t 31) (.fad 10) [.t 30],
 op .none (.stSt 1) [.t 31,.t 29]]
def a57s12 : ACode := .reg [] a57r11
def a57r13 : List AOper := [
 op (.t 32) .mv [.v 0],
 op (.t 33) .nilchk [.t 32],
 op (.t 34) (.fad 10) [.t 33],
 op (.t 35) (.ldSt false 1) [.t 34],
 op (.t 36) .lenL [.t 35],
 op (.t 37) (.bin .sub) [.t 36,.c (.int .i64 1)],
 op (.v 4) .mv [.t 37]]
def a57s14 : ACode := .reg [] a57r13
def a57s15 : ACode := .seq a57s12 a57s14
def a57s16 : ACode := .test [] a57r10 (.t 20) a57s15 .skip
def a57r17 : List AOper := [
 op (.t 40) .mv [.v 0],
 op (.t 41) .nilchk [.t 40],
 op (.t 42) (.fad 10) [.t 41],
 op (.t 43) (.ldSt false 1) [.t 42],
 op (.t 44) .mv [.v 4],
 op (.t 45) (.iad 2) [.t 43,.t 44],
 op (.t 46) (.fad 1) [.t 45],
 op (.t 47) .ldStS [.t 46],
 ⟨.v 5,.ldLc 2 true 7,[.l 2],some 2,none⟩,
 op (.v 6) .lenL [.t 47],
 op (.t 50) (.bsliceM 7 [[.int .u8 0,.str [],.str [],.str [],.list true [],.list true [],.list true []]] [0]) [.c (.agg [.int .u8 0,.str [],.str [],.str [],.list true [],.list true [],.list true []])],
 op (.v 7) (.appM 7 128) [.ts 47,.t 50],
 op (.t 52) (.iad 2) [.t 43,.t 44],
 op (.t 53) (.fad 1) [.t 52],
 op .none (.stSt 1) [.t 53,.v 7]]
def a57s18 : ACode := .reg [] a57r17
def a57r19 : List AOper := [
 op (.t 54) (.iad 7) [.v 7,.v 6],
 op .none (.stSt 7) [.t 54,.v 5]]
def a57s20 : ACode := .reg [] a57r19
def a57s21 : ACode := .seq a57s18 a57s20
def a57r22 : List AOper := [
 op (.t 55) .mv [.v 0],
 op (.t 56) .nilchk [.t 55],
 op (.t 57) (.fad 10) [.t 56],
 op (.t 58) (.ldStR false 1) [.t 57,.v 0],
 op (.t 59) .mv [.v 4],
 op (.t 60) .mv [.v 0],
 op (.t 61) .nilchk [.t 60],
 op (.t 62) (.fad 10) [.t 61],
 op (.t 63) (.ldSt false 1) [.t 62],
 op (.t 64) .mv [.v 4],
 op (.t 65) (.iad 2) [.t 63,.t 64],
 op (.t 66) (.fad 1) [.t 65],
 op (.t 67) .ldStS [.t 66],
 ⟨.t 68,.ldLc 2 true 7,[.l 2],some 2,none⟩,
 op (.t 69) (.bsliceM 7 [[.int .u8 0,.str [],.str [],.str [],.list true [],.list true [],.list true []]] [0]) [.ts 68],
 op (.t 70) (.appM 7 128) [.ts 67,.t 69,.v 0],
 op (.t 71) (.iad 2) [.t 58,.t 59],
 op (.t 72) (.fad 1) [.t 71],
 op .none (.stSt 1) [.t 72,.t 70]]
def a57s23 : ACode := .reg [] a57r22
def a57s24 : ACode := .either [5,6,7] a57s21 a57s23
def a57s25 : ACode := .seq a57s16 a57s24
def a57s26 : ACode := .seq a57s9 a57s25
def a57s27 : ACode := .seq a57s7 a57s26
def a57s28 : ACode := .seq a57s3 a57s27
def a57s29 : ACode := .seq a57s1 a57s28
def a57c : ACode :=
  a57s29
def a57 : AFn := { np := 2,nv := 8,results := [],code := a57c }
def a57v : List Nat := [0,1,3,4,5,48,49,51]
def a57b : List Nat := [2]

def a58r0 : List AOper := [
 op (.v 2) .mv [.c (.int .i64 0)]]
def a58s1 : ACode := .reg [] a58r0
def a58r2 : List AOper := [
 op (.t 6) .mv [.v 0],
 op (.v 4) .lenL [.t 6],
 op (.v 5) .mv [.c (.int .i64 0)]]
def a58s3 : ACode := .reg [] a58r2
def a58r4 : List AOper := [
 op (.t 9) (.bin .lss) [.v 5,.v 4]]
def a58s5 : ACode := .test [] a58r4 (.t 9) .skip (.exit 0)
def a58r6 : List AOper := [
 op (.t 10) .mv [.v 5],
 op (.v 3) .mv [.t 10]]
def a58s7 : ACode := .reg [] a58r6
def a58r8 : List AOper := [
 op (.t 11) .mv [.v 1],
 op (.t 12) .mv [.v 0],
 op (.t 13) .mv [.v 3],
 op (.t 14) (.iad 3) [.t 12,.t 13],
 op (.t 15) (.ldRo true 3) [.t 14],
 op (.t 16) .callV [.t 11,.t 15]]
def a58r9 : List AOper := [
 op (.t 17) .mv [.v 3],
 op (.v 2) .mv [.t 17]]
def a58s10 : ACode := .reg [] a58r9
def a58s11 : ACode := .seq a58s10 .ret
def a58s12 : ACode := .test [] a58r8 (.t 16) a58s11 .skip
def a58s13 : ACode := .seq a58s7 a58s12
def a58s14 : ACode := .blk 1 a58s13
def a58r15 : List AOper := [
 op (.t 18) (.bin .add) [.v 5,.c (.int .i64 1)],
 op (.v 5) .mv [.t 18]]
def a58s16 : ACode := .reg [] a58r15
def a58s17 : ACode := .seq a58s14 a58s16
def a58s18 : ACode := .seq a58s5 a58s17
def a58s19 : ACode := .loop a58s18
def a58s20 : ACode := .blk 0 a58s19
def a58s21 : ACode := .seq a58s3 a58s20
def a58r22 : List AOper := [
 op (.v 2) .mv [.c (.int .i64 (-1))]]
def a58s23 : ACode := .reg [] a58r22
def a58s24 : ACode := .seq a58s23 .ret
def a58s25 : ACode := .seq a58s21 a58s24
def a58s26 : ACode := .seq a58s1 a58s25
def a58c : ACode :=
  a58s26
def a58 : AFn := { np := 2,nv := 6,results := [.v 2],code := a58c }
def a58v : List Nat := [0,1,4,5,7,8]
def a58b : List Nat := []

def a59r0 : List AOper := [
 ⟨.bx,.boxV,[.v 0],some 2,none⟩,
 op (.v 3) .mv [.c (.bool false)]]
def a59s1 : ACode := .reg [2] a59r0
def a59r2 : List AOper := [
 op (.t 4) (.fad 0) [.l 2],
 ⟨.t 5,.ldLc 2 false 1,[.t 4],some 2,none⟩,
 op (.t 6) (.fad 2) [.v 1],
 op (.t 7) (.ldSt false 1) [.t 6],
 op (.t 8) (.bin .eql) [.t 5,.t 7],
 op (.v 3) .mv [.t 8]]
def a59s3 : ACode := .reg [] a59r2
def a59s4 : ACode := .seq a59s3 .ret
def a59s5 : ACode := .seq a59s1 a59s4
def a59c : ACode :=
  a59s5
def a59 : AFn := { np := 2,nv := 4,results := [.v 3],code := a59c }
def a59v : List Nat := [0,1,2,3]
def a59b : List Nat := [2]

def a60r0 : List AOper := [
 op (.v 2) .mv [.c (.bool false)]]
def a60s1 : ACode := .reg [] a60r0
def a60r2 : List AOper := [
 op (.t 5) .mv [.v 1],
 op (.t 6) .mv [.v 0],
 op (.t 7) .nilchk [.t 6],
 op (.t 8) (.fad 3) [.t 7],
 op (.t 9) (.ldSt false 1) [.t 8],
 op (.t 10) (.bin .eql) [.t 5,.t 9],
 op (.t 11) .mv [.t 10],
 ⟨.t 12,.mv,[.v 0],none,some (.t 11,false)⟩,
 ⟨.t 13,.nilchk,[.t 12],none,some (.t 11,false)⟩,
 ⟨.t 14,.fad 0,[.t 13],none,some (.t 11,false)⟩,
 ⟨.t 15,.ldSt false 1,[.t 14],none,some (.t 11,false)⟩,
 ⟨.t 16,.mv,[.v 1],none,some (.t 11,false)⟩,
 ⟨.t 18,.mv,[.v 0],none,some (.t 11,false)⟩,
 ⟨.t 19,.nilchk,[.t 18],none,some (.t 11,false)⟩,
 ⟨.t 20,.fad 3,[.t 19],none,some (.t 11,false)⟩,
 ⟨.t 21,.ldStR false 1,[.t 20,.v 0],none,some (.t 11,false)⟩,
 ⟨.t 17,.callA 98 2,[.t 15,.t 16,.v 0],none,some (.t 11,false)⟩,
 ⟨.t 22,.call 45,[.t 17,.t 21],none,some (.t 11,false)⟩,
 op (.t 23) .pick [.t 11,.c (.bool true),.t 22],
 op (.v 2) .mv [.t 23]]
def a60s3 : ACode := .reg [1000000,1000001,1000002,1000003,1000004,1000005,1000006,1000007,1000008,1000009,1000010,1000011,1000013,1000014,1000015,1000016,1000012,1000017,1000018,1000019] a60r2
def a60s4 : ACode := .seq a60s3 .ret
def a60s5 : ACode := .seq a60s1 a60s4
def a60c : ACode :=
  a60s5
def a60 : AFn := { np := 2,nv := 3,results := [.v 2],code := a60c }
def a60v : List Nat := [0,1,4]
def a60b : List Nat := []

def a64r0 : List AOper := [
 op (.v 1) .mv [.c (.bool false)]]
def a64s1 : ACode := .reg [] a64r0
def a64r2 : List AOper := [
 op (.t 3) .mv [.v 0],
 op (.t 4) (.bin .geq) [.t 3,.c (.int .u8 97)],
 op (.t 5) .mv [.t 4],
 ⟨.t 6,.mv,[.v 0],none,some (.t 5,true)⟩,
 ⟨.t 7,.bin .leq,[.t 6,.c (.int .u8 122)],none,some (.t 5,true)⟩,
 op (.t 8) .pick [.t 5,.t 7,.c (.bool false)],
 op (.t 9) .mv [.t 8],
 ⟨.t 10,.mv,[.v 0],none,some (.t 9,false)⟩,
 ⟨.t 11,.bin .geq,[.t 10,.c (.int .u8 65)],none,some (.t 9,false)⟩,
 ⟨.t 12,.mv,[.t 11],none,some (.t 9,false)⟩,
 ⟨.t 13,.mv,[.v 0],none,some (.t 12,true)⟩,
 ⟨.t 14,.bin .leq,[.t 13,.c (.int .u8 90)],none,some (.t 12,true)⟩,
 ⟨.t 15,.pick,[.t 12,.t 14,.c (.bool false)],none,some (.t 9,false)⟩,
 op (.t 16) .pick [.t 9,.c (.bool true),.t 15],
 op (.t 17) .mv [.t 16],
 ⟨.t 18,.mv,[.v 0],none,some (.t 17,false)⟩,
 ⟨.t 19,.bin .eql,[.t 18,.c (.int .u8 95)],none,some (.t 17,false)⟩,
 op (.t 20) .pick [.t 17,.c (.bool true),.t 19],
 op (.v 1) .mv [.t 20]]
def a64s3 : ACode := .reg [] a64r2
def a64s4 : ACode := .seq a64s3 .ret
def a64s5 : ACode := .seq a64s1 a64s4
def a64c : ACode :=
  a64s5
def a64 : AFn := { np := 1,nv := 2,results := [.v 1],code := a64c }
def a64v : List Nat := [0,2]
def a64b : List Nat := []

def a65r0 : List AOper := [
 op (.v 1) .mv [.c (.bool false)]]
def a65s1 : ACode := .reg [] a65r0
def a65r2 : List AOper := [
 op (.t 3) .mv [.v 0],
 op (.t 4) (.bin .geq) [.t 3,.c (.int .u8 48)],
 op (.t 5) .mv [.t 4],
 ⟨.t 6,.mv,[.v 0],none,some (.t 5,true)⟩,
 ⟨.t 7,.bin .leq,[.t 6,.c (.int .u8 57)],none,some (.t 5,true)⟩,
 op (.t 8) .pick [.t 5,.t 7,.c (.bool false)],
 op (.v 1) .mv [.t 8]]
def a65s3 : ACode := .reg [] a65r2
def a65s4 : ACode := .seq a65s3 .ret
def a65s5 : ACode := .seq a65s1 a65s4
def a65c : ACode :=
  a65s5
def a65 : AFn := { np := 1,nv := 2,results := [.v 1],code := a65c }
def a65v : List Nat := [0,2]
def a65b : List Nat := []

def a66r0 : List AOper := [
 ⟨.bx,.alloc [.int .u8 0,.str [],.int .i64 0,.int .i64 0],[],some 2,none⟩,
 op (.v 3) .mv [.c (.int .i64 0)],
 op (.v 4) .mv [.c (.int .i64 0)],
 op (.v 5) .mv [.c (.int .i64 0)]]
def a66s1 : ACode := .reg [2] a66r0
def a66r2 : List AOper := [
 op (.t 12) .mv [.v 1],
 op (.v 6) .mv [.t 12]]
def a66s3 : ACode := .reg [] a66r2
def a66r4 : List AOper := [
 op (.t 13) .mv [.v 0],
 op (.t 14) .mv [.v 6],
 op (.t 15) .idxS [.t 13,.t 14],
 op (.t 16) (.bin .eql) [.t 15,.c (.int .u8 45)],
 op (.v 7) .mv [.t 16]]
def a66s5 : ACode := .reg [] a66r4
def a66r6 : List AOper := [
 op (.t 17) .mv [.v 7]]
def a66r7 : List AOper := [
 op (.t 18) .mv [.v 6],
 op (.t 19) (.bin .add) [.t 18,.c (.int .i64 1)],
 op (.v 6) .mv [.t 19]]
def a66s8 : ACode := .reg [] a66r7
def a66s9 : ACode := .test [] a66r6 (.t 17) a66s8 .skip
def a66r10 : List AOper := [
 op (.t 20) .mv [.v 6],
 op (.v 8) .mv [.t 20]]
def a66s11 : ACode := .reg [] a66r10
def a66r12 : List AOper := [
 op (.v 9) .mv [.c (.int .i64 0)]]
def a66s13 : ACode := .reg [] a66r12
def a66r14 : List AOper := [
 op (.t 21) .mv [.v 6],
 op (.t 22) .mv [.v 0],
 op (.t 23) .lenS [.t 22],
 op (.t 24) (.bin .lss) [.t 21,.t 23],
 op (.t 25) .mv [.t 24],
 ⟨.t 26,.mv,[.v 0],none,some (.t 25,true)⟩,
 ⟨.t 27,.mv,[.v 6],none,some (.t 25,true)⟩,
 ⟨.t 28,.idxS,[.t 26,.t 27],none,some (.t 25,true)⟩,
 ⟨.t 29,.call 65,[.t 28],none,some (.t 25,true)⟩,
 op (.t 30) .pick [.t 25,.t 29,.c (.bool false)]]
def a66s15 : ACode := .test [] a66r14 (.t 30) .skip (.exit 0)
def a66r16 : List AOper := [
 op (.t 31) .mv [.v 6],
 op (.t 32) .mv [.v 8],
 op (.t 33) (.bin .sub) [.t 31,.t 32],
 op (.t 34) (.bin .lss) [.t 33,.c (.int .i64 18)]]
def a66r17 : List AOper := [
 op (.t 35) .mv [.v 9],
 op (.t 36) (.bin .mul) [.t 35,.c (.int .i64 10)],
 op (.t 37) .mv [.v 0],
 op (.t 38) .mv [.v 6],
 op (.t 39) .idxS [.t 37,.t 38],
 op (.t 40) (.bin .sub) [.t 39,.c (.int .u8 48)],
 op (.t 41) (.conv .i64) [.t 40],
 op (.t 42) (.bin .add) [.t 36,.t 41],
 op (.v 9) .mv [.t 42]]
def a66s18 : ACode := .reg [] a66r17
def a66s19 : ACode := .test [] a66r16 (.t 34) a66s18 .skip
def a66r20 : List AOper := [
 op (.t 43) .mv [.v 6],
 op (.t 44) (.bin .add) [.t 43,.c (.int .i64 1)],
 op (.v 6) .mv [.t 44]]
def a66s21 : ACode := .reg [] a66r20
def a66s22 : ACode := .seq a66s19 a66s21
def a66s23 : ACode := .blk 1 a66s22
def a66s24 : ACode := .seq a66s15 a66s23
def a66s25 : ACode := .loop a66s24
def a66s26 : ACode := .blk 0 a66s25
def a66r27 : List AOper := [
 op (.t 46) .mv [.v 6],
 op (.t 47) .mv [.v 8],
 op (.t 48) (.bin .eql) [.t 46,.t 47],
 op (.t 45) .mv [.t 48]]
def a66r28 : List AOper := [
 op (.t 49) (.build [.int .u8 0,.str [],.int .i64 0,.int .i64 0] []) [],
 op (.t 50) .mv [.v 6],
 ⟨.none,.stLc 2 4,[.l 2,.t 49],some 2,none⟩,
 op (.v 3) .mv [.c (.int .i64 0)],
 op (.v 4) .mv [.t 50],
 op (.v 5) .mv [.c (.int .i64 4)]]
def a66s29 : ACode := .reg [] a66r28
def a66s30 : ACode := .seq a66s29 .ret
def a66r31 : List AOper := [
 op (.t 52) .mv [.v 0],
 op (.t 53) .mv [.v 8],
 op (.t 54) .idxS [.t 52,.t 53],
 op (.t 55) (.bin .eql) [.t 54,.c (.int .u8 48)],
 op (.t 56) .mv [.t 55],
 ⟨.t 57,.mv,[.v 6],none,some (.t 56,true)⟩,
 ⟨.t 58,.mv,[.v 8],none,some (.t 56,true)⟩,
 ⟨.t 59,.bin .add,[.t 58,.c (.int .i64 1)],none,some (.t 56,true)⟩,
 ⟨.t 60,.bin .gtr,[.t 57,.t 59],none,some (.t 56,true)⟩,
 op (.t 61) .pick [.t 56,.t 60,.c (.bool false)],
 op (.t 51) .mv [.t 61]]
def a66r32 : List AOper := [
 op (.t 62) (.build [.int .u8 0,.str [],.int .i64 0,.int .i64 0] []) [],
 op (.t 63) .mv [.v 8],
 op (.t 64) (.bin .add) [.t 63,.c (.int .i64 1)],
 ⟨.none,.stLc 2 4,[.l 2,.t 62],some 2,none⟩,
 op (.v 3) .mv [.c (.int .i64 0)],
 op (.v 4) .mv [.t 64],
 op (.v 5) .mv [.c (.int .i64 4)]]
def a66s33 : ACode := .reg [] a66r32
def a66s34 : ACode := .seq a66s33 .ret
def a66r35 : List AOper := [
 op (.t 66) .mv [.v 6],
 op (.t 67) .mv [.v 0],
 op (.t 68) .lenS [.t 67],
 op (.t 69) (.bin .lss) [.t 66,.t 68],
 op (.t 70) .mv [.t 69],
 ⟨.t 71,.mv,[.v 0],none,some (.t 70,true)⟩,
 ⟨.t 72,.mv,[.v 6],none,some (.t 70,true)⟩,
 ⟨.t 73,.idxS,[.t 71,.t 72],none,some (.t 70,true)⟩,
 ⟨.t 74,.call 64,[.t 73],none,some (.t 70,true)⟩,
 ⟨.t 75,.mv,[.t 74],none,some (.t 70,true)⟩,
 ⟨.t 76,.mv,[.v 0],none,some (.t 75,false)⟩,
 ⟨.t 77,.mv,[.v 6],none,some (.t 75,false)⟩,
 ⟨.t 78,.idxS,[.t 76,.t 77],none,some (.t 75,false)⟩,
 ⟨.t 79,.bin .eql,[.t 78,.c (.int .u8 46)],none,some (.t 75,false)⟩,
 ⟨.t 80,.pick,[.t 75,.c (.bool true),.t 79],none,some (.t 70,true)⟩,
 op (.t 81) .pick [.t 70,.t 80,.c (.bool false)],
 op (.t 65) .mv [.t 81]]
def a66r36 : List AOper := [
 op (.t 82) (.build [.int .u8 0,.str [],.int .i64 0,.int .i64 0] []) [],
 op (.t 83) .mv [.v 6],
 ⟨.none,.stLc 2 4,[.l 2,.t 82],some 2,none⟩,
 op (.v 3) .mv [.c (.int .i64 0)],
 op (.v 4) .mv [.t 83],
 op (.v 5) .mv [.c (.int .i64 4)]]
def a66s37 : ACode := .reg [] a66r36
def a66s38 : ACode := .seq a66s37 .ret
end Go.Cb.CodeA
