/- The functions of the seat, told as code of the abstract machine. No conditions. -/
import Derived.Test.YtpalalebligmoaaGreatDoorCodeAp0
namespace Go.Cb.CodeA
open Go Go.Cb

def a48r43 : List AOper := [
 op (.t 99) .mv [.v 6],
 op (.t 100) (.bin .eql) [.t 99,.c (.int .u8 33)],
 op (.t 101) .mv [.t 100],
 ⟨.t 102,.mv,[.v 6],none,some (.t 101,false)⟩,
 ⟨.t 103,.bin .eql,[.t 102,.c (.int .u8 36)],none,some (.t 101,false)⟩,
 op (.t 104) .pick [.t 101,.c (.bool true),.t 103],
 op (.t 105) .mv [.t 104],
 ⟨.t 106,.mv,[.v 6],none,some (.t 105,false)⟩,
 ⟨.t 107,.bin .eql,[.t 106,.c (.int .u8 40)],none,some (.t 105,false)⟩,
 op (.t 108) .pick [.t 105,.c (.bool true),.t 107],
 op (.t 109) .mv [.t 108],
 ⟨.t 110,.mv,[.v 6],none,some (.t 109,false)⟩,
 ⟨.t 111,.bin .eql,[.t 110,.c (.int .u8 41)],none,some (.t 109,false)⟩,
 op (.t 112) .pick [.t 109,.c (.bool true),.t 111],
 op (.t 113) .mv [.t 112],
 ⟨.t 114,.mv,[.v 6],none,some (.t 113,false)⟩,
 ⟨.t 115,.bin .eql,[.t 114,.c (.int .u8 58)],none,some (.t 113,false)⟩,
 op (.t 116) .pick [.t 113,.c (.bool true),.t 115],
 op (.t 117) .mv [.t 116],
 ⟨.t 118,.mv,[.v 6],none,some (.t 117,false)⟩,
 ⟨.t 119,.bin .eql,[.t 118,.c (.int .u8 61)],none,some (.t 117,false)⟩,
 op (.t 120) .pick [.t 117,.c (.bool true),.t 119],
 op (.t 121) .mv [.t 120],
 ⟨.t 122,.mv,[.v 6],none,some (.t 121,false)⟩,
 ⟨.t 123,.bin .eql,[.t 122,.c (.int .u8 64)],none,some (.t 121,false)⟩,
 op (.t 124) .pick [.t 121,.c (.bool true),.t 123],
 op (.t 125) .mv [.t 124],
 ⟨.t 126,.mv,[.v 6],none,some (.t 125,false)⟩,
 ⟨.t 127,.bin .eql,[.t 126,.c (.int .u8 91)],none,some (.t 125,false)⟩,
 op (.t 128) .pick [.t 125,.c (.bool true),.t 127],
 op (.t 129) .mv [.t 128],
 ⟨.t 130,.mv,[.v 6],none,some (.t 129,false)⟩,
 ⟨.t 131,.bin .eql,[.t 130,.c (.int .u8 93)],none,some (.t 129,false)⟩,
 op (.t 132) .pick [.t 129,.c (.bool true),.t 131],
 op (.t 133) .mv [.t 132],
 ⟨.t 134,.mv,[.v 6],none,some (.t 133,false)⟩,
 ⟨.t 135,.bin .eql,[.t 134,.c (.int .u8 123)],none,some (.t 133,false)⟩,
 op (.t 136) .pick [.t 133,.c (.bool true),.t 135],
 op (.t 137) .mv [.t 136],
 ⟨.t 138,.mv,[.v 6],none,some (.t 137,false)⟩,
 ⟨.t 139,.bin .eql,[.t 138,.c (.int .u8 124)],none,some (.t 137,false)⟩,
 op (.t 140) .pick [.t 137,.c (.bool true),.t 139],
 op (.t 141) .mv [.t 140],
 ⟨.t 142,.mv,[.v 6],none,some (.t 141,false)⟩,
 ⟨.t 143,.bin .eql,[.t 142,.c (.int .u8 125)],none,some (.t 141,false)⟩,
 op (.t 144) .pick [.t 141,.c (.bool true),.t 143],
 op (.t 145) .mv [.t 144],
 ⟨.t 146,.mv,[.v 6],none,some (.t 145,false)⟩,
 ⟨.t 147,.bin .eql,[.t 146,.c (.int .u8 38)],none,some (.t 145,false)⟩,
 op (.t 148) .pick [.t 145,.c (.bool true),.t 147],
 op (.t 98) .mv [.t 148]]
def a48r44 : List AOper := [
 op (.t 149) .mv [.v 0],
 op (.t 150) .mv [.v 1],
 op (.t 151) .mv [.v 1],
 op (.t 152) (.bin .add) [.t 151,.c (.int .i64 1)],
 op (.t 153) (.slS true true) [.t 149,.t 150,.t 152],
 op (.t 154) (.build [.int .u8 0,.str [],.int .i64 0,.int .i64 0] [(0,1),(1,1)]) [.c (.int .u8 4),.t 153],
 op (.t 155) .mv [.v 1],
 op (.t 156) (.bin .add) [.t 155,.c (.int .i64 1)],
 ⟨.none,.stLc 2 4,[.l 2,.t 154],some 2,none⟩,
 op (.v 3) .mv [.t 156],
 op (.v 4) .mv [.c (.int .i64 0)],
 op (.v 5) .mv [.c (.int .i64 0)]]
def a48s45 : ACode := .reg [] a48r44
def a48s46 : ACode := .seq a48s45 .ret
def a48s47 : ACode := .test [] a48r43 (.t 98) a48s46 .skip
def a48s48 : ACode := .test [] a48r33 (.t 71) a48s42 a48s47
def a48s49 : ACode := .test [] a48r29 (.t 61) a48s32 a48s48
def a48s50 : ACode := .test [] a48r25 (.t 47) a48s28 a48s49
def a48s51 : ACode := .test [] a48r6 (.t 14) a48s24 a48s50
def a48s52 : ACode := .blk 0 a48s51
def a48r53 : List AOper := [
 op (.t 157) (.build [.int .u8 0,.str [],.int .i64 0,.int .i64 0] []) [],
 op (.t 158) .mv [.v 1],
 ⟨.none,.stLc 2 4,[.l 2,.t 157],some 2,none⟩,
 op (.v 3) .mv [.c (.int .i64 0)],
 op (.v 4) .mv [.t 158],
 op (.v 5) .mv [.c (.int .i64 4)]]
def a48s54 : ACode := .reg [] a48r53
def a48s55 : ACode := .seq a48s54 .ret
def a48s56 : ACode := .seq a48s52 a48s55
def a48s57 : ACode := .seq a48s5 a48s56
def a48s58 : ACode := .seq a48s3 a48s57
def a48s59 : ACode := .seq a48s1 a48s58
def a48c : ACode :=
  a48s59
def a48 : AFn := { np := 2,nv := 8,results := [.bx 2 true 4,.v 3,.v 4,.v 5],code := a48c }
def a48v : List Nat := [0,1,4,5,6,7,8,9]
def a48b : List Nat := [2]

def a49r0 : List AOper := [
 op (.v 2) .mv [.c (.bool false)]]
def a49s1 : ACode := .reg [] a49r0
def a49r2 : List AOper := [
 op (.t 5) .mv [.v 0],
 op (.t 6) .nilchk [.t 5],
 op (.t 7) (.fad 4) [.t 6],
 op (.t 8) (.ldSt false 1) [.t 7],
 op (.t 9) (.bin .eql) [.t 8,.c (.int .i64 0)],
 op (.t 10) .mv [.t 9],
 ⟨.t 11,.mv,[.v 0],none,some (.t 10,true)⟩,
 ⟨.t 12,.nilchk,[.t 11],none,some (.t 10,true)⟩,
 ⟨.t 13,.fad 0,[.t 12],none,some (.t 10,true)⟩,
 ⟨.t 14,.ldSt false 1,[.t 13],none,some (.t 10,true)⟩,
 ⟨.t 15,.mv,[.v 0],none,some (.t 10,true)⟩,
 ⟨.t 16,.nilchk,[.t 15],none,some (.t 10,true)⟩,
 ⟨.t 17,.fad 1,[.t 16],none,some (.t 10,true)⟩,
 ⟨.t 18,.ldSt false 1,[.t 17],none,some (.t 10,true)⟩,
 ⟨.t 19,.iad 4,[.t 14,.t 18],none,some (.t 10,true)⟩,
 ⟨.t 20,.fad 0,[.t 19],none,some (.t 10,true)⟩,
 ⟨.t 21,.ldRo false 1,[.t 20],none,some (.t 10,true)⟩,
 ⟨.t 22,.bin .eql,[.t 21,.c (.int .u8 1)],none,some (.t 10,true)⟩,
 op (.t 23) .pick [.t 10,.t 22,.c (.bool false)],
 op (.t 24) .mv [.t 23],
 ⟨.t 25,.mv,[.v 0],none,some (.t 24,true)⟩,
 ⟨.t 26,.nilchk,[.t 25],none,some (.t 24,true)⟩,
 ⟨.t 27,.fad 0,[.t 26],none,some (.t 24,true)⟩,
 ⟨.t 28,.ldSt false 1,[.t 27],none,some (.t 24,true)⟩,
 ⟨.t 29,.mv,[.v 0],none,some (.t 24,true)⟩,
 ⟨.t 30,.nilchk,[.t 29],none,some (.t 24,true)⟩,
 ⟨.t 31,.fad 1,[.t 30],none,some (.t 24,true)⟩,
 ⟨.t 32,.ldSt false 1,[.t 31],none,some (.t 24,true)⟩,
 ⟨.t 33,.iad 4,[.t 28,.t 32],none,some (.t 24,true)⟩,
 ⟨.t 34,.fad 1,[.t 33],none,some (.t 24,true)⟩,
 ⟨.t 35,.ldRo false 1,[.t 34],none,some (.t 24,true)⟩,
 ⟨.t 36,.mv,[.v 1],none,some (.t 24,true)⟩,
 ⟨.t 37,.bin .eql,[.t 35,.t 36],none,some (.t 24,true)⟩,
 op (.t 38) .pick [.t 24,.t 37,.c (.bool false)],
 op (.v 2) .mv [.t 38]]
def a49s3 : ACode := .reg [] a49r2
def a49s4 : ACode := .seq a49s3 .ret
def a49s5 : ACode := .seq a49s1 a49s4
def a49c : ACode :=
  a49s5
def a49 : AFn := { np := 2,nv := 3,results := [.v 2],code := a49c }
def a49v : List Nat := [0,1,4]
def a49b : List Nat := []

def a50r0 : List AOper := [
 op (.t 4) .mv [.v 0],
 op (.t 5) .nilchk [.t 4],
 op (.t 6) (.fad 4) [.t 5],
 op (.t 7) (.ldSt false 1) [.t 6],
 op (.t 8) (.bin .eql) [.t 7,.c (.int .i64 0)]]
def a50r1 : List AOper := [
 op (.t 9) .mv [.v 0],
 op (.t 10) .mv [.v 0],
 op (.t 11) .nilchk [.t 10],
 op (.t 12) (.fad 0) [.t 11],
 op (.t 13) (.ldSt false 1) [.t 12],
 op (.t 14) .mv [.v 0],
 op (.t 15) .nilchk [.t 14],
 op (.t 16) (.fad 1) [.t 15],
 op (.t 17) (.ldSt false 1) [.t 16],
 op (.t 18) (.iad 4) [.t 13,.t 17],
 op (.t 19) (.fad 3) [.t 18],
 op (.t 20) (.ldRo false 1) [.t 19],
 op (.t 21) .nilchk [.t 9],
 op (.t 22) (.fad 3) [.t 21],
 op .none (.stSt 1) [.t 22,.t 20]]
def a50s2 : ACode := .reg [] a50r1
def a50r3 : List AOper := [
 op (.t 23) .mv [.v 0],
 op (.t 24) .mv [.v 1],
 op (.t 25) .nilchk [.t 23],
 op (.t 26) (.fad 4) [.t 25],
 op .none (.stSt 1) [.t 26,.t 24]]
def a50s4 : ACode := .reg [] a50r3
def a50s5 : ACode := .seq a50s2 a50s4
def a50s6 : ACode := .test [] a50r0 (.t 8) a50s5 .skip
def a50c : ACode :=
  a50s6
def a50 : AFn := { np := 2,nv := 2,results := [],code := a50c }
def a50v : List Nat := [0,1]
def a50b : List Nat := []

def a51r0 : List AOper := [
 op (.v 1) .mv [.c (.str [])]]
def a51s1 : ACode := .reg [] a51r0
def a51r2 : List AOper := [
 op (.t 3) .mv [.v 0],
 op (.t 4) (.call 34) [.t 3,.c (.int .u8 1)],
 op (.t 5) (.un .not) [.t 4]]
def a51r3 : List AOper := [
 op (.t 6) .mv [.v 0],
 op (.t 7) (.call 50) [.t 6,.c (.int .i64 4)]]
def a51s4 : ACode := .reg [] a51r3
def a51r5 : List AOper := [
 op (.v 1) .mv [.c (.str [])]]
def a51s6 : ACode := .reg [] a51r5
def a51s7 : ACode := .seq a51s6 .ret
def a51s8 : ACode := .seq a51s4 a51s7
def a51s9 : ACode := .test [] a51r2 (.t 5) a51s8 .skip
def a51r10 : List AOper := [
 op (.t 8) .mv [.v 0],
 op (.t 9) .nilchk [.t 8],
 op (.t 10) (.fad 1) [.t 9],
 op (.t 11) (.ldSt false 1) [.t 10],
 op (.t 12) (.bin .add) [.t 11,.c (.int .i64 1)],
 op (.t 13) .nilchk [.t 8],
 op (.t 14) (.fad 1) [.t 13],
 op .none (.stSt 1) [.t 14,.t 12]]
def a51s11 : ACode := .reg [] a51r10
def a51r12 : List AOper := [
 op (.t 15) .mv [.v 0],
 op (.t 16) .nilchk [.t 15],
 op (.t 17) (.fad 0) [.t 16],
 op (.t 18) (.ldSt false 1) [.t 17],
 op (.t 19) .mv [.v 0],
 op (.t 20) .nilchk [.t 19],
 op (.t 21) (.fad 1) [.t 20],
 op (.t 22) (.ldSt false 1) [.t 21],
 op (.t 23) (.bin .sub) [.t 22,.c (.int .i64 1)],
 op (.t 24) (.iad 4) [.t 18,.t 23],
 op (.t 25) (.fad 1) [.t 24],
 op (.t 26) (.ldRo false 1) [.t 25],
 op (.v 1) .mv [.t 26]]
def a51s13 : ACode := .reg [] a51r12
def a51s14 : ACode := .seq a51s13 .ret
def a51s15 : ACode := .seq a51s11 a51s14
def a51s16 : ACode := .seq a51s9 a51s15
def a51s17 : ACode := .seq a51s1 a51s16
def a51c : ACode :=
  a51s17
def a51 : AFn := { np := 1,nv := 2,results := [.v 1],code := a51c }
def a51v : List Nat := [0,2]
def a51b : List Nat := []

def a52r0 : List AOper := [
 op (.t 4) .mv [.v 0],
 op (.t 5) .nilchk [.t 4],
 op (.t 6) (.fad 4) [.t 5],
 op (.t 7) (.ldSt false 1) [.t 6],
 op (.t 8) (.bin .eql) [.t 7,.c (.int .i64 0)],
 op (.t 9) .mv [.t 8],
 ⟨.t 10,.mv,[.v 0],none,some (.t 9,true)⟩,
 ⟨.t 11,.mv,[.v 1],none,some (.t 9,true)⟩,
 ⟨.t 12,.call 54,[.t 10,.t 11],none,some (.t 9,true)⟩,
 ⟨.t 13,.un .not,[.t 12],none,some (.t 9,true)⟩,
 op (.t 14) .pick [.t 9,.t 13,.c (.bool false)]]
def a52r1 : List AOper := [
 op (.t 15) .mv [.v 0],
 op (.t 16) (.call 50) [.t 15,.c (.int .i64 4)]]
def a52s2 : ACode := .reg [] a52r1
def a52s3 : ACode := .test [] a52r0 (.t 14) a52s2 .skip
def a52c : ACode :=
  a52s3
def a52 : AFn := { np := 2,nv := 2,results := [],code := a52c }
def a52v : List Nat := [0,1]
def a52b : List Nat := []

def a53r0 : List AOper := [
 op (.v 2) .mv [.c (.list true [])]]
def a53s1 : ACode := .reg [] a53r0
def a53r2 : List AOper := [
 op (.t 6) .mv [.v 0],
 op (.t 7) .mv [.v 1],
 op (.t 8) (.call 54) [.t 6,.t 7]]
def a53s3 : ACode := .reg [] a53r2
def a53r4 : List AOper := [
 op (.t 9) .mv [.v 0],
 op (.t 10) (.call 51) [.t 9],
 op (.t 11) (.bslice 1 [[.str []]] [0]) [.t 10],
 op (.v 3) .mv [.ts 11]]
def a53s5 : ACode := .reg [] a53r4
def a53r6 : List AOper := [
 op (.t 12) .mv [.v 0],
 op (.t 13) .mv [.v 1],
 op (.t 14) (.call 54) [.t 12,.t 13]]
def a53s7 : ACode := .test [] a53r6 (.t 14) .skip (.exit 0)
def a53r8 : List AOper := [
 op (.t 15) .mv [.vs 3],
 op (.t 16) .mv [.v 0],
 op (.t 17) (.call 51) [.t 16],
 op (.t 18) (.bslice 1 [[.str []]] [0]) [.t 17],
 op (.t 19) (.app 1 16) [.ts 15,.t 18],
 op (.v 3) .mv [.ts 19]]
def a53s9 : ACode := .reg [] a53r8
def a53s10 : ACode := .blk 1 a53s9
def a53s11 : ACode := .seq a53s7 a53s10
def a53s12 : ACode := .loop a53s11
def a53s13 : ACode := .blk 0 a53s12
def a53r14 : List AOper := [
 op (.t 20) .mv [.v 3],
 op (.v 2) .mv [.ts 20]]
def a53s15 : ACode := .reg [] a53r14
def a53s16 : ACode := .seq a53s15 .ret
def a53s17 : ACode := .seq a53s13 a53s16
def a53s18 : ACode := .seq a53s5 a53s17
def a53s19 : ACode := .seq a53s3 a53s18
def a53s20 : ACode := .seq a53s1 a53s19
def a53c : ACode :=
  a53s20
def a53 : AFn := { np := 2,nv := 4,results := [.v 2],code := a53c }
def a53v : List Nat := [0,1,4,5]
def a53b : List Nat := []

def a54r0 : List AOper := [
 op (.v 2) .mv [.c (.bool false)]]
def a54s1 : ACode := .reg [] a54r0
def a54r2 : List AOper := [
 op (.t 5) .mv [.v 0],
 op (.t 6) .mv [.v 1],
 op (.t 7) (.call 81) [.t 5,.t 6],
 op (.t 8) .mv [.t 7],
 ⟨.t 9,.mv,[.v 0],none,some (.t 8,false)⟩,
 ⟨.t 10,.mv,[.v 1],none,some (.t 8,false)⟩,
 ⟨.t 11,.call 49,[.t 9,.t 10],none,some (.t 8,false)⟩,
 op (.t 12) .pick [.t 8,.c (.bool true),.t 11]]
def a54r3 : List AOper := [
 op (.t 13) .mv [.v 0],
 op (.t 14) .nilchk [.t 13],
 op (.t 15) (.fad 1) [.t 14],
 op (.t 16) (.ldSt false 1) [.t 15],
 op (.t 17) (.bin .add) [.t 16,.c (.int .i64 1)],
 op (.t 18) .nilchk [.t 13],
 op (.t 19) (.fad 1) [.t 18],
 op .none (.stSt 1) [.t 19,.t 17]]
def a54s4 : ACode := .reg [] a54r3
def a54r5 : List AOper := [
 op (.v 2) .mv [.c (.bool true)]]
def a54s6 : ACode := .reg [] a54r5
def a54s7 : ACode := .seq a54s6 .ret
def a54s8 : ACode := .seq a54s4 a54s7
def a54s9 : ACode := .test [] a54r2 (.t 12) a54s8 .skip
def a54r10 : List AOper := [
 op (.v 2) .mv [.c (.bool false)]]
def a54s11 : ACode := .reg [] a54r10
def a54s12 : ACode := .seq a54s11 .ret
def a54s13 : ACode := .seq a54s9 a54s12
def a54s14 : ACode := .seq a54s1 a54s13
def a54c : ACode :=
  a54s14
def a54 : AFn := { np := 2,nv := 3,results := [.v 2],code := a54c }
def a54v : List Nat := [0,1,4]
def a54b : List Nat := []

def a55r0 : List AOper := [
 op (.v 2) .mv [.c (.list true [])]]
def a55s1 : ACode := .reg [] a55r0
def a55r2 : List AOper := [
 op (.v 3) .mv [.c (.list true [])]]
def a55s3 : ACode := .reg [] a55r2
def a55r4 : List AOper := [
 op (.v 4) .mv [.c (.bool true)]]
def a55s5 : ACode := .reg [] a55r4
def a55r6 : List AOper := [
 op (.t 8) .mv [.v 0],
 op (.t 9) .nilchk [.t 8],
 op (.t 10) (.fad 4) [.t 9],
 op (.t 11) (.ldSt false 1) [.t 10],
 op (.t 12) (.bin .eql) [.t 11,.c (.int .i64 0)],
 op (.t 13) .mv [.t 12],
 ⟨.t 14,.mv,[.v 4],none,some (.t 13,true)⟩,
 ⟨.t 15,.mv,[.t 14],none,some (.t 13,true)⟩,
 ⟨.t 16,.mv,[.v 0],none,some (.t 15,false)⟩,
 ⟨.t 17,.mv,[.v 1],none,some (.t 15,false)⟩,
 ⟨.t 18,.call 54,[.t 16,.t 17],none,some (.t 15,false)⟩,
 ⟨.t 19,.un .not,[.t 18],none,some (.t 15,false)⟩,
 ⟨.t 20,.pick,[.t 15,.c (.bool true),.t 19],none,some (.t 13,true)⟩,
 op (.t 21) .pick [.t 13,.t 20,.c (.bool false)]]
def a55s7 : ACode := .test [] a55r6 (.t 21) .skip (.exit 0)
def a55r8 : List AOper := [
 op (.t 22) .mv [.v 0],
 op (.t 23) (.call 51) [.t 22],
 op (.t 24) (.build [.str [],.list true [],.str [],.list true [],.bool false,.bool false,.int .u8 0,.int .i64 0,.str [],.list true [],.list true []] [(0,1)]) [.t 23],
 ⟨.bx,.alloc [.str [],.list true [],.str [],.list true [],.bool false,.bool false,.int .u8 0,.int .i64 0,.str [],.list true [],.list true []],[],some 5,none⟩,
 ⟨.none,.stLc 5 11,[.l 5,.ts 24],some 5,none⟩]
def a55s9 : ACode := .reg [5] a55r8
def a55r10 : List AOper := [
 op (.t 25) .mv [.v 0],
 op (.t 26) (.call 52) [.t 25,.c (.str [58])]]
def a55s11 : ACode := .reg [] a55r10
def a55r12 : List AOper := [
 op (.t 27) .mv [.v 0],
 op (.t 28) (.call 56) [.t 27],
 op (.t 29) (.fad 2) [.l 5],
 ⟨.none,.stLc 5 3,[.t 29,.ts 28],some 5,none⟩]
def a55s13 : ACode := .reg [] a55r12
def a55r14 : List AOper := [
 op (.t 30) .mv [.v 0],
 op (.t 31) (.call 54) [.t 30,.c (.str [61])]]
def a55r15 : List AOper := [
 op (.t 32) (.fad 5) [.l 5],
 ⟨.none,.stLc 5 1,[.t 32,.c (.bool true)],some 5,none⟩]
def a55s16 : ACode := .reg [] a55r15
def a55r17 : List AOper := [
 op (.t 33) .mv [.v 0],
 op (.t 34) (.call 82) [.t 33,.c (.bool true)],
 op (.t 35) (.fad 6) [.l 5],
 ⟨.none,.stLc 5 5,[.t 35,.ts 34],some 5,none⟩]
def a55s18 : ACode := .reg [] a55r17
def a55s19 : ACode := .seq a55s16 a55s18
def a55s20 : ACode := .test [] a55r14 (.t 31) a55s19 .skip
def a55r21 : List AOper := [
 op (.t 36) .mv [.vs 3],
 ⟨.t 37,.ldLc 5 true 11,[.l 5],some 5,none⟩,
 op (.t 38) (.bslice 11 [[.str [],.list true [],.str [],.list true [],.bool false,.bool false,.int .u8 0,.int .i64 0,.str [],.list true [],.list true []]] [0]) [.t 37],
 op (.t 39) (.app 11 176) [.ts 36,.t 38],
 op (.v 3) .mv [.ts 39]]
def a55s22 : ACode := .reg [] a55r21
def a55s23 : ACode := .seq a55s20 a55s22
def a55s24 : ACode := .seq a55s13 a55s23
def a55s25 : ACode := .seq a55s11 a55s24
def a55s26 : ACode := .seq a55s9 a55s25
def a55s27 : ACode := .blk 1 a55s26
def a55r28 : List AOper := [
 op (.v 4) .mv [.c (.bool false)]]
def a55s29 : ACode := .reg [] a55r28
def a55s30 : ACode := .seq a55s27 a55s29
def a55s31 : ACode := .seq a55s7 a55s30
def a55s32 : ACode := .loop a55s31
def a55s33 : ACode := .blk 0 a55s32
def a55s34 : ACode := .seq a55s5 a55s33
def a55r35 : List AOper := [
 op (.t 40) .mv [.v 3],
 op (.v 2) .mv [.ts 40]]
def a55s36 : ACode := .reg [] a55r35
def a55s37 : ACode := .seq a55s36 .ret
def a55s38 : ACode := .seq a55s34 a55s37
def a55s39 : ACode := .seq a55s3 a55s38
def a55s40 : ACode := .seq a55s1 a55s39
def a55c : ACode :=
  a55s40
def a55 : AFn := { np := 2,nv := 6,results := [.v 2],code := a55c }
def a55v : List Nat := [0,1,4,5,6,7]
def a55b : List Nat := [5]

def a56r0 : List AOper := [
 ⟨.bx,.alloc [.str [],.list true [],.bool false],[],some 1,none⟩]
def a56s1 : ACode := .reg [1] a56r0
def a56r2 : List AOper := [
 ⟨.bx,.alloc [.str [],.list true [],.bool false],[],some 2,none⟩]
def a56s3 : ACode := .reg [2] a56r2
def a56r4 : List AOper := [
 op (.t 5) .mv [.v 0],
 op (.t 6) (.call 83) [.t 5]]
def a56r5 : List AOper := [
 op (.t 7) .mv [.v 0],
 op (.t 8) (.call 54) [.t 7,.c (.str [91])]]
def a56r6 : List AOper := [
 op (.t 9) .mv [.v 0],
 op (.t 10) (.call 56) [.t 9],
 ⟨.bx,.alloc [.str [],.list true [],.bool false],[],some 3,none⟩,
 ⟨.none,.stLc 3 3,[.l 3,.ts 10],some 3,none⟩]
def a56s7 : ACode := .reg [3] a56r6
def a56r8 : List AOper := [
 ⟨.t 11,.ldLc 3 true 3,[.l 3],some 3,none⟩,
 op (.t 12) (.bslice 3 [[.str [],.list true [],.bool false]] [0]) [.t 11],
 op (.t 13) (.fad 1) [.l 2],
 ⟨.none,.stLc 2 1,[.t 13,.ts 12],some 2,none⟩]
def a56s9 : ACode := .reg [] a56r8
def a56r10 : List AOper := [
 op (.t 14) .mv [.v 0],
 op (.t 15) (.call 52) [.t 14,.c (.str [93])]]
def a56s11 : ACode := .reg [] a56r10
def a56s12 : ACode := .seq a56s9 a56s11
def a56s13 : ACode := .seq a56s7 a56s12
def a56r14 : List AOper := [
 op (.t 16) .mv [.v 0],
 op (.t 17) (.call 51) [.t 16],
 op (.t 18) (.fad 0) [.l 2],
 ⟨.none,.stLc 2 1,[.t 18,.t 17],some 2,none⟩]
def a56s15 : ACode := .reg [] a56r14
def a56s16 : ACode := .test [] a56r5 (.t 8) a56s13 a56s15
def a56r17 : List AOper := [
 op (.t 19) .mv [.v 0],
 op (.t 20) (.call 54) [.t 19,.c (.str [33])],
 op (.t 21) (.fad 2) [.l 2],
 ⟨.none,.stLc 2 1,[.t 21,.t 20],some 2,none⟩]
def a56s18 : ACode := .reg [] a56r17
def a56s19 : ACode := .seq a56s16 a56s18
def a56s20 : ACode := .test [] a56r4 (.t 6) a56s19 .skip
def a56r21 : List AOper := [
 op (.t 22) .mv [.v 0],
 op (.t 23) .nilchk [.t 22],
 op (.t 24) (.fad 2) [.t 23],
 op (.t 25) (.ldSt false 1) [.t 24],
 op (.t 26) (.bin .sub) [.t 25,.c (.int .i64 1)],
 op (.t 27) .nilchk [.t 22],
 op (.t 28) (.fad 2) [.t 27],
 op .none (.stSt 1) [.t 28,.t 26]]
def a56s22 : ACode := .reg [] a56r21
def a56r23 : List AOper := [
 ⟨.t 29,.ldLc 2 true 3,[.l 2],some 2,none⟩,
 ⟨.none,.stLc 1 3,[.l 1,.ts 29],some 1,none⟩]
def a56s24 : ACode := .reg [] a56r23
def a56s25 : ACode := .seq a56s24 .ret
def a56s26 : ACode := .seq a56s22 a56s25
def a56s27 : ACode := .seq a56s20 a56s26
def a56s28 : ACode := .seq a56s3 a56s27
def a56s29 : ACode := .seq a56s1 a56s28
def a56c : ACode :=
  a56s29
def a56 : AFn := { np := 1,nv := 4,results := [.bx 1 true 3],code := a56c }
def a56v : List Nat := [0,2,3,4]
def a56b : List Nat := [1,2,3]

def a57r0 : List AOper := [
 op (.v 2) .mv [.c (.bool false)]]
def a57s1 : ACode := .reg [] a57r0
def a57r2 : List AOper := [
 op (.t 5) .mv [.v 0],
 op (.t 6) .lenS [.t 5],
 op (.t 7) .mv [.v 1],
 op (.t 8) .lenS [.t 7],
 op (.t 9) (.bin .geq) [.t 6,.t 8],
 op (.t 10) .mv [.t 9],
 ⟨.t 11,.mv,[.v 0],none,some (.t 10,true)⟩,
 ⟨.t 12,.mv,[.v 1],none,some (.t 10,true)⟩,
 ⟨.t 13,.lenS,[.t 12],none,some (.t 10,true)⟩,
 ⟨.t 14,.slS false true,[.t 11,.t 13],none,some (.t 10,true)⟩,
 ⟨.t 15,.mv,[.v 1],none,some (.t 10,true)⟩,
 ⟨.t 16,.bin .eql,[.t 14,.t 15],none,some (.t 10,true)⟩,
 op (.t 17) .pick [.t 10,.t 16,.c (.bool false)],
 op (.v 2) .mv [.t 17]]
def a57s3 : ACode := .reg [] a57r2
def a57s4 : ACode := .seq a57s3 .ret
def a57s5 : ACode := .seq a57s1 a57s4
def a57c : ACode :=
  a57s5
def a57 : AFn := { np := 2,nv := 3,results := [.v 2],code := a57c }
def a57v : List Nat := [0,1,4]
def a57b : List Nat := []

def a58r0 : List AOper := [
 ⟨.bx,.alloc [.int .i64 0,.str []],[],some 1,none⟩]
def a58s1 : ACode := .reg [1] a58r0
def a58r2 : List AOper := [
 op (.v 4) .mv [.v 0],
 op (.v 5) .lenL [.v 4],
 op (.v 6) .mv [.c (.int .i64 0)]]
def a58s3 : ACode := .reg [] a58r2
def a58r4 : List AOper := [
 op (.t 8) (.bin .lss) [.v 6,.v 5]]
def a58s5 : ACode := .test [] a58r4 (.t 8) .skip (.exit 0)
def a58r6 : List AOper := [
 op (.t 9) .mv [.v 6],
 op (.t 10) (.iad 1) [.v 4,.v 6],
 op (.t 11) (.ldRo false 1) [.t 10],
 op (.v 2) .mv [.t 9],
 op (.v 3) .mv [.t 11]]
def a58s7 : ACode := .reg [] a58r6
def a58r8 : List AOper := [
 op (.t 12) .mv [.v 0],
 op (.t 13) .mv [.v 2],
 op (.t 14) (.slL 1 false true) [.t 12,.t 13],
 op (.t 15) .mv [.v 3],
 op (.t 16) (.call 37) [.t 14,.t 15]]
def a58r9 : List AOper := [
 op (.t 17) .mv [.v 3],
 op (.t 18) (.build [.int .i64 0,.str []] [(0,1),(1,1)]) [.c (.int .i64 7),.t 17],
 ⟨.none,.stLc 1 2,[.l 1,.t 18],some 1,none⟩]
def a58s10 : ACode := .reg [] a58r9
def a58s11 : ACode := .seq a58s10 .ret
def a58s12 : ACode := .test [] a58r8 (.t 16) a58s11 .skip
def a58r13 : List AOper := [
 op (.t 19) .mv [.v 3],
 op (.t 20) (.call 38) [.t 19,.c (.str [95,95])]]
def a58r14 : List AOper := [
 op (.t 21) .mv [.v 3],
 op (.t 22) (.build [.int .i64 0,.str []] [(0,1),(1,1)]) [.c (.int .i64 1),.t 21],
 ⟨.none,.stLc 1 2,[.l 1,.t 22],some 1,none⟩]
def a58s15 : ACode := .reg [] a58r14
def a58s16 : ACode := .seq a58s15 .ret
def a58s17 : ACode := .test [] a58r13 (.t 20) a58s16 .skip
def a58s18 : ACode := .seq a58s12 a58s17
def a58s19 : ACode := .seq a58s7 a58s18
def a58s20 : ACode := .blk 1 a58s19
def a58r21 : List AOper := [
 op (.t 23) (.bin .add) [.v 6,.c (.int .i64 1)],
 op (.v 6) .mv [.t 23]]
def a58s22 : ACode := .reg [] a58r21
def a58s23 : ACode := .seq a58s20 a58s22
def a58s24 : ACode := .seq a58s5 a58s23
def a58s25 : ACode := .loop a58s24
def a58s26 : ACode := .blk 0 a58s25
def a58s27 : ACode := .seq a58s3 a58s26
def a58r28 : List AOper := [
 op (.t 24) (.build [.int .i64 0,.str []] []) [],
 ⟨.none,.stLc 1 2,[.l 1,.t 24],some 1,none⟩]
def a58s29 : ACode := .reg [] a58r28
def a58s30 : ACode := .seq a58s29 .ret
def a58s31 : ACode := .seq a58s27 a58s30
def a58s32 : ACode := .seq a58s1 a58s31
def a58c : ACode :=
  a58s32
def a58 : AFn := { np := 1,nv := 7,results := [.bx 1 true 2],code := a58c }
def a58v : List Nat := [0,2,3,4,5,6,7]
def a58b : List Nat := [1]

def a59r0 : List AOper := [
 op (.v 1) .mv [.c (.list true [])]]
def a59s1 : ACode := .reg [] a59r0
def a59r2 : List AOper := [
 op (.v 2) .mv [.c (.list true [])]]
def a59s3 : ACode := .reg [] a59r2
def a59r4 : List AOper := [
 op (.v 4) .mv [.v 0],
 op (.v 5) .lenL [.v 4],
 op (.v 6) .mv [.c (.int .i64 0)]]
def a59s5 : ACode := .reg [] a59r4
def a59r6 : List AOper := [
 op (.t 9) (.bin .lss) [.v 6,.v 5]]
def a59s7 : ACode := .test [] a59r6 (.t 9) .skip (.exit 0)
def a59r8 : List AOper := [
 op (.t 10) (.iad 11) [.v 4,.v 6],
 op (.t 11) (.ldRo true 11) [.t 10],
 ⟨.bx,.alloc [.str [],.list true [],.str [],.list true [],.bool false,.bool false,.int .u8 0,.int .i64 0,.str [],.list true [],.list true []],[],some 3,none⟩,
 ⟨.none,.stLc 3 11,[.l 3,.ts 11],some 3,none⟩]
def a59s9 : ACode := .reg [3] a59r8
def a59r10 : List AOper := [
 op (.t 12) .mv [.vs 2],
 op (.t 13) (.fad 0) [.l 3],
 ⟨.t 14,.ldLc 3 false 1,[.t 13],some 3,none⟩,
 op (.t 15) (.bslice 1 [[.str []]] [0]) [.t 14],
 op (.t 16) (.app 1 16) [.ts 12,.t 15],
 op (.v 2) .mv [.ts 16]]
def a59s11 : ACode := .reg [] a59r10
def a59s12 : ACode := .seq a59s9 a59s11
def a59s13 : ACode := .blk 1 a59s12
def a59r14 : List AOper := [
 op (.t 17) (.bin .add) [.v 6,.c (.int .i64 1)],
 op (.v 6) .mv [.t 17]]
def a59s15 : ACode := .reg [] a59r14
def a59s16 : ACode := .seq a59s13 a59s15
def a59s17 : ACode := .seq a59s7 a59s16
def a59s18 : ACode := .loop a59s17
def a59s19 : ACode := .blk 0 a59s18
def a59s20 : ACode := .seq a59s5 a59s19
def a59r21 : List AOper := [
 op (.t 18) .mv [.vs 2],
 op (.v 1) .mv [.ts 18]]
def a59s22 : ACode := .reg [] a59r21
def a59s23 : ACode := .seq a59s22 .ret
def a59s24 : ACode := .seq a59s20 a59s23
def a59s25 : ACode := .seq a59s3 a59s24
def a59s26 : ACode := .seq a59s1 a59s25
def a59c : ACode :=
  a59s26
def a59 : AFn := { np := 1,nv := 7,results := [.vs 1],code := a59c }
def a59v : List Nat := [0,2,3,5,6,7,8]
def a59b : List Nat := [3]

def a60r0 : List AOper := [
 ⟨.bx,.boxV,[.v 1],some 3,none⟩,
 ⟨.bx,.alloc [.int .i64 0,.str []],[],some 4,none⟩]
def a60s1 : ACode := .reg [3,4] a60r0
def a60r2 : List AOper := [
 op (.t 15) (.fad 2) [.l 3],
 ⟨.t 16,.ldLc 3 true 3,[.t 15],some 3,none⟩,
 op (.t 17) (.call 84) [.t 16],
 op (.v 5) .mv [.t 17]]
def a60s3 : ACode := .reg [] a60r2
def a60r4 : List AOper := [
 op (.t 19) .mv [.v 0],
 op (.t 20) .mv [.v 5],
 op (.t 21) (.call 40) [.t 19,.t 20],
 op (.t 18) .mv [.t 21],
 op (.t 22) (.ext 0) [.t 18],
 op (.t 23) (.ext 1) [.t 18],
 ⟨.bx,.alloc [.int .u8 0,.str [],.list true [],.list true []],[],some 6,none⟩,
 ⟨.none,.stLc 6 4,[.l 6,.ts 22],some 6,none⟩,
 op (.v 7) .mv [.t 23]]
def a60s5 : ACode := .reg [6] a60r4
def a60r6 : List AOper := [
 op (.t 25) .mv [.v 7],
 op (.t 26) (.un .not) [.t 25],
 op (.t 27) .mv [.t 26],
 ⟨.t 28,.mv,[.v 0],none,some (.t 27,true)⟩,
 ⟨.t 29,.mv,[.v 5],none,some (.t 27,true)⟩,
 ⟨.t 30,.call 85,[.t 28,.t 29],none,some (.t 27,true)⟩,
 ⟨.t 31,.un .not,[.t 30],none,some (.t 27,true)⟩,
 op (.t 32) .pick [.t 27,.t 31,.c (.bool false)],
 op (.t 24) .mv [.t 32]]
def a60r7 : List AOper := [
 op (.t 33) .mv [.v 5],
 op (.t 34) (.build [.int .i64 0,.str []] [(0,1),(1,1)]) [.c (.int .i64 6),.t 33],
 ⟨.none,.stLc 4 2,[.l 4,.t 34],some 4,none⟩]
def a60s8 : ACode := .reg [] a60r7
def a60s9 : ACode := .seq a60s8 .ret
def a60r10 : List AOper := [
 op (.t 36) .mv [.v 2],
 op (.t 37) .mv [.t 36],
 ⟨.t 38,.mv,[.v 0],none,some (.t 37,true)⟩,
 ⟨.t 39,.mv,[.v 5],none,some (.t 37,true)⟩,
 ⟨.t 40,.call 85,[.t 38,.t 39],none,some (.t 37,true)⟩,
 ⟨.t 41,.un .not,[.t 40],none,some (.t 37,true)⟩,
 op (.t 42) .pick [.t 37,.t 41,.c (.bool false)],
 op (.t 43) .mv [.t 42],
 ⟨.t 44,.mv,[.v 0],none,some (.t 43,true)⟩,
 ⟨.t 45,.mv,[.v 5],none,some (.t 43,true)⟩,
 ⟨.t 46,.call 86,[.t 44,.t 45],none,some (.t 43,true)⟩,
 ⟨.t 47,.un .not,[.t 46],none,some (.t 43,true)⟩,
 op (.t 48) .pick [.t 43,.t 47,.c (.bool false)],
 op (.v 12) .mv [.t 48]]
def a60r11 : List AOper := [
 op (.t 49) .mv [.v 2],
 op (.t 50) (.un .not) [.t 49],
 op (.t 51) .mv [.t 50],
 ⟨.t 52,.mv,[.v 0],none,some (.t 51,true)⟩,
 ⟨.t 53,.mv,[.v 5],none,some (.t 51,true)⟩,
 ⟨.t 54,.call 87,[.t 52,.t 53],none,some (.t 51,true)⟩,
 op (.t 55) .pick [.t 51,.t 54,.c (.bool false)],
 op (.v 12) .mv [.t 55]]
def a60r12 : List AOper := [
 op (.t 56) .mv [.v 5],
 op (.t 57) (.call 61) [.t 56],
 op (.v 12) .mv [.t 57]]
def a60s13 : ACode := .reg [] a60r12
def a60s14 : ACode := .test [] a60r11 (.v 12) .skip a60s13
def a60s15 : ACode := .test [] a60r10 (.v 12) .skip a60s14
def a60r16 : List AOper := [
 op (.t 58) .mv [.v 5],
 op (.t 59) (.build [.int .i64 0,.str []] [(0,1),(1,1)]) [.c (.int .i64 8),.t 58],
 ⟨.none,.stLc 4 2,[.l 4,.t 59],some 4,none⟩]
def a60s17 : ACode := .reg [] a60r16
def a60s18 : ACode := .seq a60s17 .ret
def a60r19 : List AOper := [
 op (.t 61) (.fad 5) [.l 3],
 ⟨.t 62,.ldLc 3 false 1,[.t 61],some 3,none⟩,
 op (.t 63) .mv [.t 62],
 ⟨.t 64,.mv,[.v 0],none,some (.t 63,true)⟩,
 ⟨.t 65,.fad 2,[.l 3],none,some (.t 63,true)⟩,
 ⟨.t 66,.ldLc 3 true 3,[.t 65],some 3,some (.t 63,true)⟩,
 ⟨.t 67,.fad 6,[.l 3],none,some (.t 63,true)⟩,
 ⟨.t 68,.ldLc 3 true 5,[.t 67],some 3,some (.t 63,true)⟩,
 ⟨.t 69,.call 88,[.t 64,.t 66,.t 68],none,some (.t 63,true)⟩,
 ⟨.t 70,.un .not,[.t 69],none,some (.t 63,true)⟩,
 op (.t 71) .pick [.t 63,.t 70,.c (.bool false)],
 op (.t 60) .mv [.t 71]]
def a60r20 : List AOper := [
 op (.t 72) (.fad 0) [.l 3],
 ⟨.t 73,.ldLc 3 false 1,[.t 72],some 3,none⟩,
 op (.t 74) (.build [.int .i64 0,.str []] [(0,1),(1,1)]) [.c (.int .i64 8),.t 73],
 ⟨.none,.stLc 4 2,[.l 4,.t 74],some 4,none⟩]
def a60s21 : ACode := .reg [] a60r20
def a60s22 : ACode := .seq a60s21 .ret
def a60s23 : ACode := .test [] a60r19 (.t 60) a60s22 .skip
def a60s24 : ACode := .test [] [] (.v 12) a60s18 a60s23
def a60s25 : ACode := .seq a60s15 a60s24
def a60s26 : ACode := .test [] a60r6 (.t 24) a60s9 a60s25
def a60s27 : ACode := .blk 0 a60s26
def a60r28 : List AOper := [
 op (.t 75) (.fad 1) [.l 3],
 ⟨.t 76,.ldLc 3 false 1,[.t 75],some 3,none⟩,
 op (.t 77) (.call 59) [.t 76],
 op (.t 78) (.call 58) [.t 77],
 ⟨.bx,.alloc [.int .i64 0,.str []],[],some 8,none⟩,
 ⟨.none,.stLc 8 2,[.l 8,.t 78],some 8,none⟩]
def a60s29 : ACode := .reg [8] a60r28
def a60r30 : List AOper := [
 op (.t 79) (.fad 0) [.l 8],
 ⟨.t 80,.ldLc 8 false 1,[.t 79],some 8,none⟩,
 op (.t 81) (.bin .neq) [.t 80,.c (.int .i64 0)]]
def a60r31 : List AOper := [
 ⟨.t 82,.ldLc 8 true 2,[.l 8],some 8,none⟩,
 ⟨.none,.stLc 4 2,[.l 4,.t 82],some 4,none⟩]
def a60s32 : ACode := .reg [] a60r31
def a60s33 : ACode := .seq a60s32 .ret
def a60s34 : ACode := .test [] a60r30 (.t 81) a60s33 .skip
def a60s35 : ACode := .seq a60s29 a60s34
def a60r36 : List AOper := [
 op (.t 83) (.fad 1) [.l 3],
 ⟨.v 13,.ldLc 3 false 1,[.t 83],some 3,none⟩,
 op (.v 14) .lenL [.v 13],
 op (.v 15) .mv [.c (.int .i64 0)]]
def a60s37 : ACode := .reg [] a60r36
def a60r38 : List AOper := [
 op (.t 87) (.bin .lss) [.v 15,.v 14]]
def a60s39 : ACode := .test [] a60r38 (.t 87) .skip (.exit 1)
def a60r40 : List AOper := [
 op (.t 88) (.iad 11) [.v 13,.v 15],
 op (.t 89) (.ldRo true 11) [.t 88],
 ⟨.bx,.alloc [.str [],.list true [],.str [],.list true [],.bool false,.bool false,.int .u8 0,.int .i64 0,.str [],.list true [],.list true []],[],some 9,none⟩,
 ⟨.none,.stLc 9 11,[.l 9,.ts 89],some 9,none⟩]
def a60s41 : ACode := .reg [9] a60r40
def a60r42 : List AOper := [
 op (.t 90) (.fad 2) [.l 9],
 ⟨.t 91,.ldLc 9 true 3,[.t 90],some 9,none⟩,
 op (.t 92) (.call 84) [.t 91],
 op (.v 10) .mv [.t 92]]
def a60s43 : ACode := .reg [] a60r42
def a60r44 : List AOper := [
 op (.t 101) .mv [.v 0],
 op (.t 102) .mv [.v 10],
 op (.t 103) (.call 87) [.t 101,.t 102],
 op (.t 100) .mv [.t 103]]
def a60r45 : List AOper := [
 op (.t 104) (.fad 5) [.l 9],
 ⟨.t 105,.ldLc 9 false 1,[.t 104],some 9,none⟩]
def a60r46 : List AOper := [
 op (.t 106) (.fad 0) [.l 9],
 ⟨.t 107,.ldLc 9 false 1,[.t 106],some 9,none⟩,
 op (.t 108) (.build [.int .i64 0,.str []] [(0,1),(1,1)]) [.c (.int .i64 8),.t 107],
 ⟨.none,.stLc 4 2,[.l 4,.t 108],some 4,none⟩]
def a60s47 : ACode := .reg [] a60r46
def a60s48 : ACode := .seq a60s47 .ret
def a60s49 : ACode := .test [] a60r45 (.t 105) a60s48 .skip
def a60r50 : List AOper := [
 op (.t 93) .mv [.v 0],
 ⟨.t 94,.ldLc 9 true 11,[.l 9],some 9,none⟩,
 op (.t 95) (.call 60) [.t 93,.t 94,.c (.bool true)],
 ⟨.bx,.alloc [.int .i64 0,.str []],[],some 11,none⟩,
 ⟨.none,.stLc 11 2,[.l 11,.t 95],some 11,none⟩]
def a60s51 : ACode := .reg [11] a60r50
def a60r52 : List AOper := [
 op (.t 96) (.fad 0) [.l 11],
 ⟨.t 97,.ldLc 11 false 1,[.t 96],some 11,none⟩,
 op (.t 98) (.bin .neq) [.t 97,.c (.int .i64 0)]]
def a60r53 : List AOper := [
 ⟨.t 99,.ldLc 11 true 2,[.l 11],some 11,none⟩,
 ⟨.none,.stLc 4 2,[.l 4,.t 99],some 4,none⟩]
def a60s54 : ACode := .reg [] a60r53
def a60s55 : ACode := .seq a60s54 .ret
def a60s56 : ACode := .test [] a60r52 (.t 98) a60s55 .skip
def a60s57 : ACode := .seq a60s51 a60s56
def a60s58 : ACode := .test [] a60r44 (.t 100) a60s49 a60s57
def a60s59 : ACode := .blk 3 a60s58
def a60s60 : ACode := .seq a60s43 a60s59
def a60s61 : ACode := .seq a60s41 a60s60
def a60s62 : ACode := .blk 2 a60s61
def a60r63 : List AOper := [
 op (.t 109) (.bin .add) [.v 15,.c (.int .i64 1)],
 op (.v 15) .mv [.t 109]]
def a60s64 : ACode := .reg [] a60r63
def a60s65 : ACode := .seq a60s62 a60s64
def a60s66 : ACode := .seq a60s39 a60s65
def a60s67 : ACode := .loop a60s66
def a60s68 : ACode := .blk 1 a60s67
def a60s69 : ACode := .seq a60s37 a60s68
def a60r70 : List AOper := [
 op (.t 110) (.build [.int .i64 0,.str []] []) [],
 ⟨.none,.stLc 4 2,[.l 4,.t 110],some 4,none⟩]
def a60s71 : ACode := .reg [] a60r70
def a60s72 : ACode := .seq a60s71 .ret
def a60s73 : ACode := .seq a60s69 a60s72
def a60s74 : ACode := .seq a60s35 a60s73
def a60s75 : ACode := .seq a60s27 a60s74
def a60s76 : ACode := .seq a60s5 a60s75
def a60s77 : ACode := .seq a60s3 a60s76
def a60s78 : ACode := .seq a60s1 a60s77
def a60c : ACode :=
  a60s78
def a60 : AFn := { np := 3,nv := 16,results := [.bx 4 true 2],code := a60c }
def a60v : List Nat := [0,1,2,4,6,7,8,9,10,12,13,14,35,84,85,86]
def a60b : List Nat := [3,4,6,8,9,11]

def a61r0 : List AOper := [
 op (.v 1) .mv [.c (.bool false)]]
def a61s1 : ACode := .reg [] a61r0
def a61r2 : List AOper := [
 op (.t 3) .mv [.v 0],
 op (.t 4) (.bin .eql) [.t 3,.c (.str [81,117,101,114,121])],
 op (.t 5) .mv [.t 4],
 ⟨.t 6,.mv,[.v 0],none,some (.t 5,false)⟩,
 ⟨.t 7,.bin .eql,[.t 6,.c (.str [77,117,116,97,116,105,111,110])],none,some (.t 5,false)⟩,
 op (.t 8) .pick [.t 5,.c (.bool true),.t 7],
 op (.v 1) .mv [.t 8]]
def a61s3 : ACode := .reg [] a61r2
def a61s4 : ACode := .seq a61s3 .ret
def a61s5 : ACode := .seq a61s1 a61s4
def a61c : ACode :=
  a61s5
def a61 : AFn := { np := 1,nv := 2,results := [.v 1],code := a61c }
def a61v : List Nat := [0,2]
def a61b : List Nat := []

def a62r0 : List AOper := [
 op (.v 3) .boxO [.v 1],
 ⟨.bx,.boxV,[.v 2],some 4,none⟩,
 op (.v 5) .mv [.c (.bool false)]]
def a62s1 : ACode := .reg [4] a62r0
def a62r2 : List AOper := [
 op (.t 7) (.fad 2) [.l 4],
 ⟨.t 8,.ldLc 4 false 1,[.t 7],some 4,none⟩,
 op (.t 9) (.mkF 90 0) [.v 3],
 op (.t 10) (.call 89) [.t 8,.t 9],
 op (.t 11) (.un .not) [.t 10],
 op (.v 5) .mv [.t 11]]
def a62s3 : ACode := .reg [] a62r2
def a62s4 : ACode := .seq a62s3 .ret
def a62s5 : ACode := .seq a62s1 a62s4
def a62c : ACode :=
  a62s5
def a62 : AFn := { np := 3,nv := 6,results := [.v 5],code := a62c }
def a62v : List Nat := [0,1,2,4,5,6]
def a62b : List Nat := [4]

def a63r0 : List AOper := [
 ⟨.bx,.boxV,[.v 1],some 2,none⟩,
 op (.v 3) .mv [.c (.bool false)]]
def a63s1 : ACode := .reg [2] a63r0
def a63r2 : List AOper := [
 op (.t 5) (.fad 1) [.l 2],
 ⟨.t 6,.ldLc 2 false 1,[.t 5],some 2,none⟩,
 op (.t 7) .lenL [.t 6],
 op (.t 8) (.bin .eql) [.t 7,.c (.int .i64 1)],
 op (.t 9) .mv [.t 8],
 ⟨.t 10,.fad 1,[.l 2],none,some (.t 9,true)⟩,
 ⟨.t 11,.ldLc 2 false 1,[.t 10],some 2,some (.t 9,true)⟩,
 ⟨.t 12,.iad 11,[.t 11,.c (.int .i64 0)],none,some (.t 9,true)⟩,
 ⟨.t 13,.ldRo true 11,[.t 12],none,some (.t 9,true)⟩,
 ⟨.t 14,.call 92,[.t 13],none,some (.t 9,true)⟩,
 op (.t 15) .pick [.t 9,.t 14,.c (.bool false)],
 op (.t 16) .mv [.t 15],
 ⟨.t 17,.fad 2,[.l 2],none,some (.t 16,true)⟩,
 ⟨.t 18,.fad 1,[.t 17],none,some (.t 16,true)⟩,
 ⟨.t 19,.ldLc 2 false 1,[.t 18],some 2,some (.t 16,true)⟩,
 ⟨.t 20,.lenL,[.t 19],none,some (.t 16,true)⟩,
 ⟨.t 21,.bin .eql,[.t 20,.c (.int .i64 0)],none,some (.t 16,true)⟩,
 op (.t 22) .pick [.t 16,.t 21,.c (.bool false)],
 op (.t 23) .mv [.t 22],
 ⟨.t 24,.fad 2,[.l 2],none,some (.t 23,true)⟩,
 ⟨.t 25,.fad 2,[.t 24],none,some (.t 23,true)⟩,
 ⟨.t 26,.ldLc 2 false 1,[.t 25],some 2,some (.t 23,true)⟩,
 ⟨.t 27,.un .not,[.t 26],none,some (.t 23,true)⟩,
 op (.t 28) .pick [.t 23,.t 27,.c (.bool false)],
 op (.t 29) .mv [.t 28],
 ⟨.t 30,.mv,[.v 0],none,some (.t 29,true)⟩,
 ⟨.t 31,.fad 2,[.l 2],none,some (.t 29,true)⟩,
 ⟨.t 32,.fad 0,[.t 31],none,some (.t 29,true)⟩,
 ⟨.t 33,.ldLc 2 false 1,[.t 32],some 2,some (.t 29,true)⟩,
 ⟨.t 34,.call 93,[.t 30,.t 33],none,some (.t 29,true)⟩,
 op (.t 35) .pick [.t 29,.t 34,.c (.bool false)],
 op (.v 3) .mv [.t 35]]
def a63s3 : ACode := .reg [] a63r2
def a63s4 : ACode := .seq a63s3 .ret
def a63s5 : ACode := .seq a63s1 a63s4
def a63c : ACode :=
  a63s5
def a63 : AFn := { np := 2,nv := 4,results := [.v 3],code := a63c }
def a63v : List Nat := [0,1,3,4]
def a63b : List Nat := [2]

def a64r0 : List AOper := [
 ⟨.bx,.boxV,[.v 1],some 2,none⟩,
 op (.v 3) .mv [.c (.bool false)]]
def a64s1 : ACode := .reg [2] a64r0
def a64r2 : List AOper := [
 op (.t 5) (.fad 1) [.l 2],
 ⟨.t 6,.ldLc 2 false 1,[.t 5],some 2,none⟩,
 op (.t 7) .lenL [.t 6],
 op (.t 8) (.bin .eql) [.t 7,.c (.int .i64 0)],
 op (.t 9) .mv [.t 8],
 ⟨.t 10,.mv,[.v 0],none,some (.t 9,true)⟩,
 ⟨.t 11,.fad 2,[.l 2],none,some (.t 9,true)⟩,
 ⟨.t 12,.ldLc 2 true 3,[.t 11],some 2,some (.t 9,true)⟩,
 ⟨.t 13,.call 84,[.t 12],none,some (.t 9,true)⟩,
 ⟨.t 14,.call 93,[.t 10,.t 13],none,some (.t 9,true)⟩,
 op (.t 15) .pick [.t 9,.t 14,.c (.bool false)],
 op (.t 16) .mv [.t 15],
 ⟨.t 17,.fad 2,[.l 2],none,some (.t 16,true)⟩,
 ⟨.t 18,.ldLc 2 true 3,[.t 17],some 2,some (.t 16,true)⟩,
 ⟨.t 19,.fad 2,[.l 2],none,some (.t 16,true)⟩,
 ⟨.t 20,.ldLc 2 true 3,[.t 19],some 2,some (.t 16,true)⟩,
 ⟨.t 21,.call 84,[.t 20],none,some (.t 16,true)⟩,
 ⟨.t 22,(.build [.str [],.list true [],.bool false] [(0,1),(2,1)]),[.t 21,.c (.bool true)],none,some (.t 16,true)⟩,
 ⟨.t 23,.bslice 3 [[.str [],.list true [],.bool false]] [0],[.t 22],none,some (.t 16,true)⟩,
 ⟨.t 24,(.build [.str [],.list true [],.bool false] [(1,1),(2,1)]),[.t 23,.c (.bool true)],none,some (.t 16,true)⟩,
 ⟨.t 25,.call 91,[.t 18,.t 24],none,some (.t 16,true)⟩,
 op (.t 26) .pick [.t 16,.t 25,.c (.bool false)],
 op (.v 3) .mv [.t 26]]
def a64s3 : ACode := .reg [] a64r2
def a64s4 : ACode := .seq a64s3 .ret
def a64s5 : ACode := .seq a64s1 a64s4
def a64c : ACode :=
  a64s5
def a64 : AFn := { np := 2,nv := 4,results := [.v 3],code := a64c }
def a64v : List Nat := [0,1,3,4]
def a64b : List Nat := [2]

def a65r0 : List AOper := [
 op (.v 2) .boxO [.v 0],
 ⟨.bx,.boxV,[.v 1],some 3,none⟩,
 op (.v 4) .mv [.c (.bool false)]]
def a65s1 : ACode := .reg [3] a65r0
def a65r2 : List AOper := [
 op (.t 11) (.fad 0) [.l 3],
 ⟨.t 12,.ldLc 3 false 1,[.t 11],some 3,none⟩,
 op (.t 13) (.call 94) [.t 12],
 op (.t 10) .mv [.t 13],
 op (.t 14) (.ext 0) [.t 10],
 op (.t 15) (.ext 1) [.t 10],
 op (.v 5) .mv [.t 14],
 op (.v 6) .mv [.t 15]]
def a65s3 : ACode := .reg [] a65r2
def a65r4 : List AOper := [
 op (.t 17) (.ldSt false 1) [.v 2],
 op (.t 18) .mv [.v 6],
 op (.t 19) (.call 40) [.t 17,.t 18],
 op (.t 16) .mv [.t 19],
 op (.t 20) (.ext 0) [.t 16],
 op (.t 21) (.ext 1) [.t 16],
 op (.v 7) (.allocO [.int .u8 0,.str [],.list true [],.list true []]) [],
 op .none (.stSt 4) [.v 7,.ts 20],
 op (.v 8) .mv [.t 21]]
def a65s5 : ACode := .reg [] a65r4
def a65r6 : List AOper := [
 op (.t 22) .mv [.v 8],
 op (.t 23) (.un .not) [.t 22],
 op (.t 24) .mv [.t 23],
 ⟨.t 25,.fad 0,[.v 7],none,some (.t 24,false)⟩,
 ⟨.t 26,.ldSt false 1,[.t 25],none,some (.t 24,false)⟩,
 ⟨.t 27,.bin .neq,[.t 26,.c (.int .u8 1)],none,some (.t 24,false)⟩,
 op (.t 28) .pick [.t 24,.c (.bool true),.t 27],
 op (.t 29) .mv [.t 28],
 ⟨.t 30,.mv,[.v 6],none,some (.t 29,false)⟩,
 ⟨.t 31,.call 61,[.t 30],none,some (.t 29,false)⟩,
 op (.t 32) .pick [.t 29,.c (.bool true),.t 31],
 op (.t 33) .mv [.t 32],
 ⟨.t 34,.fad 2,[.l 3],none,some (.t 33,false)⟩,
 ⟨.t 35,.ldLc 3 true 3,[.t 34],some 3,some (.t 33,false)⟩,
 ⟨.t 36,.mv,[.v 6],none,some (.t 33,false)⟩,
 ⟨.t 37,(.build [.str [],.list true [],.bool false] [(0,1)]),[.t 36],none,some (.t 33,false)⟩,
 ⟨.t 38,.call 91,[.t 35,.t 37],none,some (.t 33,false)⟩,
 ⟨.t 39,.un .not,[.t 38],none,some (.t 33,false)⟩,
 op (.t 40) .pick [.t 33,.c (.bool true),.t 39]]
def a65r7 : List AOper := [
 op (.v 4) .mv [.c (.bool false)]]
def a65s8 : ACode := .reg [] a65r7
def a65s9 : ACode := .seq a65s8 .ret
def a65s10 : ACode := .test [] a65r6 (.t 40) a65s9 .skip
def a65r11 : List AOper := [
 op (.t 41) .mv [.v 5],
 op (.t 42) (.bin .eql) [.t 41,.c (.str [100,101,108,101,116,101])]]
def a65r12 : List AOper := [
 op (.t 43) (.fad 1) [.l 3],
 ⟨.t 44,.ldLc 3 false 1,[.t 43],some 3,none⟩,
 op (.t 45) .lenL [.t 44],
 op (.t 46) (.bin .eql) [.t 45,.c (.int .i64 1)],
 op (.t 47) .mv [.t 46],
 ⟨.t 48,.fad 1,[.l 3],none,some (.t 47,true)⟩,
 ⟨.t 49,.ldLc 3 false 1,[.t 48],some 3,some (.t 47,true)⟩,
 ⟨.t 50,.iad 11,[.t 49,.c (.int .i64 0)],none,some (.t 47,true)⟩,
 ⟨.t 51,.ldRo true 11,[.t 50],none,some (.t 47,true)⟩,
 ⟨.t 52,.call 92,[.t 51],none,some (.t 47,true)⟩,
 op (.t 53) .pick [.t 47,.t 52,.c (.bool false)],
 op (.v 4) .mv [.t 53]]
def a65s13 : ACode := .reg [] a65r12
def a65s14 : ACode := .seq a65s13 .ret
def a65s15 : ACode := .test [] a65r11 (.t 42) a65s14 .skip
def a65r16 : List AOper := [
 op (.t 54) (.fad 1) [.l 3],
 ⟨.t 55,.ldLc 3 false 1,[.t 54],some 3,none⟩,
 op (.t 56) .lenL [.t 55],
 op (.t 57) (.bin .neq) [.t 56,.c (.int .i64 2)],
 op (.t 58) .mv [.t 57],
 ⟨.t 59,.fad 1,[.l 3],none,some (.t 58,false)⟩,
 ⟨.t 60,.ldLc 3 false 1,[.t 59],some 3,some (.t 58,false)⟩,
 ⟨.t 61,.iad 11,[.t 60,.c (.int .i64 0)],none,some (.t 58,false)⟩,
 ⟨.t 62,.ldRo true 11,[.t 61],none,some (.t 58,false)⟩,
 ⟨.t 63,.call 92,[.t 62],none,some (.t 58,false)⟩,
 ⟨.t 64,.un .not,[.t 63],none,some (.t 58,false)⟩,
 op (.t 65) .pick [.t 58,.c (.bool true),.t 64],
 op (.t 66) .mv [.t 65],
 ⟨.t 67,.fad 1,[.l 3],none,some (.t 66,false)⟩,
 ⟨.t 68,.ldLc 3 false 1,[.t 67],some 3,some (.t 66,false)⟩,
 ⟨.t 69,.iad 11,[.t 68,.c (.int .i64 1)],none,some (.t 66,false)⟩,
 ⟨.t 70,.fad 0,[.t 69],none,some (.t 66,false)⟩,
 ⟨.t 71,.ldRo false 1,[.t 70],none,some (.t 66,false)⟩,
 ⟨.t 72,.bin .neq,[.t 71,.c (.str [105,110,112,117,116])],none,some (.t 66,false)⟩,
 op (.t 73) .pick [.t 66,.c (.bool true),.t 72],
 op (.t 74) .mv [.t 73],
 ⟨.t 75,.fad 1,[.l 3],none,some (.t 74,false)⟩,
 ⟨.t 76,.ldLc 3 false 1,[.t 75],some 3,some (.t 74,false)⟩,
 ⟨.t 77,.iad 11,[.t 76,.c (.int .i64 1)],none,some (.t 74,false)⟩,
 ⟨.t 78,.fad 2,[.t 77],none,some (.t 74,false)⟩,
 ⟨.t 79,.fad 2,[.t 78],none,some (.t 74,false)⟩,
 ⟨.t 80,.ldRo false 1,[.t 79],none,some (.t 74,false)⟩,
 ⟨.t 81,.un .not,[.t 80],none,some (.t 74,false)⟩,
 op (.t 82) .pick [.t 74,.c (.bool true),.t 81],
 op (.t 83) .mv [.t 82],
 ⟨.t 84,.fad 1,[.l 3],none,some (.t 83,false)⟩,
 ⟨.t 85,.ldLc 3 false 1,[.t 84],some 3,some (.t 83,false)⟩,
 ⟨.t 86,.iad 11,[.t 85,.c (.int .i64 1)],none,some (.t 83,false)⟩,
 ⟨.t 87,.fad 2,[.t 86],none,some (.t 83,false)⟩,
 ⟨.t 88,.fad 1,[.t 87],none,some (.t 83,false)⟩,
 ⟨.t 89,.ldRo false 1,[.t 88],none,some (.t 83,false)⟩,
 ⟨.t 90,.lenL,[.t 89],none,some (.t 83,false)⟩,
 ⟨.t 91,.bin .gtr,[.t 90,.c (.int .i64 0)],none,some (.t 83,false)⟩,
 op (.t 92) .pick [.t 83,.c (.bool true),.t 91]]
def a65r17 : List AOper := [
 op (.v 4) .mv [.c (.bool false)]]
def a65s18 : ACode := .reg [] a65r17
def a65s19 : ACode := .seq a65s18 .ret
def a65s20 : ACode := .test [] a65r16 (.t 92) a65s19 .skip
def a65r21 : List AOper := [
 op (.t 94) (.ldSt false 1) [.v 2],
 op (.t 95) (.fad 1) [.l 3],
 ⟨.t 96,.ldLc 3 false 1,[.t 95],some 3,none⟩,
 op (.t 97) (.iad 11) [.t 96,.c (.int .i64 1)],
 op (.t 98) (.fad 2) [.t 97],
 op (.t 99) (.fad 0) [.t 98],
 op (.t 100) (.ldRo false 1) [.t 99],
 op (.t 101) (.call 40) [.t 94,.t 100],
 op (.t 93) .mv [.t 101],
 op (.t 102) (.ext 0) [.t 93],
 op (.t 103) (.ext 1) [.t 93],
 ⟨.bx,.alloc [.int .u8 0,.str [],.list true [],.list true []],[],some 9,none⟩,
 ⟨.none,.stLc 9 4,[.l 9,.ts 102],some 9,none⟩,
 op (.v 8) .mv [.t 103]]
def a65s22 : ACode := .reg [9] a65r21
def a65r23 : List AOper := [
 op (.t 104) .mv [.v 8],
 op (.t 105) (.un .not) [.t 104],
 op (.t 106) .mv [.t 105],
 ⟨.t 107,.fad 0,[.l 9],none,some (.t 106,false)⟩,
 ⟨.t 108,.ldLc 9 false 1,[.t 107],some 9,some (.t 106,false)⟩,
 ⟨.t 109,.bin .neq,[.t 108,.c (.int .u8 5)],none,some (.t 106,false)⟩,
 op (.t 110) .pick [.t 106,.c (.bool true),.t 109]]
def a65r24 : List AOper := [
 op (.v 4) .mv [.c (.bool false)]]
def a65s25 : ACode := .reg [] a65r24
def a65s26 : ACode := .seq a65s25 .ret
def a65s27 : ACode := .test [] a65r23 (.t 110) a65s26 .skip
def a65r28 : List AOper := [
 op (.t 111) (.fad 2) [.l 9],
 ⟨.t 112,.ldLc 9 false 1,[.t 111],some 9,none⟩,
 op (.t 113) (.mkF 95 0) [.v 7,.v 2],
 op (.t 114) (.call 89) [.t 112,.t 113],
 op (.t 115) (.un .not) [.t 114],
 op (.v 4) .mv [.t 115]]
def a65s29 : ACode := .reg [] a65r28
def a65s30 : ACode := .seq a65s29 .ret
def a65s31 : ACode := .seq a65s27 a65s30
def a65s32 : ACode := .seq a65s22 a65s31
def a65s33 : ACode := .seq a65s20 a65s32
def a65s34 : ACode := .seq a65s15 a65s33
def a65s35 : ACode := .seq a65s10 a65s34
def a65s36 : ACode := .seq a65s5 a65s35
def a65s37 : ACode := .seq a65s3 a65s36
def a65s38 : ACode := .seq a65s1 a65s37
def a65c : ACode :=
  a65s38
def a65 : AFn := { np := 2,nv := 10,results := [.v 4],code := a65c }
def a65v : List Nat := [0,1,2,3,4,5,6,7,8,9]
def a65b : List Nat := [3,9]

def a66r0 : List AOper := [
 op (.v 1) .mv [.c (.str [])],
 op (.v 2) .mv [.c (.int .i64 0)]]
def a66s1 : ACode := .reg [] a66r0
def a66r2 : List AOper := [
 op (.v 3) .mv [.c (.int .i64 0)]]
def a66s3 : ACode := .reg [] a66r2
def a66r4 : List AOper := [
 op (.t 5) .mv [.v 3],
 op (.t 6) .mv [.v 0],
 op (.t 7) .lenL [.t 6],
 op (.t 8) (.bin .lss) [.t 5,.t 7]]
def a66s5 : ACode := .test [] a66r4 (.t 8) .skip (.exit 0)
def a66r6 : List AOper := [
 op (.t 11) .mv [.v 0],
 op (.t 12) .mv [.v 3],
 op (.t 13) (.slL 1 false true) [.t 11,.t 12],
 op (.t 14) .mv [.v 0],
 op (.t 15) .mv [.v 3],
 op (.t 16) (.iad 1) [.t 14,.t 15],
 op (.t 17) (.ldRo false 1) [.t 16],
 op (.t 18) (.call 28) [.t 13,.t 17]]
def a66r7 : List AOper := [
 op (.t 19) .mv [.v 0],
 op (.t 20) .mv [.v 3],
 op (.t 21) (.iad 1) [.t 19,.t 20],
 op (.t 22) (.ldRo false 1) [.t 21],
 op (.v 1) .mv [.t 22],
 op (.v 2) .mv [.c (.int .i64 7)]]
def a66s8 : ACode := .reg [] a66r7
def a66s9 : ACode := .seq a66s8 .ret
def a66s10 : ACode := .test [] a66r6 (.t 18) a66s9 .skip
def a66r11 : List AOper := [
 op (.t 23) .mv [.v 0],
 op (.t 24) .mv [.v 3],
 op (.t 25) (.iad 1) [.t 23,.t 24],
 op (.t 26) (.ldRo false 1) [.t 25],
 op (.t 27) (.call 43) [.t 26,.c (.str [95,95])]]
def a66r12 : List AOper := [
 op (.t 28) .mv [.v 0],
 op (.t 29) .mv [.v 3],
 op (.t 30) (.iad 1) [.t 28,.t 29],
 op (.t 31) (.ldRo false 1) [.t 30],
 op (.v 1) .mv [.t 31],
 op (.v 2) .mv [.c (.int .i64 1)]]
def a66s13 : ACode := .reg [] a66r12
def a66s14 : ACode := .seq a66s13 .ret
def a66s15 : ACode := .test [] a66r11 (.t 27) a66s14 .skip
def a66s16 : ACode := .seq a66s10 a66s15
def a66s17 : ACode := .blk 1 a66s16
def a66r18 : List AOper := [
 op (.t 9) .mv [.v 3],
 op (.t 10) (.bin .add) [.t 9,.c (.int .i64 1)],
 op (.v 3) .mv [.t 10]]
def a66s19 : ACode := .reg [] a66r18
def a66s20 : ACode := .seq a66s17 a66s19
def a66s21 : ACode := .seq a66s5 a66s20
def a66s22 : ACode := .loop a66s21
def a66s23 : ACode := .blk 0 a66s22
def a66s24 : ACode := .seq a66s3 a66s23
def a66r25 : List AOper := [
 op (.v 1) .mv [.c (.str [])],
 op (.v 2) .mv [.c (.int .i64 0)]]
def a66s26 : ACode := .reg [] a66r25
def a66s27 : ACode := .seq a66s26 .ret
def a66s28 : ACode := .seq a66s24 a66s27
def a66s29 : ACode := .seq a66s1 a66s28
def a66c : ACode :=
  a66s29
def a66 : AFn := { np := 1,nv := 4,results := [.v 1,.v 2],code := a66c }
def a66v : List Nat := [0,2,3,4]
def a66b : List Nat := []

def a67r0 : List AOper := [
 op (.v 1) .mv [.c (.list true [])]]
def a67s1 : ACode := .reg [] a67r0
def a67r2 : List AOper := [
 op (.v 2) .mv [.c (.list true [])]]
def a67s3 : ACode := .reg [] a67r2
def a67r4 : List AOper := [
 op (.v 3) .mv [.c (.int .i64 0)]]
def a67s5 : ACode := .reg [] a67r4
def a67r6 : List AOper := [
 op (.t 5) .mv [.v 3],
 op (.t 6) .mv [.v 0],
 op (.t 7) .lenL [.t 6],
 op (.t 8) (.bin .lss) [.t 5,.t 7]]
def a67s7 : ACode := .test [] a67r6 (.t 8) .skip (.exit 0)
def a67r8 : List AOper := [
 op (.t 11) .mv [.vs 2],
 op (.t 12) .mv [.v 0],
 op (.t 13) .mv [.v 3],
 op (.t 14) (.iad 11) [.t 12,.t 13],
 op (.t 15) (.fad 0) [.t 14],
 op (.t 16) (.ldRo false 1) [.t 15],
 op (.t 17) (.bslice 1 [[.str []]] [0]) [.t 16],
 op (.t 18) (.app 1 16) [.ts 11,.t 17],
 op (.v 2) .mv [.ts 18]]
def a67s9 : ACode := .reg [] a67r8
def a67s10 : ACode := .blk 1 a67s9
def a67r11 : List AOper := [
 op (.t 9) .mv [.v 3],
 op (.t 10) (.bin .add) [.t 9,.c (.int .i64 1)],
 op (.v 3) .mv [.t 10]]
def a67s12 : ACode := .reg [] a67r11
def a67s13 : ACode := .seq a67s10 a67s12
def a67s14 : ACode := .seq a67s7 a67s13
def a67s15 : ACode := .loop a67s14
def a67s16 : ACode := .blk 0 a67s15
def a67s17 : ACode := .seq a67s5 a67s16
def a67r18 : List AOper := [
 op (.t 19) .mv [.v 2],
 op (.v 1) .mv [.ts 19]]
def a67s19 : ACode := .reg [] a67r18
def a67s20 : ACode := .seq a67s19 .ret
def a67s21 : ACode := .seq a67s17 a67s20
def a67s22 : ACode := .seq a67s3 a67s21
def a67s23 : ACode := .seq a67s1 a67s22
def a67c : ACode :=
  a67s23
def a67 : AFn := { np := 1,nv := 4,results := [.v 1],code := a67c }
def a67v : List Nat := [0,2,3,4]
def a67b : List Nat := []

def a68r0 : List AOper := [
 ⟨.bx,.boxV,[.v 1],some 3,none⟩,
 op (.v 4) .mv [.c (.str [])],
 op (.v 5) .mv [.c (.int .i64 0)]]
def a68s1 : ACode := .reg [3] a68r0
def a68r2 : List AOper := [
 op (.t 14) (.fad 2) [.l 3],
 ⟨.t 15,.ldLc 3 true 3,[.t 14],some 3,none⟩,
 op (.t 16) (.call 71) [.t 15],
 op (.v 6) .mv [.t 16]]
def a68s3 : ACode := .reg [] a68r2
def a68r4 : List AOper := [
 op (.t 17) .mv [.v 0],
 op (.t 18) .mv [.v 6],
 op (.t 19) (.call 27) [.t 17,.t 18],
 op (.t 20) (.fld 0 1 false) [.t 19],
 op (.v 7) .mv [.t 20]]
def a68s5 : ACode := .reg [] a68r4
def a68r6 : List AOper := [
 op (.t 21) .mv [.v 6],
 op (.t 22) (.call 42) [.t 21],
 op (.t 23) (.un .not) [.t 22],
 op (.t 24) .mv [.t 23],
 ⟨.t 25,.mv,[.v 7],none,some (.t 24,true)⟩,
 ⟨.t 26,.bin .eql,[.t 25,.c (.int .u8 0)],none,some (.t 24,true)⟩,
 op (.t 27) .pick [.t 24,.t 26,.c (.bool false)]]
def a68r7 : List AOper := [
 op (.t 28) .mv [.v 6],
 op (.v 4) .mv [.t 28],
 op (.v 5) .mv [.c (.int .i64 6)]]
def a68s8 : ACode := .reg [] a68r7
def a68s9 : ACode := .seq a68s8 .ret
def a68s10 : ACode := .test [] a68r6 (.t 27) a68s9 .skip
def a68r11 : List AOper := [
 op (.t 29) .mv [.v 2],
 op (.t 30) .mv [.t 29],
 ⟨.t 31,.mv,[.v 0],none,some (.t 30,true)⟩,
 ⟨.t 32,.mv,[.v 6],none,some (.t 30,true)⟩,
 ⟨.t 33,.call 97,[.t 31,.t 32],none,some (.t 30,true)⟩,
 ⟨.t 34,.un .not,[.t 33],none,some (.t 30,true)⟩,
 op (.t 35) .pick [.t 30,.t 34,.c (.bool false)],
 op (.t 36) .mv [.t 35],
 ⟨.t 37,.mv,[.v 2],none,some (.t 36,false)⟩,
 ⟨.t 38,.un .not,[.t 37],none,some (.t 36,false)⟩,
 ⟨.t 39,.mv,[.t 38],none,some (.t 36,false)⟩,
 ⟨.t 40,.mv,[.v 7],none,some (.t 39,true)⟩,
 ⟨.t 41,.bin .eql,[.t 40,.c (.int .u8 5)],none,some (.t 39,true)⟩,
 ⟨.t 42,.pick,[.t 39,.t 41,.c (.bool false)],none,some (.t 36,false)⟩,
 op (.t 43) .pick [.t 36,.c (.bool true),.t 42],
 op (.t 44) .mv [.t 43],
 ⟨.t 45,.mv,[.v 6],none,some (.t 44,false)⟩,
 ⟨.t 46,.call 69,[.t 45],none,some (.t 44,false)⟩,
 op (.t 47) .pick [.t 44,.c (.bool true),.t 46]]
def a68r12 : List AOper := [
 op (.t 48) .mv [.v 6],
 op (.v 4) .mv [.t 48],
 op (.v 5) .mv [.c (.int .i64 8)]]
def a68s13 : ACode := .reg [] a68r12
def a68s14 : ACode := .seq a68s13 .ret
def a68s15 : ACode := .test [] a68r11 (.t 47) a68s14 .skip
def a68r16 : List AOper := [
 op (.t 49) (.fad 5) [.l 3],
 ⟨.t 50,.ldLc 3 false 1,[.t 49],some 3,none⟩,
 op (.t 51) .mv [.t 50],
 ⟨.t 52,.mv,[.v 0],none,some (.t 51,true)⟩,
 ⟨.t 53,.fad 2,[.l 3],none,some (.t 51,true)⟩,
 ⟨.t 54,.ldLc 3 true 3,[.t 53],some 3,some (.t 51,true)⟩,
 ⟨.t 55,.fad 6,[.l 3],none,some (.t 51,true)⟩,
 ⟨.t 56,.ldLc 3 true 5,[.t 55],some 3,some (.t 51,true)⟩,
 ⟨.t 57,.call 15,[.t 52,.t 54,.t 56,.c (.bool false)],none,some (.t 51,true)⟩,
 ⟨.t 58,.un .not,[.t 57],none,some (.t 51,true)⟩,
 op (.t 59) .pick [.t 51,.t 58,.c (.bool false)]]
def a68r17 : List AOper := [
 op (.t 60) (.fad 0) [.l 3],
 ⟨.t 61,.ldLc 3 false 1,[.t 60],some 3,none⟩,
 op (.v 4) .mv [.t 61],
 op (.v 5) .mv [.c (.int .i64 8)]]
def a68s18 : ACode := .reg [] a68r17
def a68s19 : ACode := .seq a68s18 .ret
def a68s20 : ACode := .test [] a68r16 (.t 59) a68s19 .skip
def a68r21 : List AOper := [
 op (.t 63) (.fad 1) [.l 3],
 ⟨.t 64,.ldLc 3 false 1,[.t 63],some 3,none⟩,
 op (.t 65) (.call 67) [.t 64],
 op (.t 66) (.call 66) [.t 65],
 op (.t 62) .mv [.t 66],
 op (.t 67) (.ext 0) [.t 62],
 op (.t 68) (.ext 1) [.t 62],
 op (.v 8) .mv [.t 67],
 op (.v 9) .mv [.t 68]]
def a68s22 : ACode := .reg [] a68r21
def a68r23 : List AOper := [
 op (.t 69) .mv [.v 9],
 op (.t 70) (.bin .neq) [.t 69,.c (.int .i64 0)]]
def a68r24 : List AOper := [
 op (.t 71) .mv [.v 8],
 op (.t 72) .mv [.v 9],
 op (.v 4) .mv [.t 71],
 op (.v 5) .mv [.t 72]]
def a68s25 : ACode := .reg [] a68r24
def a68s26 : ACode := .seq a68s25 .ret
def a68s27 : ACode := .test [] a68r23 (.t 70) a68s26 .skip
def a68r28 : List AOper := [
 op (.v 10) .mv [.c (.int .i64 0)]]
def a68s29 : ACode := .reg [] a68r28
def a68r30 : List AOper := [
 op (.t 73) .mv [.v 10],
 op (.t 74) (.fad 1) [.l 3],
 ⟨.t 75,.ldLc 3 false 1,[.t 74],some 3,none⟩,
 op (.t 76) .lenL [.t 75],
 op (.t 77) (.bin .lss) [.t 73,.t 76]]
def a68s31 : ACode := .test [] a68r30 (.t 77) .skip (.exit 0)
def a68r32 : List AOper := [
 op (.t 80) (.fad 1) [.l 3],
 ⟨.t 81,.ldLc 3 false 1,[.t 80],some 3,none⟩,
 op (.t 82) .mv [.v 10],
 op (.t 83) (.iad 11) [.t 81,.t 82],
 op (.t 84) (.ldRo true 11) [.t 83],
 ⟨.bx,.alloc [.str [],.list true [],.str [],.list true [],.bool false,.bool false,.int .u8 0,.int .i64 0,.str [],.list true [],.list true []],[],some 11,none⟩,
 ⟨.none,.stLc 11 11,[.l 11,.ts 84],some 11,none⟩]
def a68s33 : ACode := .reg [11] a68r32
def a68r34 : List AOper := [
 op (.t 85) .mv [.v 0],
 op (.t 86) (.fad 2) [.l 11],
 ⟨.t 87,.ldLc 11 true 3,[.t 86],some 11,none⟩,
 op (.t 88) (.call 71) [.t 87],
 op (.t 89) (.call 27) [.t 85,.t 88],
 op (.t 90) (.fld 0 1 false) [.t 89],
 op (.t 91) (.bin .eql) [.t 90,.c (.int .u8 5)]]
def a68r35 : List AOper := [
 op (.t 92) (.fad 5) [.l 11],
 ⟨.t 93,.ldLc 11 false 1,[.t 92],some 11,none⟩]
def a68r36 : List AOper := [
 op (.t 94) (.fad 0) [.l 11],
 ⟨.t 95,.ldLc 11 false 1,[.t 94],some 11,none⟩,
 op (.v 4) .mv [.t 95],
 op (.v 5) .mv [.c (.int .i64 8)]]
def a68s37 : ACode := .reg [] a68r36
def a68s38 : ACode := .seq a68s37 .ret
def a68s39 : ACode := .test [] a68r35 (.t 93) a68s38 .skip
def a68s40 : ACode := .seq a68s39 (.exit 1)
def a68s41 : ACode := .test [] a68r34 (.t 91) a68s40 .skip
def a68r42 : List AOper := [
 op (.t 97) .mv [.v 0],
 ⟨.t 98,.ldLc 11 true 11,[.l 11],some 11,none⟩,
 op (.t 99) (.call 68) [.t 97,.t 98,.c (.bool true)],
 op (.t 96) .mv [.t 99],
 op (.t 100) (.ext 0) [.t 96],
 op (.t 101) (.ext 1) [.t 96],
 op (.v 8) .mv [.t 100],
 op (.v 9) .mv [.t 101]]
def a68s43 : ACode := .reg [] a68r42
def a68r44 : List AOper := [
 op (.t 102) .mv [.v 9],
 op (.t 103) (.bin .neq) [.t 102,.c (.int .i64 0)]]
def a68r45 : List AOper := [
 op (.t 104) .mv [.v 8],
 op (.t 105) .mv [.v 9],
 op (.v 4) .mv [.t 104],
 op (.v 5) .mv [.t 105]]
def a68s46 : ACode := .reg [] a68r45
def a68s47 : ACode := .seq a68s46 .ret
def a68s48 : ACode := .test [] a68r44 (.t 103) a68s47 .skip
def a68s49 : ACode := .seq a68s43 a68s48
def a68s50 : ACode := .seq a68s41 a68s49
def a68s51 : ACode := .seq a68s33 a68s50
def a68s52 : ACode := .blk 1 a68s51
def a68r53 : List AOper := [
 op (.t 78) .mv [.v 10],
 op (.t 79) (.bin .add) [.t 78,.c (.int .i64 1)],
 op (.v 10) .mv [.t 79]]
def a68s54 : ACode := .reg [] a68r53
def a68s55 : ACode := .seq a68s52 a68s54
def a68s56 : ACode := .seq a68s31 a68s55
def a68s57 : ACode := .loop a68s56
def a68s58 : ACode := .blk 0 a68s57
def a68s59 : ACode := .seq a68s29 a68s58
def a68r60 : List AOper := [
 op (.v 4) .mv [.c (.str [])],
 op (.v 5) .mv [.c (.int .i64 0)]]
def a68s61 : ACode := .reg [] a68r60
def a68s62 : ACode := .seq a68s61 .ret
def a68s63 : ACode := .seq a68s59 a68s62
def a68s64 : ACode := .seq a68s27 a68s63
def a68s65 : ACode := .seq a68s22 a68s64
def a68s66 : ACode := .seq a68s20 a68s65
def a68s67 : ACode := .seq a68s15 a68s66
def a68s68 : ACode := .seq a68s10 a68s67
def a68s69 : ACode := .seq a68s5 a68s68
def a68s70 : ACode := .seq a68s3 a68s69
def a68s71 : ACode := .seq a68s1 a68s70
def a68c : ACode :=
  a68s71
def a68 : AFn := { np := 3,nv := 12,results := [.v 4,.v 5],code := a68c }
def a68v : List Nat := [0,1,2,4,6,7,8,9,10,11,12,13]
def a68b : List Nat := [3,11]

def a69r0 : List AOper := [
 op (.v 1) .mv [.c (.bool false)]]
def a69s1 : ACode := .reg [] a69r0
def a69r2 : List AOper := [
 op (.t 3) .mv [.v 0],
 op (.t 4) (.bin .eql) [.t 3,.c (.str [81,117,101,114,121])],
 op (.t 5) .mv [.t 4],
 ⟨.t 6,.mv,[.v 0],none,some (.t 5,false)⟩,
 ⟨.t 7,.bin .eql,[.t 6,.c (.str [77,117,116,97,116,105,111,110])],none,some (.t 5,false)⟩,
 op (.t 8) .pick [.t 5,.c (.bool true),.t 7],
 op (.v 1) .mv [.t 8]]
def a69s3 : ACode := .reg [] a69r2
def a69s4 : ACode := .seq a69s3 .ret
def a69s5 : ACode := .seq a69s1 a69s4
def a69c : ACode :=
  a69s5
def a69 : AFn := { np := 1,nv := 2,results := [.v 1],code := a69c }
def a69v : List Nat := [0,2]
def a69b : List Nat := []

def a70r0 : List AOper := [
 ⟨.bx,.boxV,[.v 0],some 2,none⟩,
 ⟨.bx,.boxV,[.v 1],some 3,none⟩,
 op (.v 4) .mv [.c (.bool false)]]
def a70s1 : ACode := .reg [2,3] a70r0
def a70r2 : List AOper := [
 op (.t 5) (.fad 0) [.l 2],
 ⟨.t 6,.ldLc 2 false 1,[.t 5],some 2,none⟩,
 op (.t 7) (.fad 0) [.l 3],
 ⟨.t 8,.ldLc 3 false 1,[.t 7],some 3,none⟩,
 op (.t 9) (.bin .neq) [.t 6,.t 8],
 op (.t 10) .mv [.t 9],
 ⟨.t 11,.fad 2,[.l 2],none,some (.t 10,false)⟩,
 ⟨.t 12,.ldLc 2 false 1,[.t 11],some 2,some (.t 10,false)⟩,
 ⟨.t 13,.fad 2,[.l 3],none,some (.t 10,false)⟩,
 ⟨.t 14,.ldLc 3 false 1,[.t 13],some 3,some (.t 10,false)⟩,
 ⟨.t 15,.binB .neq,[.t 12,.t 14],none,some (.t 10,false)⟩,
 op (.t 16) .pick [.t 10,.c (.bool true),.t 15],
 op (.t 17) .mv [.t 16],
 ⟨.t 18,.fad 1,[.l 2],none,some (.t 17,false)⟩,
 ⟨.t 19,.ldLc 2 false 1,[.t 18],some 2,some (.t 17,false)⟩,
 ⟨.t 20,.lenL,[.t 19],none,some (.t 17,false)⟩,
 ⟨.t 21,.fad 1,[.l 3],none,some (.t 17,false)⟩,
 ⟨.t 22,.ldLc 3 false 1,[.t 21],some 3,some (.t 17,false)⟩,
 ⟨.t 23,.lenL,[.t 22],none,some (.t 17,false)⟩,
 ⟨.t 24,.bin .neq,[.t 20,.t 23],none,some (.t 17,false)⟩,
 op (.t 25) .pick [.t 17,.c (.bool true),.t 24]]
def a70r3 : List AOper := [
 op (.v 4) .mv [.c (.bool false)]]
def a70s4 : ACode := .reg [] a70r3
def a70s5 : ACode := .seq a70s4 .ret
def a70s6 : ACode := .test [] a70r2 (.t 25) a70s5 .skip
def a70r7 : List AOper := [
 op (.t 26) (.fad 1) [.l 2],
 ⟨.t 27,.ldLc 2 false 1,[.t 26],some 2,none⟩,
 op (.t 28) .lenL [.t 27],
 op (.t 29) (.bin .eql) [.t 28,.c (.int .i64 0)],
 op (.t 30) .mv [.t 29],
 ⟨.t 31,.fad 1,[.l 2],none,some (.t 30,false)⟩,
 ⟨.t 32,.ldLc 2 false 1,[.t 31],some 2,some (.t 30,false)⟩,
 ⟨.t 33,.iad 3,[.t 32,.c (.int .i64 0)],none,some (.t 30,false)⟩,
 ⟨.t 34,.ldRo true 3,[.t 33],none,some (.t 30,false)⟩,
 ⟨.t 35,.fad 1,[.l 3],none,some (.t 30,false)⟩,
 ⟨.t 36,.ldLc 3 false 1,[.t 35],some 3,some (.t 30,false)⟩,
 ⟨.t 37,.iad 3,[.t 36,.c (.int .i64 0)],none,some (.t 30,false)⟩,
 ⟨.t 38,.ldRo true 3,[.t 37],none,some (.t 30,false)⟩,
 ⟨.t 39,.call 70,[.t 34,.t 38],none,some (.t 30,false)⟩,
 op (.t 40) .pick [.t 30,.c (.bool true),.t 39],
 op (.v 4) .mv [.t 40]]
def a70s8 : ACode := .reg [] a70r7
def a70s9 : ACode := .seq a70s8 .ret
def a70s10 : ACode := .seq a70s6 a70s9
def a70s11 : ACode := .seq a70s1 a70s10
def a70c : ACode :=
  a70s11
def a70 : AFn := { np := 2,nv := 5,results := [.v 4],code := a70c }
def a70v : List Nat := [0,1,2,3,4]
def a70b : List Nat := [2,3]

def a71r0 : List AOper := [
 ⟨.bx,.boxV,[.v 0],some 1,none⟩,
 op (.v 2) .mv [.c (.str [])]]
def a71s1 : ACode := .reg [1] a71r0
def a71r2 : List AOper := [
 op (.t 3) (.fad 1) [.l 1],
 ⟨.t 4,.ldLc 1 false 1,[.t 3],some 1,none⟩,
 op (.t 5) .lenL [.t 4],
 op (.t 6) (.bin .gtr) [.t 5,.c (.int .i64 0)]]
def a71r3 : List AOper := [
 op (.t 7) (.fad 1) [.l 1],
 ⟨.t 8,.ldLc 1 false 1,[.t 7],some 1,none⟩,
 op (.t 9) (.iad 3) [.t 8,.c (.int .i64 0)],
 op (.t 10) (.ldRo true 3) [.t 9],
 op (.t 11) (.call 71) [.t 10],
 op (.v 2) .mv [.t 11]]
def a71s4 : ACode := .reg [] a71r3
def a71s5 : ACode := .seq a71s4 .ret
def a71s6 : ACode := .test [] a71r2 (.t 6) a71s5 .skip
def a71r7 : List AOper := [
 op (.t 12) (.fad 0) [.l 1],
 ⟨.t 13,.ldLc 1 false 1,[.t 12],some 1,none⟩,
 op (.v 2) .mv [.t 13]]
def a71s8 : ACode := .reg [] a71r7
def a71s9 : ACode := .seq a71s8 .ret
def a71s10 : ACode := .seq a71s6 a71s9
def a71s11 : ACode := .seq a71s1 a71s10
def a71c : ACode :=
  a71s11
def a71 : AFn := { np := 1,nv := 3,results := [.v 2],code := a71c }
def a71v : List Nat := [0,1,2]
def a71b : List Nat := [1]

def a72r0 : List AOper := [
 op (.v 2) .mv [.c (.bool false)]]
def a72s1 : ACode := .reg [] a72r0
def a72r2 : List AOper := [
 op (.t 6) .mv [.v 0],
 op (.t 7) .mv [.v 1],
 op (.t 8) (.call 27) [.t 6,.t 7],
 op (.t 9) (.fld 0 1 false) [.t 8],
 op (.v 3) .mv [.t 9]]
def a72s3 : ACode := .reg [] a72r2
def a72r4 : List AOper := [
 op (.t 10) .mv [.v 1],
 op (.t 11) (.call 69) [.t 10],
 op (.t 12) (.un .not) [.t 11],
 op (.t 13) .mv [.t 12],
 ⟨.t 14,.mv,[.v 3],none,some (.t 13,true)⟩,
 ⟨.t 15,.bin .eql,[.t 14,.c (.int .u8 1)],none,some (.t 13,true)⟩,
 ⟨.t 16,.mv,[.t 15],none,some (.t 13,true)⟩,
 ⟨.t 17,.mv,[.v 3],none,some (.t 16,false)⟩,
 ⟨.t 18,.bin .eql,[.t 17,.c (.int .u8 2)],none,some (.t 16,false)⟩,
 ⟨.t 19,.pick,[.t 16,.c (.bool true),.t 18],none,some (.t 13,true)⟩,
 ⟨.t 20,.mv,[.t 19],none,some (.t 13,true)⟩,
 ⟨.t 21,.mv,[.v 3],none,some (.t 20,false)⟩,
 ⟨.t 22,.bin .eql,[.t 21,.c (.int .u8 3)],none,some (.t 20,false)⟩,
 ⟨.t 23,.pick,[.t 20,.c (.bool true),.t 22],none,some (.t 13,true)⟩,
 op (.t 24) .pick [.t 13,.t 23,.c (.bool false)],
 op (.v 2) .mv [.t 24]]
def a72s5 : ACode := .reg [] a72r4
def a72s6 : ACode := .seq a72s5 .ret
def a72s7 : ACode := .seq a72s3 a72s6
def a72s8 : ACode := .seq a72s1 a72s7
def a72c : ACode :=
  a72s8
def a72 : AFn := { np := 2,nv := 4,results := [.v 2],code := a72c }
def a72v : List Nat := [0,1,4,5]
def a72b : List Nat := []

def a73r0 : List AOper := [
 ⟨.bx,.boxV,[.v 0],some 1,none⟩,
 op (.v 2) .mv [.c (.bool false)]]
def a73s1 : ACode := .reg [1] a73r0
def a73r2 : List AOper := [
 op (.t 3) (.fad 0) [.l 1],
 ⟨.t 4,.ldLc 1 false 1,[.t 3],some 1,none⟩,
 op (.t 5) (.bin .eql) [.t 4,.c (.str [105,100])],
 op (.t 6) .mv [.t 5],
 ⟨.t 7,.fad 2,[.l 1],none,some (.t 6,true)⟩,
 ⟨.t 8,.fad 0,[.t 7],none,some (.t 6,true)⟩,
 ⟨.t 9,.ldLc 1 false 1,[.t 8],some 1,some (.t 6,true)⟩,
 ⟨.t 10,.bin .eql,[.t 9,.c (.str [73,68])],none,some (.t 6,true)⟩,
 op (.t 11) .pick [.t 6,.t 10,.c (.bool false)],
 op (.t 12) .mv [.t 11],
 ⟨.t 13,.fad 2,[.l 1],none,some (.t 12,true)⟩,
 ⟨.t 14,.fad 2,[.t 13],none,some (.t 12,true)⟩,
 ⟨.t 15,.ldLc 1 false 1,[.t 14],some 1,some (.t 12,true)⟩,
 op (.t 16) .pick [.t 12,.t 15,.c (.bool false)],
 op (.t 17) .mv [.t 16],
 ⟨.t 18,.fad 2,[.l 1],none,some (.t 17,true)⟩,
 ⟨.t 19,.fad 1,[.t 18],none,some (.t 17,true)⟩,
 ⟨.t 20,.ldLc 1 false 1,[.t 19],some 1,some (.t 17,true)⟩,
 ⟨.t 21,.lenL,[.t 20],none,some (.t 17,true)⟩,
 ⟨.t 22,.bin .eql,[.t 21,.c (.int .i64 0)],none,some (.t 17,true)⟩,
 op (.t 23) .pick [.t 17,.t 22,.c (.bool false)],
 op (.t 24) .mv [.t 23],
 ⟨.t 25,.fad 5,[.l 1],none,some (.t 24,true)⟩,
 ⟨.t 26,.ldLc 1 false 1,[.t 25],some 1,some (.t 24,true)⟩,
 ⟨.t 27,.un .not,[.t 26],none,some (.t 24,true)⟩,
 op (.t 28) .pick [.t 24,.t 27,.c (.bool false)],
 op (.v 2) .mv [.t 28]]
def a73s3 : ACode := .reg [] a73r2
def a73s4 : ACode := .seq a73s3 .ret
def a73s5 : ACode := .seq a73s1 a73s4
def a73c : ACode :=
  a73s5
def a73 : AFn := { np := 1,nv := 3,results := [.v 2],code := a73c }
def a73v : List Nat := [0,1,2]
def a73b : List Nat := [1]

def a74r0 : List AOper := [
 ⟨.bx,.boxV,[.v 1],some 2,none⟩,
 op (.v 3) .mv [.c (.bool false)]]
def a74s1 : ACode := .reg [2] a74r0
def a74r2 : List AOper := [
 op (.t 12) (.fad 0) [.l 2],
 ⟨.t 13,.ldLc 2 false 1,[.t 12],some 2,none⟩,
 op (.t 14) (.call 98) [.t 13],
 op (.t 11) .mv [.t 14],
 op (.t 15) (.ext 0) [.t 11],
 op (.t 16) (.ext 1) [.t 11],
 op (.v 4) .mv [.t 15],
 op (.v 5) .mv [.t 16]]
def a74s3 : ACode := .reg [] a74r2
def a74r4 : List AOper := [
 op (.t 17) .mv [.v 0],
 op (.t 18) .mv [.v 5],
 op (.t 19) (.call 27) [.t 17,.t 18],
 ⟨.bx,.alloc [.int .u8 0,.str [],.list true [],.list true []],[],some 6,none⟩,
 ⟨.none,.stLc 6 4,[.l 6,.ts 19],some 6,none⟩]
def a74s5 : ACode := .reg [6] a74r4
def a74r6 : List AOper := [
 op (.t 20) .mv [.v 4],
 op (.t 21) (.bin .eql) [.t 20,.c (.str [])],
 op (.t 22) .mv [.t 21],
 ⟨.t 23,.fad 0,[.l 6],none,some (.t 22,false)⟩,
 ⟨.t 24,.ldLc 6 false 1,[.t 23],some 6,some (.t 22,false)⟩,
 ⟨.t 25,.bin .neq,[.t 24,.c (.int .u8 1)],none,some (.t 22,false)⟩,
 op (.t 26) .pick [.t 22,.c (.bool true),.t 25],
 op (.t 27) .mv [.t 26],
 ⟨.t 28,.mv,[.v 5],none,some (.t 27,false)⟩,
 ⟨.t 29,.call 69,[.t 28],none,some (.t 27,false)⟩,
 op (.t 30) .pick [.t 27,.c (.bool true),.t 29],
 op (.t 31) .mv [.t 30],
 ⟨.t 32,.fad 2,[.l 2],none,some (.t 31,false)⟩,
 ⟨.t 33,.fad 1,[.t 32],none,some (.t 31,false)⟩,
 ⟨.t 34,.ldLc 2 false 1,[.t 33],some 2,some (.t 31,false)⟩,
 ⟨.t 35,.lenL,[.t 34],none,some (.t 31,false)⟩,
 ⟨.t 36,.bin .gtr,[.t 35,.c (.int .i64 0)],none,some (.t 31,false)⟩,
 op (.t 37) .pick [.t 31,.c (.bool true),.t 36],
 op (.t 38) .mv [.t 37],
 ⟨.t 39,.fad 2,[.l 2],none,some (.t 38,false)⟩,
 ⟨.t 40,.fad 2,[.t 39],none,some (.t 38,false)⟩,
 ⟨.t 41,.ldLc 2 false 1,[.t 40],some 2,some (.t 38,false)⟩,
 op (.t 42) .pick [.t 38,.c (.bool true),.t 41],
 op (.t 43) .mv [.t 42],
 ⟨.t 44,.fad 2,[.l 2],none,some (.t 43,false)⟩,
 ⟨.t 45,.fad 0,[.t 44],none,some (.t 43,false)⟩,
 ⟨.t 46,.ldLc 2 false 1,[.t 45],some 2,some (.t 43,false)⟩,
 ⟨.t 47,.mv,[.v 5],none,some (.t 43,false)⟩,
 ⟨.t 48,.bin .neq,[.t 46,.t 47],none,some (.t 43,false)⟩,
 op (.t 49) .pick [.t 43,.c (.bool true),.t 48],
 op (.t 50) .mv [.t 49],
 ⟨.t 51,.fad 1,[.l 2],none,some (.t 50,false)⟩,
 ⟨.t 52,.ldLc 2 false 1,[.t 51],some 2,some (.t 50,false)⟩,
 ⟨.t 53,.lenL,[.t 52],none,some (.t 50,false)⟩,
 ⟨.t 54,.bin .eql,[.t 53,.c (.int .i64 0)],none,some (.t 50,false)⟩,
 op (.t 55) .pick [.t 50,.c (.bool true),.t 54],
 op (.t 56) .mv [.t 55],
 ⟨.t 57,.fad 1,[.l 2],none,some (.t 56,false)⟩,
 ⟨.t 58,.ldLc 2 false 1,[.t 57],some 2,some (.t 56,false)⟩,
 ⟨.t 59,.iad 11,[.t 58,.c (.int .i64 0)],none,some (.t 56,false)⟩,
 ⟨.t 60,.ldRo true 11,[.t 59],none,some (.t 56,false)⟩,
 ⟨.t 61,.call 73,[.t 60],none,some (.t 56,false)⟩,
 ⟨.t 62,.un .not,[.t 61],none,some (.t 56,false)⟩,
 op (.t 63) .pick [.t 56,.c (.bool true),.t 62]]
def a74r7 : List AOper := [
 op (.v 3) .mv [.c (.bool false)]]
def a74s8 : ACode := .reg [] a74r7
def a74s9 : ACode := .seq a74s8 .ret
def a74s10 : ACode := .test [] a74r6 (.t 63) a74s9 .skip
def a74r11 : List AOper := [
 op (.t 64) .mv [.v 4],
 op (.t 65) (.bin .eql) [.t 64,.c (.str [100,101,108,101,116,101])]]
def a74r12 : List AOper := [
 op (.t 66) (.fad 1) [.l 2],
 ⟨.t 67,.ldLc 2 false 1,[.t 66],some 2,none⟩,
 op (.t 68) .lenL [.t 67],
 op (.t 69) (.bin .eql) [.t 68,.c (.int .i64 1)],
 op (.v 3) .mv [.t 69]]
def a74s13 : ACode := .reg [] a74r12
def a74s14 : ACode := .seq a74s13 .ret
def a74s15 : ACode := .test [] a74r11 (.t 65) a74s14 .skip
def a74r16 : List AOper := [
 op (.t 70) (.fad 1) [.l 2],
 ⟨.t 71,.ldLc 2 false 1,[.t 70],some 2,none⟩,
 op (.t 72) .lenL [.t 71],
 op (.t 73) (.bin .neq) [.t 72,.c (.int .i64 2)],
 op (.t 74) .mv [.t 73],
 ⟨.t 75,.fad 1,[.l 2],none,some (.t 74,false)⟩,
 ⟨.t 76,.ldLc 2 false 1,[.t 75],some 2,some (.t 74,false)⟩,
 ⟨.t 77,.iad 11,[.t 76,.c (.int .i64 1)],none,some (.t 74,false)⟩,
 ⟨.t 78,.fad 0,[.t 77],none,some (.t 74,false)⟩,
 ⟨.t 79,.ldRo false 1,[.t 78],none,some (.t 74,false)⟩,
 ⟨.t 80,.bin .neq,[.t 79,.c (.str [105,110,112,117,116])],none,some (.t 74,false)⟩,
 op (.t 81) .pick [.t 74,.c (.bool true),.t 80],
 op (.t 82) .mv [.t 81],
 ⟨.t 83,.fad 1,[.l 2],none,some (.t 82,false)⟩,
 ⟨.t 84,.ldLc 2 false 1,[.t 83],some 2,some (.t 82,false)⟩,
 ⟨.t 85,.iad 11,[.t 84,.c (.int .i64 1)],none,some (.t 82,false)⟩,
 ⟨.t 86,.fad 2,[.t 85],none,some (.t 82,false)⟩,
 ⟨.t 87,.fad 2,[.t 86],none,some (.t 82,false)⟩,
 ⟨.t 88,.ldRo false 1,[.t 87],none,some (.t 82,false)⟩,
 ⟨.t 89,.un .not,[.t 88],none,some (.t 82,false)⟩,
 op (.t 90) .pick [.t 82,.c (.bool true),.t 89],
 op (.t 91) .mv [.t 90],
 ⟨.t 92,.fad 1,[.l 2],none,some (.t 91,false)⟩,
 ⟨.t 93,.ldLc 2 false 1,[.t 92],some 2,some (.t 91,false)⟩,
 ⟨.t 94,.iad 11,[.t 93,.c (.int .i64 1)],none,some (.t 91,false)⟩,
 ⟨.t 95,.fad 2,[.t 94],none,some (.t 91,false)⟩,
 ⟨.t 96,.fad 1,[.t 95],none,some (.t 91,false)⟩,
 ⟨.t 97,.ldRo false 1,[.t 96],none,some (.t 91,false)⟩,
 ⟨.t 98,.lenL,[.t 97],none,some (.t 91,false)⟩,
 ⟨.t 99,.bin .gtr,[.t 98,.c (.int .i64 0)],none,some (.t 91,false)⟩,
 op (.t 100) .pick [.t 91,.c (.bool true),.t 99]]
def a74r17 : List AOper := [
 op (.v 3) .mv [.c (.bool false)]]
def a74s18 : ACode := .reg [] a74r17
def a74s19 : ACode := .seq a74s18 .ret
def a74s20 : ACode := .test [] a74r16 (.t 100) a74s19 .skip
def a74r21 : List AOper := [
 op (.t 101) .mv [.v 0],
 op (.t 102) (.fad 1) [.l 2],
 ⟨.t 103,.ldLc 2 false 1,[.t 102],some 2,none⟩,
 op (.t 104) (.iad 11) [.t 103,.c (.int .i64 1)],
 op (.t 105) (.fad 2) [.t 104],
 op (.t 106) (.fad 0) [.t 105],
 op (.t 107) (.ldRo false 1) [.t 106],
 op (.t 108) (.call 27) [.t 101,.t 107],
 ⟨.bx,.alloc [.int .u8 0,.str [],.list true [],.list true []],[],some 7,none⟩,
 ⟨.none,.stLc 7 4,[.l 7,.ts 108],some 7,none⟩]
def a74s22 : ACode := .reg [7] a74r21
def a74r23 : List AOper := [
 op (.t 109) (.fad 0) [.l 7],
 ⟨.t 110,.ldLc 7 false 1,[.t 109],some 7,none⟩,
 op (.t 111) (.bin .neq) [.t 110,.c (.int .u8 5)]]
def a74r24 : List AOper := [
 op (.v 3) .mv [.c (.bool false)]]
def a74s25 : ACode := .reg [] a74r24
def a74s26 : ACode := .seq a74s25 .ret
def a74s27 : ACode := .test [] a74r23 (.t 111) a74s26 .skip
def a74r28 : List AOper := [
 op (.v 8) .mv [.c (.int .i64 0)]]
def a74s29 : ACode := .reg [] a74r28
def a74r30 : List AOper := [
 op (.t 112) .mv [.v 8],
 op (.t 113) (.fad 2) [.l 7],
 ⟨.t 114,.ldLc 7 false 1,[.t 113],some 7,none⟩,
 op (.t 115) .lenL [.t 114],
 op (.t 116) (.bin .lss) [.t 112,.t 115]]
def a74s31 : ACode := .test [] a74r30 (.t 116) .skip (.exit 0)
def a74r32 : List AOper := [
 op (.t 119) (.fad 2) [.l 6],
 ⟨.t 120,.ldLc 6 false 1,[.t 119],some 6,none⟩,
 op (.t 121) (.fad 2) [.l 7],
 ⟨.t 122,.ldLc 7 false 1,[.t 121],some 7,none⟩,
 op (.t 123) .mv [.v 8],
 op (.t 124) (.iad 11) [.t 122,.t 123],
 op (.t 125) (.fad 0) [.t 124],
 op (.t 126) (.ldRo false 1) [.t 125],
 op (.t 127) (.call 29) [.t 120,.t 126],
 op (.v 9) .mv [.t 127]]
def a74s33 : ACode := .reg [] a74r32
def a74r34 : List AOper := [
 op (.t 128) .mv [.v 9],
 op (.t 129) (.bin .lss) [.t 128,.c (.int .i64 0)],
 op (.t 130) .mv [.t 129],
 ⟨.t 131,.mv,[.v 0],none,some (.t 130,false)⟩,
 ⟨.t 132,.fad 2,[.l 6],none,some (.t 130,false)⟩,
 ⟨.t 133,.ldLc 6 false 1,[.t 132],some 6,some (.t 130,false)⟩,
 ⟨.t 134,.mv,[.v 9],none,some (.t 130,false)⟩,
 ⟨.t 135,.iad 11,[.t 133,.t 134],none,some (.t 130,false)⟩,
 ⟨.t 136,.fad 2,[.t 135],none,some (.t 130,false)⟩,
 ⟨.t 137,.ldRo true 3,[.t 136],none,some (.t 130,false)⟩,
 ⟨.t 138,.fad 2,[.l 7],none,some (.t 130,false)⟩,
 ⟨.t 139,.ldLc 7 false 1,[.t 138],some 7,some (.t 130,false)⟩,
 ⟨.t 140,.mv,[.v 8],none,some (.t 130,false)⟩,
 ⟨.t 141,.iad 11,[.t 139,.t 140],none,some (.t 130,false)⟩,
 ⟨.t 142,.fad 2,[.t 141],none,some (.t 130,false)⟩,
 ⟨.t 143,.ldRo true 3,[.t 142],none,some (.t 130,false)⟩,
 ⟨.t 144,.call 99,[.t 131,.t 137,.t 143],none,some (.t 130,false)⟩,
 ⟨.t 145,.un .not,[.t 144],none,some (.t 130,false)⟩,
 op (.t 146) .pick [.t 130,.c (.bool true),.t 145]]
def a74r35 : List AOper := [
 op (.v 3) .mv [.c (.bool false)]]
def a74s36 : ACode := .reg [] a74r35
def a74s37 : ACode := .seq a74s36 .ret
def a74s38 : ACode := .test [] a74r34 (.t 146) a74s37 .skip
def a74s39 : ACode := .seq a74s33 a74s38
def a74s40 : ACode := .blk 1 a74s39
def a74r41 : List AOper := [
 op (.t 117) .mv [.v 8],
 op (.t 118) (.bin .add) [.t 117,.c (.int .i64 1)],
 op (.v 8) .mv [.t 118]]
def a74s42 : ACode := .reg [] a74r41
def a74s43 : ACode := .seq a74s40 a74s42
def a74s44 : ACode := .seq a74s31 a74s43
def a74s45 : ACode := .loop a74s44
def a74s46 : ACode := .blk 0 a74s45
def a74s47 : ACode := .seq a74s29 a74s46
def a74r48 : List AOper := [
 op (.v 3) .mv [.c (.bool true)]]
def a74s49 : ACode := .reg [] a74r48
def a74s50 : ACode := .seq a74s49 .ret
def a74s51 : ACode := .seq a74s47 a74s50
def a74s52 : ACode := .seq a74s27 a74s51
def a74s53 : ACode := .seq a74s22 a74s52
def a74s54 : ACode := .seq a74s20 a74s53
def a74s55 : ACode := .seq a74s15 a74s54
def a74s56 : ACode := .seq a74s10 a74s55
def a74s57 : ACode := .seq a74s5 a74s56
def a74s58 : ACode := .seq a74s3 a74s57
def a74s59 : ACode := .seq a74s1 a74s58
def a74c : ACode :=
  a74s59
def a74 : AFn := { np := 2,nv := 10,results := [.v 3],code := a74c }
def a74v : List Nat := [0,1,3,4,5,6,7,8,9,10]
def a74b : List Nat := [2,6,7]

def a75 : AFn := { np := 2,nv := 0,results := [],code := .skip,ext := some fmtX }
def a76r0 : List AOper := [
 ⟨.bx,.boxV,[.v 0],some 3,none⟩,
 ⟨.bx,.boxV,[.v 2],some 4,none⟩,
 ⟨.bx,.alloc [.int .u8 0,.int .i64 0,.str [],.list true [],.list true []],[],some 5,none⟩,
 op (.v 6) .mv [.c (.str [])],
 op (.v 7) .mv [.c (.int .i64 0)]]
def a76s1 : ACode := .reg [3,4,5] a76r0
def a76r2 : List AOper := [
 op (.t 17) (.fad 3) [.l 4],
 ⟨.v 15,.ldLc 4 false 1,[.t 17],some 4,none⟩,
 op (.v 16) .lenL [.v 15],
 op (.v 17) .mv [.c (.int .i64 0)]]
def a76s3 : ACode := .reg [] a76r2
def a76r4 : List AOper := [
 op (.t 21) (.bin .lss) [.v 17,.v 16]]
def a76s5 : ACode := .test [] a76r4 (.t 21) .skip (.exit 0)
def a76r6 : List AOper := [
 op (.t 22) .mv [.v 17],
 op (.t 23) (.iad 1) [.v 15,.v 17],
 op (.t 24) (.ldRo false 1) [.t 23],
 op (.v 9) (.allocO [.str []]) [],
 op (.v 8) .mv [.t 22],
 op .none (.stSt 1) [.v 9,.t 24]]
def a76s7 : ACode := .reg [] a76r6
def a76r8 : List AOper := [
 op (.t 26) (.fad 3) [.l 4],
 ⟨.t 27,.ldLc 4 false 1,[.t 26],some 4,none⟩,
 op (.t 28) .mv [.v 8],
 op (.t 29) (.slL 1 false true) [.t 27,.t 28],
 op (.t 30) (.ldSt false 1) [.v 9],
 op (.t 31) (.call 37) [.t 29,.t 30],
 op (.t 25) .mv [.t 31]]
def a76r9 : List AOper := [
 op (.t 32) (.build [.int .u8 0,.int .i64 0,.str [],.list true [],.list true []] []) [],
 op (.t 33) (.ldSt false 1) [.v 9],
 ⟨.none,.stLc 5 5,[.l 5,.ts 32],some 5,none⟩,
 op (.v 6) .mv [.t 33],
 op (.v 7) .mv [.c (.int .i64 7)]]
def a76s10 : ACode := .reg [] a76r9
def a76s11 : ACode := .seq a76s10 .ret
def a76r12 : List AOper := [
 op (.t 35) .mv [.v 1],
 op (.t 36) (.mkF 101 0) [.v 9],
 op (.t 37) (.call 89) [.t 35,.t 36],
 op (.t 38) (.un .not) [.t 37],
 op (.t 34) .mv [.t 38]]
def a76r13 : List AOper := [
 op (.t 39) (.build [.int .u8 0,.int .i64 0,.str [],.list true [],.list true []] []) [],
 op (.t 40) (.ldSt false 1) [.v 9],
 ⟨.none,.stLc 5 5,[.l 5,.ts 39],some 5,none⟩,
 op (.v 6) .mv [.t 40],
 op (.v 7) .mv [.c (.int .i64 6)]]
def a76s14 : ACode := .reg [] a76r13
def a76s15 : ACode := .seq a76s14 .ret
def a76s16 : ACode := .test [] a76r12 (.t 34) a76s15 .skip
def a76s17 : ACode := .test [] a76r8 (.t 25) a76s11 a76s16
def a76s18 : ACode := .blk 2 a76s17
def a76s19 : ACode := .seq a76s7 a76s18
def a76s20 : ACode := .blk 1 a76s19
def a76r21 : List AOper := [
 op (.t 41) (.bin .add) [.v 17,.c (.int .i64 1)],
 op (.v 17) .mv [.t 41]]
def a76s22 : ACode := .reg [] a76r21
def a76s23 : ACode := .seq a76s20 a76s22
def a76s24 : ACode := .seq a76s5 a76s23
def a76s25 : ACode := .loop a76s24
def a76s26 : ACode := .blk 0 a76s25
def a76s27 : ACode := .seq a76s3 a76s26
def a76r28 : List AOper := [
 op (.t 42) (.build [.int .u8 0,.int .i64 0,.str [],.list true [],.list true []] [(0,1)]) [.c (.int .u8 6)],
 op (.v 10) (.allocO [.int .u8 0,.int .i64 0,.str [],.list true [],.list true []]) [],
 op .none (.stSt 5) [.v 10,.ts 42]]
def a76s29 : ACode := .reg [] a76r28
def a76r30 : List AOper := [
 op (.v 18) .mv [.v 1],
 op (.v 19) .lenL [.v 18],
 op (.v 20) .mv [.c (.int .i64 0)]]
def a76s31 : ACode := .reg [] a76r30
def a76r32 : List AOper := [
 op (.t 46) (.bin .lss) [.v 20,.v 19]]
def a76s33 : ACode := .test [] a76r32 (.t 46) .skip (.exit 3)
def a76r34 : List AOper := [
 op (.t 47) (.iad 11) [.v 18,.v 20],
 op (.t 48) (.ldRo true 11) [.t 47],
 ⟨.bx,.alloc [.str [],.list true [],.str [],.list true [],.bool false,.bool false,.int .u8 0,.int .i64 0,.str [],.list true [],.list true []],[],some 11,none⟩,
 ⟨.none,.stLc 11 11,[.l 11,.ts 48],some 11,none⟩]
def a76s35 : ACode := .reg [11] a76r34
def a76r36 : List AOper := [
 ⟨.t 50,.ldLc 4 true 5,[.l 4],some 4,none⟩,
 op (.t 51) (.fad 0) [.l 11],
 ⟨.t 52,.ldLc 11 false 1,[.t 51],some 11,none⟩,
 op (.t 53) (.call 16) [.t 50,.t 52],
 op (.t 49) .mv [.t 53],
 op (.t 54) (.ext 0) [.t 49],
 op (.t 55) (.ext 1) [.t 49],
 ⟨.bx,.alloc [.int .u8 0,.int .i64 0,.str [],.list true [],.list true []],[],some 12,none⟩,
 ⟨.none,.stLc 12 5,[.l 12,.ts 54],some 12,none⟩,
 op (.v 13) .mv [.t 55]]
def a76s37 : ACode := .reg [12] a76r36
def a76r38 : List AOper := [
 op (.v 14) .mv [.c (.int .i64 0)]]
def a76s39 : ACode := .reg [] a76r38
def a76r40 : List AOper := [
 op (.t 56) .mv [.v 13]]
def a76r41 : List AOper := [
 ⟨.t 58,.ldLc 3 true 7,[.l 3],some 3,none⟩,
 op (.t 59) (.fad 2) [.l 11],
 ⟨.t 60,.ldLc 11 true 3,[.t 59],some 11,none⟩,
 ⟨.t 61,.ldLc 12 true 5,[.l 12],some 12,none⟩,
 op (.t 62) (.call 26) [.t 58,.t 60,.t 61],
 op (.t 57) .mv [.t 62],
 op (.t 63) (.ext 0) [.t 57],
 op (.t 64) (.ext 1) [.t 57],
 op (.t 65) (.ext 2) [.t 57],
 ⟨.none,.stLc 12 5,[.l 12,.ts 63],some 12,none⟩,
 op (.v 13) .mv [.t 64],
 op (.v 14) .mv [.t 65]]
def a76s42 : ACode := .reg [] a76r41
def a76s43 : ACode := .test [] a76r40 (.t 56) a76s42 .skip
def a76r44 : List AOper := [
 op (.t 66) .mv [.v 14],
 op (.t 67) (.bin .eql) [.t 66,.c (.int .i64 0)],
 op (.t 68) .mv [.t 67],
 ⟨.t 69,.mv,[.v 13],none,some (.t 68,true)⟩,
 ⟨.t 70,.un .not,[.t 69],none,some (.t 68,true)⟩,
 op (.t 71) .pick [.t 68,.t 70,.c (.bool false)],
 op (.t 72) .mv [.t 71],
 ⟨.t 73,.fad 5,[.l 11],none,some (.t 72,true)⟩,
 ⟨.t 74,.ldLc 11 false 1,[.t 73],some 11,some (.t 72,true)⟩,
 op (.t 75) .pick [.t 72,.t 74,.c (.bool false)]]
def a76r45 : List AOper := [
 op (.t 77) (.fad 0) [.l 3],
 ⟨.t 78,.ldLc 3 false 1,[.t 77],some 3,none⟩,
 op (.t 79) (.build [.nilp,.int .u8 0,.int .i64 0,.str [],.list true [],.list true [],.bool false] [(0,1)]) [.t 78],
 op (.t 80) (.fad 2) [.l 11],
 ⟨.t 81,.ldLc 11 true 3,[.t 80],some 11,none⟩,
 op (.t 82) (.fad 6) [.l 11],
 ⟨.t 83,.ldLc 11 true 5,[.t 82],some 11,none⟩,
 op (.t 84) (.call 26) [.t 79,.t 81,.t 83],
 op (.t 76) .mv [.t 84],
 op (.t 85) (.ext 0) [.t 76],
 op (.t 86) (.ext 1) [.t 76],
 op (.t 87) (.ext 2) [.t 76],
 ⟨.none,.stLc 12 5,[.l 12,.ts 85],some 12,none⟩,
 op (.v 13) .mv [.t 86],
 op (.v 14) .mv [.t 87]]
def a76s46 : ACode := .reg [] a76r45
def a76s47 : ACode := .test [] a76r44 (.t 75) a76s46 .skip
def a76r48 : List AOper := [
 op (.t 89) .mv [.v 14],
 op (.t 90) (.bin .neq) [.t 89,.c (.int .i64 0)],
 op (.t 88) .mv [.t 90]]
def a76r49 : List AOper := [
 op (.t 91) (.build [.int .u8 0,.int .i64 0,.str [],.list true [],.list true []] []) [],
 op (.t 92) (.fad 0) [.l 11],
 ⟨.t 93,.ldLc 11 false 1,[.t 92],some 11,none⟩,
 op (.t 94) .mv [.v 14],
 ⟨.none,.stLc 5 5,[.l 5,.ts 91],some 5,none⟩,
 op (.v 6) .mv [.t 93],
 op (.v 7) .mv [.t 94]]
def a76s50 : ACode := .reg [] a76r49
def a76s51 : ACode := .seq a76s50 .ret
def a76r52 : List AOper := [
 op (.t 96) .mv [.v 13],
 op (.t 95) .mv [.t 96]]
def a76r53 : List AOper := [
 op (.t 97) (.fad 0) [.l 11],
 ⟨.t 98,.ldLc 11 false 1,[.t 97],some 11,none⟩,
 ⟨.t 99,.ldLc 12 true 5,[.l 12],some 12,none⟩,
 op (.t 100) (.call 31) [.v 10,.t 98,.t 99]]
def a76s54 : ACode := .reg [] a76r53
def a76r55 : List AOper := [
 op (.t 102) (.fad 2) [.l 11],
 op (.t 103) (.fad 2) [.t 102],
 ⟨.t 104,.ldLc 11 false 1,[.t 103],some 11,none⟩,
 op (.t 101) .mv [.t 104]]
def a76r56 : List AOper := [
 op (.t 105) (.build [.int .u8 0,.int .i64 0,.str [],.list true [],.list true []] []) [],
 op (.t 106) (.fad 0) [.l 11],
 ⟨.t 107,.ldLc 11 false 1,[.t 106],some 11,none⟩,
 ⟨.none,.stLc 5 5,[.l 5,.ts 105],some 5,none⟩,
 op (.v 6) .mv [.t 107],
 op (.v 7) .mv [.c (.int .i64 9)]]
def a76s57 : ACode := .reg [] a76r56
def a76s58 : ACode := .seq a76s57 .ret
def a76s59 : ACode := .test [] a76r55 (.t 101) a76s58 .skip
def a76s60 : ACode := .test [] a76r52 (.t 95) a76s54 a76s59
def a76s61 : ACode := .test [] a76r48 (.t 88) a76s51 a76s60
def a76s62 : ACode := .blk 5 a76s61
def a76s63 : ACode := .seq a76s47 a76s62
def a76s64 : ACode := .seq a76s43 a76s63
def a76s65 : ACode := .seq a76s39 a76s64
def a76s66 : ACode := .seq a76s37 a76s65
def a76s67 : ACode := .seq a76s35 a76s66
def a76s68 : ACode := .blk 4 a76s67
def a76r69 : List AOper := [
 op (.t 108) (.bin .add) [.v 20,.c (.int .i64 1)],
 op (.v 20) .mv [.t 108]]
def a76s70 : ACode := .reg [] a76r69
def a76s71 : ACode := .seq a76s68 a76s70
def a76s72 : ACode := .seq a76s33 a76s71
def a76s73 : ACode := .loop a76s72
def a76s74 : ACode := .blk 3 a76s73
def a76s75 : ACode := .seq a76s31 a76s74
def a76r76 : List AOper := [
 op (.t 109) (.ldSt true 5) [.v 10],
 ⟨.none,.stLc 5 5,[.l 5,.ts 109],some 5,none⟩,
 op (.v 6) .mv [.c (.str [])],
 op (.v 7) .mv [.c (.int .i64 0)]]
def a76s77 : ACode := .reg [] a76r76
def a76s78 : ACode := .seq a76s77 .ret
def a76s79 : ACode := .seq a76s75 a76s78
def a76s80 : ACode := .seq a76s29 a76s79
def a76s81 : ACode := .seq a76s27 a76s80
def a76s82 : ACode := .seq a76s1 a76s81
def a76c : ACode :=
  a76s82
def a76 : AFn := { np := 3,nv := 21,results := [.bx 5 true 5,.v 6,.v 7],code := a76c }
def a76v : List Nat := [0,1,2,3,5,6,7,8,9,10,11,13,14,15,16,18,19,20,43,44,45]
def a76b : List Nat := [3,4,5,11,12]

def a77r0 : List AOper := [
 op (.v 1) .mv [.c (.bool false)]]
def a77s1 : ACode := .reg [] a77r0
def a77r2 : List AOper := [
 op (.t 3) .mv [.v 0],
 op (.t 4) (.bin .geq) [.t 3,.c (.int .u8 97)],
 op (.t 5) .mv [.t 4],
 ⟨.t 6,.mv,[.v 0],none,some (.t 5,true)⟩,
 ⟨.t 7,.bin .leq,[.t 6,.c (.int .u8 122)],none,some (.t 5,true)⟩,
 op (.t 8) .pick [.t 5,.t 7,.c (.bool false)],
 op (.t 9) .mv [.t 8],
 ⟨.t 10,.mv,[.v 0],none,some (.t 9,false)⟩,
 ⟨.t 11,.bin .geq,[.t 10,.c (.int .u8 65)],none,some (.t 9,false)⟩,
 ⟨.t 12,.mv,[.t 11],none,some (.t 9,false)⟩,
 ⟨.t 13,.mv,[.v 0],none,some (.t 12,true)⟩,
 ⟨.t 14,.bin .leq,[.t 13,.c (.int .u8 90)],none,some (.t 12,true)⟩,
 ⟨.t 15,.pick,[.t 12,.t 14,.c (.bool false)],none,some (.t 9,false)⟩,
 op (.t 16) .pick [.t 9,.c (.bool true),.t 15],
 op (.t 17) .mv [.t 16],
 ⟨.t 18,.mv,[.v 0],none,some (.t 17,false)⟩,
 ⟨.t 19,.bin .eql,[.t 18,.c (.int .u8 95)],none,some (.t 17,false)⟩,
 op (.t 20) .pick [.t 17,.c (.bool true),.t 19],
 op (.v 1) .mv [.t 20]]
def a77s3 : ACode := .reg [] a77r2
def a77s4 : ACode := .seq a77s3 .ret
def a77s5 : ACode := .seq a77s1 a77s4
def a77c : ACode :=
  a77s5
def a77 : AFn := { np := 1,nv := 2,results := [.v 1],code := a77c }
def a77v : List Nat := [0,2]
def a77b : List Nat := []

def a78r0 : List AOper := [
 op (.v 1) .mv [.c (.bool false)]]
def a78s1 : ACode := .reg [] a78r0
def a78r2 : List AOper := [
 op (.t 3) .mv [.v 0],
 op (.t 4) (.bin .geq) [.t 3,.c (.int .u8 48)],
 op (.t 5) .mv [.t 4],
 ⟨.t 6,.mv,[.v 0],none,some (.t 5,true)⟩,
 ⟨.t 7,.bin .leq,[.t 6,.c (.int .u8 57)],none,some (.t 5,true)⟩,
 op (.t 8) .pick [.t 5,.t 7,.c (.bool false)],
 op (.v 1) .mv [.t 8]]
def a78s3 : ACode := .reg [] a78r2
def a78s4 : ACode := .seq a78s3 .ret
def a78s5 : ACode := .seq a78s1 a78s4
def a78c : ACode :=
  a78s5
def a78 : AFn := { np := 1,nv := 2,results := [.v 1],code := a78c }
def a78v : List Nat := [0,2]
def a78b : List Nat := []

def a79r0 : List AOper := [
 ⟨.bx,.alloc [.int .u8 0,.str [],.int .i64 0,.int .i64 0],[],some 2,none⟩,
 op (.v 3) .mv [.c (.int .i64 0)],
 op (.v 4) .mv [.c (.int .i64 0)],
 op (.v 5) .mv [.c (.int .i64 0)]]
def a79s1 : ACode := .reg [2] a79r0
def a79r2 : List AOper := [
 op (.t 12) .mv [.v 1],
 op (.v 6) .mv [.t 12]]
def a79s3 : ACode := .reg [] a79r2
def a79r4 : List AOper := [
 op (.t 13) .mv [.v 0],
 op (.t 14) .mv [.v 6],
 op (.t 15) .idxS [.t 13,.t 14],
 op (.t 16) (.bin .eql) [.t 15,.c (.int .u8 45)],
 op (.v 7) .mv [.t 16]]
def a79s5 : ACode := .reg [] a79r4
def a79r6 : List AOper := [
 op (.t 17) .mv [.v 7]]
def a79r7 : List AOper := [
 op (.t 18) .mv [.v 6],
 op (.t 19) (.bin .add) [.t 18,.c (.int .i64 1)],
 op (.v 6) .mv [.t 19]]
def a79s8 : ACode := .reg [] a79r7
def a79s9 : ACode := .test [] a79r6 (.t 17) a79s8 .skip
def a79r10 : List AOper := [
 op (.t 20) .mv [.v 6],
 op (.v 8) .mv [.t 20]]
def a79s11 : ACode := .reg [] a79r10
def a79r12 : List AOper := [
 op (.v 9) .mv [.c (.int .i64 0)]]
def a79s13 : ACode := .reg [] a79r12
def a79r14 : List AOper := [
 op (.t 21) .mv [.v 6],
 op (.t 22) .mv [.v 0],
 op (.t 23) .lenS [.t 22],
 op (.t 24) (.bin .lss) [.t 21,.t 23],
 op (.t 25) .mv [.t 24],
 ⟨.t 26,.mv,[.v 0],none,some (.t 25,true)⟩,
 ⟨.t 27,.mv,[.v 6],none,some (.t 25,true)⟩,
 ⟨.t 28,.idxS,[.t 26,.t 27],none,some (.t 25,true)⟩,
 ⟨.t 29,.call 78,[.t 28],none,some (.t 25,true)⟩,
 op (.t 30) .pick [.t 25,.t 29,.c (.bool false)]]
def a79s15 : ACode := .test [] a79r14 (.t 30) .skip (.exit 0)
def a79r16 : List AOper := [
 op (.t 31) .mv [.v 6],
 op (.t 32) .mv [.v 8],
 op (.t 33) (.bin .sub) [.t 31,.t 32],
 op (.t 34) (.bin .lss) [.t 33,.c (.int .i64 18)]]
def a79r17 : List AOper := [
 op (.t 35) .mv [.v 9],
 op (.t 36) (.bin .mul) [.t 35,.c (.int .i64 10)],
 op (.t 37) .mv [.v 0],
 op (.t 38) .mv [.v 6],
 op (.t 39) .idxS [.t 37,.t 38],
 op (.t 40) (.bin .sub) [.t 39,.c (.int .u8 48)],
 op (.t 41) (.conv .i64) [.t 40],
 op (.t 42) (.bin .add) [.t 36,.t 41],
 op (.v 9) .mv [.t 42]]
def a79s18 : ACode := .reg [] a79r17
def a79s19 : ACode := .test [] a79r16 (.t 34) a79s18 .skip
def a79r20 : List AOper := [
 op (.t 43) .mv [.v 6],
 op (.t 44) (.bin .add) [.t 43,.c (.int .i64 1)],
 op (.v 6) .mv [.t 44]]
def a79s21 : ACode := .reg [] a79r20
def a79s22 : ACode := .seq a79s19 a79s21
def a79s23 : ACode := .blk 1 a79s22
def a79s24 : ACode := .seq a79s15 a79s23
def a79s25 : ACode := .loop a79s24
def a79s26 : ACode := .blk 0 a79s25
def a79r27 : List AOper := [
 op (.t 46) .mv [.v 6],
 op (.t 47) .mv [.v 8],
 op (.t 48) (.bin .eql) [.t 46,.t 47],
 op (.t 45) .mv [.t 48]]
def a79r28 : List AOper := [
 op (.t 49) (.build [.int .u8 0,.str [],.int .i64 0,.int .i64 0] []) [],
 op (.t 50) .mv [.v 6],
 ⟨.none,.stLc 2 4,[.l 2,.t 49],some 2,none⟩,
 op (.v 3) .mv [.c (.int .i64 0)],
 op (.v 4) .mv [.t 50],
 op (.v 5) .mv [.c (.int .i64 4)]]
def a79s29 : ACode := .reg [] a79r28
def a79s30 : ACode := .seq a79s29 .ret
def a79r31 : List AOper := [
 op (.t 52) .mv [.v 0],
 op (.t 53) .mv [.v 8],
 op (.t 54) .idxS [.t 52,.t 53],
 op (.t 55) (.bin .eql) [.t 54,.c (.int .u8 48)],
 op (.t 56) .mv [.t 55],
 ⟨.t 57,.mv,[.v 6],none,some (.t 56,true)⟩,
 ⟨.t 58,.mv,[.v 8],none,some (.t 56,true)⟩,
 ⟨.t 59,.bin .add,[.t 58,.c (.int .i64 1)],none,some (.t 56,true)⟩,
 ⟨.t 60,.bin .gtr,[.t 57,.t 59],none,some (.t 56,true)⟩,
 op (.t 61) .pick [.t 56,.t 60,.c (.bool false)],
 op (.t 51) .mv [.t 61]]
def a79r32 : List AOper := [
 op (.t 62) (.build [.int .u8 0,.str [],.int .i64 0,.int .i64 0] []) [],
 op (.t 63) .mv [.v 8],
 op (.t 64) (.bin .add) [.t 63,.c (.int .i64 1)],
 ⟨.none,.stLc 2 4,[.l 2,.t 62],some 2,none⟩,
 op (.v 3) .mv [.c (.int .i64 0)],
 op (.v 4) .mv [.t 64],
 op (.v 5) .mv [.c (.int .i64 4)]]
def a79s33 : ACode := .reg [] a79r32
def a79s34 : ACode := .seq a79s33 .ret
def a79r35 : List AOper := [
 op (.t 66) .mv [.v 6],
 op (.t 67) .mv [.v 0],
 op (.t 68) .lenS [.t 67],
 op (.t 69) (.bin .lss) [.t 66,.t 68],
 op (.t 70) .mv [.t 69],
 ⟨.t 71,.mv,[.v 0],none,some (.t 70,true)⟩,
 ⟨.t 72,.mv,[.v 6],none,some (.t 70,true)⟩,
 ⟨.t 73,.idxS,[.t 71,.t 72],none,some (.t 70,true)⟩,
 ⟨.t 74,.call 77,[.t 73],none,some (.t 70,true)⟩,
 ⟨.t 75,.mv,[.t 74],none,some (.t 70,true)⟩,
 ⟨.t 76,.mv,[.v 0],none,some (.t 75,false)⟩,
 ⟨.t 77,.mv,[.v 6],none,some (.t 75,false)⟩,
 ⟨.t 78,.idxS,[.t 76,.t 77],none,some (.t 75,false)⟩,
 ⟨.t 79,.bin .eql,[.t 78,.c (.int .u8 46)],none,some (.t 75,false)⟩,
 ⟨.t 80,.pick,[.t 75,.c (.bool true),.t 79],none,some (.t 70,true)⟩,
 op (.t 81) .pick [.t 70,.t 80,.c (.bool false)],
 op (.t 65) .mv [.t 81]]
def a79r36 : List AOper := [
 op (.t 82) (.build [.int .u8 0,.str [],.int .i64 0,.int .i64 0] []) [],
 op (.t 83) .mv [.v 6],
 ⟨.none,.stLc 2 4,[.l 2,.t 82],some 2,none⟩,
 op (.v 3) .mv [.c (.int .i64 0)],
 op (.v 4) .mv [.t 83],
 op (.v 5) .mv [.c (.int .i64 4)]]
def a79s37 : ACode := .reg [] a79r36
def a79s38 : ACode := .seq a79s37 .ret
def a79r39 : List AOper := [
 op (.t 85) .mv [.v 6],
 op (.t 86) .mv [.v 8],
 op (.t 87) (.bin .sub) [.t 85,.t 86],
 op (.t 88) (.bin .gtr) [.t 87,.c (.int .i64 18)],
 op (.t 84) .mv [.t 88]]
def a79r40 : List AOper := [
 op (.t 89) (.build [.int .u8 0,.str [],.int .i64 0,.int .i64 0] []) [],
 op (.t 90) .mv [.v 1],
 ⟨.none,.stLc 2 4,[.l 2,.t 89],some 2,none⟩,
 op (.v 3) .mv [.c (.int .i64 0)],
 op (.v 4) .mv [.t 90],
 op (.v 5) .mv [.c (.int .i64 1)]]
def a79s41 : ACode := .reg [] a79r40
def a79s42 : ACode := .seq a79s41 .ret
def a79s43 : ACode := .test [] a79r39 (.t 84) a79s42 .skip
def a79s44 : ACode := .test [] a79r35 (.t 65) a79s38 a79s43
def a79s45 : ACode := .test [] a79r31 (.t 51) a79s34 a79s44
def a79s46 : ACode := .test [] a79r27 (.t 45) a79s30 a79s45
def a79s47 : ACode := .blk 2 a79s46
def a79r48 : List AOper := [
 op (.t 91) .mv [.v 7]]
def a79r49 : List AOper := [
 op (.t 92) .mv [.v 9],
 op (.t 93) (.un .neg) [.t 92],
 op (.v 9) .mv [.t 93]]
def a79s50 : ACode := .reg [] a79r49
def a79s51 : ACode := .test [] a79r48 (.t 91) a79s50 .skip
def a79r52 : List AOper := [
 op (.t 94) .mv [.v 0],
 op (.t 95) .mv [.v 1],
 op (.t 96) .mv [.v 6],
 op (.t 97) (.slS true true) [.t 94,.t 95,.t 96],
 op (.t 98) .mv [.v 9],
 op (.t 99) (.build [.int .u8 0,.str [],.int .i64 0,.int .i64 0] [(0,1),(1,1),(2,1)]) [.c (.int .u8 2),.t 97,.t 98],
 op (.t 100) .mv [.v 6],
 ⟨.none,.stLc 2 4,[.l 2,.t 99],some 2,none⟩,
 op (.v 3) .mv [.t 100],
 op (.v 4) .mv [.c (.int .i64 0)],
 op (.v 5) .mv [.c (.int .i64 0)]]
def a79s53 : ACode := .reg [] a79r52
def a79s54 : ACode := .seq a79s53 .ret
def a79s55 : ACode := .seq a79s51 a79s54
def a79s56 : ACode := .seq a79s47 a79s55
def a79s57 : ACode := .seq a79s26 a79s56
def a79s58 : ACode := .seq a79s13 a79s57
def a79s59 : ACode := .seq a79s11 a79s58
def a79s60 : ACode := .seq a79s9 a79s59
def a79s61 : ACode := .seq a79s5 a79s60
def a79s62 : ACode := .seq a79s3 a79s61
def a79s63 : ACode := .seq a79s1 a79s62
def a79c : ACode :=
  a79s63
def a79 : AFn := { np := 2,nv := 10,results := [.bx 2 true 4,.v 3,.v 4,.v 5],code := a79c }
def a79v : List Nat := [0,1,4,5,6,7,8,9,10,11]
def a79b : List Nat := [2]

def a80r0 : List AOper := [
 ⟨.bx,.alloc [.int .u8 0,.str [],.int .i64 0,.int .i64 0],[],some 2,none⟩,
 op (.v 3) .mv [.c (.int .i64 0)],
 op (.v 4) .mv [.c (.int .i64 0)],
 op (.v 5) .mv [.c (.int .i64 0)]]
def a80s1 : ACode := .reg [2] a80r0
def a80r2 : List AOper := [
 op (.v 6) .mv [.c (.str [])]]
def a80s3 : ACode := .reg [] a80r2
def a80r4 : List AOper := [
 op (.t 10) .mv [.v 1],
 op (.t 11) (.bin .add) [.t 10,.c (.int .i64 1)],
 op (.v 7) .mv [.t 11]]
def a80s5 : ACode := .reg [] a80r4
def a80r6 : List AOper := [
 op (.t 12) .mv [.v 7],
 op (.t 13) .mv [.v 0],
 op (.t 14) .lenS [.t 13],
 op (.t 15) (.bin .lss) [.t 12,.t 14]]
def a80s7 : ACode := .test [] a80r6 (.t 15) .skip (.exit 0)
def a80r8 : List AOper := [
 op (.t 16) .mv [.v 0],
 op (.t 17) .mv [.v 7],
 op (.v 8) .idxS [.t 16,.t 17]]
def a80s9 : ACode := .reg [] a80r8
def a80r10 : List AOper := [
 op (.t 27) (.bin .eql) [.v 8,.c (.int .u8 34)],
 op (.t 26) .mv [.t 27]]
def a80r11 : List AOper := [
 op (.t 28) .mv [.v 6],
 op (.t 29) .lenS [.t 28],
 op (.t 30) (.bin .gtr) [.t 29,.c (.int .i64 200)]]
def a80r12 : List AOper := [
 op (.t 31) (.build [.int .u8 0,.str [],.int .i64 0,.int .i64 0] []) [],
 op (.t 32) .mv [.v 1],
 ⟨.none,.stLc 2 4,[.l 2,.t 31],some 2,none⟩,
 op (.v 3) .mv [.c (.int .i64 0)],
 op (.v 4) .mv [.t 32],
 op (.v 5) .mv [.c (.int .i64 2)]]
def a80s13 : ACode := .reg [] a80r12
def a80s14 : ACode := .seq a80s13 .ret
def a80s15 : ACode := .test [] a80r11 (.t 30) a80s14 .skip
def a80r16 : List AOper := [
 op (.t 33) .mv [.v 6],
 op (.t 34) (.build [.int .u8 0,.str [],.int .i64 0,.int .i64 0] [(0,1),(1,1)]) [.c (.int .u8 3),.t 33],
 op (.t 35) .mv [.v 7],
 op (.t 36) (.bin .add) [.t 35,.c (.int .i64 1)],
 ⟨.none,.stLc 2 4,[.l 2,.t 34],some 2,none⟩,
 op (.v 3) .mv [.t 36],
 op (.v 4) .mv [.c (.int .i64 0)],
 op (.v 5) .mv [.c (.int .i64 0)]]
def a80s17 : ACode := .reg [] a80r16
def a80s18 : ACode := .seq a80s17 .ret
def a80s19 : ACode := .seq a80s15 a80s18
def a80r20 : List AOper := [
 op (.t 38) (.bin .eql) [.v 8,.c (.int .u8 10)],
 op (.t 37) .mv [.t 38]]
def a80r21 : List AOper := [
 op (.t 39) (.build [.int .u8 0,.str [],.int .i64 0,.int .i64 0] []) [],
 op (.t 40) .mv [.v 7],
 ⟨.none,.stLc 2 4,[.l 2,.t 39],some 2,none⟩,
 op (.v 3) .mv [.c (.int .i64 0)],
 op (.v 4) .mv [.t 40],
 op (.v 5) .mv [.c (.int .i64 4)]]
def a80s22 : ACode := .reg [] a80r21
def a80s23 : ACode := .seq a80s22 .ret
def a80r24 : List AOper := [
 op (.t 42) (.bin .eql) [.v 8,.c (.int .u8 92)],
 op (.t 41) .mv [.t 42]]
def a80r25 : List AOper := [
 op (.t 43) .mv [.v 7],
 op (.t 44) (.bin .add) [.t 43,.c (.int .i64 1)],
 op (.v 7) .mv [.t 44]]
def a80s26 : ACode := .reg [] a80r25
def a80r27 : List AOper := [
 op (.t 45) .mv [.v 7],
 op (.t 46) .mv [.v 0],
 op (.t 47) .lenS [.t 46],
 op (.t 48) (.bin .eql) [.t 45,.t 47]]
def a80r28 : List AOper := [
 op (.t 49) (.build [.int .u8 0,.str [],.int .i64 0,.int .i64 0] []) [],
 op (.t 50) .mv [.v 7],
 ⟨.none,.stLc 2 4,[.l 2,.t 49],some 2,none⟩,
 op (.v 3) .mv [.c (.int .i64 0)],
 op (.v 4) .mv [.t 50],
 op (.v 5) .mv [.c (.int .i64 4)]]
def a80s29 : ACode := .reg [] a80r28
def a80s30 : ACode := .seq a80s29 .ret
def a80s31 : ACode := .test [] a80r27 (.t 48) a80s30 .skip
def a80r32 : List AOper := [
 op (.t 51) .mv [.v 0],
 op (.t 52) .mv [.v 7],
 op (.v 9) .idxS [.t 51,.t 52]]
def a80s33 : ACode := .reg [] a80r32
def a80r34 : List AOper := [
 op (.t 57) (.bin .eql) [.v 9,.c (.int .u8 110)],
 op (.t 56) .mv [.t 57]]
def a80r35 : List AOper := [
 op (.t 58) .mv [.v 6],
 op (.t 59) (.bin .add) [.t 58,.c (.str [10])],
 op (.v 6) .mv [.t 59]]
def a80s36 : ACode := .reg [] a80r35
def a80r37 : List AOper := [
 op (.t 61) (.bin .eql) [.v 9,.c (.int .u8 116)],
 op (.t 60) .mv [.t 61]]
def a80r38 : List AOper := [
 op (.t 62) .mv [.v 6],
 op (.t 63) (.bin .add) [.t 62,.c (.str [9])],
 op (.v 6) .mv [.t 63]]
def a80s39 : ACode := .reg [] a80r38
def a80r40 : List AOper := [
 op (.t 65) (.bin .eql) [.v 9,.c (.int .u8 34)],
 op (.v 10) .mv [.t 65]]
def a80r41 : List AOper := [
 op (.t 66) (.bin .eql) [.v 9,.c (.int .u8 47)],
 op (.v 10) .mv [.t 66]]
def a80r42 : List AOper := [
 op (.t 67) (.bin .eql) [.v 9,.c (.int .u8 92)],
 op (.v 10) .mv [.t 67]]
def a80s43 : ACode := .reg [] a80r42
def a80s44 : ACode := .test [] a80r41 (.v 10) .skip a80s43
def a80s45 : ACode := .test [] a80r40 (.v 10) .skip a80s44
def a80r46 : List AOper := [
 op (.t 68) .mv [.v 6],
 op (.t 69) .mv [.v 0],
 op (.t 70) .mv [.v 7],
 op (.t 71) .mv [.v 7],
 op (.t 72) (.bin .add) [.t 71,.c (.int .i64 1)],
 op (.t 73) (.slS true true) [.t 69,.t 70,.t 72],
 op (.t 74) (.bin .add) [.t 68,.t 73],
 op (.v 6) .mv [.t 74]]
def a80s47 : ACode := .reg [] a80r46
def a80r48 : List AOper := [
 op (.t 54) (.build [.int .u8 0,.str [],.int .i64 0,.int .i64 0] []) [],
 op (.t 55) .mv [.v 7],
 ⟨.none,.stLc 2 4,[.l 2,.t 54],some 2,none⟩,
 op (.v 3) .mv [.c (.int .i64 0)],
 op (.v 4) .mv [.t 55],
 op (.v 5) .mv [.c (.int .i64 4)]]
def a80s49 : ACode := .reg [] a80r48
def a80s50 : ACode := .seq a80s49 .ret
def a80s51 : ACode := .test [] [] (.v 10) a80s47 a80s50
def a80s52 : ACode := .seq a80s45 a80s51
def a80s53 : ACode := .test [] a80r37 (.t 60) a80s39 a80s52
def a80s54 : ACode := .test [] a80r34 (.t 56) a80s36 a80s53
def a80s55 : ACode := .blk 3 a80s54
def a80s56 : ACode := .seq a80s33 a80s55
def a80s57 : ACode := .seq a80s31 a80s56
def a80s58 : ACode := .seq a80s26 a80s57
def a80r59 : List AOper := [
 op (.t 19) .mv [.v 6],
 op (.t 20) .mv [.v 0],
 op (.t 21) .mv [.v 7],
 op (.t 22) .mv [.v 7],
 op (.t 23) (.bin .add) [.t 22,.c (.int .i64 1)],
 op (.t 24) (.slS true true) [.t 20,.t 21,.t 23],
 op (.t 25) (.bin .add) [.t 19,.t 24],
 op (.v 6) .mv [.t 25]]
def a80s60 : ACode := .reg [] a80r59
def a80s61 : ACode := .test [] a80r24 (.t 41) a80s58 a80s60
def a80s62 : ACode := .test [] a80r20 (.t 37) a80s23 a80s61
def a80s63 : ACode := .test [] a80r10 (.t 26) a80s19 a80s62
def a80s64 : ACode := .blk 2 a80s63
def a80s65 : ACode := .seq a80s9 a80s64
def a80r66 : List AOper := [
 op (.t 75) .mv [.v 7],
 op (.t 76) (.bin .add) [.t 75,.c (.int .i64 1)],
 op (.v 7) .mv [.t 76]]
def a80s67 : ACode := .reg [] a80r66
def a80s68 : ACode := .seq a80s65 a80s67
def a80s69 : ACode := .blk 1 a80s68
def a80s70 : ACode := .seq a80s7 a80s69
def a80s71 : ACode := .loop a80s70
def a80s72 : ACode := .blk 0 a80s71
def a80r73 : List AOper := [
 op (.t 77) (.build [.int .u8 0,.str [],.int .i64 0,.int .i64 0] []) [],
 op (.t 78) .mv [.v 7],
 ⟨.none,.stLc 2 4,[.l 2,.t 77],some 2,none⟩,
 op (.v 3) .mv [.c (.int .i64 0)],
 op (.v 4) .mv [.t 78],
 op (.v 5) .mv [.c (.int .i64 4)]]
def a80s74 : ACode := .reg [] a80r73
def a80s75 : ACode := .seq a80s74 .ret
def a80s76 : ACode := .seq a80s72 a80s75
def a80s77 : ACode := .seq a80s5 a80s76
def a80s78 : ACode := .seq a80s3 a80s77
def a80s79 : ACode := .seq a80s1 a80s78
def a80c : ACode :=
  a80s79
def a80 : AFn := { np := 2,nv := 11,results := [.bx 2 true 4,.v 3,.v 4,.v 5],code := a80c }
def a80v : List Nat := [0,1,4,5,6,7,8,9,18,53,64]
def a80b : List Nat := [2]

def a81r0 : List AOper := [
 op (.v 2) .mv [.c (.bool false)]]
def a81s1 : ACode := .reg [] a81r0
def a81r2 : List AOper := [
 op (.t 5) .mv [.v 0],
 op (.t 6) .nilchk [.t 5],
 op (.t 7) (.fad 4) [.t 6],
 op (.t 8) (.ldSt false 1) [.t 7],
 op (.t 9) (.bin .eql) [.t 8,.c (.int .i64 0)],
 op (.t 10) .mv [.t 9],
 ⟨.t 11,.mv,[.v 0],none,some (.t 10,true)⟩,
 ⟨.t 12,.nilchk,[.t 11],none,some (.t 10,true)⟩,
 ⟨.t 13,.fad 0,[.t 12],none,some (.t 10,true)⟩,
 ⟨.t 14,.ldSt false 1,[.t 13],none,some (.t 10,true)⟩,
 ⟨.t 15,.mv,[.v 0],none,some (.t 10,true)⟩,
 ⟨.t 16,.nilchk,[.t 15],none,some (.t 10,true)⟩,
 ⟨.t 17,.fad 1,[.t 16],none,some (.t 10,true)⟩,
 ⟨.t 18,.ldSt false 1,[.t 17],none,some (.t 10,true)⟩,
 ⟨.t 19,.iad 4,[.t 14,.t 18],none,some (.t 10,true)⟩,
 ⟨.t 20,.fad 0,[.t 19],none,some (.t 10,true)⟩,
 ⟨.t 21,.ldRo false 1,[.t 20],none,some (.t 10,true)⟩,
 ⟨.t 22,.bin .eql,[.t 21,.c (.int .u8 4)],none,some (.t 10,true)⟩,
 op (.t 23) .pick [.t 10,.t 22,.c (.bool false)],
 op (.t 24) .mv [.t 23],
 ⟨.t 25,.mv,[.v 0],none,some (.t 24,true)⟩,
 ⟨.t 26,.nilchk,[.t 25],none,some (.t 24,true)⟩,
 ⟨.t 27,.fad 0,[.t 26],none,some (.t 24,true)⟩,
 ⟨.t 28,.ldSt false 1,[.t 27],none,some (.t 24,true)⟩,
 ⟨.t 29,.mv,[.v 0],none,some (.t 24,true)⟩,
 ⟨.t 30,.nilchk,[.t 29],none,some (.t 24,true)⟩,
 ⟨.t 31,.fad 1,[.t 30],none,some (.t 24,true)⟩,
 ⟨.t 32,.ldSt false 1,[.t 31],none,some (.t 24,true)⟩,
 ⟨.t 33,.iad 4,[.t 28,.t 32],none,some (.t 24,true)⟩,
 ⟨.t 34,.fad 1,[.t 33],none,some (.t 24,true)⟩,
 ⟨.t 35,.ldRo false 1,[.t 34],none,some (.t 24,true)⟩,
 ⟨.t 36,.mv,[.v 1],none,some (.t 24,true)⟩,
 ⟨.t 37,.bin .eql,[.t 35,.t 36],none,some (.t 24,true)⟩,
 op (.t 38) .pick [.t 24,.t 37,.c (.bool false)],
 op (.v 2) .mv [.t 38]]
def a81s3 : ACode := .reg [] a81r2
def a81s4 : ACode := .seq a81s3 .ret
def a81s5 : ACode := .seq a81s1 a81s4
def a81c : ACode :=
  a81s5
def a81 : AFn := { np := 2,nv := 3,results := [.v 2],code := a81c }
def a81v : List Nat := [0,1,4]
def a81b : List Nat := []

def a82r0 : List AOper := [
 ⟨.bx,.alloc [.int .u8 0,.int .i64 0,.str [],.list true [],.list true []],[],some 2,none⟩]
def a82s1 : ACode := .reg [2] a82r0
def a82r2 : List AOper := [
 ⟨.bx,.alloc [.int .u8 0,.int .i64 0,.str [],.list true [],.list true []],[],some 3,none⟩]
def a82s3 : ACode := .reg [3] a82r2
def a82r4 : List AOper := [
 op (.t 6) .mv [.v 0],
 op (.t 7) (.call 83) [.t 6]]
def a82r5 : List AOper := [
 op (.t 8) .mv [.v 0],
 op (.t 9) .mv [.v 1],
 op (.t 10) (.call 102) [.t 8,.t 9],
 ⟨.none,.stLc 3 5,[.l 3,.ts 10],some 3,none⟩]
def a82s6 : ACode := .reg [] a82r5
def a82s7 : ACode := .test [] a82r4 (.t 7) a82s6 .skip
def a82r8 : List AOper := [
 op (.t 11) .mv [.v 0],
 op (.t 12) .nilchk [.t 11],
 op (.t 13) (.fad 2) [.t 12],
 op (.t 14) (.ldSt false 1) [.t 13],
 op (.t 15) (.bin .sub) [.t 14,.c (.int .i64 1)],
 op (.t 16) .nilchk [.t 11],
 op (.t 17) (.fad 2) [.t 16],
 op .none (.stSt 1) [.t 17,.t 15]]
def a82s9 : ACode := .reg [] a82r8
def a82r10 : List AOper := [
 ⟨.t 18,.ldLc 3 true 5,[.l 3],some 3,none⟩,
 ⟨.none,.stLc 2 5,[.l 2,.ts 18],some 2,none⟩]
def a82s11 : ACode := .reg [] a82r10
def a82s12 : ACode := .seq a82s11 .ret
def a82s13 : ACode := .seq a82s9 a82s12
def a82s14 : ACode := .seq a82s7 a82s13
def a82s15 : ACode := .seq a82s3 a82s14
def a82s16 : ACode := .seq a82s1 a82s15
def a82c : ACode :=
  a82s16
def a82 : AFn := { np := 2,nv := 4,results := [.bx 2 true 5],code := a82c }
def a82v : List Nat := [0,1,4,5]
def a82b : List Nat := [2,3]

def a83r0 : List AOper := [
 op (.v 1) .mv [.c (.bool false)]]
def a83s1 : ACode := .reg [] a83r0
def a83r2 : List AOper := [
 op (.t 3) .mv [.v 0],
 op (.t 4) .nilchk [.t 3],
 op (.t 5) (.fad 2) [.t 4],
 op (.t 6) (.ldSt false 1) [.t 5],
 op (.t 7) (.bin .add) [.t 6,.c (.int .i64 1)],
 op (.t 8) .nilchk [.t 3],
 op (.t 9) (.fad 2) [.t 8],
 op .none (.stSt 1) [.t 9,.t 7]]
def a83s3 : ACode := .reg [] a83r2
def a83r4 : List AOper := [
 op (.t 10) .mv [.v 0],
 op (.t 11) .nilchk [.t 10],
 op (.t 12) (.fad 2) [.t 11],
 op (.t 13) (.ldSt false 1) [.t 12],
 op (.t 14) (.bin .gtr) [.t 13,.c (.int .i64 24)]]
def a83r5 : List AOper := [
 op (.t 15) .mv [.v 0],
 op (.t 16) (.call 50) [.t 15,.c (.int .i64 5)]]
def a83s6 : ACode := .reg [] a83r5
def a83s7 : ACode := .test [] a83r4 (.t 14) a83s6 .skip
def a83r8 : List AOper := [
 op (.t 17) .mv [.v 0],
 op (.t 18) .nilchk [.t 17],
 op (.t 19) (.fad 4) [.t 18],
 op (.t 20) (.ldSt false 1) [.t 19],
 op (.t 21) (.bin .eql) [.t 20,.c (.int .i64 0)],
 op (.v 1) .mv [.t 21]]
def a83s9 : ACode := .reg [] a83r8
def a83s10 : ACode := .seq a83s9 .ret
def a83s11 : ACode := .seq a83s7 a83s10
def a83s12 : ACode := .seq a83s3 a83s11
def a83s13 : ACode := .seq a83s1 a83s12
def a83c : ACode :=
  a83s13
def a83 : AFn := { np := 1,nv := 2,results := [.v 1],code := a83c }
def a83v : List Nat := [0,2]
def a83b : List Nat := []

def a84r0 : List AOper := [
 ⟨.bx,.boxV,[.v 0],some 1,none⟩,
 op (.v 2) .mv [.c (.str [])]]
def a84s1 : ACode := .reg [1] a84r0
def a84r2 : List AOper := [
 op (.t 3) (.fad 1) [.l 1],
 ⟨.t 4,.ldLc 1 false 1,[.t 3],some 1,none⟩,
 op (.t 5) .lenL [.t 4],
 op (.t 6) (.bin .gtr) [.t 5,.c (.int .i64 0)]]
def a84s3 : ACode := .test [] a84r2 (.t 6) .skip (.exit 0)
def a84r4 : List AOper := [
 op (.t 7) (.fad 1) [.l 1],
 ⟨.t 8,.ldLc 1 false 1,[.t 7],some 1,none⟩,
 op (.t 9) (.iad 3) [.t 8,.c (.int .i64 0)],
 op (.t 10) (.ldRo true 3) [.t 9],
 ⟨.none,.stLc 1 3,[.l 1,.ts 10],some 1,none⟩]
def a84s5 : ACode := .reg [] a84r4
def a84s6 : ACode := .blk 1 a84s5
def a84s7 : ACode := .seq a84s3 a84s6
def a84s8 : ACode := .loop a84s7
def a84s9 : ACode := .blk 0 a84s8
def a84r10 : List AOper := [
 op (.t 11) (.fad 0) [.l 1],
 ⟨.t 12,.ldLc 1 false 1,[.t 11],some 1,none⟩,
 op (.v 2) .mv [.t 12]]
def a84s11 : ACode := .reg [] a84r10
def a84s12 : ACode := .seq a84s11 .ret
def a84s13 : ACode := .seq a84s9 a84s12
def a84s14 : ACode := .seq a84s1 a84s13
def a84c : ACode :=
  a84s14
def a84 : AFn := { np := 1,nv := 3,results := [.v 2],code := a84c }
def a84v : List Nat := [0,1,2]
def a84b : List Nat := [1]

def a85r0 : List AOper := [
 op (.v 2) .mv [.c (.bool false)]]
def a85s1 : ACode := .reg [] a85r0
def a85r2 : List AOper := [
 op (.t 5) .mv [.v 0],
 op (.t 6) (.binP .neq) [.t 5,.c (.nilp)],
 op (.t 7) .mv [.t 6],
 ⟨.t 8,.slA 4 1 false false,[.c (.ro [.str [66,111,111,108,101,97,110],.str [73,68],.str [73,110,116],.str [83,116,114,105,110,103]])],none,some (.t 7,true)⟩,
 ⟨.t 9,.mv,[.v 1],none,some (.t 7,true)⟩,
 ⟨.t 10,.call 37,[.t 8,.t 9],none,some (.t 7,true)⟩,
 op (.t 11) .pick [.t 7,.t 10,.c (.bool false)],
 op (.v 2) .mv [.t 11]]
def a85s3 : ACode := .reg [] a85r2
def a85s4 : ACode := .seq a85s3 .ret
def a85s5 : ACode := .seq a85s1 a85s4
def a85c : ACode :=
  a85s5
def a85 : AFn := { np := 2,nv := 3,results := [.v 2],code := a85c }
def a85v : List Nat := [0,1,4]
def a85b : List Nat := []

def a86r0 : List AOper := [
 op (.v 2) .mv [.c (.bool false)]]
def a86s1 : ACode := .reg [] a86r0
def a86r2 : List AOper := [
 op (.t 5) .mv [.v 0],
 op (.t 6) .mv [.v 1],
 op (.t 7) (.call 103) [.t 5,.t 6,.c (.int .u8 4)],
 op (.v 2) .mv [.t 7]]
def a86s3 : ACode := .reg [] a86r2
def a86s4 : ACode := .seq a86s3 .ret
def a86s5 : ACode := .seq a86s1 a86s4
def a86c : ACode :=
  a86s5
def a86 : AFn := { np := 2,nv := 3,results := [.v 2],code := a86c }
def a86v : List Nat := [0,1,4]
def a86b : List Nat := []

def a87r0 : List AOper := [
 op (.v 2) .mv [.c (.bool false)]]
def a87s1 : ACode := .reg [] a87r0
def a87r2 : List AOper := [
 op (.t 5) .mv [.v 0],
 op (.t 6) .mv [.v 1],
 op (.t 7) (.call 103) [.t 5,.t 6,.c (.int .u8 5)],
 op (.v 2) .mv [.t 7]]
def a87s3 : ACode := .reg [] a87r2
def a87s4 : ACode := .seq a87s3 .ret
def a87s5 : ACode := .seq a87s1 a87s4
def a87c : ACode :=
  a87s5
def a87 : AFn := { np := 2,nv := 3,results := [.v 2],code := a87c }
def a87v : List Nat := [0,1,4]
def a87b : List Nat := []

def a88r0 : List AOper := [
 op (.v 3) .boxO [.v 0],
 op (.v 4) .boxO [.v 1],
 ⟨.bx,.boxV,[.v 2],some 5,none⟩,
 op (.v 6) .mv [.c (.bool false)]]
def a88s1 : ACode := .reg [5] a88r0
def a88r2 : List AOper := [
 op (.t 9) (.fad 0) [.l 5],
 ⟨.t 10,.ldLc 5 false 1,[.t 9],some 5,none⟩,
 op (.t 11) (.bin .eql) [.t 10,.c (.int .u8 0)]]
def a88r3 : List AOper := [
 op (.t 12) (.fad 2) [.v 4],
 op (.t 13) (.ldSt false 1) [.t 12],
 op (.t 14) (.un .not) [.t 13],
 op (.v 6) .mv [.t 14]]
def a88s4 : ACode := .reg [] a88r3
def a88s5 : ACode := .seq a88s4 .ret
def a88s6 : ACode := .test [] a88r2 (.t 11) a88s5 .skip
def a88r7 : List AOper := [
 op (.t 15) (.fad 1) [.v 4],
 op (.t 16) (.ldSt false 1) [.t 15],
 op (.t 17) .lenL [.t 16],
 op (.t 18) (.bin .gtr) [.t 17,.c (.int .i64 0)]]
def a88r8 : List AOper := [
 op (.t 19) (.fad 0) [.l 5],
 ⟨.t 20,.ldLc 5 false 1,[.t 19],some 5,none⟩,
 op (.t 21) (.bin .neq) [.t 20,.c (.int .u8 5)]]
def a88r9 : List AOper := [
 op (.t 22) (.ldSt false 1) [.v 3],
 op (.t 23) (.fad 1) [.v 4],
 op (.t 24) (.ldSt false 1) [.t 23],
 op (.t 25) (.iad 3) [.t 24,.c (.int .i64 0)],
 op (.t 26) (.ldRo true 3) [.t 25],
 ⟨.t 27,.ldLc 5 true 5,[.l 5],some 5,none⟩,
 op (.t 28) (.call 88) [.t 22,.t 26,.t 27],
 op (.v 6) .mv [.t 28]]
def a88s10 : ACode := .reg [] a88r9
def a88s11 : ACode := .seq a88s10 .ret
def a88s12 : ACode := .test [] a88r8 (.t 21) a88s11 .skip
def a88r13 : List AOper := [
 op (.t 29) (.fad 4) [.l 5],
 ⟨.t 30,.ldLc 5 false 1,[.t 29],some 5,none⟩,
 op (.t 31) (.mkF 105 0) [.v 3,.v 4],
 op (.t 32) (.call 104) [.t 30,.t 31],
 op (.t 33) (.un .not) [.t 32],
 op (.v 6) .mv [.t 33]]
def a88s14 : ACode := .reg [] a88r13
def a88s15 : ACode := .seq a88s14 .ret
def a88s16 : ACode := .seq a88s12 a88s15
def a88s17 : ACode := .test [] a88r7 (.t 18) a88s16 .skip
def a88r18 : List AOper := [
 op (.t 34) (.fad 0) [.v 4],
 op (.v 8) (.ldSt false 1) [.t 34]]
def a88s19 : ACode := .reg [] a88r18
def a88r20 : List AOper := [
 op (.t 37) (.bin .eql) [.v 8,.c (.str [73,110,116])],
 op (.t 36) .mv [.t 37]]
def a88r21 : List AOper := [
 op (.t 38) (.fad 0) [.l 5],
 ⟨.t 39,.ldLc 5 false 1,[.t 38],some 5,none⟩,
 op (.t 40) (.bin .eql) [.t 39,.c (.int .u8 1)],
 op (.t 41) .mv [.t 40],
 ⟨.t 42,.fad 1,[.l 5],none,some (.t 41,true)⟩,
 ⟨.t 43,.ldLc 5 false 1,[.t 42],some 5,some (.t 41,true)⟩,
 ⟨.t 44,.fad 1,[.l 5],none,some (.t 41,true)⟩,
 ⟨.t 45,.ldLc 5 false 1,[.t 44],some 5,some (.t 41,true)⟩,
 ⟨.t 46,.conv .i32,[.t 45],none,some (.t 41,true)⟩,
 ⟨.t 47,.conv .i64,[.t 46],none,some (.t 41,true)⟩,
 ⟨.t 48,.bin .eql,[.t 43,.t 47],none,some (.t 41,true)⟩,
 op (.t 49) .pick [.t 41,.t 48,.c (.bool false)],
 op (.v 6) .mv [.t 49]]
def a88s22 : ACode := .reg [] a88r21
def a88s23 : ACode := .seq a88s22 .ret
def a88r24 : List AOper := [
 op (.t 51) (.bin .eql) [.v 8,.c (.str [83,116,114,105,110,103])],
 op (.t 50) .mv [.t 51]]
def a88r25 : List AOper := [
 op (.t 52) (.fad 0) [.l 5],
 ⟨.t 53,.ldLc 5 false 1,[.t 52],some 5,none⟩,
 op (.t 54) (.bin .eql) [.t 53,.c (.int .u8 2)],
 op (.v 6) .mv [.t 54]]
def a88s26 : ACode := .reg [] a88r25
def a88s27 : ACode := .seq a88s26 .ret
def a88r28 : List AOper := [
 op (.t 56) (.bin .eql) [.v 8,.c (.str [66,111,111,108,101,97,110])],
 op (.t 55) .mv [.t 56]]
def a88r29 : List AOper := [
 op (.t 57) (.fad 0) [.l 5],
 ⟨.t 58,.ldLc 5 false 1,[.t 57],some 5,none⟩,
 op (.t 59) (.bin .eql) [.t 58,.c (.int .u8 3)],
 op (.v 6) .mv [.t 59]]
def a88s30 : ACode := .reg [] a88r29
def a88s31 : ACode := .seq a88s30 .ret
def a88r32 : List AOper := [
 op (.t 61) (.bin .eql) [.v 8,.c (.str [73,68])],
 op (.t 60) .mv [.t 61]]
def a88r33 : List AOper := [
 op (.t 62) (.fad 0) [.l 5],
 ⟨.t 63,.ldLc 5 false 1,[.t 62],some 5,none⟩,
 op (.t 64) (.bin .eql) [.t 63,.c (.int .u8 2)],
 op (.t 65) .mv [.t 64],
 ⟨.t 66,.fad 0,[.l 5],none,some (.t 65,false)⟩,
 ⟨.t 67,.ldLc 5 false 1,[.t 66],some 5,some (.t 65,false)⟩,
 ⟨.t 68,.bin .eql,[.t 67,.c (.int .u8 1)],none,some (.t 65,false)⟩,
 op (.t 69) .pick [.t 65,.c (.bool true),.t 68],
 op (.v 6) .mv [.t 69]]
def a88s34 : ACode := .reg [] a88r33
def a88s35 : ACode := .seq a88s34 .ret
def a88s36 : ACode := .test [] a88r32 (.t 60) a88s35 .skip
def a88s37 : ACode := .test [] a88r28 (.t 55) a88s31 a88s36
def a88s38 : ACode := .test [] a88r24 (.t 50) a88s27 a88s37
def a88s39 : ACode := .test [] a88r20 (.t 36) a88s23 a88s38
def a88s40 : ACode := .blk 0 a88s39
def a88s41 : ACode := .seq a88s19 a88s40
def a88r42 : List AOper := [
 op (.t 71) (.ldSt false 1) [.v 3],
 op (.t 72) (.fad 0) [.v 4],
 op (.t 73) (.ldSt false 1) [.t 72],
 op (.t 74) (.call 40) [.t 71,.t 73],
 op (.t 70) .mv [.t 74],
 op (.t 75) (.ext 0) [.t 70],
 op (.t 76) (.ext 1) [.t 70],
 ⟨.bx,.alloc [.int .u8 0,.str [],.list true [],.list true []],[],some 7,none⟩,
 ⟨.none,.stLc 7 4,[.l 7,.ts 75],some 7,none⟩,
 op (.t 8) .mv [.t 76]]
def a88s43 : ACode := .reg [7] a88r42
def a88r44 : List AOper := [
 op (.t 77) (.fad 0) [.l 7],
 ⟨.v 9,.ldLc 7 false 1,[.t 77],some 7,none⟩]
def a88s45 : ACode := .reg [] a88r44
def a88r46 : List AOper := [
 op (.t 80) (.bin .eql) [.v 9,.c (.int .u8 4)],
 op (.t 79) .mv [.t 80]]
def a88r47 : List AOper := [
 op (.t 81) (.fad 0) [.l 5],
 ⟨.t 82,.ldLc 5 false 1,[.t 81],some 5,none⟩,
 op (.t 83) (.bin .eql) [.t 82,.c (.int .u8 4)],
 op (.t 84) .mv [.t 83],
 ⟨.t 85,.fad 3,[.l 7],none,some (.t 84,true)⟩,
 ⟨.t 86,.ldLc 7 false 1,[.t 85],some 7,some (.t 84,true)⟩,
 ⟨.t 87,.fad 2,[.l 5],none,some (.t 84,true)⟩,
 ⟨.t 88,.ldLc 5 false 1,[.t 87],some 5,some (.t 84,true)⟩,
 ⟨.t 89,.call 37,[.t 86,.t 88],none,some (.t 84,true)⟩,
 op (.t 90) .pick [.t 84,.t 89,.c (.bool false)],
 op (.v 6) .mv [.t 90]]
def a88s48 : ACode := .reg [] a88r47
def a88s49 : ACode := .seq a88s48 .ret
def a88r50 : List AOper := [
 op (.t 92) (.bin .eql) [.v 9,.c (.int .u8 5)],
 op (.t 91) .mv [.t 92]]
def a88r51 : List AOper := [
 op (.t 93) (.fad 0) [.l 5],
 ⟨.t 94,.ldLc 5 false 1,[.t 93],some 5,none⟩,
 op (.t 95) (.bin .eql) [.t 94,.c (.int .u8 6)],
 op (.t 96) .mv [.t 95],
 ⟨.t 97,.ldSt false 1,[.v 3],none,some (.t 96,true)⟩,
 ⟨.t 98,.ldLc 7 true 4,[.l 7],some 7,some (.t 96,true)⟩,
 ⟨.t 99,.ldLc 5 true 5,[.l 5],some 5,some (.t 96,true)⟩,
 ⟨.t 100,.call 106,[.t 97,.t 98,.t 99],none,some (.t 96,true)⟩,
 op (.t 101) .pick [.t 96,.t 100,.c (.bool false)],
 op (.v 6) .mv [.t 101]]
def a88s52 : ACode := .reg [] a88r51
def a88s53 : ACode := .seq a88s52 .ret
def a88s54 : ACode := .test [] a88r50 (.t 91) a88s53 .skip
def a88s55 : ACode := .test [] a88r46 (.t 79) a88s49 a88s54
def a88s56 : ACode := .blk 1 a88s55
def a88s57 : ACode := .seq a88s45 a88s56
def a88r58 : List AOper := [
 op (.v 6) .mv [.c (.bool false)]]
def a88s59 : ACode := .reg [] a88r58
def a88s60 : ACode := .seq a88s59 .ret
def a88s61 : ACode := .seq a88s57 a88s60
def a88s62 : ACode := .seq a88s43 a88s61
def a88s63 : ACode := .seq a88s41 a88s62
def a88s64 : ACode := .seq a88s17 a88s63
def a88s65 : ACode := .seq a88s6 a88s64
def a88s66 : ACode := .seq a88s1 a88s65
def a88c : ACode :=
  a88s66
def a88 : AFn := { np := 3,nv := 10,results := [.v 6],code := a88c }
def a88v : List Nat := [0,1,2,3,4,5,6,7,35,78]
def a88b : List Nat := [5,7]

def a89r0 : List AOper := [
 op (.v 2) .mv [.c (.bool false)]]
def a89s1 : ACode := .reg [] a89r0
def a89r2 : List AOper := [
 op (.t 5) .mv [.v 0],
 op (.t 6) .mv [.v 1],
 op (.t 7) (.call 107) [.t 5,.t 6],
 op (.t 8) (.bin .geq) [.t 7,.c (.int .i64 0)],
 op (.v 2) .mv [.t 8]]
def a89s3 : ACode := .reg [] a89r2
def a89s4 : ACode := .seq a89s3 .ret
def a89s5 : ACode := .seq a89s1 a89s4
def a89c : ACode :=
  a89s5
def a89 : AFn := { np := 2,nv := 3,results := [.v 2],code := a89c }
def a89v : List Nat := [0,1,4]
def a89b : List Nat := []

def a90r0 : List AOper := [
 ⟨.bx,.boxV,[.v 0],some 2,none⟩,
 op (.v 3) .mv [.c (.bool false)]]
def a90s1 : ACode := .reg [2] a90r0
def a90r2 : List AOper := [
 op (.t 5) (.fad 2) [.v 1],
 op (.t 6) (.ldSt false 1) [.t 5],
 op (.t 7) (.call 59) [.t 6],
 op (.t 8) (.fad 0) [.l 2],
 ⟨.t 9,.ldLc 2 false 1,[.t 8],some 2,none⟩,
 op (.t 10) (.call 30) [.t 7,.t 9],
 op (.v 4) .mv [.t 10]]
def a90s3 : ACode := .reg [] a90r2
def a90r4 : List AOper := [
 op (.t 11) .mv [.v 4],
 op (.t 12) (.bin .lss) [.t 11,.c (.int .i64 0)],
 op (.t 13) .mv [.t 12],
 ⟨.t 14,.fad 2,[.v 1],none,some (.t 13,false)⟩,
 ⟨.t 15,.ldSt false 1,[.t 14],none,some (.t 13,false)⟩,
 ⟨.t 16,.mv,[.v 4],none,some (.t 13,false)⟩,
 ⟨.t 17,.iad 11,[.t 15,.t 16],none,some (.t 13,false)⟩,
 ⟨.t 18,.fad 2,[.t 17],none,some (.t 13,false)⟩,
 ⟨.t 19,.ldRo true 3,[.t 18],none,some (.t 13,false)⟩,
 ⟨.t 20,.fad 2,[.l 2],none,some (.t 13,false)⟩,
 ⟨.t 21,.ldLc 2 true 3,[.t 20],some 2,some (.t 13,false)⟩,
 ⟨.t 22,.call 91,[.t 19,.t 21],none,some (.t 13,false)⟩,
 ⟨.t 23,.un .not,[.t 22],none,some (.t 13,false)⟩,
 op (.t 24) .pick [.t 13,.c (.bool true),.t 23],
 op (.v 3) .mv [.t 24]]
def a90s5 : ACode := .reg [] a90r4
def a90s6 : ACode := .seq a90s5 .ret
def a90s7 : ACode := .seq a90s3 a90s6
def a90s8 : ACode := .seq a90s1 a90s7
def a90c : ACode :=
  a90s8
def a90 : AFn := { np := 2,nv := 5,results := [.v 3],code := a90c }
def a90v : List Nat := [0,1,2,3,4]
def a90b : List Nat := [2]

def a91r0 : List AOper := [
 ⟨.bx,.boxV,[.v 0],some 2,none⟩,
 ⟨.bx,.boxV,[.v 1],some 3,none⟩,
 op (.v 4) .mv [.c (.bool false)]]
def a91s1 : ACode := .reg [2,3] a91r0
def a91r2 : List AOper := [
 op (.t 5) (.fad 0) [.l 2],
 ⟨.t 6,.ldLc 2 false 1,[.t 5],some 2,none⟩,
 op (.t 7) (.fad 0) [.l 3],
 ⟨.t 8,.ldLc 3 false 1,[.t 7],some 3,none⟩,
 op (.t 9) (.bin .eql) [.t 6,.t 8],
 op (.t 10) .mv [.t 9],
 ⟨.t 11,.fad 2,[.l 2],none,some (.t 10,true)⟩,
 ⟨.t 12,.ldLc 2 false 1,[.t 11],some 2,some (.t 10,true)⟩,
 ⟨.t 13,.fad 2,[.l 3],none,some (.t 10,true)⟩,
 ⟨.t 14,.ldLc 3 false 1,[.t 13],some 3,some (.t 10,true)⟩,
 ⟨.t 15,.binB .eql,[.t 12,.t 14],none,some (.t 10,true)⟩,
 op (.t 16) .pick [.t 10,.t 15,.c (.bool false)],
 op (.t 17) .mv [.t 16],
 ⟨.t 18,.fad 1,[.l 2],none,some (.t 17,true)⟩,
 ⟨.t 19,.ldLc 2 false 1,[.t 18],some 2,some (.t 17,true)⟩,
 ⟨.t 20,.fad 1,[.l 3],none,some (.t 17,true)⟩,
 ⟨.t 21,.ldLc 3 false 1,[.t 20],some 3,some (.t 17,true)⟩,
 ⟨.t 22,.call 108,[.t 19,.t 21,.c (.func 91 [] [])],none,some (.t 17,true)⟩,
 op (.t 23) .pick [.t 17,.t 22,.c (.bool false)],
 op (.v 4) .mv [.t 23]]
def a91s3 : ACode := .reg [] a91r2
def a91s4 : ACode := .seq a91s3 .ret
def a91s5 : ACode := .seq a91s1 a91s4
def a91c : ACode :=
  a91s5
def a91 : AFn := { np := 2,nv := 5,results := [.v 4],code := a91c }
def a91v : List Nat := [0,1,2,3,4]
def a91b : List Nat := [2,3]

def a92r0 : List AOper := [
 ⟨.bx,.boxV,[.v 0],some 1,none⟩,
 op (.v 2) .mv [.c (.bool false)]]
def a92s1 : ACode := .reg [1] a92r0
def a92r2 : List AOper := [
 op (.t 3) (.fad 0) [.l 1],
 ⟨.t 4,.ldLc 1 false 1,[.t 3],some 1,none⟩,
 op (.t 5) (.bin .eql) [.t 4,.c (.str [105,100])],
 op (.t 6) .mv [.t 5],
 ⟨.t 7,.fad 5,[.l 1],none,some (.t 6,true)⟩,
 ⟨.t 8,.ldLc 1 false 1,[.t 7],some 1,some (.t 6,true)⟩,
 ⟨.t 9,.un .not,[.t 8],none,some (.t 6,true)⟩,
 op (.t 10) .pick [.t 6,.t 9,.c (.bool false)],
 op (.t 11) .mv [.t 10],
 ⟨.t 12,.fad 2,[.l 1],none,some (.t 11,true)⟩,
 ⟨.t 13,.ldLc 1 true 3,[.t 12],some 1,some (.t 11,true)⟩,
 ⟨.t 14,(.build [.str [],.list true [],.bool false] [(0,1),(2,1)]),[.c (.str [73,68]),.c (.bool true)],none,some (.t 11,true)⟩,
 ⟨.t 15,.call 91,[.t 13,.t 14],none,some (.t 11,true)⟩,
 op (.t 16) .pick [.t 11,.t 15,.c (.bool false)],
 op (.v 2) .mv [.t 16]]
def a92s3 : ACode := .reg [] a92r2
def a92s4 : ACode := .seq a92s3 .ret
def a92s5 : ACode := .seq a92s1 a92s4
def a92c : ACode :=
  a92s5
def a92 : AFn := { np := 1,nv := 3,results := [.v 2],code := a92c }
def a92v : List Nat := [0,1,2]
def a92b : List Nat := [1]

def a93r0 : List AOper := [
 op (.v 2) .mv [.c (.bool false)]]
def a93s1 : ACode := .reg [] a93r0
def a93r2 : List AOper := [
 op (.t 5) .mv [.v 1],
 op (.t 6) (.call 61) [.t 5],
 op (.t 7) (.un .not) [.t 6],
 op (.t 8) .mv [.t 7],
 ⟨.t 9,.mv,[.v 0],none,some (.t 8,true)⟩,
 ⟨.t 10,.mv,[.v 1],none,some (.t 8,true)⟩,
 ⟨.t 11,.call 103,[.t 9,.t 10,.c (.int .u8 1)],none,some (.t 8,true)⟩,
 ⟨.t 12,.mv,[.t 11],none,some (.t 8,true)⟩,
 ⟨.t 13,.mv,[.v 0],none,some (.t 12,false)⟩,
 ⟨.t 14,.mv,[.v 1],none,some (.t 12,false)⟩,
 ⟨.t 15,.call 103,[.t 13,.t 14,.c (.int .u8 2)],none,some (.t 12,false)⟩,
 ⟨.t 16,.pick,[.t 12,.c (.bool true),.t 15],none,some (.t 8,true)⟩,
 ⟨.t 17,.mv,[.t 16],none,some (.t 8,true)⟩,
 ⟨.t 18,.mv,[.v 0],none,some (.t 17,false)⟩,
 ⟨.t 19,.mv,[.v 1],none,some (.t 17,false)⟩,
 ⟨.t 20,.call 103,[.t 18,.t 19,.c (.int .u8 3)],none,some (.t 17,false)⟩,
 ⟨.t 21,.pick,[.t 17,.c (.bool true),.t 20],none,some (.t 8,true)⟩,
 op (.t 22) .pick [.t 8,.t 21,.c (.bool false)],
 op (.v 2) .mv [.t 22]]
def a93s3 : ACode := .reg [] a93r2
def a93s4 : ACode := .seq a93s3 .ret
def a93s5 : ACode := .seq a93s1 a93s4
def a93c : ACode :=
  a93s5
def a93 : AFn := { np := 2,nv := 3,results := [.v 2],code := a93c }
def a93v : List Nat := [0,1,4]
def a93b : List Nat := []

def a94r0 : List AOper := [
 op (.v 1) .mv [.c (.str [])],
 op (.v 2) .mv [.c (.str [])]]
def a94s1 : ACode := .reg [] a94r0
def a94r2 : List AOper := [
 op (.v 6) (.bslice 1 [[.str []],[.str []],[.str []]] [0,1,2]) [.c (.str [99,114,101,97,116,101]),.c (.str [117,112,100,97,116,101]),.c (.str [100,101,108,101,116,101])],
 op (.v 7) .lenL [.v 6],
 op (.v 8) .mv [.c (.int .i64 0)]]
def a94s3 : ACode := .reg [] a94r2
def a94r4 : List AOper := [
 op (.t 11) (.bin .lss) [.v 8,.v 7]]
def a94s5 : ACode := .test [] a94r4 (.t 11) .skip (.exit 0)
def a94r6 : List AOper := [
 op (.t 12) (.iad 1) [.v 6,.v 8],
 op (.t 13) (.ldRo false 1) [.t 12],
 op (.v 3) .mv [.t 13]]
def a94s7 : ACode := .reg [] a94r6
def a94r8 : List AOper := [
 op (.t 15) .mv [.v 0],
 op (.t 16) .mv [.v 3],
 op (.t 17) (.call 109) [.t 15,.t 16],
 op (.t 14) .mv [.t 17],
 op (.t 18) (.ext 0) [.t 14],
 op (.t 19) (.ext 1) [.t 14],
 op (.v 4) .mv [.t 18],
 op (.v 5) .mv [.t 19]]
def a94s9 : ACode := .reg [] a94r8
def a94r10 : List AOper := [
 op (.t 20) .mv [.v 5]]
def a94r11 : List AOper := [
 op (.t 21) .mv [.v 3],
 op (.t 22) .mv [.v 4],
 op (.v 1) .mv [.t 21],
 op (.v 2) .mv [.t 22]]
def a94s12 : ACode := .reg [] a94r11
def a94s13 : ACode := .seq a94s12 .ret
def a94s14 : ACode := .test [] a94r10 (.t 20) a94s13 .skip
def a94s15 : ACode := .seq a94s9 a94s14
def a94s16 : ACode := .seq a94s7 a94s15
def a94s17 : ACode := .blk 1 a94s16
def a94r18 : List AOper := [
 op (.t 23) (.bin .add) [.v 8,.c (.int .i64 1)],
 op (.v 8) .mv [.t 23]]
def a94s19 : ACode := .reg [] a94r18
def a94s20 : ACode := .seq a94s17 a94s19
def a94s21 : ACode := .seq a94s5 a94s20
def a94s22 : ACode := .loop a94s21
def a94s23 : ACode := .blk 0 a94s22
def a94s24 : ACode := .seq a94s3 a94s23
def a94r25 : List AOper := [
 op (.v 1) .mv [.c (.str [])],
 op (.v 2) .mv [.c (.str [])]]
def a94s26 : ACode := .reg [] a94r25
def a94s27 : ACode := .seq a94s26 .ret
def a94s28 : ACode := .seq a94s24 a94s27
def a94s29 : ACode := .seq a94s1 a94s28
def a94c : ACode :=
  a94s29
def a94 : AFn := { np := 1,nv := 9,results := [.v 1,.v 2],code := a94c }
def a94v : List Nat := [0,2,3,5,6,7,8,9,10]
def a94b : List Nat := []

def a95r0 : List AOper := [
 ⟨.bx,.boxV,[.v 0],some 3,none⟩,
 op (.v 4) .mv [.c (.bool false)]]
def a95s1 : ACode := .reg [3] a95r0
def a95r2 : List AOper := [
 op (.t 6) (.fad 2) [.v 1],
 op (.t 7) (.ldSt false 1) [.t 6],
 op (.t 8) (.call 59) [.t 7],
 op (.t 9) (.fad 0) [.l 3],
 ⟨.t 10,.ldLc 3 false 1,[.t 9],some 3,none⟩,
 op (.t 11) (.call 30) [.t 8,.t 10],
 op (.v 5) .mv [.t 11]]
def a95s3 : ACode := .reg [] a95r2
def a95r4 : List AOper := [
 op (.t 12) .mv [.v 5],
 op (.t 13) (.bin .lss) [.t 12,.c (.int .i64 0)],
 op (.t 14) .mv [.t 13],
 ⟨.t 15,.ldSt false 1,[.v 2],none,some (.t 14,false)⟩,
 ⟨.t 16,.fad 2,[.v 1],none,some (.t 14,false)⟩,
 ⟨.t 17,.ldSt false 1,[.t 16],none,some (.t 14,false)⟩,
 ⟨.t 18,.mv,[.v 5],none,some (.t 14,false)⟩,
 ⟨.t 19,.iad 11,[.t 17,.t 18],none,some (.t 14,false)⟩,
 ⟨.t 20,.fad 2,[.t 19],none,some (.t 14,false)⟩,
 ⟨.t 21,.ldRo true 3,[.t 20],none,some (.t 14,false)⟩,
 ⟨.t 22,.fad 2,[.l 3],none,some (.t 14,false)⟩,
 ⟨.t 23,.ldLc 3 true 3,[.t 22],some 3,some (.t 14,false)⟩,
 ⟨.t 24,.call 96,[.t 15,.t 21,.t 23],none,some (.t 14,false)⟩,
 ⟨.t 25,.un .not,[.t 24],none,some (.t 14,false)⟩,
 op (.t 26) .pick [.t 14,.c (.bool true),.t 25],
 op (.v 4) .mv [.t 26]]
def a95s5 : ACode := .reg [] a95r4
def a95s6 : ACode := .seq a95s5 .ret
def a95s7 : ACode := .seq a95s3 a95s6
def a95s8 : ACode := .seq a95s1 a95s7
def a95c : ACode :=
  a95s8
def a95 : AFn := { np := 3,nv := 6,results := [.v 4],code := a95c }
def a95v : List Nat := [0,1,2,3,4,5]
def a95b : List Nat := [3]

def a96r0 : List AOper := [
 ⟨.bx,.boxV,[.v 1],some 3,none⟩,
 ⟨.bx,.boxV,[.v 2],some 4,none⟩,
 op (.v 5) .mv [.c (.bool false)]]
def a96s1 : ACode := .reg [3,4] a96r0
def a96r2 : List AOper := [
 op (.t 7) (.fad 1) [.l 3],
 ⟨.t 8,.ldLc 3 false 1,[.t 7],some 3,none⟩,
 op (.t 9) .lenL [.t 8],
 op (.t 10) (.fad 1) [.l 4],
 ⟨.t 11,.ldLc 4 false 1,[.t 10],some 4,none⟩,
 op (.t 12) .lenL [.t 11],
 op (.t 13) (.bin .neq) [.t 9,.t 12]]
def a96r3 : List AOper := [
 op (.v 5) .mv [.c (.bool false)]]
def a96s4 : ACode := .reg [] a96r3
def a96s5 : ACode := .seq a96s4 .ret
def a96s6 : ACode := .test [] a96r2 (.t 13) a96s5 .skip
def a96r7 : List AOper := [
 op (.t 14) (.fad 1) [.l 3],
 ⟨.t 15,.ldLc 3 false 1,[.t 14],some 3,none⟩,
 op (.t 16) .lenL [.t 15],
 op (.t 17) (.bin .gtr) [.t 16,.c (.int .i64 0)]]
def a96r8 : List AOper := [
 op (.t 18) .mv [.v 0],
 op (.t 19) (.fad 1) [.l 3],
 ⟨.t 20,.ldLc 3 false 1,[.t 19],some 3,none⟩,
 op (.t 21) (.iad 3) [.t 20,.c (.int .i64 0)],
 op (.t 22) (.ldRo true 3) [.t 21],
 op (.t 23) (.fad 1) [.l 4],
 ⟨.t 24,.ldLc 4 false 1,[.t 23],some 4,none⟩,
 op (.t 25) (.iad 3) [.t 24,.c (.int .i64 0)],
 op (.t 26) (.ldRo true 3) [.t 25],
 op (.t 27) (.call 96) [.t 18,.t 22,.t 26],
 op (.v 5) .mv [.t 27]]
def a96s9 : ACode := .reg [] a96r8
def a96s10 : ACode := .seq a96s9 .ret
def a96s11 : ACode := .test [] a96r7 (.t 17) a96s10 .skip
def a96r12 : List AOper := [
 op (.t 28) (.fad 0) [.l 3],
 ⟨.t 29,.ldLc 3 false 1,[.t 28],some 3,none⟩,
 op (.t 30) (.fad 0) [.l 4],
 ⟨.t 31,.ldLc 4 false 1,[.t 30],some 4,none⟩,
 op (.t 32) (.bin .eql) [.t 29,.t 31],
 op (.t 33) .mv [.t 32],
 ⟨.t 34,.mv,[.v 0],none,some (.t 33,false)⟩,
 ⟨.t 35,.fad 0,[.l 3],none,some (.t 33,false)⟩,
 ⟨.t 36,.ldLc 3 false 1,[.t 35],some 3,some (.t 33,false)⟩,
 ⟨.t 37,.call 93,[.t 34,.t 36],none,some (.t 33,false)⟩,
 ⟨.t 38,.mv,[.t 37],none,some (.t 33,false)⟩,
 ⟨.t 39,.fad 0,[.l 4],none,some (.t 38,true)⟩,
 ⟨.t 40,.ldLc 4 false 1,[.t 39],some 4,some (.t 38,true)⟩,
 ⟨.t 41,.bin .eql,[.t 40,.c (.str [73,68])],none,some (.t 38,true)⟩,
 ⟨.t 42,.pick,[.t 38,.t 41,.c (.bool false)],none,some (.t 33,false)⟩,
 op (.t 43) .pick [.t 33,.c (.bool true),.t 42],
 op (.v 5) .mv [.t 43]]
def a96s13 : ACode := .reg [] a96r12
def a96s14 : ACode := .seq a96s13 .ret
def a96s15 : ACode := .seq a96s11 a96s14
def a96s16 : ACode := .seq a96s6 a96s15
def a96s17 : ACode := .seq a96s1 a96s16
def a96c : ACode :=
  a96s17
def a96 : AFn := { np := 3,nv := 6,results := [.v 5],code := a96c }
def a96v : List Nat := [0,1,2,4,5,6]
def a96b : List Nat := [3,4]

def a97r0 : List AOper := [
 op (.v 2) .mv [.c (.bool false)]]
def a97s1 : ACode := .reg [] a97r0
def a97r2 : List AOper := [
 op (.t 5) .mv [.v 1],
 op (.t 6) (.call 42) [.t 5],
 op (.t 7) .mv [.t 6],
 ⟨.t 8,.mv,[.v 0],none,some (.t 7,false)⟩,
 ⟨.t 9,.mv,[.v 1],none,some (.t 7,false)⟩,
 ⟨.t 10,.call 27,[.t 8,.t 9],none,some (.t 7,false)⟩,
 ⟨.t 11,.fld 0 1 false,[.t 10],none,some (.t 7,false)⟩,
 ⟨.t 12,.bin .eql,[.t 11,.c (.int .u8 4)],none,some (.t 7,false)⟩,
 op (.t 13) .pick [.t 7,.c (.bool true),.t 12],
 op (.v 2) .mv [.t 13]]
def a97s3 : ACode := .reg [] a97r2
def a97s4 : ACode := .seq a97s3 .ret
def a97s5 : ACode := .seq a97s1 a97s4
def a97c : ACode :=
  a97s5
def a97 : AFn := { np := 2,nv := 3,results := [.v 2],code := a97c }
def a97v : List Nat := [0,1,4]
def a97b : List Nat := []

def a98r0 : List AOper := [
 op (.v 1) .mv [.c (.str [])],
 op (.v 2) .mv [.c (.str [])]]
def a98s1 : ACode := .reg [] a98r0
def a98r2 : List AOper := [
 op (.t 6) (.bslice 1 [[.str []],[.str []],[.str []]] [0,1,2]) [.c (.str [99,114,101,97,116,101]),.c (.str [117,112,100,97,116,101]),.c (.str [100,101,108,101,116,101])],
 op (.v 3) .mv [.ts 6]]
def a98s3 : ACode := .reg [] a98r2
def a98r4 : List AOper := [
 op (.v 4) .mv [.c (.int .i64 0)]]
def a98s5 : ACode := .reg [] a98r4
def a98r6 : List AOper := [
 op (.t 7) .mv [.v 4],
 op (.t 8) (.bin .lss) [.t 7,.c (.int .i64 3)]]
def a98s7 : ACode := .test [] a98r6 (.t 8) .skip (.exit 0)
def a98r8 : List AOper := [
 op (.t 11) .mv [.v 0],
 op (.t 12) .mv [.v 3],
 op (.t 13) .mv [.v 4],
 op (.t 14) (.iad 1) [.t 12,.t 13],
 op (.t 15) (.ldRo false 1) [.t 14],
 op (.t 16) (.call 43) [.t 11,.t 15]]
def a98r9 : List AOper := [
 op (.t 17) .mv [.v 3],
 op (.t 18) .mv [.v 4],
 op (.t 19) (.iad 1) [.t 17,.t 18],
 op (.t 20) (.ldRo false 1) [.t 19],
 op (.t 21) .mv [.v 0],
 op (.t 22) (.slS true false) [.t 21,.c (.int .i64 6)],
 op (.v 1) .mv [.t 20],
 op (.v 2) .mv [.t 22]]
def a98s10 : ACode := .reg [] a98r9
def a98s11 : ACode := .seq a98s10 .ret
def a98s12 : ACode := .test [] a98r8 (.t 16) a98s11 .skip
def a98s13 : ACode := .blk 1 a98s12
def a98r14 : List AOper := [
 op (.t 9) .mv [.v 4],
 op (.t 10) (.bin .add) [.t 9,.c (.int .i64 1)],
 op (.v 4) .mv [.t 10]]
def a98s15 : ACode := .reg [] a98r14
def a98s16 : ACode := .seq a98s13 a98s15
def a98s17 : ACode := .seq a98s7 a98s16
def a98s18 : ACode := .loop a98s17
def a98s19 : ACode := .blk 0 a98s18
def a98s20 : ACode := .seq a98s5 a98s19
def a98r21 : List AOper := [
 op (.v 1) .mv [.c (.str [])],
 op (.v 2) .mv [.c (.str [])]]
def a98s22 : ACode := .reg [] a98r21
def a98s23 : ACode := .seq a98s22 .ret
def a98s24 : ACode := .seq a98s20 a98s23
def a98s25 : ACode := .seq a98s3 a98s24
def a98s26 : ACode := .seq a98s1 a98s25
def a98c : ACode :=
  a98s26
def a98 : AFn := { np := 1,nv := 5,results := [.v 1,.v 2],code := a98c }
def a98v : List Nat := [0,2,3,4,5]
def a98b : List Nat := []

def a99r0 : List AOper := [
 ⟨.bx,.boxV,[.v 1],some 3,none⟩,
 ⟨.bx,.boxV,[.v 2],some 4,none⟩,
 op (.v 5) .mv [.c (.bool false)]]
def a99s1 : ACode := .reg [3,4] a99r0
def a99r2 : List AOper := [
 op (.t 7) (.fad 1) [.l 3],
 ⟨.t 8,.ldLc 3 false 1,[.t 7],some 3,none⟩,
 op (.t 9) .lenL [.t 8],
 op (.t 10) (.bin .gtr) [.t 9,.c (.int .i64 0)],
 op (.t 11) .mv [.t 10],
 ⟨.t 12,.fad 1,[.l 4],none,some (.t 11,false)⟩,
 ⟨.t 13,.ldLc 4 false 1,[.t 12],some 4,some (.t 11,false)⟩,
 ⟨.t 14,.lenL,[.t 13],none,some (.t 11,false)⟩,
 ⟨.t 15,.bin .gtr,[.t 14,.c (.int .i64 0)],none,some (.t 11,false)⟩,
 op (.t 16) .pick [.t 11,.c (.bool true),.t 15]]
def a99r3 : List AOper := [
 op (.t 17) (.fad 1) [.l 3],
 ⟨.t 18,.ldLc 3 false 1,[.t 17],some 3,none⟩,
 op (.t 19) .lenL [.t 18],
 op (.t 20) (.bin .gtr) [.t 19,.c (.int .i64 0)],
 op (.t 21) .mv [.t 20],
 ⟨.t 22,.fad 1,[.l 4],none,some (.t 21,true)⟩,
 ⟨.t 23,.ldLc 4 false 1,[.t 22],some 4,some (.t 21,true)⟩,
 ⟨.t 24,.lenL,[.t 23],none,some (.t 21,true)⟩,
 ⟨.t 25,.bin .gtr,[.t 24,.c (.int .i64 0)],none,some (.t 21,true)⟩,
 op (.t 26) .pick [.t 21,.t 25,.c (.bool false)],
 op (.t 27) .mv [.t 26],
 ⟨.t 28,.mv,[.v 0],none,some (.t 27,true)⟩,
 ⟨.t 29,.fad 1,[.l 3],none,some (.t 27,true)⟩,
 ⟨.t 30,.ldLc 3 false 1,[.t 29],some 3,some (.t 27,true)⟩,
 ⟨.t 31,.iad 3,[.t 30,.c (.int .i64 0)],none,some (.t 27,true)⟩,
 ⟨.t 32,.ldRo true 3,[.t 31],none,some (.t 27,true)⟩,
 ⟨.t 33,.fad 1,[.l 4],none,some (.t 27,true)⟩,
 ⟨.t 34,.ldLc 4 false 1,[.t 33],some 4,some (.t 27,true)⟩,
 ⟨.t 35,.iad 3,[.t 34,.c (.int .i64 0)],none,some (.t 27,true)⟩,
 ⟨.t 36,.ldRo true 3,[.t 35],none,some (.t 27,true)⟩,
 ⟨.t 37,.call 99,[.t 28,.t 32,.t 36],none,some (.t 27,true)⟩,
 op (.t 38) .pick [.t 27,.t 37,.c (.bool false)],
 op (.v 5) .mv [.t 38]]
def a99s4 : ACode := .reg [] a99r3
def a99s5 : ACode := .seq a99s4 .ret
def a99s6 : ACode := .test [] a99r2 (.t 16) a99s5 .skip
def a99r7 : List AOper := [
 op (.t 39) (.fad 0) [.l 3],
 ⟨.t 40,.ldLc 3 false 1,[.t 39],some 3,none⟩,
 op (.t 41) (.fad 0) [.l 4],
 ⟨.t 42,.ldLc 4 false 1,[.t 41],some 4,none⟩,
 op (.t 43) (.bin .eql) [.t 40,.t 42],
 op (.t 44) .mv [.t 43],
 ⟨.t 45,.fad 0,[.l 4],none,some (.t 44,false)⟩,
 ⟨.t 46,.ldLc 4 false 1,[.t 45],some 4,some (.t 44,false)⟩,
 ⟨.t 47,.bin .eql,[.t 46,.c (.str [73,68])],none,some (.t 44,false)⟩,
 ⟨.t 48,.mv,[.t 47],none,some (.t 44,false)⟩,
 ⟨.t 49,.mv,[.v 0],none,some (.t 48,true)⟩,
 ⟨.t 50,.fad 0,[.l 3],none,some (.t 48,true)⟩,
 ⟨.t 51,.ldLc 3 false 1,[.t 50],some 3,some (.t 48,true)⟩,
 ⟨.t 52,.call 72,[.t 49,.t 51],none,some (.t 48,true)⟩,
 ⟨.t 53,.pick,[.t 48,.t 52,.c (.bool false)],none,some (.t 44,false)⟩,
 op (.t 54) .pick [.t 44,.c (.bool true),.t 53],
 op (.v 5) .mv [.t 54]]
def a99s8 : ACode := .reg [] a99r7
def a99s9 : ACode := .seq a99s8 .ret
def a99s10 : ACode := .seq a99s6 a99s9
def a99s11 : ACode := .seq a99s1 a99s10
def a99c : ACode :=
  a99s11
def a99 : AFn := { np := 3,nv := 6,results := [.v 5],code := a99c }
def a99v : List Nat := [0,1,2,4,5,6]
def a99b : List Nat := [3,4]

def a101r0 : List AOper := [
 ⟨.bx,.boxV,[.v 0],some 2,none⟩,
 op (.v 3) .mv [.c (.bool false)]]
def a101s1 : ACode := .reg [2] a101r0
def a101r2 : List AOper := [
 op (.t 4) (.fad 0) [.l 2],
 ⟨.t 5,.ldLc 2 false 1,[.t 4],some 2,none⟩,
 op (.t 6) (.ldSt false 1) [.v 1],
 op (.t 7) (.bin .eql) [.t 5,.t 6],
 op (.v 3) .mv [.t 7]]
def a101s3 : ACode := .reg [] a101r2
def a101s4 : ACode := .seq a101s3 .ret
def a101s5 : ACode := .seq a101s1 a101s4
def a101c : ACode :=
  a101s5
def a101 : AFn := { np := 2,nv := 4,results := [.v 3],code := a101c }
def a101v : List Nat := [0,1,2,3]
def a101b : List Nat := [2]

def a102r0 : List AOper := [
 ⟨.bx,.alloc [.int .u8 0,.int .i64 0,.str [],.list true [],.list true []],[],some 2,none⟩]
def a102s1 : ACode := .reg [2] a102r0
def a102r2 : List AOper := [
 op (.t 10) .mv [.v 0],
 op (.t 11) .nilchk [.t 10],
 op (.t 12) (.fad 0) [.t 11],
 op (.t 13) (.ldSt false 1) [.t 12],
 op (.t 14) .mv [.v 0],
 op (.t 15) .nilchk [.t 14],
 op (.t 16) (.fad 1) [.t 15],
 op (.t 17) (.ldSt false 1) [.t 16],
 op (.t 18) (.iad 4) [.t 13,.t 17],
 op (.t 19) (.ldRo true 4) [.t 18],
 ⟨.bx,.alloc [.int .u8 0,.str [],.int .i64 0,.int .i64 0],[],some 3,none⟩,
 ⟨.none,.stLc 3 4,[.l 3,.t 19],some 3,none⟩]
def a102s3 : ACode := .reg [3] a102r2
def a102r4 : List AOper := [
 op (.t 21) (.fad 0) [.l 3],
 ⟨.t 22,.ldLc 3 false 1,[.t 21],some 3,none⟩,
 op (.t 23) (.bin .eql) [.t 22,.c (.int .u8 2)],
 op (.t 20) .mv [.t 23]]
def a102r5 : List AOper := [
 op (.t 24) .mv [.v 0],
 op (.t 25) .nilchk [.t 24],
 op (.t 26) (.fad 1) [.t 25],
 op (.t 27) (.ldSt false 1) [.t 26],
 op (.t 28) (.bin .add) [.t 27,.c (.int .i64 1)],
 op (.t 29) .nilchk [.t 24],
 op (.t 30) (.fad 1) [.t 29],
 op .none (.stSt 1) [.t 30,.t 28]]
def a102s6 : ACode := .reg [] a102r5
def a102r7 : List AOper := [
 op (.t 31) (.fad 2) [.l 3],
 ⟨.t 32,.ldLc 3 false 1,[.t 31],some 3,none⟩,
 op (.t 33) (.build [.int .u8 0,.int .i64 0,.str [],.list true [],.list true []] [(0,1),(1,1)]) [.c (.int .u8 1),.t 32],
 ⟨.none,.stLc 2 5,[.l 2,.ts 33],some 2,none⟩]
def a102s8 : ACode := .reg [] a102r7
def a102s9 : ACode := .seq a102s8 .ret
def a102s10 : ACode := .seq a102s6 a102s9
def a102r11 : List AOper := [
 op (.t 35) (.fad 0) [.l 3],
 ⟨.t 36,.ldLc 3 false 1,[.t 35],some 3,none⟩,
 op (.t 37) (.bin .eql) [.t 36,.c (.int .u8 3)],
 op (.t 34) .mv [.t 37]]
def a102r12 : List AOper := [
 op (.t 38) .mv [.v 0],
 op (.t 39) .nilchk [.t 38],
 op (.t 40) (.fad 1) [.t 39],
 op (.t 41) (.ldSt false 1) [.t 40],
 op (.t 42) (.bin .add) [.t 41,.c (.int .i64 1)],
 op (.t 43) .nilchk [.t 38],
 op (.t 44) (.fad 1) [.t 43],
 op .none (.stSt 1) [.t 44,.t 42]]
def a102s13 : ACode := .reg [] a102r12
def a102r14 : List AOper := [
 op (.t 45) (.fad 1) [.l 3],
 ⟨.t 46,.ldLc 3 false 1,[.t 45],some 3,none⟩,
 op (.t 47) (.build [.int .u8 0,.int .i64 0,.str [],.list true [],.list true []] [(0,1),(2,1)]) [.c (.int .u8 2),.t 46],
 ⟨.none,.stLc 2 5,[.l 2,.ts 47],some 2,none⟩]
def a102s15 : ACode := .reg [] a102r14
def a102s16 : ACode := .seq a102s15 .ret
def a102s17 : ACode := .seq a102s13 a102s16
def a102r18 : List AOper := [
 op (.t 49) .mv [.v 0],
 op (.t 50) (.call 54) [.t 49,.c (.str [116,114,117,101])],
 op (.t 48) .mv [.t 50]]
def a102r19 : List AOper := [
 op (.t 51) (.build [.int .u8 0,.int .i64 0,.str [],.list true [],.list true []] [(0,1),(1,1)]) [.c (.int .u8 3),.c (.int .i64 1)],
 ⟨.none,.stLc 2 5,[.l 2,.ts 51],some 2,none⟩]
def a102s20 : ACode := .reg [] a102r19
def a102s21 : ACode := .seq a102s20 .ret
def a102r22 : List AOper := [
 op (.t 53) .mv [.v 0],
 op (.t 54) (.call 54) [.t 53,.c (.str [102,97,108,115,101])],
 op (.t 52) .mv [.t 54]]
def a102r23 : List AOper := [
 op (.t 55) (.build [.int .u8 0,.int .i64 0,.str [],.list true [],.list true []] [(0,1)]) [.c (.int .u8 3)],
 ⟨.none,.stLc 2 5,[.l 2,.ts 55],some 2,none⟩]
def a102s24 : ACode := .reg [] a102r23
def a102s25 : ACode := .seq a102s24 .ret
def a102r26 : List AOper := [
 op (.t 57) .mv [.v 0],
 op (.t 58) (.call 54) [.t 57,.c (.str [110,117,108,108])],
 op (.t 56) .mv [.t 58]]
def a102r27 : List AOper := [
 op (.t 59) (.build [.int .u8 0,.int .i64 0,.str [],.list true [],.list true []] []) [],
 ⟨.none,.stLc 2 5,[.l 2,.ts 59],some 2,none⟩]
def a102s28 : ACode := .reg [] a102r27
def a102s29 : ACode := .seq a102s28 .ret
def a102r30 : List AOper := [
 op (.t 61) (.fad 0) [.l 3],
 ⟨.t 62,.ldLc 3 false 1,[.t 61],some 3,none⟩,
 op (.t 63) (.bin .eql) [.t 62,.c (.int .u8 1)],
 op (.t 60) .mv [.t 63]]
def a102r31 : List AOper := [
 op (.t 64) .mv [.v 0],
 op (.t 65) .nilchk [.t 64],
 op (.t 66) (.fad 1) [.t 65],
 op (.t 67) (.ldSt false 1) [.t 66],
 op (.t 68) (.bin .add) [.t 67,.c (.int .i64 1)],
 op (.t 69) .nilchk [.t 64],
 op (.t 70) (.fad 1) [.t 69],
 op .none (.stSt 1) [.t 70,.t 68]]
def a102s32 : ACode := .reg [] a102r31
def a102r33 : List AOper := [
 op (.t 71) (.fad 1) [.l 3],
 ⟨.t 72,.ldLc 3 false 1,[.t 71],some 3,none⟩,
 op (.t 73) (.build [.int .u8 0,.int .i64 0,.str [],.list true [],.list true []] [(0,1),(2,1)]) [.c (.int .u8 4),.t 72],
 ⟨.none,.stLc 2 5,[.l 2,.ts 73],some 2,none⟩]
def a102s34 : ACode := .reg [] a102r33
def a102s35 : ACode := .seq a102s34 .ret
def a102s36 : ACode := .seq a102s32 a102s35
def a102r37 : List AOper := [
 op (.t 75) .mv [.v 0],
 op (.t 76) (.call 81) [.t 75,.c (.str [36])],
 op (.t 77) .mv [.t 76],
 ⟨.t 78,.mv,[.v 1],none,some (.t 77,true)⟩,
 ⟨.t 79,.un .not,[.t 78],none,some (.t 77,true)⟩,
 op (.t 80) .pick [.t 77,.t 79,.c (.bool false)],
 op (.t 74) .mv [.t 80]]
def a102r38 : List AOper := [
 op (.t 81) .mv [.v 0],
 op (.t 82) .nilchk [.t 81],
 op (.t 83) (.fad 1) [.t 82],
 op (.t 84) (.ldSt false 1) [.t 83],
 op (.t 85) (.bin .add) [.t 84,.c (.int .i64 1)],
 op (.t 86) .nilchk [.t 81],
 op (.t 87) (.fad 1) [.t 86],
 op .none (.stSt 1) [.t 87,.t 85]]
def a102s39 : ACode := .reg [] a102r38
def a102r40 : List AOper := [
 op (.t 88) .mv [.v 0],
 op (.t 89) (.call 51) [.t 88],
 op (.t 90) (.build [.int .u8 0,.int .i64 0,.str [],.list true [],.list true []] [(0,1),(2,1)]) [.c (.int .u8 7),.t 89],
 ⟨.none,.stLc 2 5,[.l 2,.ts 90],some 2,none⟩]
def a102s41 : ACode := .reg [] a102r40
def a102s42 : ACode := .seq a102s41 .ret
def a102s43 : ACode := .seq a102s39 a102s42
def a102r44 : List AOper := [
 op (.t 92) .mv [.v 0],
 op (.t 93) (.call 54) [.t 92,.c (.str [91])],
 op (.t 91) .mv [.t 93]]
def a102r45 : List AOper := [
 op (.t 94) (.build [.int .u8 0,.int .i64 0,.str [],.list true [],.list true []] [(0,1)]) [.c (.int .u8 5)],
 ⟨.bx,.alloc [.int .u8 0,.int .i64 0,.str [],.list true [],.list true []],[],some 4,none⟩,
 ⟨.none,.stLc 4 5,[.l 4,.ts 94],some 4,none⟩]
def a102s46 : ACode := .reg [4] a102r45
def a102r47 : List AOper := [
 op (.t 95) .mv [.v 0],
 op (.t 96) .nilchk [.t 95],
 op (.t 97) (.fad 4) [.t 96],
 op (.t 98) (.ldSt false 1) [.t 97],
 op (.t 99) (.bin .eql) [.t 98,.c (.int .i64 0)],
 op (.t 100) .mv [.t 99],
 ⟨.t 101,.mv,[.v 0],none,some (.t 100,true)⟩,
 ⟨.t 102,.call 54,[.t 101,.c (.str [93])],none,some (.t 100,true)⟩,
 ⟨.t 103,.un .not,[.t 102],none,some (.t 100,true)⟩,
 op (.t 104) .pick [.t 100,.t 103,.c (.bool false)]]
def a102s48 : ACode := .test [] a102r47 (.t 104) .skip (.exit 1)
def a102r49 : List AOper := [
 op (.t 105) .mv [.v 0],
 op (.t 106) .mv [.v 1],
 op (.t 107) (.call 82) [.t 105,.t 106],
 ⟨.bx,.alloc [.int .u8 0,.int .i64 0,.str [],.list true [],.list true []],[],some 5,none⟩,
 ⟨.none,.stLc 5 5,[.l 5,.ts 107],some 5,none⟩]
def a102s50 : ACode := .reg [5] a102r49
def a102r51 : List AOper := [
 op (.t 108) (.fad 4) [.l 4],
 ⟨.t 109,.ldLcS 4,[.t 108],some 4,none⟩,
 ⟨.t 110,.ldLc 5 true 5,[.l 5],some 5,none⟩,
 op (.t 111) (.bslice 5 [[.int .u8 0,.int .i64 0,.str [],.list true [],.list true []]] [0]) [.t 110],
 op (.t 112) (.app 5 80) [.ts 109,.t 111],
 op (.t 113) (.fad 4) [.l 4],
 ⟨.none,.stLc 4 1,[.t 113,.ts 112],some 4,none⟩]
def a102s52 : ACode := .reg [] a102r51
def a102s53 : ACode := .seq a102s50 a102s52
def a102s54 : ACode := .blk 2 a102s53
def a102s55 : ACode := .seq a102s48 a102s54
def a102s56 : ACode := .loop a102s55
def a102s57 : ACode := .blk 1 a102s56
def a102r58 : List AOper := [
 ⟨.t 114,.ldLc 4 true 5,[.l 4],some 4,none⟩,
 ⟨.none,.stLc 2 5,[.l 2,.ts 114],some 2,none⟩]
def a102s59 : ACode := .reg [] a102r58
def a102s60 : ACode := .seq a102s59 .ret
def a102s61 : ACode := .seq a102s57 a102s60
def a102s62 : ACode := .seq a102s46 a102s61
def a102r63 : List AOper := [
 op (.t 116) .mv [.v 0],
 op (.t 117) (.call 54) [.t 116,.c (.str [123])],
 op (.t 115) .mv [.t 117]]
def a102r64 : List AOper := [
 op (.t 118) (.build [.int .u8 0,.int .i64 0,.str [],.list true [],.list true []] [(0,1)]) [.c (.int .u8 6)],
 ⟨.bx,.alloc [.int .u8 0,.int .i64 0,.str [],.list true [],.list true []],[],some 6,none⟩,
 ⟨.none,.stLc 6 5,[.l 6,.ts 118],some 6,none⟩]
def a102s65 : ACode := .reg [6] a102r64
def a102r66 : List AOper := [
 op (.t 119) .mv [.v 0],
 op (.t 120) .nilchk [.t 119],
 op (.t 121) (.fad 4) [.t 120],
 op (.t 122) (.ldSt false 1) [.t 121],
 op (.t 123) (.bin .eql) [.t 122,.c (.int .i64 0)],
 op (.t 124) .mv [.t 123],
 ⟨.t 125,.mv,[.v 0],none,some (.t 124,true)⟩,
 ⟨.t 126,.call 54,[.t 125,.c (.str [125])],none,some (.t 124,true)⟩,
 ⟨.t 127,.un .not,[.t 126],none,some (.t 124,true)⟩,
 op (.t 128) .pick [.t 124,.t 127,.c (.bool false)]]
def a102s67 : ACode := .test [] a102r66 (.t 128) .skip (.exit 3)
def a102r68 : List AOper := [
 op (.t 129) (.fad 3) [.l 6],
 ⟨.t 130,.ldLcS 6,[.t 129],some 6,none⟩,
 op (.t 131) .mv [.v 0],
 op (.t 132) (.call 51) [.t 131],
 op (.t 133) (.bslice 1 [[.str []]] [0]) [.t 132],
 op (.t 134) (.app 1 16) [.ts 130,.t 133],
 op (.t 135) (.fad 3) [.l 6],
 ⟨.none,.stLc 6 1,[.t 135,.ts 134],some 6,none⟩]
def a102s69 : ACode := .reg [] a102r68
def a102r70 : List AOper := [
 op (.t 136) .mv [.v 0],
 op (.t 137) (.call 52) [.t 136,.c (.str [58])]]
def a102s71 : ACode := .reg [] a102r70
def a102r72 : List AOper := [
 op (.t 138) .mv [.v 0],
 op (.t 139) .mv [.v 1],
 op (.t 140) (.call 82) [.t 138,.t 139],
 ⟨.bx,.alloc [.int .u8 0,.int .i64 0,.str [],.list true [],.list true []],[],some 7,none⟩,
 ⟨.none,.stLc 7 5,[.l 7,.ts 140],some 7,none⟩]
def a102s73 : ACode := .reg [7] a102r72
def a102r74 : List AOper := [
 op (.t 141) (.fad 4) [.l 6],
 ⟨.t 142,.ldLcS 6,[.t 141],some 6,none⟩,
 ⟨.t 143,.ldLc 7 true 5,[.l 7],some 7,none⟩,
 op (.t 144) (.bslice 5 [[.int .u8 0,.int .i64 0,.str [],.list true [],.list true []]] [0]) [.t 143],
 op (.t 145) (.app 5 80) [.ts 142,.t 144],
 op (.t 146) (.fad 4) [.l 6],
 ⟨.none,.stLc 6 1,[.t 146,.ts 145],some 6,none⟩]
def a102s75 : ACode := .reg [] a102r74
def a102s76 : ACode := .seq a102s73 a102s75
def a102s77 : ACode := .seq a102s71 a102s76
def a102s78 : ACode := .seq a102s69 a102s77
def a102s79 : ACode := .blk 4 a102s78
def a102s80 : ACode := .seq a102s67 a102s79
def a102s81 : ACode := .loop a102s80
def a102s82 : ACode := .blk 3 a102s81
def a102r83 : List AOper := [
 ⟨.t 147,.ldLc 6 true 5,[.l 6],some 6,none⟩,
 ⟨.none,.stLc 2 5,[.l 2,.ts 147],some 2,none⟩]
def a102s84 : ACode := .reg [] a102r83
def a102s85 : ACode := .seq a102s84 .ret
def a102s86 : ACode := .seq a102s82 a102s85
def a102s87 : ACode := .seq a102s65 a102s86
def a102s88 : ACode := .test [] a102r63 (.t 115) a102s87 .skip
def a102s89 : ACode := .test [] a102r44 (.t 91) a102s62 a102s88
def a102s90 : ACode := .test [] a102r37 (.t 74) a102s43 a102s89
def a102s91 : ACode := .test [] a102r30 (.t 60) a102s36 a102s90
def a102s92 : ACode := .test [] a102r26 (.t 56) a102s29 a102s91
def a102s93 : ACode := .test [] a102r22 (.t 52) a102s25 a102s92
def a102s94 : ACode := .test [] a102r18 (.t 48) a102s21 a102s93
def a102s95 : ACode := .test [] a102r11 (.t 34) a102s17 a102s94
def a102s96 : ACode := .test [] a102r4 (.t 20) a102s10 a102s95
def a102s97 : ACode := .blk 0 a102s96
def a102r98 : List AOper := [
 op (.t 148) .mv [.v 0],
 op (.t 149) (.call 50) [.t 148,.c (.int .i64 4)]]
def a102s99 : ACode := .reg [] a102r98
def a102r100 : List AOper := [
 op (.t 150) (.build [.int .u8 0,.int .i64 0,.str [],.list true [],.list true []] []) [],
 ⟨.none,.stLc 2 5,[.l 2,.ts 150],some 2,none⟩]
def a102s101 : ACode := .reg [] a102r100
def a102s102 : ACode := .seq a102s101 .ret
def a102s103 : ACode := .seq a102s99 a102s102
def a102s104 : ACode := .seq a102s97 a102s103
def a102s105 : ACode := .seq a102s3 a102s104
def a102s106 : ACode := .seq a102s1 a102s105
def a102c : ACode :=
  a102s106
def a102 : AFn := { np := 2,nv := 8,results := [.bx 2 true 5],code := a102c }
def a102v : List Nat := [0,1,4,5,6,7,8,9]
def a102b : List Nat := [2,3,4,5,6,7]

def a103r0 : List AOper := [
 op (.v 3) .mv [.c (.bool false)]]
def a103s1 : ACode := .reg [] a103r0
def a103r2 : List AOper := [
 op (.t 10) .mv [.v 0],
 op (.t 11) .mv [.v 1],
 op (.t 12) (.call 40) [.t 10,.t 11],
 op (.t 9) .mv [.t 12],
 op (.t 13) (.ext 0) [.t 9],
 op (.t 14) (.ext 1) [.t 9],
 ⟨.bx,.alloc [.int .u8 0,.str [],.list true [],.list true []],[],some 4,none⟩,
 ⟨.none,.stLc 4 4,[.l 4,.ts 13],some 4,none⟩,
 op (.v 5) .mv [.t 14]]
def a103s3 : ACode := .reg [4] a103r2
def a103r4 : List AOper := [
 op (.t 15) .mv [.v 5],
 op (.t 16) .mv [.t 15],
 ⟨.t 17,.fad 0,[.l 4],none,some (.t 16,true)⟩,
 ⟨.t 18,.ldLc 4 false 1,[.t 17],some 4,some (.t 16,true)⟩,
 ⟨.t 19,.mv,[.v 2],none,some (.t 16,true)⟩,
 ⟨.t 20,.bin .eql,[.t 18,.t 19],none,some (.t 16,true)⟩,
 op (.t 21) .pick [.t 16,.t 20,.c (.bool false)],
 op (.v 3) .mv [.t 21]]
def a103s5 : ACode := .reg [] a103r4
def a103s6 : ACode := .seq a103s5 .ret
def a103s7 : ACode := .seq a103s3 a103s6
def a103s8 : ACode := .seq a103s1 a103s7
def a103c : ACode :=
  a103s8
def a103 : AFn := { np := 3,nv := 6,results := [.v 3],code := a103c }
def a103v : List Nat := [0,1,2,6,7,8]
def a103b : List Nat := [4]

def a104r0 : List AOper := [
 op (.v 2) .mv [.c (.bool false)]]
def a104s1 : ACode := .reg [] a104r0
def a104r2 : List AOper := [
 op (.t 5) .mv [.v 0],
 op (.t 6) .mv [.v 1],
 op (.t 7) (.call 114) [.t 5,.t 6],
 op (.t 8) (.bin .geq) [.t 7,.c (.int .i64 0)],
 op (.v 2) .mv [.t 8]]
def a104s3 : ACode := .reg [] a104r2
def a104s4 : ACode := .seq a104s3 .ret
def a104s5 : ACode := .seq a104s1 a104s4
def a104c : ACode :=
  a104s5
def a104 : AFn := { np := 2,nv := 3,results := [.v 2],code := a104c }
def a104v : List Nat := [0,1,4]
def a104b : List Nat := []

def a105r0 : List AOper := [
 ⟨.bx,.boxV,[.v 0],some 3,none⟩,
 op (.v 4) .mv [.c (.bool false)]]
def a105s1 : ACode := .reg [3] a105r0
def a105r2 : List AOper := [
 op (.t 5) (.ldSt false 1) [.v 1],
 op (.t 6) (.fad 1) [.v 2],
 op (.t 7) (.ldSt false 1) [.t 6],
 op (.t 8) (.iad 3) [.t 7,.c (.int .i64 0)],
 op (.t 9) (.ldRo true 3) [.t 8],
 ⟨.t 10,.ldLc 3 true 5,[.l 3],some 3,none⟩,
 op (.t 11) (.call 88) [.t 5,.t 9,.t 10],
 op (.t 12) (.un .not) [.t 11],
 op (.v 4) .mv [.t 12]]
def a105s3 : ACode := .reg [] a105r2
def a105s4 : ACode := .seq a105s3 .ret
def a105s5 : ACode := .seq a105s1 a105s4
def a105c : ACode :=
  a105s5
def a105 : AFn := { np := 3,nv := 5,results := [.v 4],code := a105c }
def a105v : List Nat := [0,1,2,3,4]
def a105b : List Nat := [3]

def a106r0 : List AOper := [
 ⟨.bx,.boxV,[.v 1],some 3,none⟩,
 op (.v 4) .boxO [.v 2],
 op (.v 5) .mv [.c (.bool false)]]
def a106s1 : ACode := .reg [3] a106r0
def a106r2 : List AOper := [
 op (.t 10) (.fad 3) [.v 4],
 op (.v 9) (.ldSt false 1) [.t 10],
 op (.v 10) .lenL [.v 9],
 op (.v 11) .mv [.c (.int .i64 0)]]
def a106s3 : ACode := .reg [] a106r2
def a106r4 : List AOper := [
 op (.t 14) (.bin .lss) [.v 11,.v 10]]
def a106s5 : ACode := .test [] a106r4 (.t 14) .skip (.exit 0)
def a106r6 : List AOper := [
 op (.t 15) .mv [.v 11],
 op (.t 16) (.iad 1) [.v 9,.v 11],
 op (.t 17) (.ldRo false 1) [.t 16],
 op (.v 6) .mv [.t 15],
 op (.v 7) .mv [.t 17]]
def a106s7 : ACode := .reg [] a106r6
def a106r8 : List AOper := [
 op (.t 18) (.fad 2) [.l 3],
 ⟨.t 19,.ldLc 3 false 1,[.t 18],some 3,none⟩,
 op (.t 20) (.call 59) [.t 19],
 op (.t 21) .mv [.v 7],
 op (.t 22) (.call 30) [.t 20,.t 21],
 op (.v 8) .mv [.t 22]]
def a106s9 : ACode := .reg [] a106r8
def a106r10 : List AOper := [
 op (.t 23) .mv [.v 8],
 op (.t 24) (.bin .lss) [.t 23,.c (.int .i64 0)],
 op (.t 25) .mv [.t 24],
 ⟨.t 26,.fad 3,[.v 4],none,some (.t 25,false)⟩,
 ⟨.t 27,.ldSt false 1,[.t 26],none,some (.t 25,false)⟩,
 ⟨.t 28,.mv,[.v 6],none,some (.t 25,false)⟩,
 ⟨.t 29,.slL 1 false true,[.t 27,.t 28],none,some (.t 25,false)⟩,
 ⟨.t 30,.mv,[.v 7],none,some (.t 25,false)⟩,
 ⟨.t 31,.call 37,[.t 29,.t 30],none,some (.t 25,false)⟩,
 op (.t 32) .pick [.t 25,.c (.bool true),.t 31],
 op (.t 33) .mv [.t 32],
 ⟨.t 34,.mv,[.v 0],none,some (.t 33,false)⟩,
 ⟨.t 35,.fad 2,[.l 3],none,some (.t 33,false)⟩,
 ⟨.t 36,.ldLc 3 false 1,[.t 35],some 3,some (.t 33,false)⟩,
 ⟨.t 37,.mv,[.v 8],none,some (.t 33,false)⟩,
 ⟨.t 38,.iad 11,[.t 36,.t 37],none,some (.t 33,false)⟩,
 ⟨.t 39,.fad 2,[.t 38],none,some (.t 33,false)⟩,
 ⟨.t 40,.ldRo true 3,[.t 39],none,some (.t 33,false)⟩,
 ⟨.t 41,.fad 4,[.v 4],none,some (.t 33,false)⟩,
 ⟨.t 42,.ldSt false 1,[.t 41],none,some (.t 33,false)⟩,
 ⟨.t 43,.mv,[.v 6],none,some (.t 33,false)⟩,
 ⟨.t 44,.iad 5,[.t 42,.t 43],none,some (.t 33,false)⟩,
 ⟨.t 45,.ldAn true 5,[.t 44],none,some (.t 33,false)⟩,
 ⟨.t 46,.call 88,[.t 34,.t 40,.t 45],none,some (.t 33,false)⟩,
 ⟨.t 47,.un .not,[.t 46],none,some (.t 33,false)⟩,
 op (.t 48) .pick [.t 33,.c (.bool true),.t 47]]
def a106r11 : List AOper := [
 op (.v 5) .mv [.c (.bool false)]]
def a106s12 : ACode := .reg [] a106r11
def a106s13 : ACode := .seq a106s12 .ret
def a106s14 : ACode := .test [] a106r10 (.t 48) a106s13 .skip
def a106s15 : ACode := .seq a106s9 a106s14
def a106s16 : ACode := .seq a106s7 a106s15
def a106s17 : ACode := .blk 1 a106s16
def a106r18 : List AOper := [
 op (.t 49) (.bin .add) [.v 11,.c (.int .i64 1)],
 op (.v 11) .mv [.t 49]]
def a106s19 : ACode := .reg [] a106r18
def a106s20 : ACode := .seq a106s17 a106s19
def a106s21 : ACode := .seq a106s5 a106s20
def a106s22 : ACode := .loop a106s21
def a106s23 : ACode := .blk 0 a106s22
def a106s24 : ACode := .seq a106s3 a106s23
def a106r25 : List AOper := [
 op (.t 50) (.fad 2) [.l 3],
 ⟨.t 51,.ldLc 3 false 1,[.t 50],some 3,none⟩,
 op (.t 52) (.mkF 115 0) [.v 4],
 op (.t 53) (.call 89) [.t 51,.t 52],
 op (.t 54) (.un .not) [.t 53],
 op (.v 5) .mv [.t 54]]
def a106s26 : ACode := .reg [] a106r25
def a106s27 : ACode := .seq a106s26 .ret
def a106s28 : ACode := .seq a106s24 a106s27
def a106s29 : ACode := .seq a106s1 a106s28
def a106c : ACode :=
  a106s29
def a106 : AFn := { np := 3,nv := 12,results := [.v 5],code := a106c }
def a106v : List Nat := [0,1,2,4,5,6,7,8,9,11,12,13]
def a106b : List Nat := [3]

def a107r0 : List AOper := [
 op (.v 2) .mv [.c (.int .i64 0)]]
def a107s1 : ACode := .reg [] a107r0
def a107r2 : List AOper := [
 op (.t 6) .mv [.v 0],
 op (.v 4) .lenL [.t 6],
 op (.v 5) .mv [.c (.int .i64 0)]]
def a107s3 : ACode := .reg [] a107r2
def a107r4 : List AOper := [
 op (.t 9) (.bin .lss) [.v 5,.v 4]]
def a107s5 : ACode := .test [] a107r4 (.t 9) .skip (.exit 0)
def a107r6 : List AOper := [
 op (.t 10) .mv [.v 5],
 op (.v 3) .mv [.t 10]]
def a107s7 : ACode := .reg [] a107r6
def a107r8 : List AOper := [
 op (.t 11) .mv [.v 1],
 op (.t 12) .mv [.v 0],
 op (.t 13) .mv [.v 3],
 op (.t 14) (.iad 11) [.t 12,.t 13],
 op (.t 15) (.ldRo true 11) [.t 14],
 op (.t 16) .callV [.t 11,.t 15]]
def a107r9 : List AOper := [
 op (.t 17) .mv [.v 3],
 op (.v 2) .mv [.t 17]]
def a107s10 : ACode := .reg [] a107r9
def a107s11 : ACode := .seq a107s10 .ret
def a107s12 : ACode := .test [] a107r8 (.t 16) a107s11 .skip
def a107s13 : ACode := .seq a107s7 a107s12
def a107s14 : ACode := .blk 1 a107s13
def a107r15 : List AOper := [
 op (.t 18) (.bin .add) [.v 5,.c (.int .i64 1)],
 op (.v 5) .mv [.t 18]]
def a107s16 : ACode := .reg [] a107r15
def a107s17 : ACode := .seq a107s14 a107s16
def a107s18 : ACode := .seq a107s5 a107s17
def a107s19 : ACode := .loop a107s18
def a107s20 : ACode := .blk 0 a107s19
def a107s21 : ACode := .seq a107s3 a107s20
def a107r22 : List AOper := [
 op (.v 2) .mv [.c (.int .i64 (-1))]]
def a107s23 : ACode := .reg [] a107r22
def a107s24 : ACode := .seq a107s23 .ret
def a107s25 : ACode := .seq a107s21 a107s24
def a107s26 : ACode := .seq a107s1 a107s25
def a107c : ACode :=
  a107s26
def a107 : AFn := { np := 2,nv := 6,results := [.v 2],code := a107c }
def a107v : List Nat := [0,1,4,5,7,8]
def a107b : List Nat := []

def a108r0 : List AOper := [
 op (.v 3) .mv [.c (.bool false)]]
def a108s1 : ACode := .reg [] a108r0
def a108r2 : List AOper := [
 op (.t 10) .mv [.v 0],
 op (.t 11) .lenL [.t 10],
 op (.t 12) .mv [.v 1],
 op (.t 13) .lenL [.t 12],
 op (.t 14) (.bin .neq) [.t 11,.t 13]]
def a108r3 : List AOper := [
 op (.v 3) .mv [.c (.bool false)]]
def a108s4 : ACode := .reg [] a108r3
def a108s5 : ACode := .seq a108s4 .ret
def a108s6 : ACode := .test [] a108r2 (.t 14) a108s5 .skip
def a108r7 : List AOper := [
 op (.v 7) .mv [.v 0],
 op (.v 8) .lenL [.v 7],
 op (.v 9) .mv [.c (.int .i64 0)]]
def a108s8 : ACode := .reg [] a108r7
def a108r9 : List AOper := [
 op (.t 18) (.bin .lss) [.v 9,.v 8]]
def a108s10 : ACode := .test [] a108r9 (.t 18) .skip (.exit 0)
def a108r11 : List AOper := [
 op (.t 19) .mv [.v 9],
 op (.t 20) (.iad 3) [.v 7,.v 9],
 op (.t 21) (.ldRo true 3) [.t 20],
 ⟨.bx,.alloc [.str [],.list true [],.bool false],[],some 5,none⟩,
 op (.v 4) .mv [.t 19],
 ⟨.none,.stLc 5 3,[.l 5,.ts 21],some 5,none⟩]
def a108s12 : ACode := .reg [5] a108r11
def a108r13 : List AOper := [
 op (.t 22) .mv [.v 1],
 op (.t 23) .mv [.v 4],
 op (.t 24) (.iad 3) [.t 22,.t 23],
 op (.t 25) (.ldRo true 3) [.t 24],
 ⟨.bx,.alloc [.str [],.list true [],.bool false],[],some 6,none⟩,
 ⟨.none,.stLc 6 3,[.l 6,.ts 25],some 6,none⟩]
def a108s14 : ACode := .reg [6] a108r13
def a108r15 : List AOper := [
 op (.t 26) .mv [.v 2],
 ⟨.t 27,.ldLc 5 true 3,[.l 5],some 5,none⟩,
 ⟨.t 28,.ldLc 6 true 3,[.l 6],some 6,none⟩,
 op (.t 29) .callV [.t 26,.t 27,.t 28],
 op (.t 30) (.un .not) [.t 29]]
def a108r16 : List AOper := [
 op (.v 3) .mv [.c (.bool false)]]
def a108s17 : ACode := .reg [] a108r16
def a108s18 : ACode := .seq a108s17 .ret
def a108s19 : ACode := .test [] a108r15 (.t 30) a108s18 .skip
def a108s20 : ACode := .seq a108s14 a108s19
def a108s21 : ACode := .seq a108s12 a108s20
def a108s22 : ACode := .blk 1 a108s21
def a108r23 : List AOper := [
 op (.t 31) (.bin .add) [.v 9,.c (.int .i64 1)],
 op (.v 9) .mv [.t 31]]
def a108s24 : ACode := .reg [] a108r23
def a108s25 : ACode := .seq a108s22 a108s24
def a108s26 : ACode := .seq a108s10 a108s25
def a108s27 : ACode := .loop a108s26
def a108s28 : ACode := .blk 0 a108s27
def a108s29 : ACode := .seq a108s8 a108s28
def a108r30 : List AOper := [
 op (.v 3) .mv [.c (.bool true)]]
def a108s31 : ACode := .reg [] a108r30
def a108s32 : ACode := .seq a108s31 .ret
def a108s33 : ACode := .seq a108s29 a108s32
def a108s34 : ACode := .seq a108s6 a108s33
def a108s35 : ACode := .seq a108s1 a108s34
def a108c : ACode :=
  a108s35
def a108 : AFn := { np := 3,nv := 10,results := [.v 3],code := a108c }
def a108v : List Nat := [0,1,2,6,7,8,9,15,16,17]
def a108b : List Nat := [5,6]

def a109r0 : List AOper := [
 op (.v 2) .mv [.c (.str [])],
 op (.v 3) .mv [.c (.bool false)]]
def a109s1 : ACode := .reg [] a109r0
def a109r2 : List AOper := [
 op (.t 6) .mv [.v 0],
 op (.t 7) .mv [.v 1],
 op (.t 8) (.call 116) [.t 6,.t 7],
 op (.t 9) (.ext 0) [.t 8],
 op (.t 10) (.ext 1) [.t 8],
 op (.v 2) .mv [.t 9],
 op (.v 3) .mv [.t 10]]
def a109s3 : ACode := .reg [] a109r2
def a109s4 : ACode := .seq a109s3 .ret
def a109s5 : ACode := .seq a109s1 a109s4
def a109c : ACode :=
  a109s5
def a109 : AFn := { np := 2,nv := 4,results := [.v 2,.v 3],code := a109c }
def a109v : List Nat := [0,1,4,5]
def a109b : List Nat := []

def a114r0 : List AOper := [
 op (.v 2) .mv [.c (.int .i64 0)]]
def a114s1 : ACode := .reg [] a114r0
def a114r2 : List AOper := [
 op (.t 6) .mv [.v 0],
 op (.v 4) .lenL [.t 6],
 op (.v 5) .mv [.c (.int .i64 0)]]
def a114s3 : ACode := .reg [] a114r2
def a114r4 : List AOper := [
 op (.t 9) (.bin .lss) [.v 5,.v 4]]
def a114s5 : ACode := .test [] a114r4 (.t 9) .skip (.exit 0)
def a114r6 : List AOper := [
 op (.t 10) .mv [.v 5],
 op (.v 3) .mv [.t 10]]
def a114s7 : ACode := .reg [] a114r6
def a114r8 : List AOper := [
 op (.t 11) .mv [.v 1],
 op (.t 12) .mv [.v 0],
 op (.t 13) .mv [.v 3],
 op (.t 14) (.iad 5) [.t 12,.t 13],
 op (.t 15) (.ldAn true 5) [.t 14],
 op (.t 16) .callV [.t 11,.t 15]]
def a114r9 : List AOper := [
 op (.t 17) .mv [.v 3],
 op (.v 2) .mv [.t 17]]
def a114s10 : ACode := .reg [] a114r9
def a114s11 : ACode := .seq a114s10 .ret
def a114s12 : ACode := .test [] a114r8 (.t 16) a114s11 .skip
def a114s13 : ACode := .seq a114s7 a114s12
def a114s14 : ACode := .blk 1 a114s13
def a114r15 : List AOper := [
 op (.t 18) (.bin .add) [.v 5,.c (.int .i64 1)],
 op (.v 5) .mv [.t 18]]
def a114s16 : ACode := .reg [] a114r15
def a114s17 : ACode := .seq a114s14 a114s16
def a114s18 : ACode := .seq a114s5 a114s17
def a114s19 : ACode := .loop a114s18
def a114s20 : ACode := .blk 0 a114s19
def a114s21 : ACode := .seq a114s3 a114s20
def a114r22 : List AOper := [
 op (.v 2) .mv [.c (.int .i64 (-1))]]
def a114s23 : ACode := .reg [] a114r22
def a114s24 : ACode := .seq a114s23 .ret
def a114s25 : ACode := .seq a114s21 a114s24
def a114s26 : ACode := .seq a114s1 a114s25
def a114c : ACode :=
  a114s26
def a114 : AFn := { np := 2,nv := 6,results := [.v 2],code := a114c }
def a114v : List Nat := [0,1,4,5,7,8]
def a114b : List Nat := []

def a115r0 : List AOper := [
 ⟨.bx,.boxV,[.v 0],some 2,none⟩,
 op (.v 3) .mv [.c (.bool false)]]
def a115s1 : ACode := .reg [2] a115r0
def a115r2 : List AOper := [
 op (.t 4) (.fad 2) [.l 2],
 op (.t 5) (.fad 2) [.t 4],
 ⟨.t 6,.ldLc 2 false 1,[.t 5],some 2,none⟩,
 op (.t 7) .mv [.t 6],
 ⟨.t 8,.fad 5,[.l 2],none,some (.t 7,true)⟩,
 ⟨.t 9,.ldLc 2 false 1,[.t 8],some 2,some (.t 7,true)⟩,
 ⟨.t 10,.un .not,[.t 9],none,some (.t 7,true)⟩,
 op (.t 11) .pick [.t 7,.t 10,.c (.bool false)],
 op (.t 12) .mv [.t 11],
 ⟨.t 13,.fad 3,[.v 1],none,some (.t 12,true)⟩,
 ⟨.t 14,.ldSt false 1,[.t 13],none,some (.t 12,true)⟩,
 ⟨.t 15,.fad 0,[.l 2],none,some (.t 12,true)⟩,
 ⟨.t 16,.ldLc 2 false 1,[.t 15],some 2,some (.t 12,true)⟩,
 ⟨.t 17,.call 37,[.t 14,.t 16],none,some (.t 12,true)⟩,
 ⟨.t 18,.un .not,[.t 17],none,some (.t 12,true)⟩,
 op (.t 19) .pick [.t 12,.t 18,.c (.bool false)],
 op (.v 3) .mv [.t 19]]
def a115s3 : ACode := .reg [] a115r2
def a115s4 : ACode := .seq a115s3 .ret
def a115s5 : ACode := .seq a115s1 a115s4
def a115c : ACode :=
  a115s5
def a115 : AFn := { np := 2,nv := 4,results := [.v 3],code := a115c }
def a115v : List Nat := [0,1,2,3]
def a115b : List Nat := [2]

def a116r0 : List AOper := [
 op (.v 2) .mv [.c (.str [])],
 op (.v 3) .mv [.c (.bool false)]]
def a116s1 : ACode := .reg [] a116r0
def a116r2 : List AOper := [
 op (.t 6) .mv [.v 0],
 op (.t 7) .mv [.v 1],
 op (.t 8) (.call 57) [.t 6,.t 7],
 op (.t 9) (.un .not) [.t 8]]
def a116r3 : List AOper := [
 op (.t 10) .mv [.v 0],
 op (.v 2) .mv [.t 10],
 op (.v 3) .mv [.c (.bool false)]]
def a116s4 : ACode := .reg [] a116r3
def a116s5 : ACode := .seq a116s4 .ret
def a116s6 : ACode := .test [] a116r2 (.t 9) a116s5 .skip
def a116r7 : List AOper := [
 op (.t 11) .mv [.v 0],
 op (.t 12) .mv [.v 1],
 op (.t 13) .lenS [.t 12],
 op (.t 14) (.slS true false) [.t 11,.t 13],
 op (.v 2) .mv [.t 14],
 op (.v 3) .mv [.c (.bool true)]]
def a116s8 : ACode := .reg [] a116r7
def a116s9 : ACode := .seq a116s8 .ret
def a116s10 : ACode := .seq a116s6 a116s9
def a116s11 : ACode := .seq a116s1 a116s10
def a116c : ACode :=
  a116s11
def a116 : AFn := { np := 2,nv := 4,results := [.v 2,.v 3],code := a116c }
def a116v : List Nat := [0,1,4,5]
def a116b : List Nat := []

def tblL : List (List (Option AFn)) := [
  [none,none,none,none,none,none,none,none,some a8,some a9],
  [none,none,some a12,some a13,some a14,some a15,some a16,none,none,some a19],
  [some a20,none,none,some a23,some a24,some a25,some a26,some a27,some a28,some a29],
  [some a30,some a31,none,some a33,some a34,some a35,some a36,some a37,some a38,some a39],
  [some a40,some a41,some a42,some a43,some a44,some a45,some a46,some a47,some a48,some a49],
  [some a50,some a51,some a52,some a53,some a54,some a55,some a56,some a57,some a58,some a59],
  [some a60,some a61,some a62,some a63,some a64,some a65,some a66,some a67,some a68,some a69],
  [some a70,some a71,some a72,some a73,some a74,some a75,some a76,some a77,some a78,some a79],
  [some a80,some a81,some a82,some a83,some a84,some a85,some a86,some a87,some a88,some a89],
  [some a90,some a91,some a92,some a93,some a94,some a95,some a96,some a97,some a98,some a99],
  [none,some a101,some a102,some a103,some a104,some a105,some a106,some a107,some a108,some a109],
  [none,none,none,none,some a114,some a115,some a116,none,none,none],
  [none,none,none,none,none,none,none,none,none,none],
  [none,none,none,none,none,none,none,none,none,none],
  [none,none,none,none,none,none,none,none,none,none]]
def tbl : Nat → Option AFn := nth2 tblL
def gts : List (Nat × List AV) := [(0,[.str [66,111,111,108,101,97,110],.str [73,68],.str [73,110,116],.str [83,116,114,105,110,103]]),(1,Lib.pow10Tab.map (AV.int .u64))]
end Go.Cb.CodeA
