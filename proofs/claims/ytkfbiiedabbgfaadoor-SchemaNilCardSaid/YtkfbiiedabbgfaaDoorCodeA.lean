/- The functions of the seat, told as code of the abstract machine. No conditions. -/
import Derived.Test.YtkfbiiedabbgfaaDoorCodeAp0
namespace Go.Cb.CodeA
open Go Go.Cb

-- columbary/columbaryref03.count: 0, 1, 2, 3, 6, 7, 8
def a39r0 : List AOper := [
  { dst := .bx, kind := .boxV, args := [.v 0], box := some 3 },
  { dst := .v 4, kind := .mv, args := [.c (.int .i64 0)] }]
def a39s1 : ACode := .reg [3] a39r0
def a39r2 : List AOper := [
  { dst := .v 5, kind := .mv, args := [.c (.int .i64 1)] }]
def a39s3 : ACode := .reg [] a39r2
def a39r4 : List AOper := [
  { dst := .t 9, kind := .mv, args := [.v 1] },
  { dst := .t 10, kind := (.bin .gtr), args := [.t 9, .c (.int .i64 60)] }]
def a39r5 : List AOper := [
  { dst := .t 11, kind := .mv, args := [.v 2] },
  { dst := .t 12, kind := (.bin .add), args := [.t 11, .c (.int .i64 1)] },
  { dst := .v 4, kind := .mv, args := [.t 12] }]
def a39s6 : ACode := .reg [] a39r5
def a39s7 : ACode := .seq a39s6 .ret
def a39s8 : ACode := .test [] a39r4 (.t 10) a39s7 .skip
def a39r9 : List AOper := [
  { dst := .t 13, kind := (.fad 3), args := [.l 3] },
  { dst := .t 14, kind := (.ldLc 3 false 1), args := [.t 13], box := some 3 },
  { dst := .t 15, kind := .lenL, args := [.t 14] },
  { dst := .t 16, kind := .mv, args := [.v 2] },
  { dst := .t 17, kind := (.bin .gtr), args := [.t 15, .t 16] },
  { dst := .t 18, kind := .mv, args := [.t 17] },
  { dst := .t 19, kind := (.fad 4), args := [.l 3], guard := some (.t 18, false) },
  { dst := .t 20, kind := (.ldLc 3 false 1), args := [.t 19], box := some 3, guard := some (.t 18, false) },
  { dst := .t 21, kind := .lenL, args := [.t 20], guard := some (.t 18, false) },
  { dst := .t 22, kind := .mv, args := [.v 2], guard := some (.t 18, false) },
  { dst := .t 23, kind := (.bin .gtr), args := [.t 21, .t 22], guard := some (.t 18, false) },
  { dst := .t 24, kind := .pick, args := [.t 18, .c (.bool true), .t 23] }]
def a39r10 : List AOper := [
  { dst := .t 25, kind := .mv, args := [.v 2] },
  { dst := .t 26, kind := (.bin .add), args := [.t 25, .c (.int .i64 1)] },
  { dst := .v 4, kind := .mv, args := [.t 26] }]
def a39s11 : ACode := .reg [] a39r10
def a39s12 : ACode := .seq a39s11 .ret
def a39s13 : ACode := .test [] a39r9 (.t 24) a39s12 .skip
def a39r14 : List AOper := [
  { dst := .v 6, kind := .mv, args := [.c (.int .i64 0)] }]
def a39s15 : ACode := .reg [] a39r14
def a39r16 : List AOper := [
  { dst := .t 27, kind := .mv, args := [.v 6] },
  { dst := .t 28, kind := (.fad 4), args := [.l 3] },
  { dst := .t 29, kind := (.ldLc 3 false 1), args := [.t 28], box := some 3 },
  { dst := .t 30, kind := .lenL, args := [.t 29] },
  { dst := .t 31, kind := (.bin .lss), args := [.t 27, .t 30] },
  { dst := .t 32, kind := .mv, args := [.t 31] },
  { dst := .t 33, kind := .mv, args := [.v 5], guard := some (.t 32, true) },
  { dst := .t 34, kind := .mv, args := [.v 2], guard := some (.t 32, true) },
  { dst := .t 35, kind := (.bin .leq), args := [.t 33, .t 34], guard := some (.t 32, true) },
  { dst := .t 36, kind := .pick, args := [.t 32, .t 35, .c (.bool false)] }]
def a39s17 : ACode := .test [] a39r16 (.t 36) .skip (.exit 0)
def a39r18 : List AOper := [
  { dst := .t 39, kind := .mv, args := [.v 5] },
  { dst := .t 40, kind := (.fad 4), args := [.l 3] },
  { dst := .t 41, kind := (.ldLc 3 false 1), args := [.t 40], box := some 3 },
  { dst := .t 42, kind := .mv, args := [.v 6] },
  { dst := .t 43, kind := (.iad 5), args := [.t 41, .t 42] },
  { dst := .t 44, kind := (.ldRo true 5), args := [.t 43] },
  { dst := .t 45, kind := .mv, args := [.v 1] },
  { dst := .t 46, kind := (.bin .add), args := [.t 45, .c (.int .i64 1)] },
  { dst := .t 47, kind := .mv, args := [.v 2] },
  { dst := .t 48, kind := .mv, args := [.v 5] },
  { dst := .t 49, kind := (.bin .sub), args := [.t 47, .t 48] },
  { dst := .t 50, kind := (.call 39), args := [.t 44, .t 46, .t 49] },
  { dst := .t 51, kind := (.bin .add), args := [.t 39, .t 50] },
  { dst := .v 5, kind := .mv, args := [.t 51] }]
def a39s19 : ACode := .reg [] a39r18
def a39s20 : ACode := .blk 1 a39s19
def a39r21 : List AOper := [
  { dst := .t 37, kind := .mv, args := [.v 6] },
  { dst := .t 38, kind := (.bin .add), args := [.t 37, .c (.int .i64 1)] },
  { dst := .v 6, kind := .mv, args := [.t 38] }]
def a39s22 : ACode := .reg [] a39r21
def a39s23 : ACode := .seq a39s20 a39s22
def a39s24 : ACode := .seq a39s17 a39s23
def a39s25 : ACode := .loop a39s24
def a39s26 : ACode := .blk 0 a39s25
def a39s27 : ACode := .seq a39s15 a39s26
def a39r28 : List AOper := [
  { dst := .t 52, kind := .mv, args := [.v 5] },
  { dst := .v 4, kind := .mv, args := [.t 52] }]
def a39s29 : ACode := .reg [] a39r28
def a39s30 : ACode := .seq a39s29 .ret
def a39s31 : ACode := .seq a39s27 a39s30
def a39s32 : ACode := .seq a39s13 a39s31
def a39s33 : ACode := .seq a39s8 a39s32
def a39s34 : ACode := .seq a39s3 a39s33
def a39s35 : ACode := .seq a39s1 a39s34
def a39c : ACode :=
  a39s35
def a39 : AFn := { np := 3, nv := 7, results := [.v 4], code := a39c }
def a39v : List Nat := [0, 1, 2, 3, 6, 7, 8]
def a39b : List Nat := [3]

-- columbary/columbaryref05.one: 0, 1, 4, 5, 6, 7, 8, 9
def a40r0 : List AOper := [
  { dst := .bx, kind := (.alloc [.int .u8 0, .str [], .int .i64 0, .int .i64 0]), args := [], box := some 2 },
  { dst := .v 3, kind := .mv, args := [.c (.int .i64 0)] },
  { dst := .v 4, kind := .mv, args := [.c (.int .i64 0)] },
  { dst := .v 5, kind := .mv, args := [.c (.int .i64 0)] }]
def a40s1 : ACode := .reg [2] a40r0
def a40r2 : List AOper := [
  { dst := .t 10, kind := .mv, args := [.v 0] },
  { dst := .t 11, kind := .mv, args := [.v 1] },
  { dst := .t 12, kind := .idxS, args := [.t 10, .t 11] },
  { dst := .v 6, kind := .mv, args := [.t 12] }]
def a40s3 : ACode := .reg [] a40r2
def a40r4 : List AOper := [
  { dst := .t 13, kind := .mv, args := [.v 1] },
  { dst := .v 7, kind := .mv, args := [.t 13] }]
def a40s5 : ACode := .reg [] a40r4
def a40r6 : List AOper := [
  { dst := .t 15, kind := .mv, args := [.v 6] },
  { dst := .t 16, kind := (.call 56), args := [.t 15] },
  { dst := .t 14, kind := .mv, args := [.t 16] }]
def a40r7 : List AOper := [
  { dst := .t 17, kind := .mv, args := [.v 7] },
  { dst := .t 18, kind := .mv, args := [.v 0] },
  { dst := .t 19, kind := .lenS, args := [.t 18] },
  { dst := .t 20, kind := (.bin .lss), args := [.t 17, .t 19] },
  { dst := .t 21, kind := .mv, args := [.t 20] },
  { dst := .t 22, kind := .mv, args := [.v 0], guard := some (.t 21, true) },
  { dst := .t 23, kind := .mv, args := [.v 7], guard := some (.t 21, true) },
  { dst := .t 24, kind := .idxS, args := [.t 22, .t 23], guard := some (.t 21, true) },
  { dst := .t 25, kind := (.call 56), args := [.t 24], guard := some (.t 21, true) },
  { dst := .t 26, kind := .mv, args := [.t 25], guard := some (.t 21, true) },
  { dst := .t 27, kind := .mv, args := [.v 0], guard := some (.t 26, false) },
  { dst := .t 28, kind := .mv, args := [.v 7], guard := some (.t 26, false) },
  { dst := .t 29, kind := .idxS, args := [.t 27, .t 28], guard := some (.t 26, false) },
  { dst := .t 30, kind := (.call 57), args := [.t 29], guard := some (.t 26, false) },
  { dst := .t 31, kind := .pick, args := [.t 26, .c (.bool true), .t 30], guard := some (.t 21, true) },
  { dst := .t 32, kind := .pick, args := [.t 21, .t 31, .c (.bool false)] }]
def a40s8 : ACode := .test [] a40r7 (.t 32) .skip (.exit 1)
def a40r9 : List AOper := [
  { dst := .t 33, kind := .mv, args := [.v 7] },
  { dst := .t 34, kind := (.bin .add), args := [.t 33, .c (.int .i64 1)] },
  { dst := .v 7, kind := .mv, args := [.t 34] }]
def a40s10 : ACode := .reg [] a40r9
def a40s11 : ACode := .blk 2 a40s10
def a40s12 : ACode := .seq a40s8 a40s11
def a40s13 : ACode := .loop a40s12
def a40s14 : ACode := .blk 1 a40s13
def a40r15 : List AOper := [
  { dst := .t 35, kind := .mv, args := [.v 7] },
  { dst := .t 36, kind := .mv, args := [.v 1] },
  { dst := .t 37, kind := (.bin .sub), args := [.t 35, .t 36] },
  { dst := .t 38, kind := (.bin .gtr), args := [.t 37, .c (.int .i64 32)] }]
def a40r16 : List AOper := [
  { dst := .t 39, kind := (.build [.int .u8 0, .str [], .int .i64 0, .int .i64 0] []), args := [] },
  { dst := .t 40, kind := .mv, args := [.v 1] },
  { dst := .none, kind := (.stLc 2 4), args := [.l 2, .t 39], box := some 2 },
  { dst := .v 3, kind := .mv, args := [.c (.int .i64 0)] },
  { dst := .v 4, kind := .mv, args := [.t 40] },
  { dst := .v 5, kind := .mv, args := [.c (.int .i64 2)] }]
def a40s17 : ACode := .reg [] a40r16
def a40s18 : ACode := .seq a40s17 .ret
def a40s19 : ACode := .test [] a40r15 (.t 38) a40s18 .skip
def a40r20 : List AOper := [
  { dst := .t 41, kind := .mv, args := [.v 0] },
  { dst := .t 42, kind := .mv, args := [.v 1] },
  { dst := .t 43, kind := .mv, args := [.v 7] },
  { dst := .t 44, kind := (.slS true true), args := [.t 41, .t 42, .t 43] },
  { dst := .t 45, kind := (.build [.int .u8 0, .str [], .int .i64 0, .int .i64 0] [(0, 1), (1, 1)]), args := [.c (.int .u8 1), .t 44] },
  { dst := .t 46, kind := .mv, args := [.v 7] },
  { dst := .none, kind := (.stLc 2 4), args := [.l 2, .t 45], box := some 2 },
  { dst := .v 3, kind := .mv, args := [.t 46] },
  { dst := .v 4, kind := .mv, args := [.c (.int .i64 0)] },
  { dst := .v 5, kind := .mv, args := [.c (.int .i64 0)] }]
def a40s21 : ACode := .reg [] a40r20
def a40s22 : ACode := .seq a40s21 .ret
def a40s23 : ACode := .seq a40s19 a40s22
def a40s24 : ACode := .seq a40s14 a40s23
def a40r25 : List AOper := [
  { dst := .t 48, kind := .mv, args := [.v 6] },
  { dst := .t 49, kind := (.bin .eql), args := [.t 48, .c (.int .u8 45)] },
  { dst := .t 50, kind := .mv, args := [.t 49] },
  { dst := .t 51, kind := .mv, args := [.v 6], guard := some (.t 50, false) },
  { dst := .t 52, kind := (.call 57), args := [.t 51], guard := some (.t 50, false) },
  { dst := .t 53, kind := .pick, args := [.t 50, .c (.bool true), .t 52] },
  { dst := .t 47, kind := .mv, args := [.t 53] }]
def a40r26 : List AOper := [
  { dst := .t 54, kind := .mv, args := [.v 0] },
  { dst := .t 55, kind := .mv, args := [.v 1] },
  { dst := .t 56, kind := (.call 58), args := [.t 54, .t 55] },
  { dst := .t 57, kind := (.ext 0), args := [.t 56] },
  { dst := .t 58, kind := (.ext 1), args := [.t 56] },
  { dst := .t 59, kind := (.ext 2), args := [.t 56] },
  { dst := .t 60, kind := (.ext 3), args := [.t 56] },
  { dst := .none, kind := (.stLc 2 4), args := [.l 2, .t 57], box := some 2 },
  { dst := .v 3, kind := .mv, args := [.t 58] },
  { dst := .v 4, kind := .mv, args := [.t 59] },
  { dst := .v 5, kind := .mv, args := [.t 60] }]
def a40s27 : ACode := .reg [] a40r26
def a40s28 : ACode := .seq a40s27 .ret
def a40r29 : List AOper := [
  { dst := .t 62, kind := .mv, args := [.v 6] },
  { dst := .t 63, kind := (.bin .eql), args := [.t 62, .c (.int .u8 34)] },
  { dst := .t 61, kind := .mv, args := [.t 63] }]
def a40r30 : List AOper := [
  { dst := .t 64, kind := .mv, args := [.v 0] },
  { dst := .t 65, kind := .mv, args := [.v 1] },
  { dst := .t 66, kind := (.call 59), args := [.t 64, .t 65] },
  { dst := .t 67, kind := (.ext 0), args := [.t 66] },
  { dst := .t 68, kind := (.ext 1), args := [.t 66] },
  { dst := .t 69, kind := (.ext 2), args := [.t 66] },
  { dst := .t 70, kind := (.ext 3), args := [.t 66] },
  { dst := .none, kind := (.stLc 2 4), args := [.l 2, .t 67], box := some 2 },
  { dst := .v 3, kind := .mv, args := [.t 68] },
  { dst := .v 4, kind := .mv, args := [.t 69] },
  { dst := .v 5, kind := .mv, args := [.t 70] }]
def a40s31 : ACode := .reg [] a40r30
def a40s32 : ACode := .seq a40s31 .ret
def a40r33 : List AOper := [
  { dst := .t 72, kind := .mv, args := [.v 6] },
  { dst := .t 73, kind := (.bin .eql), args := [.t 72, .c (.int .u8 46)] },
  { dst := .t 71, kind := .mv, args := [.t 73] }]
def a40r34 : List AOper := [
  { dst := .t 74, kind := .mv, args := [.v 0] },
  { dst := .t 75, kind := .lenS, args := [.t 74] },
  { dst := .t 76, kind := .mv, args := [.v 1] },
  { dst := .t 77, kind := (.bin .sub), args := [.t 75, .t 76] },
  { dst := .t 78, kind := (.bin .geq), args := [.t 77, .c (.int .i64 3)] },
  { dst := .t 79, kind := .mv, args := [.t 78] },
  { dst := .t 80, kind := .mv, args := [.v 0], guard := some (.t 79, true) },
  { dst := .t 81, kind := .mv, args := [.v 1], guard := some (.t 79, true) },
  { dst := .t 82, kind := (.bin .add), args := [.t 81, .c (.int .i64 1)], guard := some (.t 79, true) },
  { dst := .t 83, kind := .idxS, args := [.t 80, .t 82], guard := some (.t 79, true) },
  { dst := .t 84, kind := (.bin .eql), args := [.t 83, .c (.int .u8 46)], guard := some (.t 79, true) },
  { dst := .t 85, kind := .pick, args := [.t 79, .t 84, .c (.bool false)] },
  { dst := .t 86, kind := .mv, args := [.t 85] },
  { dst := .t 87, kind := .mv, args := [.v 0], guard := some (.t 86, true) },
  { dst := .t 88, kind := .mv, args := [.v 1], guard := some (.t 86, true) },
  { dst := .t 89, kind := (.bin .add), args := [.t 88, .c (.int .i64 2)], guard := some (.t 86, true) },
  { dst := .t 90, kind := .idxS, args := [.t 87, .t 89], guard := some (.t 86, true) },
  { dst := .t 91, kind := (.bin .eql), args := [.t 90, .c (.int .u8 46)], guard := some (.t 86, true) },
  { dst := .t 92, kind := .pick, args := [.t 86, .t 91, .c (.bool false)] }]
def a40r35 : List AOper := [
  { dst := .t 93, kind := (.build [.int .u8 0, .str [], .int .i64 0, .int .i64 0] [(0, 1), (1, 1)]), args := [.c (.int .u8 4), .c (.str [46, 46, 46])] },
  { dst := .t 94, kind := .mv, args := [.v 1] },
  { dst := .t 95, kind := (.bin .add), args := [.t 94, .c (.int .i64 3)] },
  { dst := .none, kind := (.stLc 2 4), args := [.l 2, .t 93], box := some 2 },
  { dst := .v 3, kind := .mv, args := [.t 95] },
  { dst := .v 4, kind := .mv, args := [.c (.int .i64 0)] },
  { dst := .v 5, kind := .mv, args := [.c (.int .i64 0)] }]
def a40s36 : ACode := .reg [] a40r35
def a40s37 : ACode := .seq a40s36 .ret
def a40s38 : ACode := .test [] a40r34 (.t 92) a40s37 .skip
def a40r39 : List AOper := [
  { dst := .t 96, kind := (.build [.int .u8 0, .str [], .int .i64 0, .int .i64 0] []), args := [] },
  { dst := .t 97, kind := .mv, args := [.v 1] },
  { dst := .none, kind := (.stLc 2 4), args := [.l 2, .t 96], box := some 2 },
  { dst := .v 3, kind := .mv, args := [.c (.int .i64 0)] },
  { dst := .v 4, kind := .mv, args := [.t 97] },
  { dst := .v 5, kind := .mv, args := [.c (.int .i64 4)] }]
def a40s40 : ACode := .reg [] a40r39
def a40s41 : ACode := .seq a40s40 .ret
def a40s42 : ACode := .seq a40s38 a40s41
def a40r43 : List AOper := [
  { dst := .t 99, kind := .mv, args := [.v 6] },
  { dst := .t 100, kind := (.bin .eql), args := [.t 99, .c (.int .u8 33)] },
  { dst := .t 101, kind := .mv, args := [.t 100] },
  { dst := .t 102, kind := .mv, args := [.v 6], guard := some (.t 101, false) },
  { dst := .t 103, kind := (.bin .eql), args := [.t 102, .c (.int .u8 36)], guard := some (.t 101, false) },
  { dst := .t 104, kind := .pick, args := [.t 101, .c (.bool true), .t 103] },
  { dst := .t 105, kind := .mv, args := [.t 104] },
  { dst := .t 106, kind := .mv, args := [.v 6], guard := some (.t 105, false) },
  { dst := .t 107, kind := (.bin .eql), args := [.t 106, .c (.int .u8 40)], guard := some (.t 105, false) },
  { dst := .t 108, kind := .pick, args := [.t 105, .c (.bool true), .t 107] },
  { dst := .t 109, kind := .mv, args := [.t 108] },
  { dst := .t 110, kind := .mv, args := [.v 6], guard := some (.t 109, false) },
  { dst := .t 111, kind := (.bin .eql), args := [.t 110, .c (.int .u8 41)], guard := some (.t 109, false) },
  { dst := .t 112, kind := .pick, args := [.t 109, .c (.bool true), .t 111] },
  { dst := .t 113, kind := .mv, args := [.t 112] },
  { dst := .t 114, kind := .mv, args := [.v 6], guard := some (.t 113, false) },
  { dst := .t 115, kind := (.bin .eql), args := [.t 114, .c (.int .u8 58)], guard := some (.t 113, false) },
  { dst := .t 116, kind := .pick, args := [.t 113, .c (.bool true), .t 115] },
  { dst := .t 117, kind := .mv, args := [.t 116] },
  { dst := .t 118, kind := .mv, args := [.v 6], guard := some (.t 117, false) },
  { dst := .t 119, kind := (.bin .eql), args := [.t 118, .c (.int .u8 61)], guard := some (.t 117, false) },
  { dst := .t 120, kind := .pick, args := [.t 117, .c (.bool true), .t 119] },
  { dst := .t 121, kind := .mv, args := [.t 120] },
  { dst := .t 122, kind := .mv, args := [.v 6], guard := some (.t 121, false) },
  { dst := .t 123, kind := (.bin .eql), args := [.t 122, .c (.int .u8 64)], guard := some (.t 121, false) },
  { dst := .t 124, kind := .pick, args := [.t 121, .c (.bool true), .t 123] },
  { dst := .t 125, kind := .mv, args := [.t 124] },
  { dst := .t 126, kind := .mv, args := [.v 6], guard := some (.t 125, false) },
  { dst := .t 127, kind := (.bin .eql), args := [.t 126, .c (.int .u8 91)], guard := some (.t 125, false) },
  { dst := .t 128, kind := .pick, args := [.t 125, .c (.bool true), .t 127] },
  { dst := .t 129, kind := .mv, args := [.t 128] },
  { dst := .t 130, kind := .mv, args := [.v 6], guard := some (.t 129, false) },
  { dst := .t 131, kind := (.bin .eql), args := [.t 130, .c (.int .u8 93)], guard := some (.t 129, false) },
  { dst := .t 132, kind := .pick, args := [.t 129, .c (.bool true), .t 131] },
  { dst := .t 133, kind := .mv, args := [.t 132] },
  { dst := .t 134, kind := .mv, args := [.v 6], guard := some (.t 133, false) },
  { dst := .t 135, kind := (.bin .eql), args := [.t 134, .c (.int .u8 123)], guard := some (.t 133, false) },
  { dst := .t 136, kind := .pick, args := [.t 133, .c (.bool true), .t 135] },
  { dst := .t 137, kind := .mv, args := [.t 136] },
  { dst := .t 138, kind := .mv, args := [.v 6], guard := some (.t 137, false) },
  { dst := .t 139, kind := (.bin .eql), args := [.t 138, .c (.int .u8 124)], guard := some (.t 137, false) },
  { dst := .t 140, kind := .pick, args := [.t 137, .c (.bool true), .t 139] },
  { dst := .t 141, kind := .mv, args := [.t 140] },
  { dst := .t 142, kind := .mv, args := [.v 6], guard := some (.t 141, false) },
  { dst := .t 143, kind := (.bin .eql), args := [.t 142, .c (.int .u8 125)], guard := some (.t 141, false) },
  { dst := .t 144, kind := .pick, args := [.t 141, .c (.bool true), .t 143] },
  { dst := .t 145, kind := .mv, args := [.t 144] },
  { dst := .t 146, kind := .mv, args := [.v 6], guard := some (.t 145, false) },
  { dst := .t 147, kind := (.bin .eql), args := [.t 146, .c (.int .u8 38)], guard := some (.t 145, false) },
  { dst := .t 148, kind := .pick, args := [.t 145, .c (.bool true), .t 147] },
  { dst := .t 98, kind := .mv, args := [.t 148] }]
def a40r44 : List AOper := [
  { dst := .t 149, kind := .mv, args := [.v 0] },
  { dst := .t 150, kind := .mv, args := [.v 1] },
  { dst := .t 151, kind := .mv, args := [.v 1] },
  { dst := .t 152, kind := (.bin .add), args := [.t 151, .c (.int .i64 1)] },
  { dst := .t 153, kind := (.slS true true), args := [.t 149, .t 150, .t 152] },
  { dst := .t 154, kind := (.build [.int .u8 0, .str [], .int .i64 0, .int .i64 0] [(0, 1), (1, 1)]), args := [.c (.int .u8 4), .t 153] },
  { dst := .t 155, kind := .mv, args := [.v 1] },
  { dst := .t 156, kind := (.bin .add), args := [.t 155, .c (.int .i64 1)] },
  { dst := .none, kind := (.stLc 2 4), args := [.l 2, .t 154], box := some 2 },
  { dst := .v 3, kind := .mv, args := [.t 156] },
  { dst := .v 4, kind := .mv, args := [.c (.int .i64 0)] },
  { dst := .v 5, kind := .mv, args := [.c (.int .i64 0)] }]
def a40s45 : ACode := .reg [] a40r44
def a40s46 : ACode := .seq a40s45 .ret
def a40s47 : ACode := .test [] a40r43 (.t 98) a40s46 .skip
def a40s48 : ACode := .test [] a40r33 (.t 71) a40s42 a40s47
def a40s49 : ACode := .test [] a40r29 (.t 61) a40s32 a40s48
def a40s50 : ACode := .test [] a40r25 (.t 47) a40s28 a40s49
def a40s51 : ACode := .test [] a40r6 (.t 14) a40s24 a40s50
def a40s52 : ACode := .blk 0 a40s51
def a40r53 : List AOper := [
  { dst := .t 157, kind := (.build [.int .u8 0, .str [], .int .i64 0, .int .i64 0] []), args := [] },
  { dst := .t 158, kind := .mv, args := [.v 1] },
  { dst := .none, kind := (.stLc 2 4), args := [.l 2, .t 157], box := some 2 },
  { dst := .v 3, kind := .mv, args := [.c (.int .i64 0)] },
  { dst := .v 4, kind := .mv, args := [.t 158] },
  { dst := .v 5, kind := .mv, args := [.c (.int .i64 4)] }]
def a40s54 : ACode := .reg [] a40r53
def a40s55 : ACode := .seq a40s54 .ret
def a40s56 : ACode := .seq a40s52 a40s55
def a40s57 : ACode := .seq a40s5 a40s56
def a40s58 : ACode := .seq a40s3 a40s57
def a40s59 : ACode := .seq a40s1 a40s58
def a40c : ACode :=
  a40s59
def a40 : AFn := { np := 2, nv := 8, results := [.bx 2 true 4, .v 3, .v 4, .v 5], code := a40c }
def a40v : List Nat := [0, 1, 4, 5, 6, 7, 8, 9]
def a40b : List Nat := [2]

-- (*columbary/columbaryref06.Reader).Word: 0, 1, 4
def a41r0 : List AOper := [
  { dst := .v 2, kind := .mv, args := [.c (.bool false)] }]
def a41s1 : ACode := .reg [] a41r0
def a41r2 : List AOper := [
  { dst := .t 5, kind := .mv, args := [.v 0] },
  { dst := .t 6, kind := .nilchk, args := [.t 5] },
  { dst := .t 7, kind := (.fad 4), args := [.t 6] },
  { dst := .t 8, kind := (.ldSt false 1), args := [.t 7] },
  { dst := .t 9, kind := (.bin .eql), args := [.t 8, .c (.int .i64 0)] },
  { dst := .t 10, kind := .mv, args := [.t 9] },
  { dst := .t 11, kind := .mv, args := [.v 0], guard := some (.t 10, true) },
  { dst := .t 12, kind := .nilchk, args := [.t 11], guard := some (.t 10, true) },
  { dst := .t 13, kind := (.fad 0), args := [.t 12], guard := some (.t 10, true) },
  { dst := .t 14, kind := (.ldSt false 1), args := [.t 13], guard := some (.t 10, true) },
  { dst := .t 15, kind := .mv, args := [.v 0], guard := some (.t 10, true) },
  { dst := .t 16, kind := .nilchk, args := [.t 15], guard := some (.t 10, true) },
  { dst := .t 17, kind := (.fad 1), args := [.t 16], guard := some (.t 10, true) },
  { dst := .t 18, kind := (.ldSt false 1), args := [.t 17], guard := some (.t 10, true) },
  { dst := .t 19, kind := (.iad 4), args := [.t 14, .t 18], guard := some (.t 10, true) },
  { dst := .t 20, kind := (.fad 0), args := [.t 19], guard := some (.t 10, true) },
  { dst := .t 21, kind := (.ldRo false 1), args := [.t 20], guard := some (.t 10, true) },
  { dst := .t 22, kind := (.bin .eql), args := [.t 21, .c (.int .u8 1)], guard := some (.t 10, true) },
  { dst := .t 23, kind := .pick, args := [.t 10, .t 22, .c (.bool false)] },
  { dst := .t 24, kind := .mv, args := [.t 23] },
  { dst := .t 25, kind := .mv, args := [.v 0], guard := some (.t 24, true) },
  { dst := .t 26, kind := .nilchk, args := [.t 25], guard := some (.t 24, true) },
  { dst := .t 27, kind := (.fad 0), args := [.t 26], guard := some (.t 24, true) },
  { dst := .t 28, kind := (.ldSt false 1), args := [.t 27], guard := some (.t 24, true) },
  { dst := .t 29, kind := .mv, args := [.v 0], guard := some (.t 24, true) },
  { dst := .t 30, kind := .nilchk, args := [.t 29], guard := some (.t 24, true) },
  { dst := .t 31, kind := (.fad 1), args := [.t 30], guard := some (.t 24, true) },
  { dst := .t 32, kind := (.ldSt false 1), args := [.t 31], guard := some (.t 24, true) },
  { dst := .t 33, kind := (.iad 4), args := [.t 28, .t 32], guard := some (.t 24, true) },
  { dst := .t 34, kind := (.fad 1), args := [.t 33], guard := some (.t 24, true) },
  { dst := .t 35, kind := (.ldRo false 1), args := [.t 34], guard := some (.t 24, true) },
  { dst := .t 36, kind := .mv, args := [.v 1], guard := some (.t 24, true) },
  { dst := .t 37, kind := (.bin .eql), args := [.t 35, .t 36], guard := some (.t 24, true) },
  { dst := .t 38, kind := .pick, args := [.t 24, .t 37, .c (.bool false)] },
  { dst := .v 2, kind := .mv, args := [.t 38] }]
def a41s3 : ACode := .reg [] a41r2
def a41s4 : ACode := .seq a41s3 .ret
def a41s5 : ACode := .seq a41s1 a41s4
def a41c : ACode :=
  a41s5
def a41 : AFn := { np := 2, nv := 3, results := [.v 2], code := a41c }
def a41v : List Nat := [0, 1, 4]
def a41b : List Nat := []

-- (*columbary/columbaryref06.Reader).Fault: 0, 1
def a42r0 : List AOper := [
  { dst := .t 4, kind := .mv, args := [.v 0] },
  { dst := .t 5, kind := .nilchk, args := [.t 4] },
  { dst := .t 6, kind := (.fad 4), args := [.t 5] },
  { dst := .t 7, kind := (.ldSt false 1), args := [.t 6] },
  { dst := .t 8, kind := (.bin .eql), args := [.t 7, .c (.int .i64 0)] }]
def a42r1 : List AOper := [
  { dst := .t 9, kind := .mv, args := [.v 0] },
  { dst := .t 10, kind := .mv, args := [.v 0] },
  { dst := .t 11, kind := .nilchk, args := [.t 10] },
  { dst := .t 12, kind := (.fad 0), args := [.t 11] },
  { dst := .t 13, kind := (.ldSt false 1), args := [.t 12] },
  { dst := .t 14, kind := .mv, args := [.v 0] },
  { dst := .t 15, kind := .nilchk, args := [.t 14] },
  { dst := .t 16, kind := (.fad 1), args := [.t 15] },
  { dst := .t 17, kind := (.ldSt false 1), args := [.t 16] },
  { dst := .t 18, kind := (.iad 4), args := [.t 13, .t 17] },
  { dst := .t 19, kind := (.fad 3), args := [.t 18] },
  { dst := .t 20, kind := (.ldRo false 1), args := [.t 19] },
  { dst := .t 21, kind := .nilchk, args := [.t 9] },
  { dst := .t 22, kind := (.fad 3), args := [.t 21] },
  { dst := .none, kind := (.stSt 1), args := [.t 22, .t 20] }]
def a42s2 : ACode := .reg [] a42r1
def a42r3 : List AOper := [
  { dst := .t 23, kind := .mv, args := [.v 0] },
  { dst := .t 24, kind := .mv, args := [.v 1] },
  { dst := .t 25, kind := .nilchk, args := [.t 23] },
  { dst := .t 26, kind := (.fad 4), args := [.t 25] },
  { dst := .none, kind := (.stSt 1), args := [.t 26, .t 24] }]
def a42s4 : ACode := .reg [] a42r3
def a42s5 : ACode := .seq a42s2 a42s4
def a42s6 : ACode := .test [] a42r0 (.t 8) a42s5 .skip
def a42c : ACode :=
  a42s6
def a42 : AFn := { np := 2, nv := 2, results := [], code := a42c }
def a42v : List Nat := [0, 1]
def a42b : List Nat := []

-- (*columbary/columbaryref06.Reader).Name: 0, 2
def a43r0 : List AOper := [
  { dst := .v 1, kind := .mv, args := [.c (.str [])] }]
def a43s1 : ACode := .reg [] a43r0
def a43r2 : List AOper := [
  { dst := .t 3, kind := .mv, args := [.v 0] },
  { dst := .t 4, kind := (.call 26), args := [.t 3, .c (.int .u8 1)] },
  { dst := .t 5, kind := (.un .not), args := [.t 4] }]
def a43r3 : List AOper := [
  { dst := .t 6, kind := .mv, args := [.v 0] },
  { dst := .t 7, kind := (.call 42), args := [.t 6, .c (.int .i64 4)] }]
def a43s4 : ACode := .reg [] a43r3
def a43r5 : List AOper := [
  { dst := .v 1, kind := .mv, args := [.c (.str [])] }]
def a43s6 : ACode := .reg [] a43r5
def a43s7 : ACode := .seq a43s6 .ret
def a43s8 : ACode := .seq a43s4 a43s7
def a43s9 : ACode := .test [] a43r2 (.t 5) a43s8 .skip
def a43r10 : List AOper := [
  { dst := .t 8, kind := .mv, args := [.v 0] },
  { dst := .t 9, kind := .nilchk, args := [.t 8] },
  { dst := .t 10, kind := (.fad 1), args := [.t 9] },
  { dst := .t 11, kind := (.ldSt false 1), args := [.t 10] },
  { dst := .t 12, kind := (.bin .add), args := [.t 11, .c (.int .i64 1)] },
  { dst := .t 13, kind := .nilchk, args := [.t 8] },
  { dst := .t 14, kind := (.fad 1), args := [.t 13] },
  { dst := .none, kind := (.stSt 1), args := [.t 14, .t 12] }]
def a43s11 : ACode := .reg [] a43r10
def a43r12 : List AOper := [
  { dst := .t 15, kind := .mv, args := [.v 0] },
  { dst := .t 16, kind := .nilchk, args := [.t 15] },
  { dst := .t 17, kind := (.fad 0), args := [.t 16] },
  { dst := .t 18, kind := (.ldSt false 1), args := [.t 17] },
  { dst := .t 19, kind := .mv, args := [.v 0] },
  { dst := .t 20, kind := .nilchk, args := [.t 19] },
  { dst := .t 21, kind := (.fad 1), args := [.t 20] },
  { dst := .t 22, kind := (.ldSt false 1), args := [.t 21] },
  { dst := .t 23, kind := (.bin .sub), args := [.t 22, .c (.int .i64 1)] },
  { dst := .t 24, kind := (.iad 4), args := [.t 18, .t 23] },
  { dst := .t 25, kind := (.fad 1), args := [.t 24] },
  { dst := .t 26, kind := (.ldRo false 1), args := [.t 25] },
  { dst := .v 1, kind := .mv, args := [.t 26] }]
def a43s13 : ACode := .reg [] a43r12
def a43s14 : ACode := .seq a43s13 .ret
def a43s15 : ACode := .seq a43s11 a43s14
def a43s16 : ACode := .seq a43s9 a43s15
def a43s17 : ACode := .seq a43s1 a43s16
def a43c : ACode :=
  a43s17
def a43 : AFn := { np := 1, nv := 2, results := [.v 1], code := a43c }
def a43v : List Nat := [0, 2]
def a43b : List Nat := []

-- (*columbary/columbaryref06.Reader).Must: 0, 1
def a44r0 : List AOper := [
  { dst := .t 4, kind := .mv, args := [.v 0] },
  { dst := .t 5, kind := .nilchk, args := [.t 4] },
  { dst := .t 6, kind := (.fad 4), args := [.t 5] },
  { dst := .t 7, kind := (.ldSt false 1), args := [.t 6] },
  { dst := .t 8, kind := (.bin .eql), args := [.t 7, .c (.int .i64 0)] },
  { dst := .t 9, kind := .mv, args := [.t 8] },
  { dst := .t 10, kind := .mv, args := [.v 0], guard := some (.t 9, true) },
  { dst := .t 11, kind := .mv, args := [.v 1], guard := some (.t 9, true) },
  { dst := .t 12, kind := (.call 46), args := [.t 10, .t 11], guard := some (.t 9, true) },
  { dst := .t 13, kind := (.un .not), args := [.t 12], guard := some (.t 9, true) },
  { dst := .t 14, kind := .pick, args := [.t 9, .t 13, .c (.bool false)] }]
def a44r1 : List AOper := [
  { dst := .t 15, kind := .mv, args := [.v 0] },
  { dst := .t 16, kind := (.call 42), args := [.t 15, .c (.int .i64 4)] }]
def a44s2 : ACode := .reg [] a44r1
def a44s3 : ACode := .test [] a44r0 (.t 14) a44s2 .skip
def a44c : ACode :=
  a44s3
def a44 : AFn := { np := 2, nv := 2, results := [], code := a44c }
def a44v : List Nat := [0, 1]
def a44b : List Nat := []

-- columbary/columbaryref07.names: 0, 1, 4, 5
def a45r0 : List AOper := [
  { dst := .v 2, kind := .mv, args := [.c (.list true [])] }]
def a45s1 : ACode := .reg [] a45r0
def a45r2 : List AOper := [
  { dst := .t 6, kind := .mv, args := [.v 0] },
  { dst := .t 7, kind := .mv, args := [.v 1] },
  { dst := .t 8, kind := (.call 46), args := [.t 6, .t 7] }]
def a45s3 : ACode := .reg [] a45r2
def a45r4 : List AOper := [
  { dst := .t 9, kind := .mv, args := [.v 0] },
  { dst := .t 10, kind := (.call 43), args := [.t 9] },
  { dst := .t 11, kind := (.bslice 1 [[.str []]] [0]), args := [.t 10] },
  { dst := .v 3, kind := .mv, args := [.ts 11] }]
def a45s5 : ACode := .reg [] a45r4
def a45r6 : List AOper := [
  { dst := .t 12, kind := .mv, args := [.v 0] },
  { dst := .t 13, kind := .mv, args := [.v 1] },
  { dst := .t 14, kind := (.call 46), args := [.t 12, .t 13] }]
def a45s7 : ACode := .test [] a45r6 (.t 14) .skip (.exit 0)
def a45r8 : List AOper := [
  { dst := .t 15, kind := .mv, args := [.vs 3] },
  { dst := .t 16, kind := .mv, args := [.v 0] },
  { dst := .t 17, kind := (.call 43), args := [.t 16] },
  { dst := .t 18, kind := (.bslice 1 [[.str []]] [0]), args := [.t 17] },
  { dst := .t 19, kind := (.app 1 16), args := [.ts 15, .t 18] },
  { dst := .v 3, kind := .mv, args := [.ts 19] }]
def a45s9 : ACode := .reg [] a45r8
def a45s10 : ACode := .blk 1 a45s9
def a45s11 : ACode := .seq a45s7 a45s10
def a45s12 : ACode := .loop a45s11
def a45s13 : ACode := .blk 0 a45s12
def a45r14 : List AOper := [
  { dst := .t 20, kind := .mv, args := [.v 3] },
  { dst := .v 2, kind := .mv, args := [.ts 20] }]
def a45s15 : ACode := .reg [] a45r14
def a45s16 : ACode := .seq a45s15 .ret
def a45s17 : ACode := .seq a45s13 a45s16
def a45s18 : ACode := .seq a45s5 a45s17
def a45s19 : ACode := .seq a45s3 a45s18
def a45s20 : ACode := .seq a45s1 a45s19
def a45c : ACode :=
  a45s20
def a45 : AFn := { np := 2, nv := 4, results := [.v 2], code := a45c }
def a45v : List Nat := [0, 1, 4, 5]
def a45b : List Nat := []

-- (*columbary/columbaryref06.Reader).Eat: 0, 1, 4
def a46r0 : List AOper := [
  { dst := .v 2, kind := .mv, args := [.c (.bool false)] }]
def a46s1 : ACode := .reg [] a46r0
def a46r2 : List AOper := [
  { dst := .t 5, kind := .mv, args := [.v 0] },
  { dst := .t 6, kind := .mv, args := [.v 1] },
  { dst := .t 7, kind := (.call 60), args := [.t 5, .t 6] },
  { dst := .t 8, kind := .mv, args := [.t 7] },
  { dst := .t 9, kind := .mv, args := [.v 0], guard := some (.t 8, false) },
  { dst := .t 10, kind := .mv, args := [.v 1], guard := some (.t 8, false) },
  { dst := .t 11, kind := (.call 41), args := [.t 9, .t 10], guard := some (.t 8, false) },
  { dst := .t 12, kind := .pick, args := [.t 8, .c (.bool true), .t 11] }]
def a46r3 : List AOper := [
  { dst := .t 13, kind := .mv, args := [.v 0] },
  { dst := .t 14, kind := .nilchk, args := [.t 13] },
  { dst := .t 15, kind := (.fad 1), args := [.t 14] },
  { dst := .t 16, kind := (.ldSt false 1), args := [.t 15] },
  { dst := .t 17, kind := (.bin .add), args := [.t 16, .c (.int .i64 1)] },
  { dst := .t 18, kind := .nilchk, args := [.t 13] },
  { dst := .t 19, kind := (.fad 1), args := [.t 18] },
  { dst := .none, kind := (.stSt 1), args := [.t 19, .t 17] }]
def a46s4 : ACode := .reg [] a46r3
def a46r5 : List AOper := [
  { dst := .v 2, kind := .mv, args := [.c (.bool true)] }]
def a46s6 : ACode := .reg [] a46r5
def a46s7 : ACode := .seq a46s6 .ret
def a46s8 : ACode := .seq a46s4 a46s7
def a46s9 : ACode := .test [] a46r2 (.t 12) a46s8 .skip
def a46r10 : List AOper := [
  { dst := .v 2, kind := .mv, args := [.c (.bool false)] }]
def a46s11 : ACode := .reg [] a46r10
def a46s12 : ACode := .seq a46s11 .ret
def a46s13 : ACode := .seq a46s9 a46s12
def a46s14 : ACode := .seq a46s1 a46s13
def a46c : ACode :=
  a46s14
def a46 : AFn := { np := 2, nv := 3, results := [.v 2], code := a46c }
def a46v : List Nat := [0, 1, 4]
def a46b : List Nat := []

-- columbary/columbaryref07.inputs: 0, 1, 4, 5, 6, 7
def a47r0 : List AOper := [
  { dst := .v 2, kind := .mv, args := [.c (.list true [])] }]
def a47s1 : ACode := .reg [] a47r0
def a47r2 : List AOper := [
  { dst := .v 3, kind := .mv, args := [.c (.list true [])] }]
def a47s3 : ACode := .reg [] a47r2
def a47r4 : List AOper := [
  { dst := .v 4, kind := .mv, args := [.c (.bool true)] }]
def a47s5 : ACode := .reg [] a47r4
def a47r6 : List AOper := [
  { dst := .t 8, kind := .mv, args := [.v 0] },
  { dst := .t 9, kind := .nilchk, args := [.t 8] },
  { dst := .t 10, kind := (.fad 4), args := [.t 9] },
  { dst := .t 11, kind := (.ldSt false 1), args := [.t 10] },
  { dst := .t 12, kind := (.bin .eql), args := [.t 11, .c (.int .i64 0)] },
  { dst := .t 13, kind := .mv, args := [.t 12] },
  { dst := .t 14, kind := .mv, args := [.v 4], guard := some (.t 13, true) },
  { dst := .t 15, kind := .mv, args := [.t 14], guard := some (.t 13, true) },
  { dst := .t 16, kind := .mv, args := [.v 0], guard := some (.t 15, false) },
  { dst := .t 17, kind := .mv, args := [.v 1], guard := some (.t 15, false) },
  { dst := .t 18, kind := (.call 46), args := [.t 16, .t 17], guard := some (.t 15, false) },
  { dst := .t 19, kind := (.un .not), args := [.t 18], guard := some (.t 15, false) },
  { dst := .t 20, kind := .pick, args := [.t 15, .c (.bool true), .t 19], guard := some (.t 13, true) },
  { dst := .t 21, kind := .pick, args := [.t 13, .t 20, .c (.bool false)] }]
def a47s7 : ACode := .test [] a47r6 (.t 21) .skip (.exit 0)
def a47r8 : List AOper := [
  { dst := .t 22, kind := .mv, args := [.v 0] },
  { dst := .t 23, kind := (.call 43), args := [.t 22] },
  { dst := .t 24, kind := (.build [.str [], .list true [], .str [], .list true [], .bool false, .bool false, .int .u8 0, .int .i64 0, .str [], .list true [], .list true []] [(0, 1)]), args := [.t 23] },
  { dst := .bx, kind := (.alloc [.str [], .list true [], .str [], .list true [], .bool false, .bool false, .int .u8 0, .int .i64 0, .str [], .list true [], .list true []]), args := [], box := some 5 },
  { dst := .none, kind := (.stLc 5 11), args := [.l 5, .ts 24], box := some 5 }]
def a47s9 : ACode := .reg [5] a47r8
def a47r10 : List AOper := [
  { dst := .t 25, kind := .mv, args := [.v 0] },
  { dst := .t 26, kind := (.call 44), args := [.t 25, .c (.str [58])] }]
def a47s11 : ACode := .reg [] a47r10
def a47r12 : List AOper := [
  { dst := .t 27, kind := .mv, args := [.v 0] },
  { dst := .t 28, kind := (.call 48), args := [.t 27] },
  { dst := .t 29, kind := (.fad 2), args := [.l 5] },
  { dst := .none, kind := (.stLc 5 3), args := [.t 29, .ts 28], box := some 5 }]
def a47s13 : ACode := .reg [] a47r12
def a47r14 : List AOper := [
  { dst := .t 30, kind := .mv, args := [.v 0] },
  { dst := .t 31, kind := (.call 46), args := [.t 30, .c (.str [61])] }]
def a47r15 : List AOper := [
  { dst := .t 32, kind := (.fad 5), args := [.l 5] },
  { dst := .none, kind := (.stLc 5 1), args := [.t 32, .c (.bool true)], box := some 5 }]
def a47s16 : ACode := .reg [] a47r15
def a47r17 : List AOper := [
  { dst := .t 33, kind := .mv, args := [.v 0] },
  { dst := .t 34, kind := (.call 61), args := [.t 33, .c (.bool true)] },
  { dst := .t 35, kind := (.fad 6), args := [.l 5] },
  { dst := .none, kind := (.stLc 5 5), args := [.t 35, .ts 34], box := some 5 }]
def a47s18 : ACode := .reg [] a47r17
def a47s19 : ACode := .seq a47s16 a47s18
def a47s20 : ACode := .test [] a47r14 (.t 31) a47s19 .skip
def a47r21 : List AOper := [
  { dst := .t 36, kind := .mv, args := [.vs 3] },
  { dst := .t 37, kind := (.ldLc 5 true 11), args := [.l 5], box := some 5 },
  { dst := .t 38, kind := (.bslice 11 [[.str [], .list true [], .str [], .list true [], .bool false, .bool false, .int .u8 0, .int .i64 0, .str [], .list true [], .list true []]] [0]), args := [.t 37] },
  { dst := .t 39, kind := (.app 11 176), args := [.ts 36, .t 38] },
  { dst := .v 3, kind := .mv, args := [.ts 39] }]
def a47s22 : ACode := .reg [] a47r21
def a47s23 : ACode := .seq a47s20 a47s22
def a47s24 : ACode := .seq a47s13 a47s23
def a47s25 : ACode := .seq a47s11 a47s24
def a47s26 : ACode := .seq a47s9 a47s25
def a47s27 : ACode := .blk 1 a47s26
def a47r28 : List AOper := [
  { dst := .v 4, kind := .mv, args := [.c (.bool false)] }]
def a47s29 : ACode := .reg [] a47r28
def a47s30 : ACode := .seq a47s27 a47s29
def a47s31 : ACode := .seq a47s7 a47s30
def a47s32 : ACode := .loop a47s31
def a47s33 : ACode := .blk 0 a47s32
def a47s34 : ACode := .seq a47s5 a47s33
def a47r35 : List AOper := [
  { dst := .t 40, kind := .mv, args := [.v 3] },
  { dst := .v 2, kind := .mv, args := [.ts 40] }]
def a47s36 : ACode := .reg [] a47r35
def a47s37 : ACode := .seq a47s36 .ret
def a47s38 : ACode := .seq a47s34 a47s37
def a47s39 : ACode := .seq a47s3 a47s38
def a47s40 : ACode := .seq a47s1 a47s39
def a47c : ACode :=
  a47s40
def a47 : AFn := { np := 2, nv := 6, results := [.v 2], code := a47c }
def a47v : List Nat := [0, 1, 4, 5, 6, 7]
def a47b : List Nat := [5]

-- (*columbary/columbaryref06.Reader).Type: 0, 2, 3, 4
def a48r0 : List AOper := [
  { dst := .bx, kind := (.alloc [.str [], .list true [], .bool false]), args := [], box := some 1 }]
def a48s1 : ACode := .reg [1] a48r0
def a48r2 : List AOper := [
  { dst := .bx, kind := (.alloc [.str [], .list true [], .bool false]), args := [], box := some 2 }]
def a48s3 : ACode := .reg [2] a48r2
def a48r4 : List AOper := [
  { dst := .t 5, kind := .mv, args := [.v 0] },
  { dst := .t 6, kind := (.call 62), args := [.t 5] }]
def a48r5 : List AOper := [
  { dst := .t 7, kind := .mv, args := [.v 0] },
  { dst := .t 8, kind := (.call 46), args := [.t 7, .c (.str [91])] }]
def a48r6 : List AOper := [
  { dst := .t 9, kind := .mv, args := [.v 0] },
  { dst := .t 10, kind := (.call 48), args := [.t 9] },
  { dst := .bx, kind := (.alloc [.str [], .list true [], .bool false]), args := [], box := some 3 },
  { dst := .none, kind := (.stLc 3 3), args := [.l 3, .ts 10], box := some 3 }]
def a48s7 : ACode := .reg [3] a48r6
def a48r8 : List AOper := [
  { dst := .t 11, kind := (.ldLc 3 true 3), args := [.l 3], box := some 3 },
  { dst := .t 12, kind := (.bslice 3 [[.str [], .list true [], .bool false]] [0]), args := [.t 11] },
  { dst := .t 13, kind := (.fad 1), args := [.l 2] },
  { dst := .none, kind := (.stLc 2 1), args := [.t 13, .ts 12], box := some 2 }]
def a48s9 : ACode := .reg [] a48r8
def a48r10 : List AOper := [
  { dst := .t 14, kind := .mv, args := [.v 0] },
  { dst := .t 15, kind := (.call 44), args := [.t 14, .c (.str [93])] }]
def a48s11 : ACode := .reg [] a48r10
def a48s12 : ACode := .seq a48s9 a48s11
def a48s13 : ACode := .seq a48s7 a48s12
def a48r14 : List AOper := [
  { dst := .t 16, kind := .mv, args := [.v 0] },
  { dst := .t 17, kind := (.call 43), args := [.t 16] },
  { dst := .t 18, kind := (.fad 0), args := [.l 2] },
  { dst := .none, kind := (.stLc 2 1), args := [.t 18, .t 17], box := some 2 }]
def a48s15 : ACode := .reg [] a48r14
def a48s16 : ACode := .test [] a48r5 (.t 8) a48s13 a48s15
def a48r17 : List AOper := [
  { dst := .t 19, kind := .mv, args := [.v 0] },
  { dst := .t 20, kind := (.call 46), args := [.t 19, .c (.str [33])] },
  { dst := .t 21, kind := (.fad 2), args := [.l 2] },
  { dst := .none, kind := (.stLc 2 1), args := [.t 21, .t 20], box := some 2 }]
def a48s18 : ACode := .reg [] a48r17
def a48s19 : ACode := .seq a48s16 a48s18
def a48s20 : ACode := .test [] a48r4 (.t 6) a48s19 .skip
def a48r21 : List AOper := [
  { dst := .t 22, kind := .mv, args := [.v 0] },
  { dst := .t 23, kind := .nilchk, args := [.t 22] },
  { dst := .t 24, kind := (.fad 2), args := [.t 23] },
  { dst := .t 25, kind := (.ldSt false 1), args := [.t 24] },
  { dst := .t 26, kind := (.bin .sub), args := [.t 25, .c (.int .i64 1)] },
  { dst := .t 27, kind := .nilchk, args := [.t 22] },
  { dst := .t 28, kind := (.fad 2), args := [.t 27] },
  { dst := .none, kind := (.stSt 1), args := [.t 28, .t 26] }]
def a48s22 : ACode := .reg [] a48r21
def a48r23 : List AOper := [
  { dst := .t 29, kind := (.ldLc 2 true 3), args := [.l 2], box := some 2 },
  { dst := .none, kind := (.stLc 1 3), args := [.l 1, .ts 29], box := some 1 }]
def a48s24 : ACode := .reg [] a48r23
def a48s25 : ACode := .seq a48s24 .ret
def a48s26 : ACode := .seq a48s22 a48s25
def a48s27 : ACode := .seq a48s20 a48s26
def a48s28 : ACode := .seq a48s3 a48s27
def a48s29 : ACode := .seq a48s1 a48s28
def a48c : ACode :=
  a48s29
def a48 : AFn := { np := 1, nv := 4, results := [.bx 1 true 3], code := a48c }
def a48v : List Nat := [0, 2, 3, 4]
def a48b : List Nat := [1, 2, 3]

-- internal/stringslite.HasPrefix: 0, 1, 4
def a49r0 : List AOper := [
  { dst := .v 2, kind := .mv, args := [.c (.bool false)] }]
def a49s1 : ACode := .reg [] a49r0
def a49r2 : List AOper := [
  { dst := .t 5, kind := .mv, args := [.v 0] },
  { dst := .t 6, kind := .lenS, args := [.t 5] },
  { dst := .t 7, kind := .mv, args := [.v 1] },
  { dst := .t 8, kind := .lenS, args := [.t 7] },
  { dst := .t 9, kind := (.bin .geq), args := [.t 6, .t 8] },
  { dst := .t 10, kind := .mv, args := [.t 9] },
  { dst := .t 11, kind := .mv, args := [.v 0], guard := some (.t 10, true) },
  { dst := .t 12, kind := .mv, args := [.v 1], guard := some (.t 10, true) },
  { dst := .t 13, kind := .lenS, args := [.t 12], guard := some (.t 10, true) },
  { dst := .t 14, kind := (.slS false true), args := [.t 11, .t 13], guard := some (.t 10, true) },
  { dst := .t 15, kind := .mv, args := [.v 1], guard := some (.t 10, true) },
  { dst := .t 16, kind := (.bin .eql), args := [.t 14, .t 15], guard := some (.t 10, true) },
  { dst := .t 17, kind := .pick, args := [.t 10, .t 16, .c (.bool false)] },
  { dst := .v 2, kind := .mv, args := [.t 17] }]
def a49s3 : ACode := .reg [] a49r2
def a49s4 : ACode := .seq a49s3 .ret
def a49s5 : ACode := .seq a49s1 a49s4
def a49c : ACode :=
  a49s5
def a49 : AFn := { np := 2, nv := 3, results := [.v 2], code := a49c }
def a49v : List Nat := [0, 1, 4]
def a49b : List Nat := []

-- columbary/schema.twice: 0, 2, 3, 4, 5, 6, 7
def a50r0 : List AOper := [
  { dst := .bx, kind := (.alloc [.int .i64 0, .str []]), args := [], box := some 1 }]
def a50s1 : ACode := .reg [1] a50r0
def a50r2 : List AOper := [
  { dst := .v 4, kind := .mv, args := [.v 0] },
  { dst := .v 5, kind := .lenL, args := [.v 4] },
  { dst := .v 6, kind := .mv, args := [.c (.int .i64 0)] }]
def a50s3 : ACode := .reg [] a50r2
def a50r4 : List AOper := [
  { dst := .t 8, kind := (.bin .lss), args := [.v 6, .v 5] }]
def a50s5 : ACode := .test [] a50r4 (.t 8) .skip (.exit 0)
def a50r6 : List AOper := [
  { dst := .t 9, kind := .mv, args := [.v 6] },
  { dst := .t 10, kind := (.iad 1), args := [.v 4, .v 6] },
  { dst := .t 11, kind := (.ldRo false 1), args := [.t 10] },
  { dst := .v 2, kind := .mv, args := [.t 9] },
  { dst := .v 3, kind := .mv, args := [.t 11] }]
def a50s7 : ACode := .reg [] a50r6
def a50r8 : List AOper := [
  { dst := .t 12, kind := .mv, args := [.v 0] },
  { dst := .t 13, kind := .mv, args := [.v 2] },
  { dst := .t 14, kind := (.slL 1 false true), args := [.t 12, .t 13] },
  { dst := .t 15, kind := .mv, args := [.v 3] },
  { dst := .t 16, kind := (.call 29), args := [.t 14, .t 15] }]
def a50r9 : List AOper := [
  { dst := .t 17, kind := .mv, args := [.v 3] },
  { dst := .t 18, kind := (.build [.int .i64 0, .str []] [(0, 1), (1, 1)]), args := [.c (.int .i64 7), .t 17] },
  { dst := .none, kind := (.stLc 1 2), args := [.l 1, .t 18], box := some 1 }]
def a50s10 : ACode := .reg [] a50r9
def a50s11 : ACode := .seq a50s10 .ret
def a50s12 : ACode := .test [] a50r8 (.t 16) a50s11 .skip
def a50r13 : List AOper := [
  { dst := .t 19, kind := .mv, args := [.v 3] },
  { dst := .t 20, kind := (.call 30), args := [.t 19, .c (.str [95, 95])] }]
def a50r14 : List AOper := [
  { dst := .t 21, kind := .mv, args := [.v 3] },
  { dst := .t 22, kind := (.build [.int .i64 0, .str []] [(0, 1), (1, 1)]), args := [.c (.int .i64 1), .t 21] },
  { dst := .none, kind := (.stLc 1 2), args := [.l 1, .t 22], box := some 1 }]
def a50s15 : ACode := .reg [] a50r14
def a50s16 : ACode := .seq a50s15 .ret
def a50s17 : ACode := .test [] a50r13 (.t 20) a50s16 .skip
def a50s18 : ACode := .seq a50s12 a50s17
def a50s19 : ACode := .seq a50s7 a50s18
def a50s20 : ACode := .blk 1 a50s19
def a50r21 : List AOper := [
  { dst := .t 23, kind := (.bin .add), args := [.v 6, .c (.int .i64 1)] },
  { dst := .v 6, kind := .mv, args := [.t 23] }]
def a50s22 : ACode := .reg [] a50r21
def a50s23 : ACode := .seq a50s20 a50s22
def a50s24 : ACode := .seq a50s5 a50s23
def a50s25 : ACode := .loop a50s24
def a50s26 : ACode := .blk 0 a50s25
def a50s27 : ACode := .seq a50s3 a50s26
def a50r28 : List AOper := [
  { dst := .t 24, kind := (.build [.int .i64 0, .str []] []), args := [] },
  { dst := .none, kind := (.stLc 1 2), args := [.l 1, .t 24], box := some 1 }]
def a50s29 : ACode := .reg [] a50r28
def a50s30 : ACode := .seq a50s29 .ret
def a50s31 : ACode := .seq a50s27 a50s30
def a50s32 : ACode := .seq a50s1 a50s31
def a50c : ACode :=
  a50s32
def a50 : AFn := { np := 1, nv := 7, results := [.bx 1 true 2], code := a50c }
def a50v : List Nat := [0, 2, 3, 4, 5, 6, 7]
def a50b : List Nat := [1]

-- (*columbary/schema.Schema).field: 0, 1, 2, 4, 6, 7, 8, 9, 10, 12, 13, 14, 35, 84, 85, 86
def a51r0 : List AOper := [
  { dst := .bx, kind := .boxV, args := [.v 1], box := some 3 },
  { dst := .bx, kind := (.alloc [.int .i64 0, .str []]), args := [], box := some 4 }]
def a51s1 : ACode := .reg [3, 4] a51r0
def a51r2 : List AOper := [
  { dst := .t 15, kind := (.fad 2), args := [.l 3] },
  { dst := .t 16, kind := (.ldLc 3 true 3), args := [.t 15], box := some 3 },
  { dst := .t 17, kind := (.call 63), args := [.t 16] },
  { dst := .v 5, kind := .mv, args := [.t 17] }]
def a51s3 : ACode := .reg [] a51r2
def a51r4 : List AOper := [
  { dst := .t 19, kind := .mv, args := [.v 0] },
  { dst := .t 20, kind := .mv, args := [.v 5] },
  { dst := .t 21, kind := (.call 15), args := [.t 19, .t 20] },
  { dst := .t 18, kind := .mv, args := [.t 21] },
  { dst := .t 22, kind := (.ext 0), args := [.t 18] },
  { dst := .t 23, kind := (.ext 1), args := [.t 18] },
  { dst := .bx, kind := (.alloc [.int .u8 0, .str [], .list true [], .list true []]), args := [], box := some 6 },
  { dst := .none, kind := (.stLc 6 4), args := [.l 6, .ts 22], box := some 6 },
  { dst := .v 7, kind := .mv, args := [.t 23] }]
def a51s5 : ACode := .reg [6] a51r4
def a51r6 : List AOper := [
  { dst := .t 25, kind := .mv, args := [.v 7] },
  { dst := .t 26, kind := (.un .not), args := [.t 25] },
  { dst := .t 27, kind := .mv, args := [.t 26] },
  { dst := .t 28, kind := .mv, args := [.v 0], guard := some (.t 27, true) },
  { dst := .t 29, kind := .mv, args := [.v 5], guard := some (.t 27, true) },
  { dst := .t 30, kind := (.call 21), args := [.t 28, .t 29], guard := some (.t 27, true) },
  { dst := .t 31, kind := (.un .not), args := [.t 30], guard := some (.t 27, true) },
  { dst := .t 32, kind := .pick, args := [.t 27, .t 31, .c (.bool false)] },
  { dst := .t 24, kind := .mv, args := [.t 32] }]
def a51r7 : List AOper := [
  { dst := .t 33, kind := .mv, args := [.v 5] },
  { dst := .t 34, kind := (.build [.int .i64 0, .str []] [(0, 1), (1, 1)]), args := [.c (.int .i64 6), .t 33] },
  { dst := .none, kind := (.stLc 4 2), args := [.l 4, .t 34], box := some 4 }]
def a51s8 : ACode := .reg [] a51r7
def a51s9 : ACode := .seq a51s8 .ret
def a51r10 : List AOper := [
  { dst := .t 36, kind := .mv, args := [.v 2] },
  { dst := .t 37, kind := .mv, args := [.t 36] },
  { dst := .t 38, kind := .mv, args := [.v 0], guard := some (.t 37, true) },
  { dst := .t 39, kind := .mv, args := [.v 5], guard := some (.t 37, true) },
  { dst := .t 40, kind := (.call 21), args := [.t 38, .t 39], guard := some (.t 37, true) },
  { dst := .t 41, kind := (.un .not), args := [.t 40], guard := some (.t 37, true) },
  { dst := .t 42, kind := .pick, args := [.t 37, .t 41, .c (.bool false)] },
  { dst := .t 43, kind := .mv, args := [.t 42] },
  { dst := .t 44, kind := .mv, args := [.v 0], guard := some (.t 43, true) },
  { dst := .t 45, kind := .mv, args := [.v 5], guard := some (.t 43, true) },
  { dst := .t 46, kind := (.call 22), args := [.t 44, .t 45], guard := some (.t 43, true) },
  { dst := .t 47, kind := (.un .not), args := [.t 46], guard := some (.t 43, true) },
  { dst := .t 48, kind := .pick, args := [.t 43, .t 47, .c (.bool false)] },
  { dst := .v 12, kind := .mv, args := [.t 48] }]
def a51r11 : List AOper := [
  { dst := .t 49, kind := .mv, args := [.v 2] },
  { dst := .t 50, kind := (.un .not), args := [.t 49] },
  { dst := .t 51, kind := .mv, args := [.t 50] },
  { dst := .t 52, kind := .mv, args := [.v 0], guard := some (.t 51, true) },
  { dst := .t 53, kind := .mv, args := [.v 5], guard := some (.t 51, true) },
  { dst := .t 54, kind := (.call 23), args := [.t 52, .t 53], guard := some (.t 51, true) },
  { dst := .t 55, kind := .pick, args := [.t 51, .t 54, .c (.bool false)] },
  { dst := .v 12, kind := .mv, args := [.t 55] }]
def a51r12 : List AOper := [
  { dst := .t 56, kind := .mv, args := [.v 5] },
  { dst := .t 57, kind := (.call 34), args := [.t 56] },
  { dst := .v 12, kind := .mv, args := [.t 57] }]
def a51s13 : ACode := .reg [] a51r12
def a51s14 : ACode := .test [] a51r11 (.v 12) .skip a51s13
def a51s15 : ACode := .test [] a51r10 (.v 12) .skip a51s14
def a51r16 : List AOper := [
  { dst := .t 58, kind := .mv, args := [.v 5] },
  { dst := .t 59, kind := (.build [.int .i64 0, .str []] [(0, 1), (1, 1)]), args := [.c (.int .i64 8), .t 58] },
  { dst := .none, kind := (.stLc 4 2), args := [.l 4, .t 59], box := some 4 }]
def a51s17 : ACode := .reg [] a51r16
def a51s18 : ACode := .seq a51s17 .ret
def a51r19 : List AOper := [
  { dst := .t 61, kind := (.fad 5), args := [.l 3] },
  { dst := .t 62, kind := (.ldLc 3 false 1), args := [.t 61], box := some 3 },
  { dst := .t 63, kind := .mv, args := [.t 62] },
  { dst := .t 64, kind := .mv, args := [.v 0], guard := some (.t 63, true) },
  { dst := .t 65, kind := (.fad 2), args := [.l 3], guard := some (.t 63, true) },
  { dst := .t 66, kind := (.ldLc 3 true 3), args := [.t 65], box := some 3, guard := some (.t 63, true) },
  { dst := .t 67, kind := (.fad 6), args := [.l 3], guard := some (.t 63, true) },
  { dst := .t 68, kind := (.ldLc 3 true 5), args := [.t 67], box := some 3, guard := some (.t 63, true) },
  { dst := .t 69, kind := (.call 64), args := [.t 64, .t 66, .t 68], guard := some (.t 63, true) },
  { dst := .t 70, kind := (.un .not), args := [.t 69], guard := some (.t 63, true) },
  { dst := .t 71, kind := .pick, args := [.t 63, .t 70, .c (.bool false)] },
  { dst := .t 60, kind := .mv, args := [.t 71] }]
def a51r20 : List AOper := [
  { dst := .t 72, kind := (.fad 0), args := [.l 3] },
  { dst := .t 73, kind := (.ldLc 3 false 1), args := [.t 72], box := some 3 },
  { dst := .t 74, kind := (.build [.int .i64 0, .str []] [(0, 1), (1, 1)]), args := [.c (.int .i64 8), .t 73] },
  { dst := .none, kind := (.stLc 4 2), args := [.l 4, .t 74], box := some 4 }]
def a51s21 : ACode := .reg [] a51r20
def a51s22 : ACode := .seq a51s21 .ret
def a51s23 : ACode := .test [] a51r19 (.t 60) a51s22 .skip
def a51s24 : ACode := .test [] [] (.v 12) a51s18 a51s23
def a51s25 : ACode := .seq a51s15 a51s24
def a51s26 : ACode := .test [] a51r6 (.t 24) a51s9 a51s25
def a51s27 : ACode := .blk 0 a51s26
def a51r28 : List AOper := [
  { dst := .t 75, kind := (.fad 1), args := [.l 3] },
  { dst := .t 76, kind := (.ldLc 3 false 1), args := [.t 75], box := some 3 },
  { dst := .t 77, kind := (.call 37), args := [.t 76] },
  { dst := .t 78, kind := (.call 50), args := [.t 77] },
  { dst := .bx, kind := (.alloc [.int .i64 0, .str []]), args := [], box := some 8 },
  { dst := .none, kind := (.stLc 8 2), args := [.l 8, .t 78], box := some 8 }]
def a51s29 : ACode := .reg [8] a51r28
def a51r30 : List AOper := [
  { dst := .t 79, kind := (.fad 0), args := [.l 8] },
  { dst := .t 80, kind := (.ldLc 8 false 1), args := [.t 79], box := some 8 },
  { dst := .t 81, kind := (.bin .neq), args := [.t 80, .c (.int .i64 0)] }]
def a51r31 : List AOper := [
  { dst := .t 82, kind := (.ldLc 8 true 2), args := [.l 8], box := some 8 },
  { dst := .none, kind := (.stLc 4 2), args := [.l 4, .t 82], box := some 4 }]
def a51s32 : ACode := .reg [] a51r31
def a51s33 : ACode := .seq a51s32 .ret
def a51s34 : ACode := .test [] a51r30 (.t 81) a51s33 .skip
def a51s35 : ACode := .seq a51s29 a51s34
def a51r36 : List AOper := [
  { dst := .t 83, kind := (.fad 1), args := [.l 3] },
  { dst := .v 13, kind := (.ldLc 3 false 1), args := [.t 83], box := some 3 },
  { dst := .v 14, kind := .lenL, args := [.v 13] },
  { dst := .v 15, kind := .mv, args := [.c (.int .i64 0)] }]
def a51s37 : ACode := .reg [] a51r36
def a51r38 : List AOper := [
  { dst := .t 87, kind := (.bin .lss), args := [.v 15, .v 14] }]
def a51s39 : ACode := .test [] a51r38 (.t 87) .skip (.exit 1)
def a51r40 : List AOper := [
  { dst := .t 88, kind := (.iad 11), args := [.v 13, .v 15] },
  { dst := .t 89, kind := (.ldRo true 11), args := [.t 88] },
  { dst := .bx, kind := (.alloc [.str [], .list true [], .str [], .list true [], .bool false, .bool false, .int .u8 0, .int .i64 0, .str [], .list true [], .list true []]), args := [], box := some 9 },
  { dst := .none, kind := (.stLc 9 11), args := [.l 9, .ts 89], box := some 9 }]
def a51s41 : ACode := .reg [9] a51r40
def a51r42 : List AOper := [
  { dst := .t 90, kind := (.fad 2), args := [.l 9] },
  { dst := .t 91, kind := (.ldLc 9 true 3), args := [.t 90], box := some 9 },
  { dst := .t 92, kind := (.call 63), args := [.t 91] },
  { dst := .v 10, kind := .mv, args := [.t 92] }]
def a51s43 : ACode := .reg [] a51r42
def a51r44 : List AOper := [
  { dst := .t 101, kind := .mv, args := [.v 0] },
  { dst := .t 102, kind := .mv, args := [.v 10] },
  { dst := .t 103, kind := (.call 23), args := [.t 101, .t 102] },
  { dst := .t 100, kind := .mv, args := [.t 103] }]
def a51r45 : List AOper := [
  { dst := .t 104, kind := (.fad 5), args := [.l 9] },
  { dst := .t 105, kind := (.ldLc 9 false 1), args := [.t 104], box := some 9 }]
def a51r46 : List AOper := [
  { dst := .t 106, kind := (.fad 0), args := [.l 9] },
  { dst := .t 107, kind := (.ldLc 9 false 1), args := [.t 106], box := some 9 },
  { dst := .t 108, kind := (.build [.int .i64 0, .str []] [(0, 1), (1, 1)]), args := [.c (.int .i64 8), .t 107] },
  { dst := .none, kind := (.stLc 4 2), args := [.l 4, .t 108], box := some 4 }]
def a51s47 : ACode := .reg [] a51r46
def a51s48 : ACode := .seq a51s47 .ret
def a51s49 : ACode := .test [] a51r45 (.t 105) a51s48 .skip
def a51r50 : List AOper := [
  { dst := .t 93, kind := .mv, args := [.v 0] },
  { dst := .t 94, kind := (.ldLc 9 true 11), args := [.l 9], box := some 9 },
  { dst := .t 95, kind := (.call 51), args := [.t 93, .t 94, .c (.bool true)] },
  { dst := .bx, kind := (.alloc [.int .i64 0, .str []]), args := [], box := some 11 },
  { dst := .none, kind := (.stLc 11 2), args := [.l 11, .t 95], box := some 11 }]
def a51s51 : ACode := .reg [11] a51r50
def a51r52 : List AOper := [
  { dst := .t 96, kind := (.fad 0), args := [.l 11] },
  { dst := .t 97, kind := (.ldLc 11 false 1), args := [.t 96], box := some 11 },
  { dst := .t 98, kind := (.bin .neq), args := [.t 97, .c (.int .i64 0)] }]
def a51r53 : List AOper := [
  { dst := .t 99, kind := (.ldLc 11 true 2), args := [.l 11], box := some 11 },
  { dst := .none, kind := (.stLc 4 2), args := [.l 4, .t 99], box := some 4 }]
def a51s54 : ACode := .reg [] a51r53
def a51s55 : ACode := .seq a51s54 .ret
def a51s56 : ACode := .test [] a51r52 (.t 98) a51s55 .skip
def a51s57 : ACode := .seq a51s51 a51s56
def a51s58 : ACode := .test [] a51r44 (.t 100) a51s49 a51s57
def a51s59 : ACode := .blk 3 a51s58
def a51s60 : ACode := .seq a51s43 a51s59
def a51s61 : ACode := .seq a51s41 a51s60
def a51s62 : ACode := .blk 2 a51s61
def a51r63 : List AOper := [
  { dst := .t 109, kind := (.bin .add), args := [.v 15, .c (.int .i64 1)] },
  { dst := .v 15, kind := .mv, args := [.t 109] }]
def a51s64 : ACode := .reg [] a51r63
def a51s65 : ACode := .seq a51s62 a51s64
def a51s66 : ACode := .seq a51s39 a51s65
def a51s67 : ACode := .loop a51s66
def a51s68 : ACode := .blk 1 a51s67
def a51s69 : ACode := .seq a51s37 a51s68
def a51r70 : List AOper := [
  { dst := .t 110, kind := (.build [.int .i64 0, .str []] []), args := [] },
  { dst := .none, kind := (.stLc 4 2), args := [.l 4, .t 110], box := some 4 }]
def a51s71 : ACode := .reg [] a51r70
def a51s72 : ACode := .seq a51s71 .ret
def a51s73 : ACode := .seq a51s69 a51s72
def a51s74 : ACode := .seq a51s35 a51s73
def a51s75 : ACode := .seq a51s27 a51s74
def a51s76 : ACode := .seq a51s5 a51s75
def a51s77 : ACode := .seq a51s3 a51s76
def a51s78 : ACode := .seq a51s1 a51s77
def a51c : ACode :=
  a51s78
def a51 : AFn := { np := 3, nv := 16, results := [.bx 4 true 2], code := a51c }
def a51v : List Nat := [0, 1, 2, 4, 6, 7, 8, 9, 10, 12, 13, 14, 35, 84, 85, 86]
def a51b : List Nat := [3, 4, 6, 8, 9, 11]

-- (*columbary/schema.Schema).implements: 0, 1, 2, 4, 5, 6
def a52r0 : List AOper := [
  { dst := .v 3, kind := .boxO, args := [.v 1] },
  { dst := .bx, kind := .boxV, args := [.v 2], box := some 4 },
  { dst := .v 5, kind := .mv, args := [.c (.bool false)] }]
def a52s1 : ACode := .reg [4] a52r0
def a52r2 : List AOper := [
  { dst := .t 7, kind := (.fad 2), args := [.l 4] },
  { dst := .t 8, kind := (.ldLc 4 false 1), args := [.t 7], box := some 4 },
  { dst := .t 9, kind := (.mkF 66 0), args := [.v 3] },
  { dst := .t 10, kind := (.call 65), args := [.t 8, .t 9] },
  { dst := .t 11, kind := (.un .not), args := [.t 10] },
  { dst := .v 5, kind := .mv, args := [.t 11] }]
def a52s3 : ACode := .reg [] a52r2
def a52s4 : ACode := .seq a52s3 .ret
def a52s5 : ACode := .seq a52s1 a52s4
def a52c : ACode :=
  a52s5
def a52 : AFn := { np := 3, nv := 6, results := [.v 5], code := a52c }
def a52v : List Nat := [0, 1, 2, 4, 5, 6]
def a52b : List Nat := [4]

-- (*columbary/schema.Schema).lookup: 0, 1, 3, 4
def a53r0 : List AOper := [
  { dst := .bx, kind := .boxV, args := [.v 1], box := some 2 },
  { dst := .v 3, kind := .mv, args := [.c (.bool false)] }]
def a53s1 : ACode := .reg [2] a53r0
def a53r2 : List AOper := [
  { dst := .t 5, kind := (.fad 1), args := [.l 2] },
  { dst := .t 6, kind := (.ldLc 2 false 1), args := [.t 5], box := some 2 },
  { dst := .t 7, kind := .lenL, args := [.t 6] },
  { dst := .t 8, kind := (.bin .eql), args := [.t 7, .c (.int .i64 1)] },
  { dst := .t 9, kind := .mv, args := [.t 8] },
  { dst := .t 10, kind := (.fad 1), args := [.l 2], guard := some (.t 9, true) },
  { dst := .t 11, kind := (.ldLc 2 false 1), args := [.t 10], box := some 2, guard := some (.t 9, true) },
  { dst := .t 12, kind := (.iad 11), args := [.t 11, .c (.int .i64 0)], guard := some (.t 9, true) },
  { dst := .t 13, kind := (.ldRo true 11), args := [.t 12], guard := some (.t 9, true) },
  { dst := .t 14, kind := (.call 67), args := [.t 13], guard := some (.t 9, true) },
  { dst := .t 15, kind := .pick, args := [.t 9, .t 14, .c (.bool false)] },
  { dst := .t 16, kind := .mv, args := [.t 15] },
  { dst := .t 17, kind := (.fad 2), args := [.l 2], guard := some (.t 16, true) },
  { dst := .t 18, kind := (.fad 1), args := [.t 17], guard := some (.t 16, true) },
  { dst := .t 19, kind := (.ldLc 2 false 1), args := [.t 18], box := some 2, guard := some (.t 16, true) },
  { dst := .t 20, kind := .lenL, args := [.t 19], guard := some (.t 16, true) },
  { dst := .t 21, kind := (.bin .eql), args := [.t 20, .c (.int .i64 0)], guard := some (.t 16, true) },
  { dst := .t 22, kind := .pick, args := [.t 16, .t 21, .c (.bool false)] },
  { dst := .t 23, kind := .mv, args := [.t 22] },
  { dst := .t 24, kind := (.fad 2), args := [.l 2], guard := some (.t 23, true) },
  { dst := .t 25, kind := (.fad 2), args := [.t 24], guard := some (.t 23, true) },
  { dst := .t 26, kind := (.ldLc 2 false 1), args := [.t 25], box := some 2, guard := some (.t 23, true) },
  { dst := .t 27, kind := (.un .not), args := [.t 26], guard := some (.t 23, true) },
  { dst := .t 28, kind := .pick, args := [.t 23, .t 27, .c (.bool false)] },
  { dst := .t 29, kind := .mv, args := [.t 28] },
  { dst := .t 30, kind := .mv, args := [.v 0], guard := some (.t 29, true) },
  { dst := .t 31, kind := (.fad 2), args := [.l 2], guard := some (.t 29, true) },
  { dst := .t 32, kind := (.fad 0), args := [.t 31], guard := some (.t 29, true) },
  { dst := .t 33, kind := (.ldLc 2 false 1), args := [.t 32], box := some 2, guard := some (.t 29, true) },
  { dst := .t 34, kind := (.call 12), args := [.t 30, .t 33], guard := some (.t 29, true) },
  { dst := .t 35, kind := .pick, args := [.t 29, .t 34, .c (.bool false)] },
  { dst := .v 3, kind := .mv, args := [.t 35] }]
def a53s3 : ACode := .reg [] a53r2
def a53s4 : ACode := .seq a53s3 .ret
def a53s5 : ACode := .seq a53s1 a53s4
def a53c : ACode :=
  a53s5
def a53 : AFn := { np := 2, nv := 4, results := [.v 3], code := a53c }
def a53v : List Nat := [0, 1, 3, 4]
def a53b : List Nat := [2]

-- (*columbary/schema.Schema).all: 0, 1, 3, 4
def a54r0 : List AOper := [
  { dst := .bx, kind := .boxV, args := [.v 1], box := some 2 },
  { dst := .v 3, kind := .mv, args := [.c (.bool false)] }]
def a54s1 : ACode := .reg [2] a54r0
def a54r2 : List AOper := [
  { dst := .t 5, kind := (.fad 1), args := [.l 2] },
  { dst := .t 6, kind := (.ldLc 2 false 1), args := [.t 5], box := some 2 },
  { dst := .t 7, kind := .lenL, args := [.t 6] },
  { dst := .t 8, kind := (.bin .eql), args := [.t 7, .c (.int .i64 0)] },
  { dst := .t 9, kind := .mv, args := [.t 8] },
  { dst := .t 10, kind := .mv, args := [.v 0], guard := some (.t 9, true) },
  { dst := .t 11, kind := (.fad 2), args := [.l 2], guard := some (.t 9, true) },
  { dst := .t 12, kind := (.ldLc 2 true 3), args := [.t 11], box := some 2, guard := some (.t 9, true) },
  { dst := .t 13, kind := (.call 63), args := [.t 12], guard := some (.t 9, true) },
  { dst := .t 14, kind := (.call 12), args := [.t 10, .t 13], guard := some (.t 9, true) },
  { dst := .t 15, kind := .pick, args := [.t 9, .t 14, .c (.bool false)] },
  { dst := .t 16, kind := .mv, args := [.t 15] },
  { dst := .t 17, kind := (.fad 2), args := [.l 2], guard := some (.t 16, true) },
  { dst := .t 18, kind := (.ldLc 2 true 3), args := [.t 17], box := some 2, guard := some (.t 16, true) },
  { dst := .t 19, kind := (.fad 2), args := [.l 2], guard := some (.t 16, true) },
  { dst := .t 20, kind := (.ldLc 2 true 3), args := [.t 19], box := some 2, guard := some (.t 16, true) },
  { dst := .t 21, kind := (.call 63), args := [.t 20], guard := some (.t 16, true) },
  { dst := .t 22, kind := (.build [.str [], .list true [], .bool false] [(0, 1), (2, 1)]), args := [.t 21, .c (.bool true)], guard := some (.t 16, true) },
  { dst := .t 23, kind := (.bslice 3 [[.str [], .list true [], .bool false]] [0]), args := [.t 22], guard := some (.t 16, true) },
  { dst := .t 24, kind := (.build [.str [], .list true [], .bool false] [(1, 1), (2, 1)]), args := [.t 23, .c (.bool true)], guard := some (.t 16, true) },
  { dst := .t 25, kind := (.call 18), args := [.t 18, .t 24], guard := some (.t 16, true) },
  { dst := .t 26, kind := .pick, args := [.t 16, .t 25, .c (.bool false)] },
  { dst := .v 3, kind := .mv, args := [.t 26] }]
def a54s3 : ACode := .reg [] a54r2
def a54s4 : ACode := .seq a54s3 .ret
def a54s5 : ACode := .seq a54s1 a54s4
def a54c : ACode :=
  a54s5
def a54 : AFn := { np := 2, nv := 4, results := [.v 3], code := a54c }
def a54v : List Nat := [0, 1, 3, 4]
def a54b : List Nat := [2]

-- (*columbary/schema.Schema).change: 0, 1, 2, 3, 4, 5, 6, 7, 8, 9
def a55r0 : List AOper := [
  { dst := .v 2, kind := .boxO, args := [.v 0] },
  { dst := .bx, kind := .boxV, args := [.v 1], box := some 3 },
  { dst := .v 4, kind := .mv, args := [.c (.bool false)] }]
def a55s1 : ACode := .reg [3] a55r0
def a55r2 : List AOper := [
  { dst := .t 11, kind := (.fad 0), args := [.l 3] },
  { dst := .t 12, kind := (.ldLc 3 false 1), args := [.t 11], box := some 3 },
  { dst := .t 13, kind := (.call 68), args := [.t 12] },
  { dst := .t 10, kind := .mv, args := [.t 13] },
  { dst := .t 14, kind := (.ext 0), args := [.t 10] },
  { dst := .t 15, kind := (.ext 1), args := [.t 10] },
  { dst := .v 5, kind := .mv, args := [.t 14] },
  { dst := .v 6, kind := .mv, args := [.t 15] }]
def a55s3 : ACode := .reg [] a55r2
def a55r4 : List AOper := [
  { dst := .t 17, kind := (.ldSt false 1), args := [.v 2] },
  { dst := .t 18, kind := .mv, args := [.v 6] },
  { dst := .t 19, kind := (.call 15), args := [.t 17, .t 18] },
  { dst := .t 16, kind := .mv, args := [.t 19] },
  { dst := .t 20, kind := (.ext 0), args := [.t 16] },
  { dst := .t 21, kind := (.ext 1), args := [.t 16] },
  { dst := .v 7, kind := (.allocO [.int .u8 0, .str [], .list true [], .list true []]), args := [] },
  { dst := .none, kind := (.stSt 4), args := [.v 7, .ts 20] },
  { dst := .v 8, kind := .mv, args := [.t 21] }]
def a55s5 : ACode := .reg [] a55r4
def a55r6 : List AOper := [
  { dst := .t 22, kind := .mv, args := [.v 8] },
  { dst := .t 23, kind := (.un .not), args := [.t 22] },
  { dst := .t 24, kind := .mv, args := [.t 23] },
  { dst := .t 25, kind := (.fad 0), args := [.v 7], guard := some (.t 24, false) },
  { dst := .t 26, kind := (.ldSt false 1), args := [.t 25], guard := some (.t 24, false) },
  { dst := .t 27, kind := (.bin .neq), args := [.t 26, .c (.int .u8 1)], guard := some (.t 24, false) },
  { dst := .t 28, kind := .pick, args := [.t 24, .c (.bool true), .t 27] },
  { dst := .t 29, kind := .mv, args := [.t 28] },
  { dst := .t 30, kind := .mv, args := [.v 6], guard := some (.t 29, false) },
  { dst := .t 31, kind := (.call 34), args := [.t 30], guard := some (.t 29, false) },
  { dst := .t 32, kind := .pick, args := [.t 29, .c (.bool true), .t 31] },
  { dst := .t 33, kind := .mv, args := [.t 32] },
  { dst := .t 34, kind := (.fad 2), args := [.l 3], guard := some (.t 33, false) },
  { dst := .t 35, kind := (.ldLc 3 true 3), args := [.t 34], box := some 3, guard := some (.t 33, false) },
  { dst := .t 36, kind := .mv, args := [.v 6], guard := some (.t 33, false) },
  { dst := .t 37, kind := (.build [.str [], .list true [], .bool false] [(0, 1)]), args := [.t 36], guard := some (.t 33, false) },
  { dst := .t 38, kind := (.call 18), args := [.t 35, .t 37], guard := some (.t 33, false) },
  { dst := .t 39, kind := (.un .not), args := [.t 38], guard := some (.t 33, false) },
  { dst := .t 40, kind := .pick, args := [.t 33, .c (.bool true), .t 39] }]
def a55r7 : List AOper := [
  { dst := .v 4, kind := .mv, args := [.c (.bool false)] }]
def a55s8 : ACode := .reg [] a55r7
def a55s9 : ACode := .seq a55s8 .ret
def a55s10 : ACode := .test [] a55r6 (.t 40) a55s9 .skip
def a55r11 : List AOper := [
  { dst := .t 41, kind := .mv, args := [.v 5] },
  { dst := .t 42, kind := (.bin .eql), args := [.t 41, .c (.str [100, 101, 108, 101, 116, 101])] }]
def a55r12 : List AOper := [
  { dst := .t 43, kind := (.fad 1), args := [.l 3] },
  { dst := .t 44, kind := (.ldLc 3 false 1), args := [.t 43], box := some 3 },
  { dst := .t 45, kind := .lenL, args := [.t 44] },
  { dst := .t 46, kind := (.bin .eql), args := [.t 45, .c (.int .i64 1)] },
  { dst := .t 47, kind := .mv, args := [.t 46] },
  { dst := .t 48, kind := (.fad 1), args := [.l 3], guard := some (.t 47, true) },
  { dst := .t 49, kind := (.ldLc 3 false 1), args := [.t 48], box := some 3, guard := some (.t 47, true) },
  { dst := .t 50, kind := (.iad 11), args := [.t 49, .c (.int .i64 0)], guard := some (.t 47, true) },
  { dst := .t 51, kind := (.ldRo true 11), args := [.t 50], guard := some (.t 47, true) },
  { dst := .t 52, kind := (.call 67), args := [.t 51], guard := some (.t 47, true) },
  { dst := .t 53, kind := .pick, args := [.t 47, .t 52, .c (.bool false)] },
  { dst := .v 4, kind := .mv, args := [.t 53] }]
def a55s13 : ACode := .reg [] a55r12
def a55s14 : ACode := .seq a55s13 .ret
def a55s15 : ACode := .test [] a55r11 (.t 42) a55s14 .skip
def a55r16 : List AOper := [
  { dst := .t 54, kind := (.fad 1), args := [.l 3] },
  { dst := .t 55, kind := (.ldLc 3 false 1), args := [.t 54], box := some 3 },
  { dst := .t 56, kind := .lenL, args := [.t 55] },
  { dst := .t 57, kind := (.bin .neq), args := [.t 56, .c (.int .i64 2)] },
  { dst := .t 58, kind := .mv, args := [.t 57] },
  { dst := .t 59, kind := (.fad 1), args := [.l 3], guard := some (.t 58, false) },
  { dst := .t 60, kind := (.ldLc 3 false 1), args := [.t 59], box := some 3, guard := some (.t 58, false) },
  { dst := .t 61, kind := (.iad 11), args := [.t 60, .c (.int .i64 0)], guard := some (.t 58, false) },
  { dst := .t 62, kind := (.ldRo true 11), args := [.t 61], guard := some (.t 58, false) },
  { dst := .t 63, kind := (.call 67), args := [.t 62], guard := some (.t 58, false) },
  { dst := .t 64, kind := (.un .not), args := [.t 63], guard := some (.t 58, false) },
  { dst := .t 65, kind := .pick, args := [.t 58, .c (.bool true), .t 64] },
  { dst := .t 66, kind := .mv, args := [.t 65] },
  { dst := .t 67, kind := (.fad 1), args := [.l 3], guard := some (.t 66, false) },
  { dst := .t 68, kind := (.ldLc 3 false 1), args := [.t 67], box := some 3, guard := some (.t 66, false) },
  { dst := .t 69, kind := (.iad 11), args := [.t 68, .c (.int .i64 1)], guard := some (.t 66, false) },
  { dst := .t 70, kind := (.fad 0), args := [.t 69], guard := some (.t 66, false) },
  { dst := .t 71, kind := (.ldRo false 1), args := [.t 70], guard := some (.t 66, false) },
  { dst := .t 72, kind := (.bin .neq), args := [.t 71, .c (.str [105, 110, 112, 117, 116])], guard := some (.t 66, false) },
  { dst := .t 73, kind := .pick, args := [.t 66, .c (.bool true), .t 72] },
  { dst := .t 74, kind := .mv, args := [.t 73] },
  { dst := .t 75, kind := (.fad 1), args := [.l 3], guard := some (.t 74, false) },
  { dst := .t 76, kind := (.ldLc 3 false 1), args := [.t 75], box := some 3, guard := some (.t 74, false) },
  { dst := .t 77, kind := (.iad 11), args := [.t 76, .c (.int .i64 1)], guard := some (.t 74, false) },
  { dst := .t 78, kind := (.fad 2), args := [.t 77], guard := some (.t 74, false) },
  { dst := .t 79, kind := (.fad 2), args := [.t 78], guard := some (.t 74, false) },
  { dst := .t 80, kind := (.ldRo false 1), args := [.t 79], guard := some (.t 74, false) },
  { dst := .t 81, kind := (.un .not), args := [.t 80], guard := some (.t 74, false) },
  { dst := .t 82, kind := .pick, args := [.t 74, .c (.bool true), .t 81] },
  { dst := .t 83, kind := .mv, args := [.t 82] },
  { dst := .t 84, kind := (.fad 1), args := [.l 3], guard := some (.t 83, false) },
  { dst := .t 85, kind := (.ldLc 3 false 1), args := [.t 84], box := some 3, guard := some (.t 83, false) },
  { dst := .t 86, kind := (.iad 11), args := [.t 85, .c (.int .i64 1)], guard := some (.t 83, false) },
  { dst := .t 87, kind := (.fad 2), args := [.t 86], guard := some (.t 83, false) },
  { dst := .t 88, kind := (.fad 1), args := [.t 87], guard := some (.t 83, false) },
  { dst := .t 89, kind := (.ldRo false 1), args := [.t 88], guard := some (.t 83, false) },
  { dst := .t 90, kind := .lenL, args := [.t 89], guard := some (.t 83, false) },
  { dst := .t 91, kind := (.bin .gtr), args := [.t 90, .c (.int .i64 0)], guard := some (.t 83, false) },
  { dst := .t 92, kind := .pick, args := [.t 83, .c (.bool true), .t 91] }]
def a55r17 : List AOper := [
  { dst := .v 4, kind := .mv, args := [.c (.bool false)] }]
def a55s18 : ACode := .reg [] a55r17
def a55s19 : ACode := .seq a55s18 .ret
def a55s20 : ACode := .test [] a55r16 (.t 92) a55s19 .skip
def a55r21 : List AOper := [
  { dst := .t 94, kind := (.ldSt false 1), args := [.v 2] },
  { dst := .t 95, kind := (.fad 1), args := [.l 3] },
  { dst := .t 96, kind := (.ldLc 3 false 1), args := [.t 95], box := some 3 },
  { dst := .t 97, kind := (.iad 11), args := [.t 96, .c (.int .i64 1)] },
  { dst := .t 98, kind := (.fad 2), args := [.t 97] },
  { dst := .t 99, kind := (.fad 0), args := [.t 98] },
  { dst := .t 100, kind := (.ldRo false 1), args := [.t 99] },
  { dst := .t 101, kind := (.call 15), args := [.t 94, .t 100] },
  { dst := .t 93, kind := .mv, args := [.t 101] },
  { dst := .t 102, kind := (.ext 0), args := [.t 93] },
  { dst := .t 103, kind := (.ext 1), args := [.t 93] },
  { dst := .bx, kind := (.alloc [.int .u8 0, .str [], .list true [], .list true []]), args := [], box := some 9 },
  { dst := .none, kind := (.stLc 9 4), args := [.l 9, .ts 102], box := some 9 },
  { dst := .v 8, kind := .mv, args := [.t 103] }]
def a55s22 : ACode := .reg [9] a55r21
def a55r23 : List AOper := [
  { dst := .t 104, kind := .mv, args := [.v 8] },
  { dst := .t 105, kind := (.un .not), args := [.t 104] },
  { dst := .t 106, kind := .mv, args := [.t 105] },
  { dst := .t 107, kind := (.fad 0), args := [.l 9], guard := some (.t 106, false) },
  { dst := .t 108, kind := (.ldLc 9 false 1), args := [.t 107], box := some 9, guard := some (.t 106, false) },
  { dst := .t 109, kind := (.bin .neq), args := [.t 108, .c (.int .u8 5)], guard := some (.t 106, false) },
  { dst := .t 110, kind := .pick, args := [.t 106, .c (.bool true), .t 109] }]
def a55r24 : List AOper := [
  { dst := .v 4, kind := .mv, args := [.c (.bool false)] }]
def a55s25 : ACode := .reg [] a55r24
def a55s26 : ACode := .seq a55s25 .ret
def a55s27 : ACode := .test [] a55r23 (.t 110) a55s26 .skip
def a55r28 : List AOper := [
  { dst := .t 111, kind := (.fad 2), args := [.l 9] },
  { dst := .t 112, kind := (.ldLc 9 false 1), args := [.t 111], box := some 9 },
  { dst := .t 113, kind := (.mkF 69 0), args := [.v 7, .v 2] },
  { dst := .t 114, kind := (.call 65), args := [.t 112, .t 113] },
  { dst := .t 115, kind := (.un .not), args := [.t 114] },
  { dst := .v 4, kind := .mv, args := [.t 115] }]
def a55s29 : ACode := .reg [] a55r28
def a55s30 : ACode := .seq a55s29 .ret
def a55s31 : ACode := .seq a55s27 a55s30
def a55s32 : ACode := .seq a55s22 a55s31
def a55s33 : ACode := .seq a55s20 a55s32
def a55s34 : ACode := .seq a55s15 a55s33
def a55s35 : ACode := .seq a55s10 a55s34
def a55s36 : ACode := .seq a55s5 a55s35
def a55s37 : ACode := .seq a55s3 a55s36
def a55s38 : ACode := .seq a55s1 a55s37
def a55c : ACode :=
  a55s38
def a55 : AFn := { np := 2, nv := 10, results := [.v 4], code := a55c }
def a55v : List Nat := [0, 1, 2, 3, 4, 5, 6, 7, 8, 9]
def a55b : List Nat := [3, 9]

-- columbary/columbaryref05.Letter: 0, 2
def a56r0 : List AOper := [
  { dst := .v 1, kind := .mv, args := [.c (.bool false)] }]
def a56s1 : ACode := .reg [] a56r0
def a56r2 : List AOper := [
  { dst := .t 3, kind := .mv, args := [.v 0] },
  { dst := .t 4, kind := (.bin .geq), args := [.t 3, .c (.int .u8 97)] },
  { dst := .t 5, kind := .mv, args := [.t 4] },
  { dst := .t 6, kind := .mv, args := [.v 0], guard := some (.t 5, true) },
  { dst := .t 7, kind := (.bin .leq), args := [.t 6, .c (.int .u8 122)], guard := some (.t 5, true) },
  { dst := .t 8, kind := .pick, args := [.t 5, .t 7, .c (.bool false)] },
  { dst := .t 9, kind := .mv, args := [.t 8] },
  { dst := .t 10, kind := .mv, args := [.v 0], guard := some (.t 9, false) },
  { dst := .t 11, kind := (.bin .geq), args := [.t 10, .c (.int .u8 65)], guard := some (.t 9, false) },
  { dst := .t 12, kind := .mv, args := [.t 11], guard := some (.t 9, false) },
  { dst := .t 13, kind := .mv, args := [.v 0], guard := some (.t 12, true) },
  { dst := .t 14, kind := (.bin .leq), args := [.t 13, .c (.int .u8 90)], guard := some (.t 12, true) },
  { dst := .t 15, kind := .pick, args := [.t 12, .t 14, .c (.bool false)], guard := some (.t 9, false) },
  { dst := .t 16, kind := .pick, args := [.t 9, .c (.bool true), .t 15] },
  { dst := .t 17, kind := .mv, args := [.t 16] },
  { dst := .t 18, kind := .mv, args := [.v 0], guard := some (.t 17, false) },
  { dst := .t 19, kind := (.bin .eql), args := [.t 18, .c (.int .u8 95)], guard := some (.t 17, false) },
  { dst := .t 20, kind := .pick, args := [.t 17, .c (.bool true), .t 19] },
  { dst := .v 1, kind := .mv, args := [.t 20] }]
def a56s3 : ACode := .reg [] a56r2
def a56s4 : ACode := .seq a56s3 .ret
def a56s5 : ACode := .seq a56s1 a56s4
def a56c : ACode :=
  a56s5
def a56 : AFn := { np := 1, nv := 2, results := [.v 1], code := a56c }
def a56v : List Nat := [0, 2]
def a56b : List Nat := []

-- columbary/columbaryref05.digit: 0, 2
def a57r0 : List AOper := [
  { dst := .v 1, kind := .mv, args := [.c (.bool false)] }]
def a57s1 : ACode := .reg [] a57r0
def a57r2 : List AOper := [
  { dst := .t 3, kind := .mv, args := [.v 0] },
  { dst := .t 4, kind := (.bin .geq), args := [.t 3, .c (.int .u8 48)] },
  { dst := .t 5, kind := .mv, args := [.t 4] },
  { dst := .t 6, kind := .mv, args := [.v 0], guard := some (.t 5, true) },
  { dst := .t 7, kind := (.bin .leq), args := [.t 6, .c (.int .u8 57)], guard := some (.t 5, true) },
  { dst := .t 8, kind := .pick, args := [.t 5, .t 7, .c (.bool false)] },
  { dst := .v 1, kind := .mv, args := [.t 8] }]
def a57s3 : ACode := .reg [] a57r2
def a57s4 : ACode := .seq a57s3 .ret
def a57s5 : ACode := .seq a57s1 a57s4
def a57c : ACode :=
  a57s5
def a57 : AFn := { np := 1, nv := 2, results := [.v 1], code := a57c }
def a57v : List Nat := [0, 2]
def a57b : List Nat := []

-- columbary/columbaryref05.number: 0, 1, 4, 5, 6, 7, 8, 9, 10, 11
def a58r0 : List AOper := [
  { dst := .bx, kind := (.alloc [.int .u8 0, .str [], .int .i64 0, .int .i64 0]), args := [], box := some 2 },
  { dst := .v 3, kind := .mv, args := [.c (.int .i64 0)] },
  { dst := .v 4, kind := .mv, args := [.c (.int .i64 0)] },
  { dst := .v 5, kind := .mv, args := [.c (.int .i64 0)] }]
def a58s1 : ACode := .reg [2] a58r0
def a58r2 : List AOper := [
  { dst := .t 12, kind := .mv, args := [.v 1] },
  { dst := .v 6, kind := .mv, args := [.t 12] }]
def a58s3 : ACode := .reg [] a58r2
def a58r4 : List AOper := [
  { dst := .t 13, kind := .mv, args := [.v 0] },
  { dst := .t 14, kind := .mv, args := [.v 6] },
  { dst := .t 15, kind := .idxS, args := [.t 13, .t 14] },
  { dst := .t 16, kind := (.bin .eql), args := [.t 15, .c (.int .u8 45)] },
  { dst := .v 7, kind := .mv, args := [.t 16] }]
def a58s5 : ACode := .reg [] a58r4
def a58r6 : List AOper := [
  { dst := .t 17, kind := .mv, args := [.v 7] }]
def a58r7 : List AOper := [
  { dst := .t 18, kind := .mv, args := [.v 6] },
  { dst := .t 19, kind := (.bin .add), args := [.t 18, .c (.int .i64 1)] },
  { dst := .v 6, kind := .mv, args := [.t 19] }]
def a58s8 : ACode := .reg [] a58r7
def a58s9 : ACode := .test [] a58r6 (.t 17) a58s8 .skip
def a58r10 : List AOper := [
  { dst := .t 20, kind := .mv, args := [.v 6] },
  { dst := .v 8, kind := .mv, args := [.t 20] }]
def a58s11 : ACode := .reg [] a58r10
def a58r12 : List AOper := [
  { dst := .v 9, kind := .mv, args := [.c (.int .i64 0)] }]
def a58s13 : ACode := .reg [] a58r12
def a58r14 : List AOper := [
  { dst := .t 21, kind := .mv, args := [.v 6] },
  { dst := .t 22, kind := .mv, args := [.v 0] },
  { dst := .t 23, kind := .lenS, args := [.t 22] },
  { dst := .t 24, kind := (.bin .lss), args := [.t 21, .t 23] },
  { dst := .t 25, kind := .mv, args := [.t 24] },
  { dst := .t 26, kind := .mv, args := [.v 0], guard := some (.t 25, true) },
  { dst := .t 27, kind := .mv, args := [.v 6], guard := some (.t 25, true) },
  { dst := .t 28, kind := .idxS, args := [.t 26, .t 27], guard := some (.t 25, true) },
  { dst := .t 29, kind := (.call 57), args := [.t 28], guard := some (.t 25, true) },
  { dst := .t 30, kind := .pick, args := [.t 25, .t 29, .c (.bool false)] }]
def a58s15 : ACode := .test [] a58r14 (.t 30) .skip (.exit 0)
def a58r16 : List AOper := [
  { dst := .t 31, kind := .mv, args := [.v 6] },
  { dst := .t 32, kind := .mv, args := [.v 8] },
  { dst := .t 33, kind := (.bin .sub), args := [.t 31, .t 32] },
  { dst := .t 34, kind := (.bin .lss), args := [.t 33, .c (.int .i64 18)] }]
def a58r17 : List AOper := [
  { dst := .t 35, kind := .mv, args := [.v 9] },
  { dst := .t 36, kind := (.bin .mul), args := [.t 35, .c (.int .i64 10)] },
  { dst := .t 37, kind := .mv, args := [.v 0] },
  { dst := .t 38, kind := .mv, args := [.v 6] },
  { dst := .t 39, kind := .idxS, args := [.t 37, .t 38] },
  { dst := .t 40, kind := (.bin .sub), args := [.t 39, .c (.int .u8 48)] },
  { dst := .t 41, kind := (.conv .i64), args := [.t 40] },
  { dst := .t 42, kind := (.bin .add), args := [.t 36, .t 41] },
  { dst := .v 9, kind := .mv, args := [.t 42] }]
def a58s18 : ACode := .reg [] a58r17
def a58s19 : ACode := .test [] a58r16 (.t 34) a58s18 .skip
def a58r20 : List AOper := [
  { dst := .t 43, kind := .mv, args := [.v 6] },
  { dst := .t 44, kind := (.bin .add), args := [.t 43, .c (.int .i64 1)] },
  { dst := .v 6, kind := .mv, args := [.t 44] }]
def a58s21 : ACode := .reg [] a58r20
def a58s22 : ACode := .seq a58s19 a58s21
def a58s23 : ACode := .blk 1 a58s22
def a58s24 : ACode := .seq a58s15 a58s23
def a58s25 : ACode := .loop a58s24
def a58s26 : ACode := .blk 0 a58s25
def a58r27 : List AOper := [
  { dst := .t 46, kind := .mv, args := [.v 6] },
  { dst := .t 47, kind := .mv, args := [.v 8] },
  { dst := .t 48, kind := (.bin .eql), args := [.t 46, .t 47] },
  { dst := .t 45, kind := .mv, args := [.t 48] }]
def a58r28 : List AOper := [
  { dst := .t 49, kind := (.build [.int .u8 0, .str [], .int .i64 0, .int .i64 0] []), args := [] },
  { dst := .t 50, kind := .mv, args := [.v 6] },
  { dst := .none, kind := (.stLc 2 4), args := [.l 2, .t 49], box := some 2 },
  { dst := .v 3, kind := .mv, args := [.c (.int .i64 0)] },
  { dst := .v 4, kind := .mv, args := [.t 50] },
  { dst := .v 5, kind := .mv, args := [.c (.int .i64 4)] }]
def a58s29 : ACode := .reg [] a58r28
def a58s30 : ACode := .seq a58s29 .ret
def a58r31 : List AOper := [
  { dst := .t 52, kind := .mv, args := [.v 0] },
  { dst := .t 53, kind := .mv, args := [.v 8] },
  { dst := .t 54, kind := .idxS, args := [.t 52, .t 53] },
  { dst := .t 55, kind := (.bin .eql), args := [.t 54, .c (.int .u8 48)] },
  { dst := .t 56, kind := .mv, args := [.t 55] },
  { dst := .t 57, kind := .mv, args := [.v 6], guard := some (.t 56, true) },
  { dst := .t 58, kind := .mv, args := [.v 8], guard := some (.t 56, true) },
  { dst := .t 59, kind := (.bin .add), args := [.t 58, .c (.int .i64 1)], guard := some (.t 56, true) },
  { dst := .t 60, kind := (.bin .gtr), args := [.t 57, .t 59], guard := some (.t 56, true) },
  { dst := .t 61, kind := .pick, args := [.t 56, .t 60, .c (.bool false)] },
  { dst := .t 51, kind := .mv, args := [.t 61] }]
def a58r32 : List AOper := [
  { dst := .t 62, kind := (.build [.int .u8 0, .str [], .int .i64 0, .int .i64 0] []), args := [] },
  { dst := .t 63, kind := .mv, args := [.v 8] },
  { dst := .t 64, kind := (.bin .add), args := [.t 63, .c (.int .i64 1)] },
  { dst := .none, kind := (.stLc 2 4), args := [.l 2, .t 62], box := some 2 },
  { dst := .v 3, kind := .mv, args := [.c (.int .i64 0)] },
  { dst := .v 4, kind := .mv, args := [.t 64] },
  { dst := .v 5, kind := .mv, args := [.c (.int .i64 4)] }]
def a58s33 : ACode := .reg [] a58r32
def a58s34 : ACode := .seq a58s33 .ret
def a58r35 : List AOper := [
  { dst := .t 66, kind := .mv, args := [.v 6] },
  { dst := .t 67, kind := .mv, args := [.v 0] },
  { dst := .t 68, kind := .lenS, args := [.t 67] },
  { dst := .t 69, kind := (.bin .lss), args := [.t 66, .t 68] },
  { dst := .t 70, kind := .mv, args := [.t 69] },
  { dst := .t 71, kind := .mv, args := [.v 0], guard := some (.t 70, true) },
  { dst := .t 72, kind := .mv, args := [.v 6], guard := some (.t 70, true) },
  { dst := .t 73, kind := .idxS, args := [.t 71, .t 72], guard := some (.t 70, true) },
  { dst := .t 74, kind := (.call 56), args := [.t 73], guard := some (.t 70, true) },
  { dst := .t 75, kind := .mv, args := [.t 74], guard := some (.t 70, true) },
  { dst := .t 76, kind := .mv, args := [.v 0], guard := some (.t 75, false) },
  { dst := .t 77, kind := .mv, args := [.v 6], guard := some (.t 75, false) },
  { dst := .t 78, kind := .idxS, args := [.t 76, .t 77], guard := some (.t 75, false) },
  { dst := .t 79, kind := (.bin .eql), args := [.t 78, .c (.int .u8 46)], guard := some (.t 75, false) },
  { dst := .t 80, kind := .pick, args := [.t 75, .c (.bool true), .t 79], guard := some (.t 70, true) },
  { dst := .t 81, kind := .pick, args := [.t 70, .t 80, .c (.bool false)] },
  { dst := .t 65, kind := .mv, args := [.t 81] }]
def a58r36 : List AOper := [
  { dst := .t 82, kind := (.build [.int .u8 0, .str [], .int .i64 0, .int .i64 0] []), args := [] },
  { dst := .t 83, kind := .mv, args := [.v 6] },
  { dst := .none, kind := (.stLc 2 4), args := [.l 2, .t 82], box := some 2 },
  { dst := .v 3, kind := .mv, args := [.c (.int .i64 0)] },
  { dst := .v 4, kind := .mv, args := [.t 83] },
  { dst := .v 5, kind := .mv, args := [.c (.int .i64 4)] }]
def a58s37 : ACode := .reg [] a58r36
def a58s38 : ACode := .seq a58s37 .ret
def a58r39 : List AOper := [
  { dst := .t 85, kind := .mv, args := [.v 6] },
  { dst := .t 86, kind := .mv, args := [.v 8] },
  { dst := .t 87, kind := (.bin .sub), args := [.t 85, .t 86] },
  { dst := .t 88, kind := (.bin .gtr), args := [.t 87, .c (.int .i64 18)] },
  { dst := .t 84, kind := .mv, args := [.t 88] }]
def a58r40 : List AOper := [
  { dst := .t 89, kind := (.build [.int .u8 0, .str [], .int .i64 0, .int .i64 0] []), args := [] },
  { dst := .t 90, kind := .mv, args := [.v 1] },
  { dst := .none, kind := (.stLc 2 4), args := [.l 2, .t 89], box := some 2 },
  { dst := .v 3, kind := .mv, args := [.c (.int .i64 0)] },
  { dst := .v 4, kind := .mv, args := [.t 90] },
  { dst := .v 5, kind := .mv, args := [.c (.int .i64 1)] }]
def a58s41 : ACode := .reg [] a58r40
def a58s42 : ACode := .seq a58s41 .ret
def a58s43 : ACode := .test [] a58r39 (.t 84) a58s42 .skip
def a58s44 : ACode := .test [] a58r35 (.t 65) a58s38 a58s43
def a58s45 : ACode := .test [] a58r31 (.t 51) a58s34 a58s44
def a58s46 : ACode := .test [] a58r27 (.t 45) a58s30 a58s45
def a58s47 : ACode := .blk 2 a58s46
def a58r48 : List AOper := [
  { dst := .t 91, kind := .mv, args := [.v 7] }]
def a58r49 : List AOper := [
  { dst := .t 92, kind := .mv, args := [.v 9] },
  { dst := .t 93, kind := (.un .neg), args := [.t 92] },
  { dst := .v 9, kind := .mv, args := [.t 93] }]
def a58s50 : ACode := .reg [] a58r49
def a58s51 : ACode := .test [] a58r48 (.t 91) a58s50 .skip
def a58r52 : List AOper := [
  { dst := .t 94, kind := .mv, args := [.v 0] },
  { dst := .t 95, kind := .mv, args := [.v 1] },
  { dst := .t 96, kind := .mv, args := [.v 6] },
  { dst := .t 97, kind := (.slS true true), args := [.t 94, .t 95, .t 96] },
  { dst := .t 98, kind := .mv, args := [.v 9] },
  { dst := .t 99, kind := (.build [.int .u8 0, .str [], .int .i64 0, .int .i64 0] [(0, 1), (1, 1), (2, 1)]), args := [.c (.int .u8 2), .t 97, .t 98] },
  { dst := .t 100, kind := .mv, args := [.v 6] },
  { dst := .none, kind := (.stLc 2 4), args := [.l 2, .t 99], box := some 2 },
  { dst := .v 3, kind := .mv, args := [.t 100] },
  { dst := .v 4, kind := .mv, args := [.c (.int .i64 0)] },
  { dst := .v 5, kind := .mv, args := [.c (.int .i64 0)] }]
def a58s53 : ACode := .reg [] a58r52
def a58s54 : ACode := .seq a58s53 .ret
def a58s55 : ACode := .seq a58s51 a58s54
def a58s56 : ACode := .seq a58s47 a58s55
def a58s57 : ACode := .seq a58s26 a58s56
def a58s58 : ACode := .seq a58s13 a58s57
def a58s59 : ACode := .seq a58s11 a58s58
def a58s60 : ACode := .seq a58s9 a58s59
def a58s61 : ACode := .seq a58s5 a58s60
def a58s62 : ACode := .seq a58s3 a58s61
def a58s63 : ACode := .seq a58s1 a58s62
def a58c : ACode :=
  a58s63
def a58 : AFn := { np := 2, nv := 10, results := [.bx 2 true 4, .v 3, .v 4, .v 5], code := a58c }
def a58v : List Nat := [0, 1, 4, 5, 6, 7, 8, 9, 10, 11]
def a58b : List Nat := [2]

-- columbary/columbaryref05.text: 0, 1, 4, 5, 6, 7, 8, 9, 18, 53, 64
def a59r0 : List AOper := [
  { dst := .bx, kind := (.alloc [.int .u8 0, .str [], .int .i64 0, .int .i64 0]), args := [], box := some 2 },
  { dst := .v 3, kind := .mv, args := [.c (.int .i64 0)] },
  { dst := .v 4, kind := .mv, args := [.c (.int .i64 0)] },
  { dst := .v 5, kind := .mv, args := [.c (.int .i64 0)] }]
def a59s1 : ACode := .reg [2] a59r0
def a59r2 : List AOper := [
  { dst := .v 6, kind := .mv, args := [.c (.str [])] }]
def a59s3 : ACode := .reg [] a59r2
def a59r4 : List AOper := [
  { dst := .t 10, kind := .mv, args := [.v 1] },
  { dst := .t 11, kind := (.bin .add), args := [.t 10, .c (.int .i64 1)] },
  { dst := .v 7, kind := .mv, args := [.t 11] }]
def a59s5 : ACode := .reg [] a59r4
def a59r6 : List AOper := [
  { dst := .t 12, kind := .mv, args := [.v 7] },
  { dst := .t 13, kind := .mv, args := [.v 0] },
  { dst := .t 14, kind := .lenS, args := [.t 13] },
  { dst := .t 15, kind := (.bin .lss), args := [.t 12, .t 14] }]
def a59s7 : ACode := .test [] a59r6 (.t 15) .skip (.exit 0)
def a59r8 : List AOper := [
  { dst := .t 16, kind := .mv, args := [.v 0] },
  { dst := .t 17, kind := .mv, args := [.v 7] },
  { dst := .v 8, kind := .idxS, args := [.t 16, .t 17] }]
def a59s9 : ACode := .reg [] a59r8
def a59r10 : List AOper := [
  { dst := .t 27, kind := (.bin .eql), args := [.v 8, .c (.int .u8 34)] },
  { dst := .t 26, kind := .mv, args := [.t 27] }]
def a59r11 : List AOper := [
  { dst := .t 28, kind := .mv, args := [.v 6] },
  { dst := .t 29, kind := .lenS, args := [.t 28] },
  { dst := .t 30, kind := (.bin .gtr), args := [.t 29, .c (.int .i64 200)] }]
def a59r12 : List AOper := [
  { dst := .t 31, kind := (.build [.int .u8 0, .str [], .int .i64 0, .int .i64 0] []), args := [] },
  { dst := .t 32, kind := .mv, args := [.v 1] },
  { dst := .none, kind := (.stLc 2 4), args := [.l 2, .t 31], box := some 2 },
  { dst := .v 3, kind := .mv, args := [.c (.int .i64 0)] },
  { dst := .v 4, kind := .mv, args := [.t 32] },
  { dst := .v 5, kind := .mv, args := [.c (.int .i64 2)] }]
def a59s13 : ACode := .reg [] a59r12
def a59s14 : ACode := .seq a59s13 .ret
def a59s15 : ACode := .test [] a59r11 (.t 30) a59s14 .skip
def a59r16 : List AOper := [
  { dst := .t 33, kind := .mv, args := [.v 6] },
  { dst := .t 34, kind := (.build [.int .u8 0, .str [], .int .i64 0, .int .i64 0] [(0, 1), (1, 1)]), args := [.c (.int .u8 3), .t 33] },
  { dst := .t 35, kind := .mv, args := [.v 7] },
  { dst := .t 36, kind := (.bin .add), args := [.t 35, .c (.int .i64 1)] },
  { dst := .none, kind := (.stLc 2 4), args := [.l 2, .t 34], box := some 2 },
  { dst := .v 3, kind := .mv, args := [.t 36] },
  { dst := .v 4, kind := .mv, args := [.c (.int .i64 0)] },
  { dst := .v 5, kind := .mv, args := [.c (.int .i64 0)] }]
def a59s17 : ACode := .reg [] a59r16
def a59s18 : ACode := .seq a59s17 .ret
def a59s19 : ACode := .seq a59s15 a59s18
def a59r20 : List AOper := [
  { dst := .t 38, kind := (.bin .eql), args := [.v 8, .c (.int .u8 10)] },
  { dst := .t 37, kind := .mv, args := [.t 38] }]
def a59r21 : List AOper := [
  { dst := .t 39, kind := (.build [.int .u8 0, .str [], .int .i64 0, .int .i64 0] []), args := [] },
  { dst := .t 40, kind := .mv, args := [.v 7] },
  { dst := .none, kind := (.stLc 2 4), args := [.l 2, .t 39], box := some 2 },
  { dst := .v 3, kind := .mv, args := [.c (.int .i64 0)] },
  { dst := .v 4, kind := .mv, args := [.t 40] },
  { dst := .v 5, kind := .mv, args := [.c (.int .i64 4)] }]
def a59s22 : ACode := .reg [] a59r21
def a59s23 : ACode := .seq a59s22 .ret
def a59r24 : List AOper := [
  { dst := .t 42, kind := (.bin .eql), args := [.v 8, .c (.int .u8 92)] },
  { dst := .t 41, kind := .mv, args := [.t 42] }]
def a59r25 : List AOper := [
  { dst := .t 43, kind := .mv, args := [.v 7] },
  { dst := .t 44, kind := (.bin .add), args := [.t 43, .c (.int .i64 1)] },
  { dst := .v 7, kind := .mv, args := [.t 44] }]
def a59s26 : ACode := .reg [] a59r25
def a59r27 : List AOper := [
  { dst := .t 45, kind := .mv, args := [.v 7] },
  { dst := .t 46, kind := .mv, args := [.v 0] },
  { dst := .t 47, kind := .lenS, args := [.t 46] },
  { dst := .t 48, kind := (.bin .eql), args := [.t 45, .t 47] }]
def a59r28 : List AOper := [
  { dst := .t 49, kind := (.build [.int .u8 0, .str [], .int .i64 0, .int .i64 0] []), args := [] },
  { dst := .t 50, kind := .mv, args := [.v 7] },
  { dst := .none, kind := (.stLc 2 4), args := [.l 2, .t 49], box := some 2 },
  { dst := .v 3, kind := .mv, args := [.c (.int .i64 0)] },
  { dst := .v 4, kind := .mv, args := [.t 50] },
  { dst := .v 5, kind := .mv, args := [.c (.int .i64 4)] }]
def a59s29 : ACode := .reg [] a59r28
def a59s30 : ACode := .seq a59s29 .ret
def a59s31 : ACode := .test [] a59r27 (.t 48) a59s30 .skip
def a59r32 : List AOper := [
  { dst := .t 51, kind := .mv, args := [.v 0] },
  { dst := .t 52, kind := .mv, args := [.v 7] },
  { dst := .v 9, kind := .idxS, args := [.t 51, .t 52] }]
def a59s33 : ACode := .reg [] a59r32
def a59r34 : List AOper := [
  { dst := .t 57, kind := (.bin .eql), args := [.v 9, .c (.int .u8 110)] },
  { dst := .t 56, kind := .mv, args := [.t 57] }]
def a59r35 : List AOper := [
  { dst := .t 58, kind := .mv, args := [.v 6] },
  { dst := .t 59, kind := (.bin .add), args := [.t 58, .c (.str [10])] },
  { dst := .v 6, kind := .mv, args := [.t 59] }]
def a59s36 : ACode := .reg [] a59r35
def a59r37 : List AOper := [
  { dst := .t 61, kind := (.bin .eql), args := [.v 9, .c (.int .u8 116)] },
  { dst := .t 60, kind := .mv, args := [.t 61] }]
def a59r38 : List AOper := [
  { dst := .t 62, kind := .mv, args := [.v 6] },
  { dst := .t 63, kind := (.bin .add), args := [.t 62, .c (.str [9])] },
  { dst := .v 6, kind := .mv, args := [.t 63] }]
def a59s39 : ACode := .reg [] a59r38
def a59r40 : List AOper := [
  { dst := .t 65, kind := (.bin .eql), args := [.v 9, .c (.int .u8 34)] },
  { dst := .v 10, kind := .mv, args := [.t 65] }]
def a59r41 : List AOper := [
  { dst := .t 66, kind := (.bin .eql), args := [.v 9, .c (.int .u8 47)] },
  { dst := .v 10, kind := .mv, args := [.t 66] }]
def a59r42 : List AOper := [
  { dst := .t 67, kind := (.bin .eql), args := [.v 9, .c (.int .u8 92)] },
  { dst := .v 10, kind := .mv, args := [.t 67] }]
def a59s43 : ACode := .reg [] a59r42
def a59s44 : ACode := .test [] a59r41 (.v 10) .skip a59s43
def a59s45 : ACode := .test [] a59r40 (.v 10) .skip a59s44
def a59r46 : List AOper := [
  { dst := .t 68, kind := .mv, args := [.v 6] },
  { dst := .t 69, kind := .mv, args := [.v 0] },
  { dst := .t 70, kind := .mv, args := [.v 7] },
  { dst := .t 71, kind := .mv, args := [.v 7] },
  { dst := .t 72, kind := (.bin .add), args := [.t 71, .c (.int .i64 1)] },
  { dst := .t 73, kind := (.slS true true), args := [.t 69, .t 70, .t 72] },
  { dst := .t 74, kind := (.bin .add), args := [.t 68, .t 73] },
  { dst := .v 6, kind := .mv, args := [.t 74] }]
def a59s47 : ACode := .reg [] a59r46
def a59r48 : List AOper := [
  { dst := .t 54, kind := (.build [.int .u8 0, .str [], .int .i64 0, .int .i64 0] []), args := [] },
  { dst := .t 55, kind := .mv, args := [.v 7] },
  { dst := .none, kind := (.stLc 2 4), args := [.l 2, .t 54], box := some 2 },
  { dst := .v 3, kind := .mv, args := [.c (.int .i64 0)] },
  { dst := .v 4, kind := .mv, args := [.t 55] },
  { dst := .v 5, kind := .mv, args := [.c (.int .i64 4)] }]
def a59s49 : ACode := .reg [] a59r48
def a59s50 : ACode := .seq a59s49 .ret
def a59s51 : ACode := .test [] [] (.v 10) a59s47 a59s50
def a59s52 : ACode := .seq a59s45 a59s51
def a59s53 : ACode := .test [] a59r37 (.t 60) a59s39 a59s52
def a59s54 : ACode := .test [] a59r34 (.t 56) a59s36 a59s53
def a59s55 : ACode := .blk 3 a59s54
def a59s56 : ACode := .seq a59s33 a59s55
def a59s57 : ACode := .seq a59s31 a59s56
def a59s58 : ACode := .seq a59s26 a59s57
def a59r59 : List AOper := [
  { dst := .t 19, kind := .mv, args := [.v 6] },
  { dst := .t 20, kind := .mv, args := [.v 0] },
  { dst := .t 21, kind := .mv, args := [.v 7] },
  { dst := .t 22, kind := .mv, args := [.v 7] },
  { dst := .t 23, kind := (.bin .add), args := [.t 22, .c (.int .i64 1)] },
  { dst := .t 24, kind := (.slS true true), args := [.t 20, .t 21, .t 23] },
  { dst := .t 25, kind := (.bin .add), args := [.t 19, .t 24] },
  { dst := .v 6, kind := .mv, args := [.t 25] }]
def a59s60 : ACode := .reg [] a59r59
def a59s61 : ACode := .test [] a59r24 (.t 41) a59s58 a59s60
def a59s62 : ACode := .test [] a59r20 (.t 37) a59s23 a59s61
def a59s63 : ACode := .test [] a59r10 (.t 26) a59s19 a59s62
def a59s64 : ACode := .blk 2 a59s63
def a59s65 : ACode := .seq a59s9 a59s64
def a59r66 : List AOper := [
  { dst := .t 75, kind := .mv, args := [.v 7] },
  { dst := .t 76, kind := (.bin .add), args := [.t 75, .c (.int .i64 1)] },
  { dst := .v 7, kind := .mv, args := [.t 76] }]
def a59s67 : ACode := .reg [] a59r66
def a59s68 : ACode := .seq a59s65 a59s67
def a59s69 : ACode := .blk 1 a59s68
def a59s70 : ACode := .seq a59s7 a59s69
def a59s71 : ACode := .loop a59s70
def a59s72 : ACode := .blk 0 a59s71
def a59r73 : List AOper := [
  { dst := .t 77, kind := (.build [.int .u8 0, .str [], .int .i64 0, .int .i64 0] []), args := [] },
  { dst := .t 78, kind := .mv, args := [.v 7] },
  { dst := .none, kind := (.stLc 2 4), args := [.l 2, .t 77], box := some 2 },
  { dst := .v 3, kind := .mv, args := [.c (.int .i64 0)] },
  { dst := .v 4, kind := .mv, args := [.t 78] },
  { dst := .v 5, kind := .mv, args := [.c (.int .i64 4)] }]
def a59s74 : ACode := .reg [] a59r73
def a59s75 : ACode := .seq a59s74 .ret
def a59s76 : ACode := .seq a59s72 a59s75
def a59s77 : ACode := .seq a59s5 a59s76
def a59s78 : ACode := .seq a59s3 a59s77
def a59s79 : ACode := .seq a59s1 a59s78
def a59c : ACode :=
  a59s79
def a59 : AFn := { np := 2, nv := 11, results := [.bx 2 true 4, .v 3, .v 4, .v 5], code := a59c }
def a59v : List Nat := [0, 1, 4, 5, 6, 7, 8, 9, 18, 53, 64]
def a59b : List Nat := [2]

-- (*columbary/columbaryref06.Reader).Sign: 0, 1, 4
def a60r0 : List AOper := [
  { dst := .v 2, kind := .mv, args := [.c (.bool false)] }]
def a60s1 : ACode := .reg [] a60r0
def a60r2 : List AOper := [
  { dst := .t 5, kind := .mv, args := [.v 0] },
  { dst := .t 6, kind := .nilchk, args := [.t 5] },
  { dst := .t 7, kind := (.fad 4), args := [.t 6] },
  { dst := .t 8, kind := (.ldSt false 1), args := [.t 7] },
  { dst := .t 9, kind := (.bin .eql), args := [.t 8, .c (.int .i64 0)] },
  { dst := .t 10, kind := .mv, args := [.t 9] },
  { dst := .t 11, kind := .mv, args := [.v 0], guard := some (.t 10, true) },
  { dst := .t 12, kind := .nilchk, args := [.t 11], guard := some (.t 10, true) },
  { dst := .t 13, kind := (.fad 0), args := [.t 12], guard := some (.t 10, true) },
  { dst := .t 14, kind := (.ldSt false 1), args := [.t 13], guard := some (.t 10, true) },
  { dst := .t 15, kind := .mv, args := [.v 0], guard := some (.t 10, true) },
  { dst := .t 16, kind := .nilchk, args := [.t 15], guard := some (.t 10, true) },
  { dst := .t 17, kind := (.fad 1), args := [.t 16], guard := some (.t 10, true) },
  { dst := .t 18, kind := (.ldSt false 1), args := [.t 17], guard := some (.t 10, true) },
  { dst := .t 19, kind := (.iad 4), args := [.t 14, .t 18], guard := some (.t 10, true) },
  { dst := .t 20, kind := (.fad 0), args := [.t 19], guard := some (.t 10, true) },
  { dst := .t 21, kind := (.ldRo false 1), args := [.t 20], guard := some (.t 10, true) },
  { dst := .t 22, kind := (.bin .eql), args := [.t 21, .c (.int .u8 4)], guard := some (.t 10, true) },
  { dst := .t 23, kind := .pick, args := [.t 10, .t 22, .c (.bool false)] },
  { dst := .t 24, kind := .mv, args := [.t 23] },
  { dst := .t 25, kind := .mv, args := [.v 0], guard := some (.t 24, true) },
  { dst := .t 26, kind := .nilchk, args := [.t 25], guard := some (.t 24, true) },
  { dst := .t 27, kind := (.fad 0), args := [.t 26], guard := some (.t 24, true) },
  { dst := .t 28, kind := (.ldSt false 1), args := [.t 27], guard := some (.t 24, true) },
  { dst := .t 29, kind := .mv, args := [.v 0], guard := some (.t 24, true) },
  { dst := .t 30, kind := .nilchk, args := [.t 29], guard := some (.t 24, true) },
  { dst := .t 31, kind := (.fad 1), args := [.t 30], guard := some (.t 24, true) },
  { dst := .t 32, kind := (.ldSt false 1), args := [.t 31], guard := some (.t 24, true) },
  { dst := .t 33, kind := (.iad 4), args := [.t 28, .t 32], guard := some (.t 24, true) },
  { dst := .t 34, kind := (.fad 1), args := [.t 33], guard := some (.t 24, true) },
  { dst := .t 35, kind := (.ldRo false 1), args := [.t 34], guard := some (.t 24, true) },
  { dst := .t 36, kind := .mv, args := [.v 1], guard := some (.t 24, true) },
  { dst := .t 37, kind := (.bin .eql), args := [.t 35, .t 36], guard := some (.t 24, true) },
  { dst := .t 38, kind := .pick, args := [.t 24, .t 37, .c (.bool false)] },
  { dst := .v 2, kind := .mv, args := [.t 38] }]
def a60s3 : ACode := .reg [] a60r2
def a60s4 : ACode := .seq a60s3 .ret
def a60s5 : ACode := .seq a60s1 a60s4
def a60c : ACode :=
  a60s5
def a60 : AFn := { np := 2, nv := 3, results := [.v 2], code := a60c }
def a60v : List Nat := [0, 1, 4]
def a60b : List Nat := []

-- (*columbary/columbaryref06.Reader).Value: 0, 1, 4, 5
def a61r0 : List AOper := [
  { dst := .bx, kind := (.alloc [.int .u8 0, .int .i64 0, .str [], .list true [], .list true []]), args := [], box := some 2 }]
def a61s1 : ACode := .reg [2] a61r0
def a61r2 : List AOper := [
  { dst := .bx, kind := (.alloc [.int .u8 0, .int .i64 0, .str [], .list true [], .list true []]), args := [], box := some 3 }]
def a61s3 : ACode := .reg [3] a61r2
def a61r4 : List AOper := [
  { dst := .t 6, kind := .mv, args := [.v 0] },
  { dst := .t 7, kind := (.call 62), args := [.t 6] }]
def a61r5 : List AOper := [
  { dst := .t 8, kind := .mv, args := [.v 0] },
  { dst := .t 9, kind := .mv, args := [.v 1] },
  { dst := .t 10, kind := (.call 71), args := [.t 8, .t 9] },
  { dst := .none, kind := (.stLc 3 5), args := [.l 3, .ts 10], box := some 3 }]
def a61s6 : ACode := .reg [] a61r5
def a61s7 : ACode := .test [] a61r4 (.t 7) a61s6 .skip
def a61r8 : List AOper := [
  { dst := .t 11, kind := .mv, args := [.v 0] },
  { dst := .t 12, kind := .nilchk, args := [.t 11] },
  { dst := .t 13, kind := (.fad 2), args := [.t 12] },
  { dst := .t 14, kind := (.ldSt false 1), args := [.t 13] },
  { dst := .t 15, kind := (.bin .sub), args := [.t 14, .c (.int .i64 1)] },
  { dst := .t 16, kind := .nilchk, args := [.t 11] },
  { dst := .t 17, kind := (.fad 2), args := [.t 16] },
  { dst := .none, kind := (.stSt 1), args := [.t 17, .t 15] }]
def a61s9 : ACode := .reg [] a61r8
def a61r10 : List AOper := [
  { dst := .t 18, kind := (.ldLc 3 true 5), args := [.l 3], box := some 3 },
  { dst := .none, kind := (.stLc 2 5), args := [.l 2, .ts 18], box := some 2 }]
def a61s11 : ACode := .reg [] a61r10
def a61s12 : ACode := .seq a61s11 .ret
def a61s13 : ACode := .seq a61s9 a61s12
def a61s14 : ACode := .seq a61s7 a61s13
def a61s15 : ACode := .seq a61s3 a61s14
def a61s16 : ACode := .seq a61s1 a61s15
def a61c : ACode :=
  a61s16
def a61 : AFn := { np := 2, nv := 4, results := [.bx 2 true 5], code := a61c }
def a61v : List Nat := [0, 1, 4, 5]
def a61b : List Nat := [2, 3]

-- (*columbary/columbaryref06.Reader).Open: 0, 2
def a62r0 : List AOper := [
  { dst := .v 1, kind := .mv, args := [.c (.bool false)] }]
def a62s1 : ACode := .reg [] a62r0
def a62r2 : List AOper := [
  { dst := .t 3, kind := .mv, args := [.v 0] },
  { dst := .t 4, kind := .nilchk, args := [.t 3] },
  { dst := .t 5, kind := (.fad 2), args := [.t 4] },
  { dst := .t 6, kind := (.ldSt false 1), args := [.t 5] },
  { dst := .t 7, kind := (.bin .add), args := [.t 6, .c (.int .i64 1)] },
  { dst := .t 8, kind := .nilchk, args := [.t 3] },
  { dst := .t 9, kind := (.fad 2), args := [.t 8] },
  { dst := .none, kind := (.stSt 1), args := [.t 9, .t 7] }]
def a62s3 : ACode := .reg [] a62r2
def a62r4 : List AOper := [
  { dst := .t 10, kind := .mv, args := [.v 0] },
  { dst := .t 11, kind := .nilchk, args := [.t 10] },
  { dst := .t 12, kind := (.fad 2), args := [.t 11] },
  { dst := .t 13, kind := (.ldSt false 1), args := [.t 12] },
  { dst := .t 14, kind := (.bin .gtr), args := [.t 13, .c (.int .i64 24)] }]
def a62r5 : List AOper := [
  { dst := .t 15, kind := .mv, args := [.v 0] },
  { dst := .t 16, kind := (.call 42), args := [.t 15, .c (.int .i64 5)] }]
def a62s6 : ACode := .reg [] a62r5
def a62s7 : ACode := .test [] a62r4 (.t 14) a62s6 .skip
def a62r8 : List AOper := [
  { dst := .t 17, kind := .mv, args := [.v 0] },
  { dst := .t 18, kind := .nilchk, args := [.t 17] },
  { dst := .t 19, kind := (.fad 4), args := [.t 18] },
  { dst := .t 20, kind := (.ldSt false 1), args := [.t 19] },
  { dst := .t 21, kind := (.bin .eql), args := [.t 20, .c (.int .i64 0)] },
  { dst := .v 1, kind := .mv, args := [.t 21] }]
def a62s9 : ACode := .reg [] a62r8
def a62s10 : ACode := .seq a62s9 .ret
def a62s11 : ACode := .seq a62s7 a62s10
def a62s12 : ACode := .seq a62s3 a62s11
def a62s13 : ACode := .seq a62s1 a62s12
def a62c : ACode :=
  a62s13
def a62 : AFn := { np := 1, nv := 2, results := [.v 1], code := a62c }
def a62v : List Nat := [0, 2]
def a62b : List Nat := []

-- columbary/schema.Base: 0, 1, 2
def a63r0 : List AOper := [
  { dst := .bx, kind := .boxV, args := [.v 0], box := some 1 },
  { dst := .v 2, kind := .mv, args := [.c (.str [])] }]
def a63s1 : ACode := .reg [1] a63r0
def a63r2 : List AOper := [
  { dst := .t 3, kind := (.fad 1), args := [.l 1] },
  { dst := .t 4, kind := (.ldLc 1 false 1), args := [.t 3], box := some 1 },
  { dst := .t 5, kind := .lenL, args := [.t 4] },
  { dst := .t 6, kind := (.bin .gtr), args := [.t 5, .c (.int .i64 0)] }]
def a63s3 : ACode := .test [] a63r2 (.t 6) .skip (.exit 0)
def a63r4 : List AOper := [
  { dst := .t 7, kind := (.fad 1), args := [.l 1] },
  { dst := .t 8, kind := (.ldLc 1 false 1), args := [.t 7], box := some 1 },
  { dst := .t 9, kind := (.iad 3), args := [.t 8, .c (.int .i64 0)] },
  { dst := .t 10, kind := (.ldRo true 3), args := [.t 9] },
  { dst := .none, kind := (.stLc 1 3), args := [.l 1, .ts 10], box := some 1 }]
def a63s5 : ACode := .reg [] a63r4
def a63s6 : ACode := .blk 1 a63s5
def a63s7 : ACode := .seq a63s3 a63s6
def a63s8 : ACode := .loop a63s7
def a63s9 : ACode := .blk 0 a63s8
def a63r10 : List AOper := [
  { dst := .t 11, kind := (.fad 0), args := [.l 1] },
  { dst := .t 12, kind := (.ldLc 1 false 1), args := [.t 11], box := some 1 },
  { dst := .v 2, kind := .mv, args := [.t 12] }]
def a63s11 : ACode := .reg [] a63r10
def a63s12 : ACode := .seq a63s11 .ret
def a63s13 : ACode := .seq a63s9 a63s12
def a63s14 : ACode := .seq a63s1 a63s13
def a63c : ACode :=
  a63s14
def a63 : AFn := { np := 1, nv := 3, results := [.v 2], code := a63c }
def a63v : List Nat := [0, 1, 2]
def a63b : List Nat := [1]

-- (*columbary/schema.Schema).Fits: 0, 1, 2, 3, 4, 5, 6, 7, 35, 78
def a64r0 : List AOper := [
  { dst := .v 3, kind := .boxO, args := [.v 0] },
  { dst := .v 4, kind := .boxO, args := [.v 1] },
  { dst := .bx, kind := .boxV, args := [.v 2], box := some 5 },
  { dst := .v 6, kind := .mv, args := [.c (.bool false)] }]
def a64s1 : ACode := .reg [5] a64r0
def a64r2 : List AOper := [
  { dst := .t 9, kind := (.fad 0), args := [.l 5] },
  { dst := .t 10, kind := (.ldLc 5 false 1), args := [.t 9], box := some 5 },
  { dst := .t 11, kind := (.bin .eql), args := [.t 10, .c (.int .u8 0)] }]
def a64r3 : List AOper := [
  { dst := .t 12, kind := (.fad 2), args := [.v 4] },
  { dst := .t 13, kind := (.ldSt false 1), args := [.t 12] },
  { dst := .t 14, kind := (.un .not), args := [.t 13] },
  { dst := .v 6, kind := .mv, args := [.t 14] }]
def a64s4 : ACode := .reg [] a64r3
def a64s5 : ACode := .seq a64s4 .ret
def a64s6 : ACode := .test [] a64r2 (.t 11) a64s5 .skip
def a64r7 : List AOper := [
  { dst := .t 15, kind := (.fad 1), args := [.v 4] },
  { dst := .t 16, kind := (.ldSt false 1), args := [.t 15] },
  { dst := .t 17, kind := .lenL, args := [.t 16] },
  { dst := .t 18, kind := (.bin .gtr), args := [.t 17, .c (.int .i64 0)] }]
def a64r8 : List AOper := [
  { dst := .t 19, kind := (.fad 0), args := [.l 5] },
  { dst := .t 20, kind := (.ldLc 5 false 1), args := [.t 19], box := some 5 },
  { dst := .t 21, kind := (.bin .neq), args := [.t 20, .c (.int .u8 5)] }]
def a64r9 : List AOper := [
  { dst := .t 22, kind := (.ldSt false 1), args := [.v 3] },
  { dst := .t 23, kind := (.fad 1), args := [.v 4] },
  { dst := .t 24, kind := (.ldSt false 1), args := [.t 23] },
  { dst := .t 25, kind := (.iad 3), args := [.t 24, .c (.int .i64 0)] },
  { dst := .t 26, kind := (.ldRo true 3), args := [.t 25] },
  { dst := .t 27, kind := (.ldLc 5 true 5), args := [.l 5], box := some 5 },
  { dst := .t 28, kind := (.call 64), args := [.t 22, .t 26, .t 27] },
  { dst := .v 6, kind := .mv, args := [.t 28] }]
def a64s10 : ACode := .reg [] a64r9
def a64s11 : ACode := .seq a64s10 .ret
def a64s12 : ACode := .test [] a64r8 (.t 21) a64s11 .skip
def a64r13 : List AOper := [
  { dst := .t 29, kind := (.fad 4), args := [.l 5] },
  { dst := .t 30, kind := (.ldLc 5 false 1), args := [.t 29], box := some 5 },
  { dst := .t 31, kind := (.mkF 73 0), args := [.v 3, .v 4] },
  { dst := .t 32, kind := (.call 72), args := [.t 30, .t 31] },
  { dst := .t 33, kind := (.un .not), args := [.t 32] },
  { dst := .v 6, kind := .mv, args := [.t 33] }]
def a64s14 : ACode := .reg [] a64r13
def a64s15 : ACode := .seq a64s14 .ret
def a64s16 : ACode := .seq a64s12 a64s15
def a64s17 : ACode := .test [] a64r7 (.t 18) a64s16 .skip
def a64r18 : List AOper := [
  { dst := .t 34, kind := (.fad 0), args := [.v 4] },
  { dst := .v 8, kind := (.ldSt false 1), args := [.t 34] }]
def a64s19 : ACode := .reg [] a64r18
def a64r20 : List AOper := [
  { dst := .t 37, kind := (.bin .eql), args := [.v 8, .c (.str [73, 110, 116])] },
  { dst := .t 36, kind := .mv, args := [.t 37] }]
def a64r21 : List AOper := [
  { dst := .t 38, kind := (.fad 0), args := [.l 5] },
  { dst := .t 39, kind := (.ldLc 5 false 1), args := [.t 38], box := some 5 },
  { dst := .t 40, kind := (.bin .eql), args := [.t 39, .c (.int .u8 1)] },
  { dst := .t 41, kind := .mv, args := [.t 40] },
  { dst := .t 42, kind := (.fad 1), args := [.l 5], guard := some (.t 41, true) },
  { dst := .t 43, kind := (.ldLc 5 false 1), args := [.t 42], box := some 5, guard := some (.t 41, true) },
  { dst := .t 44, kind := (.fad 1), args := [.l 5], guard := some (.t 41, true) },
  { dst := .t 45, kind := (.ldLc 5 false 1), args := [.t 44], box := some 5, guard := some (.t 41, true) },
  { dst := .t 46, kind := (.conv .i32), args := [.t 45], guard := some (.t 41, true) },
  { dst := .t 47, kind := (.conv .i64), args := [.t 46], guard := some (.t 41, true) },
  { dst := .t 48, kind := (.bin .eql), args := [.t 43, .t 47], guard := some (.t 41, true) },
  { dst := .t 49, kind := .pick, args := [.t 41, .t 48, .c (.bool false)] },
  { dst := .v 6, kind := .mv, args := [.t 49] }]
def a64s22 : ACode := .reg [] a64r21
def a64s23 : ACode := .seq a64s22 .ret
def a64r24 : List AOper := [
  { dst := .t 51, kind := (.bin .eql), args := [.v 8, .c (.str [83, 116, 114, 105, 110, 103])] },
  { dst := .t 50, kind := .mv, args := [.t 51] }]
def a64r25 : List AOper := [
  { dst := .t 52, kind := (.fad 0), args := [.l 5] },
  { dst := .t 53, kind := (.ldLc 5 false 1), args := [.t 52], box := some 5 },
  { dst := .t 54, kind := (.bin .eql), args := [.t 53, .c (.int .u8 2)] },
  { dst := .v 6, kind := .mv, args := [.t 54] }]
def a64s26 : ACode := .reg [] a64r25
def a64s27 : ACode := .seq a64s26 .ret
def a64r28 : List AOper := [
  { dst := .t 56, kind := (.bin .eql), args := [.v 8, .c (.str [66, 111, 111, 108, 101, 97, 110])] },
  { dst := .t 55, kind := .mv, args := [.t 56] }]
def a64r29 : List AOper := [
  { dst := .t 57, kind := (.fad 0), args := [.l 5] },
  { dst := .t 58, kind := (.ldLc 5 false 1), args := [.t 57], box := some 5 },
  { dst := .t 59, kind := (.bin .eql), args := [.t 58, .c (.int .u8 3)] },
  { dst := .v 6, kind := .mv, args := [.t 59] }]
def a64s30 : ACode := .reg [] a64r29
def a64s31 : ACode := .seq a64s30 .ret
def a64r32 : List AOper := [
  { dst := .t 61, kind := (.bin .eql), args := [.v 8, .c (.str [73, 68])] },
  { dst := .t 60, kind := .mv, args := [.t 61] }]
def a64r33 : List AOper := [
  { dst := .t 62, kind := (.fad 0), args := [.l 5] },
  { dst := .t 63, kind := (.ldLc 5 false 1), args := [.t 62], box := some 5 },
  { dst := .t 64, kind := (.bin .eql), args := [.t 63, .c (.int .u8 2)] },
  { dst := .t 65, kind := .mv, args := [.t 64] },
  { dst := .t 66, kind := (.fad 0), args := [.l 5], guard := some (.t 65, false) },
  { dst := .t 67, kind := (.ldLc 5 false 1), args := [.t 66], box := some 5, guard := some (.t 65, false) },
  { dst := .t 68, kind := (.bin .eql), args := [.t 67, .c (.int .u8 1)], guard := some (.t 65, false) },
  { dst := .t 69, kind := .pick, args := [.t 65, .c (.bool true), .t 68] },
  { dst := .v 6, kind := .mv, args := [.t 69] }]
def a64s34 : ACode := .reg [] a64r33
def a64s35 : ACode := .seq a64s34 .ret
def a64s36 : ACode := .test [] a64r32 (.t 60) a64s35 .skip
def a64s37 : ACode := .test [] a64r28 (.t 55) a64s31 a64s36
def a64s38 : ACode := .test [] a64r24 (.t 50) a64s27 a64s37
def a64s39 : ACode := .test [] a64r20 (.t 36) a64s23 a64s38
def a64s40 : ACode := .blk 0 a64s39
def a64s41 : ACode := .seq a64s19 a64s40
def a64r42 : List AOper := [
  { dst := .t 71, kind := (.ldSt false 1), args := [.v 3] },
  { dst := .t 72, kind := (.fad 0), args := [.v 4] },
  { dst := .t 73, kind := (.ldSt false 1), args := [.t 72] },
  { dst := .t 74, kind := (.call 15), args := [.t 71, .t 73] },
  { dst := .t 70, kind := .mv, args := [.t 74] },
  { dst := .t 75, kind := (.ext 0), args := [.t 70] },
  { dst := .t 76, kind := (.ext 1), args := [.t 70] },
  { dst := .bx, kind := (.alloc [.int .u8 0, .str [], .list true [], .list true []]), args := [], box := some 7 },
  { dst := .none, kind := (.stLc 7 4), args := [.l 7, .ts 75], box := some 7 },
  { dst := .t 8, kind := .mv, args := [.t 76] }]
def a64s43 : ACode := .reg [7] a64r42
def a64r44 : List AOper := [
  { dst := .t 77, kind := (.fad 0), args := [.l 7] },
  { dst := .v 9, kind := (.ldLc 7 false 1), args := [.t 77], box := some 7 }]
def a64s45 : ACode := .reg [] a64r44
def a64r46 : List AOper := [
  { dst := .t 80, kind := (.bin .eql), args := [.v 9, .c (.int .u8 4)] },
  { dst := .t 79, kind := .mv, args := [.t 80] }]
def a64r47 : List AOper := [
  { dst := .t 81, kind := (.fad 0), args := [.l 5] },
  { dst := .t 82, kind := (.ldLc 5 false 1), args := [.t 81], box := some 5 },
  { dst := .t 83, kind := (.bin .eql), args := [.t 82, .c (.int .u8 4)] },
  { dst := .t 84, kind := .mv, args := [.t 83] },
  { dst := .t 85, kind := (.fad 3), args := [.l 7], guard := some (.t 84, true) },
  { dst := .t 86, kind := (.ldLc 7 false 1), args := [.t 85], box := some 7, guard := some (.t 84, true) },
  { dst := .t 87, kind := (.fad 2), args := [.l 5], guard := some (.t 84, true) },
  { dst := .t 88, kind := (.ldLc 5 false 1), args := [.t 87], box := some 5, guard := some (.t 84, true) },
  { dst := .t 89, kind := (.call 29), args := [.t 86, .t 88], guard := some (.t 84, true) },
  { dst := .t 90, kind := .pick, args := [.t 84, .t 89, .c (.bool false)] },
  { dst := .v 6, kind := .mv, args := [.t 90] }]
def a64s48 : ACode := .reg [] a64r47
def a64s49 : ACode := .seq a64s48 .ret
def a64r50 : List AOper := [
  { dst := .t 92, kind := (.bin .eql), args := [.v 9, .c (.int .u8 5)] },
  { dst := .t 91, kind := .mv, args := [.t 92] }]
def a64r51 : List AOper := [
  { dst := .t 93, kind := (.fad 0), args := [.l 5] },
  { dst := .t 94, kind := (.ldLc 5 false 1), args := [.t 93], box := some 5 },
  { dst := .t 95, kind := (.bin .eql), args := [.t 94, .c (.int .u8 6)] },
  { dst := .t 96, kind := .mv, args := [.t 95] },
  { dst := .t 97, kind := (.ldSt false 1), args := [.v 3], guard := some (.t 96, true) },
  { dst := .t 98, kind := (.ldLc 7 true 4), args := [.l 7], box := some 7, guard := some (.t 96, true) },
  { dst := .t 99, kind := (.ldLc 5 true 5), args := [.l 5], box := some 5, guard := some (.t 96, true) },
  { dst := .t 100, kind := (.call 74), args := [.t 97, .t 98, .t 99], guard := some (.t 96, true) },
  { dst := .t 101, kind := .pick, args := [.t 96, .t 100, .c (.bool false)] },
  { dst := .v 6, kind := .mv, args := [.t 101] }]
def a64s52 : ACode := .reg [] a64r51
def a64s53 : ACode := .seq a64s52 .ret
def a64s54 : ACode := .test [] a64r50 (.t 91) a64s53 .skip
def a64s55 : ACode := .test [] a64r46 (.t 79) a64s49 a64s54
def a64s56 : ACode := .blk 1 a64s55
def a64s57 : ACode := .seq a64s45 a64s56
def a64r58 : List AOper := [
  { dst := .v 6, kind := .mv, args := [.c (.bool false)] }]
def a64s59 : ACode := .reg [] a64r58
def a64s60 : ACode := .seq a64s59 .ret
def a64s61 : ACode := .seq a64s57 a64s60
def a64s62 : ACode := .seq a64s43 a64s61
def a64s63 : ACode := .seq a64s41 a64s62
def a64s64 : ACode := .seq a64s17 a64s63
def a64s65 : ACode := .seq a64s6 a64s64
def a64s66 : ACode := .seq a64s1 a64s65
def a64c : ACode :=
  a64s66
def a64 : AFn := { np := 3, nv := 10, results := [.v 6], code := a64c }
def a64v : List Nat := [0, 1, 2, 3, 4, 5, 6, 7, 35, 78]
def a64b : List Nat := [5, 7]

-- slices.ContainsFunc[[]columbary/api.FieldDef,columbary/api.FieldDef]: 0, 1, 4
def a65r0 : List AOper := [
  { dst := .v 2, kind := .mv, args := [.c (.bool false)] }]
def a65s1 : ACode := .reg [] a65r0
def a65r2 : List AOper := [
  { dst := .t 5, kind := .mv, args := [.v 0] },
  { dst := .t 6, kind := .mv, args := [.v 1] },
  { dst := .t 7, kind := (.call 75), args := [.t 5, .t 6] },
  { dst := .t 8, kind := (.bin .geq), args := [.t 7, .c (.int .i64 0)] },
  { dst := .v 2, kind := .mv, args := [.t 8] }]
def a65s3 : ACode := .reg [] a65r2
def a65s4 : ACode := .seq a65s3 .ret
def a65s5 : ACode := .seq a65s1 a65s4
def a65c : ACode :=
  a65s5
def a65 : AFn := { np := 2, nv := 3, results := [.v 2], code := a65c }
def a65v : List Nat := [0, 1, 4]
def a65b : List Nat := []

-- (*columbary/schema.Schema).implements$1: 0, 1, 2, 3, 4
def a66r0 : List AOper := [
  { dst := .bx, kind := .boxV, args := [.v 0], box := some 2 },
  { dst := .v 3, kind := .mv, args := [.c (.bool false)] }]
def a66s1 : ACode := .reg [2] a66r0
def a66r2 : List AOper := [
  { dst := .t 5, kind := (.fad 2), args := [.v 1] },
  { dst := .t 6, kind := (.ldSt false 1), args := [.t 5] },
  { dst := .t 7, kind := (.call 37), args := [.t 6] },
  { dst := .t 8, kind := (.fad 0), args := [.l 2] },
  { dst := .t 9, kind := (.ldLc 2 false 1), args := [.t 8], box := some 2 },
  { dst := .t 10, kind := (.call 36), args := [.t 7, .t 9] },
  { dst := .v 4, kind := .mv, args := [.t 10] }]
def a66s3 : ACode := .reg [] a66r2
def a66r4 : List AOper := [
  { dst := .t 11, kind := .mv, args := [.v 4] },
  { dst := .t 12, kind := (.bin .lss), args := [.t 11, .c (.int .i64 0)] },
  { dst := .t 13, kind := .mv, args := [.t 12] },
  { dst := .t 14, kind := (.fad 2), args := [.v 1], guard := some (.t 13, false) },
  { dst := .t 15, kind := (.ldSt false 1), args := [.t 14], guard := some (.t 13, false) },
  { dst := .t 16, kind := .mv, args := [.v 4], guard := some (.t 13, false) },
  { dst := .t 17, kind := (.iad 11), args := [.t 15, .t 16], guard := some (.t 13, false) },
  { dst := .t 18, kind := (.fad 2), args := [.t 17], guard := some (.t 13, false) },
  { dst := .t 19, kind := (.ldRo true 3), args := [.t 18], guard := some (.t 13, false) },
  { dst := .t 20, kind := (.fad 2), args := [.l 2], guard := some (.t 13, false) },
  { dst := .t 21, kind := (.ldLc 2 true 3), args := [.t 20], box := some 2, guard := some (.t 13, false) },
  { dst := .t 22, kind := (.call 18), args := [.t 19, .t 21], guard := some (.t 13, false) },
  { dst := .t 23, kind := (.un .not), args := [.t 22], guard := some (.t 13, false) },
  { dst := .t 24, kind := .pick, args := [.t 13, .c (.bool true), .t 23] },
  { dst := .v 3, kind := .mv, args := [.t 24] }]
def a66s5 : ACode := .reg [] a66r4
def a66s6 : ACode := .seq a66s5 .ret
def a66s7 : ACode := .seq a66s3 a66s6
def a66s8 : ACode := .seq a66s1 a66s7
def a66c : ACode :=
  a66s8
def a66 : AFn := { np := 2, nv := 5, results := [.v 3], code := a66c }
def a66v : List Nat := [0, 1, 2, 3, 4]
def a66b : List Nat := [2]

-- columbary/schema.id: 0, 1, 2
def a67r0 : List AOper := [
  { dst := .bx, kind := .boxV, args := [.v 0], box := some 1 },
  { dst := .v 2, kind := .mv, args := [.c (.bool false)] }]
def a67s1 : ACode := .reg [1] a67r0
def a67r2 : List AOper := [
  { dst := .t 3, kind := (.fad 0), args := [.l 1] },
  { dst := .t 4, kind := (.ldLc 1 false 1), args := [.t 3], box := some 1 },
  { dst := .t 5, kind := (.bin .eql), args := [.t 4, .c (.str [105, 100])] },
  { dst := .t 6, kind := .mv, args := [.t 5] },
  { dst := .t 7, kind := (.fad 5), args := [.l 1], guard := some (.t 6, true) },
  { dst := .t 8, kind := (.ldLc 1 false 1), args := [.t 7], box := some 1, guard := some (.t 6, true) },
  { dst := .t 9, kind := (.un .not), args := [.t 8], guard := some (.t 6, true) },
  { dst := .t 10, kind := .pick, args := [.t 6, .t 9, .c (.bool false)] },
  { dst := .t 11, kind := .mv, args := [.t 10] },
  { dst := .t 12, kind := (.fad 2), args := [.l 1], guard := some (.t 11, true) },
  { dst := .t 13, kind := (.ldLc 1 true 3), args := [.t 12], box := some 1, guard := some (.t 11, true) },
  { dst := .t 14, kind := (.build [.str [], .list true [], .bool false] [(0, 1), (2, 1)]), args := [.c (.str [73, 68]), .c (.bool true)], guard := some (.t 11, true) },
  { dst := .t 15, kind := (.call 18), args := [.t 13, .t 14], guard := some (.t 11, true) },
  { dst := .t 16, kind := .pick, args := [.t 11, .t 15, .c (.bool false)] },
  { dst := .v 2, kind := .mv, args := [.t 16] }]
def a67s3 : ACode := .reg [] a67r2
def a67s4 : ACode := .seq a67s3 .ret
def a67s5 : ACode := .seq a67s1 a67s4
def a67c : ACode :=
  a67s5
def a67 : AFn := { np := 1, nv := 3, results := [.v 2], code := a67c }
def a67v : List Nat := [0, 1, 2]
def a67b : List Nat := [1]

-- columbary/schema.Verb: 0, 2, 3, 5, 6, 7, 8, 9, 10
def a68r0 : List AOper := [
  { dst := .v 1, kind := .mv, args := [.c (.str [])] },
  { dst := .v 2, kind := .mv, args := [.c (.str [])] }]
def a68s1 : ACode := .reg [] a68r0
def a68r2 : List AOper := [
  { dst := .v 6, kind := (.bslice 1 [[.str []], [.str []], [.str []]] [0, 1, 2]), args := [.c (.str [99, 114, 101, 97, 116, 101]), .c (.str [117, 112, 100, 97, 116, 101]), .c (.str [100, 101, 108, 101, 116, 101])] },
  { dst := .v 7, kind := .lenL, args := [.v 6] },
  { dst := .v 8, kind := .mv, args := [.c (.int .i64 0)] }]
def a68s3 : ACode := .reg [] a68r2
def a68r4 : List AOper := [
  { dst := .t 11, kind := (.bin .lss), args := [.v 8, .v 7] }]
def a68s5 : ACode := .test [] a68r4 (.t 11) .skip (.exit 0)
def a68r6 : List AOper := [
  { dst := .t 12, kind := (.iad 1), args := [.v 6, .v 8] },
  { dst := .t 13, kind := (.ldRo false 1), args := [.t 12] },
  { dst := .v 3, kind := .mv, args := [.t 13] }]
def a68s7 : ACode := .reg [] a68r6
def a68r8 : List AOper := [
  { dst := .t 15, kind := .mv, args := [.v 0] },
  { dst := .t 16, kind := .mv, args := [.v 3] },
  { dst := .t 17, kind := (.call 76), args := [.t 15, .t 16] },
  { dst := .t 14, kind := .mv, args := [.t 17] },
  { dst := .t 18, kind := (.ext 0), args := [.t 14] },
  { dst := .t 19, kind := (.ext 1), args := [.t 14] },
  { dst := .v 4, kind := .mv, args := [.t 18] },
  { dst := .v 5, kind := .mv, args := [.t 19] }]
def a68s9 : ACode := .reg [] a68r8
def a68r10 : List AOper := [
  { dst := .t 20, kind := .mv, args := [.v 5] }]
def a68r11 : List AOper := [
  { dst := .t 21, kind := .mv, args := [.v 3] },
  { dst := .t 22, kind := .mv, args := [.v 4] },
  { dst := .v 1, kind := .mv, args := [.t 21] },
  { dst := .v 2, kind := .mv, args := [.t 22] }]
def a68s12 : ACode := .reg [] a68r11
def a68s13 : ACode := .seq a68s12 .ret
def a68s14 : ACode := .test [] a68r10 (.t 20) a68s13 .skip
def a68s15 : ACode := .seq a68s9 a68s14
def a68s16 : ACode := .seq a68s7 a68s15
def a68s17 : ACode := .blk 1 a68s16
def a68r18 : List AOper := [
  { dst := .t 23, kind := (.bin .add), args := [.v 8, .c (.int .i64 1)] },
  { dst := .v 8, kind := .mv, args := [.t 23] }]
def a68s19 : ACode := .reg [] a68r18
def a68s20 : ACode := .seq a68s17 a68s19
def a68s21 : ACode := .seq a68s5 a68s20
def a68s22 : ACode := .loop a68s21
def a68s23 : ACode := .blk 0 a68s22
def a68s24 : ACode := .seq a68s3 a68s23
def a68r25 : List AOper := [
  { dst := .v 1, kind := .mv, args := [.c (.str [])] },
  { dst := .v 2, kind := .mv, args := [.c (.str [])] }]
def a68s26 : ACode := .reg [] a68r25
def a68s27 : ACode := .seq a68s26 .ret
def a68s28 : ACode := .seq a68s24 a68s27
def a68s29 : ACode := .seq a68s1 a68s28
def a68c : ACode :=
  a68s29
def a68 : AFn := { np := 1, nv := 9, results := [.v 1, .v 2], code := a68c }
def a68v : List Nat := [0, 2, 3, 5, 6, 7, 8, 9, 10]
def a68b : List Nat := []

-- (*columbary/schema.Schema).change$1: 0, 1, 2, 3, 4, 5
def a69r0 : List AOper := [
  { dst := .bx, kind := .boxV, args := [.v 0], box := some 3 },
  { dst := .v 4, kind := .mv, args := [.c (.bool false)] }]
def a69s1 : ACode := .reg [3] a69r0
def a69r2 : List AOper := [
  { dst := .t 6, kind := (.fad 2), args := [.v 1] },
  { dst := .t 7, kind := (.ldSt false 1), args := [.t 6] },
  { dst := .t 8, kind := (.call 37), args := [.t 7] },
  { dst := .t 9, kind := (.fad 0), args := [.l 3] },
  { dst := .t 10, kind := (.ldLc 3 false 1), args := [.t 9], box := some 3 },
  { dst := .t 11, kind := (.call 36), args := [.t 8, .t 10] },
  { dst := .v 5, kind := .mv, args := [.t 11] }]
def a69s3 : ACode := .reg [] a69r2
def a69r4 : List AOper := [
  { dst := .t 12, kind := .mv, args := [.v 5] },
  { dst := .t 13, kind := (.bin .lss), args := [.t 12, .c (.int .i64 0)] },
  { dst := .t 14, kind := .mv, args := [.t 13] },
  { dst := .t 15, kind := (.ldSt false 1), args := [.v 2], guard := some (.t 14, false) },
  { dst := .t 16, kind := (.fad 2), args := [.v 1], guard := some (.t 14, false) },
  { dst := .t 17, kind := (.ldSt false 1), args := [.t 16], guard := some (.t 14, false) },
  { dst := .t 18, kind := .mv, args := [.v 5], guard := some (.t 14, false) },
  { dst := .t 19, kind := (.iad 11), args := [.t 17, .t 18], guard := some (.t 14, false) },
  { dst := .t 20, kind := (.fad 2), args := [.t 19], guard := some (.t 14, false) },
  { dst := .t 21, kind := (.ldRo true 3), args := [.t 20], guard := some (.t 14, false) },
  { dst := .t 22, kind := (.fad 2), args := [.l 3], guard := some (.t 14, false) },
  { dst := .t 23, kind := (.ldLc 3 true 3), args := [.t 22], box := some 3, guard := some (.t 14, false) },
  { dst := .t 24, kind := (.call 70), args := [.t 15, .t 21, .t 23], guard := some (.t 14, false) },
  { dst := .t 25, kind := (.un .not), args := [.t 24], guard := some (.t 14, false) },
  { dst := .t 26, kind := .pick, args := [.t 14, .c (.bool true), .t 25] },
  { dst := .v 4, kind := .mv, args := [.t 26] }]
def a69s5 : ACode := .reg [] a69r4
def a69s6 : ACode := .seq a69s5 .ret
def a69s7 : ACode := .seq a69s3 a69s6
def a69s8 : ACode := .seq a69s1 a69s7
def a69c : ACode :=
  a69s8
def a69 : AFn := { np := 3, nv := 6, results := [.v 4], code := a69c }
def a69v : List Nat := [0, 1, 2, 3, 4, 5]
def a69b : List Nat := [3]

-- (*columbary/schema.Schema).matches: 0, 1, 2, 4, 5, 6
def a70r0 : List AOper := [
  { dst := .bx, kind := .boxV, args := [.v 1], box := some 3 },
  { dst := .bx, kind := .boxV, args := [.v 2], box := some 4 },
  { dst := .v 5, kind := .mv, args := [.c (.bool false)] }]
def a70s1 : ACode := .reg [3, 4] a70r0
def a70r2 : List AOper := [
  { dst := .t 7, kind := (.fad 1), args := [.l 3] },
  { dst := .t 8, kind := (.ldLc 3 false 1), args := [.t 7], box := some 3 },
  { dst := .t 9, kind := .lenL, args := [.t 8] },
  { dst := .t 10, kind := (.fad 1), args := [.l 4] },
  { dst := .t 11, kind := (.ldLc 4 false 1), args := [.t 10], box := some 4 },
  { dst := .t 12, kind := .lenL, args := [.t 11] },
  { dst := .t 13, kind := (.bin .neq), args := [.t 9, .t 12] }]
def a70r3 : List AOper := [
  { dst := .v 5, kind := .mv, args := [.c (.bool false)] }]
def a70s4 : ACode := .reg [] a70r3
def a70s5 : ACode := .seq a70s4 .ret
def a70s6 : ACode := .test [] a70r2 (.t 13) a70s5 .skip
def a70r7 : List AOper := [
  { dst := .t 14, kind := (.fad 1), args := [.l 3] },
  { dst := .t 15, kind := (.ldLc 3 false 1), args := [.t 14], box := some 3 },
  { dst := .t 16, kind := .lenL, args := [.t 15] },
  { dst := .t 17, kind := (.bin .gtr), args := [.t 16, .c (.int .i64 0)] }]
def a70r8 : List AOper := [
  { dst := .t 18, kind := .mv, args := [.v 0] },
  { dst := .t 19, kind := (.fad 1), args := [.l 3] },
  { dst := .t 20, kind := (.ldLc 3 false 1), args := [.t 19], box := some 3 },
  { dst := .t 21, kind := (.iad 3), args := [.t 20, .c (.int .i64 0)] },
  { dst := .t 22, kind := (.ldRo true 3), args := [.t 21] },
  { dst := .t 23, kind := (.fad 1), args := [.l 4] },
  { dst := .t 24, kind := (.ldLc 4 false 1), args := [.t 23], box := some 4 },
  { dst := .t 25, kind := (.iad 3), args := [.t 24, .c (.int .i64 0)] },
  { dst := .t 26, kind := (.ldRo true 3), args := [.t 25] },
  { dst := .t 27, kind := (.call 70), args := [.t 18, .t 22, .t 26] },
  { dst := .v 5, kind := .mv, args := [.t 27] }]
def a70s9 : ACode := .reg [] a70r8
def a70s10 : ACode := .seq a70s9 .ret
def a70s11 : ACode := .test [] a70r7 (.t 17) a70s10 .skip
def a70r12 : List AOper := [
  { dst := .t 28, kind := (.fad 0), args := [.l 3] },
  { dst := .t 29, kind := (.ldLc 3 false 1), args := [.t 28], box := some 3 },
  { dst := .t 30, kind := (.fad 0), args := [.l 4] },
  { dst := .t 31, kind := (.ldLc 4 false 1), args := [.t 30], box := some 4 },
  { dst := .t 32, kind := (.bin .eql), args := [.t 29, .t 31] },
  { dst := .t 33, kind := .mv, args := [.t 32] },
  { dst := .t 34, kind := .mv, args := [.v 0], guard := some (.t 33, false) },
  { dst := .t 35, kind := (.fad 0), args := [.l 3], guard := some (.t 33, false) },
  { dst := .t 36, kind := (.ldLc 3 false 1), args := [.t 35], box := some 3, guard := some (.t 33, false) },
  { dst := .t 37, kind := (.call 12), args := [.t 34, .t 36], guard := some (.t 33, false) },
  { dst := .t 38, kind := .mv, args := [.t 37], guard := some (.t 33, false) },
  { dst := .t 39, kind := (.fad 0), args := [.l 4], guard := some (.t 38, true) },
  { dst := .t 40, kind := (.ldLc 4 false 1), args := [.t 39], box := some 4, guard := some (.t 38, true) },
  { dst := .t 41, kind := (.bin .eql), args := [.t 40, .c (.str [73, 68])], guard := some (.t 38, true) },
  { dst := .t 42, kind := .pick, args := [.t 38, .t 41, .c (.bool false)], guard := some (.t 33, false) },
  { dst := .t 43, kind := .pick, args := [.t 33, .c (.bool true), .t 42] },
  { dst := .v 5, kind := .mv, args := [.t 43] }]
def a70s13 : ACode := .reg [] a70r12
def a70s14 : ACode := .seq a70s13 .ret
def a70s15 : ACode := .seq a70s11 a70s14
def a70s16 : ACode := .seq a70s6 a70s15
def a70s17 : ACode := .seq a70s1 a70s16
def a70c : ACode :=
  a70s17
def a70 : AFn := { np := 3, nv := 6, results := [.v 5], code := a70c }
def a70v : List Nat := [0, 1, 2, 4, 5, 6]
def a70b : List Nat := [3, 4]

-- (*columbary/columbaryref06.Reader).value: 0, 1, 4, 5, 6, 7, 8, 9
def a71r0 : List AOper := [
  { dst := .bx, kind := (.alloc [.int .u8 0, .int .i64 0, .str [], .list true [], .list true []]), args := [], box := some 2 }]
def a71s1 : ACode := .reg [2] a71r0
def a71r2 : List AOper := [
  { dst := .t 10, kind := .mv, args := [.v 0] },
  { dst := .t 11, kind := .nilchk, args := [.t 10] },
  { dst := .t 12, kind := (.fad 0), args := [.t 11] },
  { dst := .t 13, kind := (.ldSt false 1), args := [.t 12] },
  { dst := .t 14, kind := .mv, args := [.v 0] },
  { dst := .t 15, kind := .nilchk, args := [.t 14] },
  { dst := .t 16, kind := (.fad 1), args := [.t 15] },
  { dst := .t 17, kind := (.ldSt false 1), args := [.t 16] },
  { dst := .t 18, kind := (.iad 4), args := [.t 13, .t 17] },
  { dst := .t 19, kind := (.ldRo true 4), args := [.t 18] },
  { dst := .bx, kind := (.alloc [.int .u8 0, .str [], .int .i64 0, .int .i64 0]), args := [], box := some 3 },
  { dst := .none, kind := (.stLc 3 4), args := [.l 3, .t 19], box := some 3 }]
def a71s3 : ACode := .reg [3] a71r2
def a71r4 : List AOper := [
  { dst := .t 21, kind := (.fad 0), args := [.l 3] },
  { dst := .t 22, kind := (.ldLc 3 false 1), args := [.t 21], box := some 3 },
  { dst := .t 23, kind := (.bin .eql), args := [.t 22, .c (.int .u8 2)] },
  { dst := .t 20, kind := .mv, args := [.t 23] }]
def a71r5 : List AOper := [
  { dst := .t 24, kind := .mv, args := [.v 0] },
  { dst := .t 25, kind := .nilchk, args := [.t 24] },
  { dst := .t 26, kind := (.fad 1), args := [.t 25] },
  { dst := .t 27, kind := (.ldSt false 1), args := [.t 26] },
  { dst := .t 28, kind := (.bin .add), args := [.t 27, .c (.int .i64 1)] },
  { dst := .t 29, kind := .nilchk, args := [.t 24] },
  { dst := .t 30, kind := (.fad 1), args := [.t 29] },
  { dst := .none, kind := (.stSt 1), args := [.t 30, .t 28] }]
def a71s6 : ACode := .reg [] a71r5
def a71r7 : List AOper := [
  { dst := .t 31, kind := (.fad 2), args := [.l 3] },
  { dst := .t 32, kind := (.ldLc 3 false 1), args := [.t 31], box := some 3 },
  { dst := .t 33, kind := (.build [.int .u8 0, .int .i64 0, .str [], .list true [], .list true []] [(0, 1), (1, 1)]), args := [.c (.int .u8 1), .t 32] },
  { dst := .none, kind := (.stLc 2 5), args := [.l 2, .ts 33], box := some 2 }]
def a71s8 : ACode := .reg [] a71r7
def a71s9 : ACode := .seq a71s8 .ret
def a71s10 : ACode := .seq a71s6 a71s9
def a71r11 : List AOper := [
  { dst := .t 35, kind := (.fad 0), args := [.l 3] },
  { dst := .t 36, kind := (.ldLc 3 false 1), args := [.t 35], box := some 3 },
  { dst := .t 37, kind := (.bin .eql), args := [.t 36, .c (.int .u8 3)] },
  { dst := .t 34, kind := .mv, args := [.t 37] }]
def a71r12 : List AOper := [
  { dst := .t 38, kind := .mv, args := [.v 0] },
  { dst := .t 39, kind := .nilchk, args := [.t 38] },
  { dst := .t 40, kind := (.fad 1), args := [.t 39] },
  { dst := .t 41, kind := (.ldSt false 1), args := [.t 40] },
  { dst := .t 42, kind := (.bin .add), args := [.t 41, .c (.int .i64 1)] },
  { dst := .t 43, kind := .nilchk, args := [.t 38] },
  { dst := .t 44, kind := (.fad 1), args := [.t 43] },
  { dst := .none, kind := (.stSt 1), args := [.t 44, .t 42] }]
def a71s13 : ACode := .reg [] a71r12
def a71r14 : List AOper := [
  { dst := .t 45, kind := (.fad 1), args := [.l 3] },
  { dst := .t 46, kind := (.ldLc 3 false 1), args := [.t 45], box := some 3 },
  { dst := .t 47, kind := (.build [.int .u8 0, .int .i64 0, .str [], .list true [], .list true []] [(0, 1), (2, 1)]), args := [.c (.int .u8 2), .t 46] },
  { dst := .none, kind := (.stLc 2 5), args := [.l 2, .ts 47], box := some 2 }]
def a71s15 : ACode := .reg [] a71r14
def a71s16 : ACode := .seq a71s15 .ret
def a71s17 : ACode := .seq a71s13 a71s16
def a71r18 : List AOper := [
  { dst := .t 49, kind := .mv, args := [.v 0] },
  { dst := .t 50, kind := (.call 46), args := [.t 49, .c (.str [116, 114, 117, 101])] },
  { dst := .t 48, kind := .mv, args := [.t 50] }]
def a71r19 : List AOper := [
  { dst := .t 51, kind := (.build [.int .u8 0, .int .i64 0, .str [], .list true [], .list true []] [(0, 1), (1, 1)]), args := [.c (.int .u8 3), .c (.int .i64 1)] },
  { dst := .none, kind := (.stLc 2 5), args := [.l 2, .ts 51], box := some 2 }]
def a71s20 : ACode := .reg [] a71r19
def a71s21 : ACode := .seq a71s20 .ret
def a71r22 : List AOper := [
  { dst := .t 53, kind := .mv, args := [.v 0] },
  { dst := .t 54, kind := (.call 46), args := [.t 53, .c (.str [102, 97, 108, 115, 101])] },
  { dst := .t 52, kind := .mv, args := [.t 54] }]
def a71r23 : List AOper := [
  { dst := .t 55, kind := (.build [.int .u8 0, .int .i64 0, .str [], .list true [], .list true []] [(0, 1)]), args := [.c (.int .u8 3)] },
  { dst := .none, kind := (.stLc 2 5), args := [.l 2, .ts 55], box := some 2 }]
def a71s24 : ACode := .reg [] a71r23
def a71s25 : ACode := .seq a71s24 .ret
def a71r26 : List AOper := [
  { dst := .t 57, kind := .mv, args := [.v 0] },
  { dst := .t 58, kind := (.call 46), args := [.t 57, .c (.str [110, 117, 108, 108])] },
  { dst := .t 56, kind := .mv, args := [.t 58] }]
def a71r27 : List AOper := [
  { dst := .t 59, kind := (.build [.int .u8 0, .int .i64 0, .str [], .list true [], .list true []] []), args := [] },
  { dst := .none, kind := (.stLc 2 5), args := [.l 2, .ts 59], box := some 2 }]
def a71s28 : ACode := .reg [] a71r27
def a71s29 : ACode := .seq a71s28 .ret
def a71r30 : List AOper := [
  { dst := .t 61, kind := (.fad 0), args := [.l 3] },
  { dst := .t 62, kind := (.ldLc 3 false 1), args := [.t 61], box := some 3 },
  { dst := .t 63, kind := (.bin .eql), args := [.t 62, .c (.int .u8 1)] },
  { dst := .t 60, kind := .mv, args := [.t 63] }]
def a71r31 : List AOper := [
  { dst := .t 64, kind := .mv, args := [.v 0] },
  { dst := .t 65, kind := .nilchk, args := [.t 64] },
  { dst := .t 66, kind := (.fad 1), args := [.t 65] },
  { dst := .t 67, kind := (.ldSt false 1), args := [.t 66] },
  { dst := .t 68, kind := (.bin .add), args := [.t 67, .c (.int .i64 1)] },
  { dst := .t 69, kind := .nilchk, args := [.t 64] },
  { dst := .t 70, kind := (.fad 1), args := [.t 69] },
  { dst := .none, kind := (.stSt 1), args := [.t 70, .t 68] }]
def a71s32 : ACode := .reg [] a71r31
def a71r33 : List AOper := [
  { dst := .t 71, kind := (.fad 1), args := [.l 3] },
  { dst := .t 72, kind := (.ldLc 3 false 1), args := [.t 71], box := some 3 },
  { dst := .t 73, kind := (.build [.int .u8 0, .int .i64 0, .str [], .list true [], .list true []] [(0, 1), (2, 1)]), args := [.c (.int .u8 4), .t 72] },
  { dst := .none, kind := (.stLc 2 5), args := [.l 2, .ts 73], box := some 2 }]
def a71s34 : ACode := .reg [] a71r33
def a71s35 : ACode := .seq a71s34 .ret
def a71s36 : ACode := .seq a71s32 a71s35
def a71r37 : List AOper := [
  { dst := .t 75, kind := .mv, args := [.v 0] },
  { dst := .t 76, kind := (.call 60), args := [.t 75, .c (.str [36])] },
  { dst := .t 77, kind := .mv, args := [.t 76] },
  { dst := .t 78, kind := .mv, args := [.v 1], guard := some (.t 77, true) },
  { dst := .t 79, kind := (.un .not), args := [.t 78], guard := some (.t 77, true) },
  { dst := .t 80, kind := .pick, args := [.t 77, .t 79, .c (.bool false)] },
  { dst := .t 74, kind := .mv, args := [.t 80] }]
def a71r38 : List AOper := [
  { dst := .t 81, kind := .mv, args := [.v 0] },
  { dst := .t 82, kind := .nilchk, args := [.t 81] },
  { dst := .t 83, kind := (.fad 1), args := [.t 82] },
  { dst := .t 84, kind := (.ldSt false 1), args := [.t 83] },
  { dst := .t 85, kind := (.bin .add), args := [.t 84, .c (.int .i64 1)] },
  { dst := .t 86, kind := .nilchk, args := [.t 81] },
  { dst := .t 87, kind := (.fad 1), args := [.t 86] },
  { dst := .none, kind := (.stSt 1), args := [.t 87, .t 85] }]
def a71s39 : ACode := .reg [] a71r38
def a71r40 : List AOper := [
  { dst := .t 88, kind := .mv, args := [.v 0] },
  { dst := .t 89, kind := (.call 43), args := [.t 88] },
  { dst := .t 90, kind := (.build [.int .u8 0, .int .i64 0, .str [], .list true [], .list true []] [(0, 1), (2, 1)]), args := [.c (.int .u8 7), .t 89] },
  { dst := .none, kind := (.stLc 2 5), args := [.l 2, .ts 90], box := some 2 }]
def a71s41 : ACode := .reg [] a71r40
def a71s42 : ACode := .seq a71s41 .ret
def a71s43 : ACode := .seq a71s39 a71s42
def a71r44 : List AOper := [
  { dst := .t 92, kind := .mv, args := [.v 0] },
  { dst := .t 93, kind := (.call 46), args := [.t 92, .c (.str [91])] },
  { dst := .t 91, kind := .mv, args := [.t 93] }]
def a71r45 : List AOper := [
  { dst := .t 94, kind := (.build [.int .u8 0, .int .i64 0, .str [], .list true [], .list true []] [(0, 1)]), args := [.c (.int .u8 5)] },
  { dst := .bx, kind := (.alloc [.int .u8 0, .int .i64 0, .str [], .list true [], .list true []]), args := [], box := some 4 },
  { dst := .none, kind := (.stLc 4 5), args := [.l 4, .ts 94], box := some 4 }]
def a71s46 : ACode := .reg [4] a71r45
def a71r47 : List AOper := [
  { dst := .t 95, kind := .mv, args := [.v 0] },
  { dst := .t 96, kind := .nilchk, args := [.t 95] },
  { dst := .t 97, kind := (.fad 4), args := [.t 96] },
  { dst := .t 98, kind := (.ldSt false 1), args := [.t 97] },
  { dst := .t 99, kind := (.bin .eql), args := [.t 98, .c (.int .i64 0)] },
  { dst := .t 100, kind := .mv, args := [.t 99] },
  { dst := .t 101, kind := .mv, args := [.v 0], guard := some (.t 100, true) },
  { dst := .t 102, kind := (.call 46), args := [.t 101, .c (.str [93])], guard := some (.t 100, true) },
  { dst := .t 103, kind := (.un .not), args := [.t 102], guard := some (.t 100, true) },
  { dst := .t 104, kind := .pick, args := [.t 100, .t 103, .c (.bool false)] }]
def a71s48 : ACode := .test [] a71r47 (.t 104) .skip (.exit 1)
def a71r49 : List AOper := [
  { dst := .t 105, kind := .mv, args := [.v 0] },
  { dst := .t 106, kind := .mv, args := [.v 1] },
  { dst := .t 107, kind := (.call 61), args := [.t 105, .t 106] },
  { dst := .bx, kind := (.alloc [.int .u8 0, .int .i64 0, .str [], .list true [], .list true []]), args := [], box := some 5 },
  { dst := .none, kind := (.stLc 5 5), args := [.l 5, .ts 107], box := some 5 }]
def a71s50 : ACode := .reg [5] a71r49
def a71r51 : List AOper := [
  { dst := .t 108, kind := (.fad 4), args := [.l 4] },
  { dst := .t 109, kind := (.ldLcS 4), args := [.t 108], box := some 4 },
  { dst := .t 110, kind := (.ldLc 5 true 5), args := [.l 5], box := some 5 },
  { dst := .t 111, kind := (.bslice 5 [[.int .u8 0, .int .i64 0, .str [], .list true [], .list true []]] [0]), args := [.t 110] },
  { dst := .t 112, kind := (.app 5 80), args := [.ts 109, .t 111] },
  { dst := .t 113, kind := (.fad 4), args := [.l 4] },
  { dst := .none, kind := (.stLc 4 1), args := [.t 113, .ts 112], box := some 4 }]
def a71s52 : ACode := .reg [] a71r51
def a71s53 : ACode := .seq a71s50 a71s52
def a71s54 : ACode := .blk 2 a71s53
def a71s55 : ACode := .seq a71s48 a71s54
def a71s56 : ACode := .loop a71s55
def a71s57 : ACode := .blk 1 a71s56
def a71r58 : List AOper := [
  { dst := .t 114, kind := (.ldLc 4 true 5), args := [.l 4], box := some 4 },
  { dst := .none, kind := (.stLc 2 5), args := [.l 2, .ts 114], box := some 2 }]
def a71s59 : ACode := .reg [] a71r58
def a71s60 : ACode := .seq a71s59 .ret
def a71s61 : ACode := .seq a71s57 a71s60
def a71s62 : ACode := .seq a71s46 a71s61
def a71r63 : List AOper := [
  { dst := .t 116, kind := .mv, args := [.v 0] },
  { dst := .t 117, kind := (.call 46), args := [.t 116, .c (.str [123])] },
  { dst := .t 115, kind := .mv, args := [.t 117] }]
def a71r64 : List AOper := [
  { dst := .t 118, kind := (.build [.int .u8 0, .int .i64 0, .str [], .list true [], .list true []] [(0, 1)]), args := [.c (.int .u8 6)] },
  { dst := .bx, kind := (.alloc [.int .u8 0, .int .i64 0, .str [], .list true [], .list true []]), args := [], box := some 6 },
  { dst := .none, kind := (.stLc 6 5), args := [.l 6, .ts 118], box := some 6 }]
def a71s65 : ACode := .reg [6] a71r64
def a71r66 : List AOper := [
  { dst := .t 119, kind := .mv, args := [.v 0] },
  { dst := .t 120, kind := .nilchk, args := [.t 119] },
  { dst := .t 121, kind := (.fad 4), args := [.t 120] },
  { dst := .t 122, kind := (.ldSt false 1), args := [.t 121] },
  { dst := .t 123, kind := (.bin .eql), args := [.t 122, .c (.int .i64 0)] },
  { dst := .t 124, kind := .mv, args := [.t 123] },
  { dst := .t 125, kind := .mv, args := [.v 0], guard := some (.t 124, true) },
  { dst := .t 126, kind := (.call 46), args := [.t 125, .c (.str [125])], guard := some (.t 124, true) },
  { dst := .t 127, kind := (.un .not), args := [.t 126], guard := some (.t 124, true) },
  { dst := .t 128, kind := .pick, args := [.t 124, .t 127, .c (.bool false)] }]
def a71s67 : ACode := .test [] a71r66 (.t 128) .skip (.exit 3)
def a71r68 : List AOper := [
  { dst := .t 129, kind := (.fad 3), args := [.l 6] },
  { dst := .t 130, kind := (.ldLcS 6), args := [.t 129], box := some 6 },
  { dst := .t 131, kind := .mv, args := [.v 0] },
  { dst := .t 132, kind := (.call 43), args := [.t 131] },
  { dst := .t 133, kind := (.bslice 1 [[.str []]] [0]), args := [.t 132] },
  { dst := .t 134, kind := (.app 1 16), args := [.ts 130, .t 133] },
  { dst := .t 135, kind := (.fad 3), args := [.l 6] },
  { dst := .none, kind := (.stLc 6 1), args := [.t 135, .ts 134], box := some 6 }]
def a71s69 : ACode := .reg [] a71r68
def a71r70 : List AOper := [
  { dst := .t 136, kind := .mv, args := [.v 0] },
  { dst := .t 137, kind := (.call 44), args := [.t 136, .c (.str [58])] }]
def a71s71 : ACode := .reg [] a71r70
def a71r72 : List AOper := [
  { dst := .t 138, kind := .mv, args := [.v 0] },
  { dst := .t 139, kind := .mv, args := [.v 1] },
  { dst := .t 140, kind := (.call 61), args := [.t 138, .t 139] },
  { dst := .bx, kind := (.alloc [.int .u8 0, .int .i64 0, .str [], .list true [], .list true []]), args := [], box := some 7 },
  { dst := .none, kind := (.stLc 7 5), args := [.l 7, .ts 140], box := some 7 }]
def a71s73 : ACode := .reg [7] a71r72
def a71r74 : List AOper := [
  { dst := .t 141, kind := (.fad 4), args := [.l 6] },
  { dst := .t 142, kind := (.ldLcS 6), args := [.t 141], box := some 6 },
  { dst := .t 143, kind := (.ldLc 7 true 5), args := [.l 7], box := some 7 },
  { dst := .t 144, kind := (.bslice 5 [[.int .u8 0, .int .i64 0, .str [], .list true [], .list true []]] [0]), args := [.t 143] },
  { dst := .t 145, kind := (.app 5 80), args := [.ts 142, .t 144] },
  { dst := .t 146, kind := (.fad 4), args := [.l 6] },
  { dst := .none, kind := (.stLc 6 1), args := [.t 146, .ts 145], box := some 6 }]
def a71s75 : ACode := .reg [] a71r74
def a71s76 : ACode := .seq a71s73 a71s75
def a71s77 : ACode := .seq a71s71 a71s76
def a71s78 : ACode := .seq a71s69 a71s77
def a71s79 : ACode := .blk 4 a71s78
def a71s80 : ACode := .seq a71s67 a71s79
def a71s81 : ACode := .loop a71s80
def a71s82 : ACode := .blk 3 a71s81
def a71r83 : List AOper := [
  { dst := .t 147, kind := (.ldLc 6 true 5), args := [.l 6], box := some 6 },
  { dst := .none, kind := (.stLc 2 5), args := [.l 2, .ts 147], box := some 2 }]
def a71s84 : ACode := .reg [] a71r83
def a71s85 : ACode := .seq a71s84 .ret
def a71s86 : ACode := .seq a71s82 a71s85
def a71s87 : ACode := .seq a71s65 a71s86
def a71s88 : ACode := .test [] a71r63 (.t 115) a71s87 .skip
def a71s89 : ACode := .test [] a71r44 (.t 91) a71s62 a71s88
def a71s90 : ACode := .test [] a71r37 (.t 74) a71s43 a71s89
def a71s91 : ACode := .test [] a71r30 (.t 60) a71s36 a71s90
def a71s92 : ACode := .test [] a71r26 (.t 56) a71s29 a71s91
def a71s93 : ACode := .test [] a71r22 (.t 52) a71s25 a71s92
def a71s94 : ACode := .test [] a71r18 (.t 48) a71s21 a71s93
def a71s95 : ACode := .test [] a71r11 (.t 34) a71s17 a71s94
def a71s96 : ACode := .test [] a71r4 (.t 20) a71s10 a71s95
def a71s97 : ACode := .blk 0 a71s96
def a71r98 : List AOper := [
  { dst := .t 148, kind := .mv, args := [.v 0] },
  { dst := .t 149, kind := (.call 42), args := [.t 148, .c (.int .i64 4)] }]
def a71s99 : ACode := .reg [] a71r98
def a71r100 : List AOper := [
  { dst := .t 150, kind := (.build [.int .u8 0, .int .i64 0, .str [], .list true [], .list true []] []), args := [] },
  { dst := .none, kind := (.stLc 2 5), args := [.l 2, .ts 150], box := some 2 }]
def a71s101 : ACode := .reg [] a71r100
def a71s102 : ACode := .seq a71s101 .ret
def a71s103 : ACode := .seq a71s99 a71s102
def a71s104 : ACode := .seq a71s97 a71s103
def a71s105 : ACode := .seq a71s3 a71s104
def a71s106 : ACode := .seq a71s1 a71s105
def a71c : ACode :=
  a71s106
def a71 : AFn := { np := 2, nv := 8, results := [.bx 2 true 5], code := a71c }
def a71v : List Nat := [0, 1, 4, 5, 6, 7, 8, 9]
def a71b : List Nat := [2, 3, 4, 5, 6, 7]

-- slices.ContainsFunc[[]columbary/api.Value,columbary/api.Value]: 0, 1, 4
def a72r0 : List AOper := [
  { dst := .v 2, kind := .mv, args := [.c (.bool false)] }]
def a72s1 : ACode := .reg [] a72r0
def a72r2 : List AOper := [
  { dst := .t 5, kind := .mv, args := [.v 0] },
  { dst := .t 6, kind := .mv, args := [.v 1] },
  { dst := .t 7, kind := (.call 77), args := [.t 5, .t 6] },
  { dst := .t 8, kind := (.bin .geq), args := [.t 7, .c (.int .i64 0)] },
  { dst := .v 2, kind := .mv, args := [.t 8] }]
def a72s3 : ACode := .reg [] a72r2
def a72s4 : ACode := .seq a72s3 .ret
def a72s5 : ACode := .seq a72s1 a72s4
def a72c : ACode :=
  a72s5
def a72 : AFn := { np := 2, nv := 3, results := [.v 2], code := a72c }
def a72v : List Nat := [0, 1, 4]
def a72b : List Nat := []

-- (*columbary/schema.Schema).Fits$1: 0, 1, 2, 3, 4
def a73r0 : List AOper := [
  { dst := .bx, kind := .boxV, args := [.v 0], box := some 3 },
  { dst := .v 4, kind := .mv, args := [.c (.bool false)] }]
def a73s1 : ACode := .reg [3] a73r0
def a73r2 : List AOper := [
  { dst := .t 5, kind := (.ldSt false 1), args := [.v 1] },
  { dst := .t 6, kind := (.fad 1), args := [.v 2] },
  { dst := .t 7, kind := (.ldSt false 1), args := [.t 6] },
  { dst := .t 8, kind := (.iad 3), args := [.t 7, .c (.int .i64 0)] },
  { dst := .t 9, kind := (.ldRo true 3), args := [.t 8] },
  { dst := .t 10, kind := (.ldLc 3 true 5), args := [.l 3], box := some 3 },
  { dst := .t 11, kind := (.call 64), args := [.t 5, .t 9, .t 10] },
  { dst := .t 12, kind := (.un .not), args := [.t 11] },
  { dst := .v 4, kind := .mv, args := [.t 12] }]
def a73s3 : ACode := .reg [] a73r2
def a73s4 : ACode := .seq a73s3 .ret
def a73s5 : ACode := .seq a73s1 a73s4
def a73c : ACode :=
  a73s5
def a73 : AFn := { np := 3, nv := 5, results := [.v 4], code := a73c }
def a73v : List Nat := [0, 1, 2, 3, 4]
def a73b : List Nat := [3]

-- (*columbary/schema.Schema).object: 0, 1, 2, 4, 5, 6, 7, 8, 9, 11, 12, 13
def a74r0 : List AOper := [
  { dst := .bx, kind := .boxV, args := [.v 1], box := some 3 },
  { dst := .v 4, kind := .boxO, args := [.v 2] },
  { dst := .v 5, kind := .mv, args := [.c (.bool false)] }]
def a74s1 : ACode := .reg [3] a74r0
def a74r2 : List AOper := [
  { dst := .t 10, kind := (.fad 3), args := [.v 4] },
  { dst := .v 9, kind := (.ldSt false 1), args := [.t 10] },
  { dst := .v 10, kind := .lenL, args := [.v 9] },
  { dst := .v 11, kind := .mv, args := [.c (.int .i64 0)] }]
def a74s3 : ACode := .reg [] a74r2
def a74r4 : List AOper := [
  { dst := .t 14, kind := (.bin .lss), args := [.v 11, .v 10] }]
def a74s5 : ACode := .test [] a74r4 (.t 14) .skip (.exit 0)
def a74r6 : List AOper := [
  { dst := .t 15, kind := .mv, args := [.v 11] },
  { dst := .t 16, kind := (.iad 1), args := [.v 9, .v 11] },
  { dst := .t 17, kind := (.ldRo false 1), args := [.t 16] },
  { dst := .v 6, kind := .mv, args := [.t 15] },
  { dst := .v 7, kind := .mv, args := [.t 17] }]
def a74s7 : ACode := .reg [] a74r6
def a74r8 : List AOper := [
  { dst := .t 18, kind := (.fad 2), args := [.l 3] },
  { dst := .t 19, kind := (.ldLc 3 false 1), args := [.t 18], box := some 3 },
  { dst := .t 20, kind := (.call 37), args := [.t 19] },
  { dst := .t 21, kind := .mv, args := [.v 7] },
  { dst := .t 22, kind := (.call 36), args := [.t 20, .t 21] },
  { dst := .v 8, kind := .mv, args := [.t 22] }]
def a74s9 : ACode := .reg [] a74r8
def a74r10 : List AOper := [
  { dst := .t 23, kind := .mv, args := [.v 8] },
  { dst := .t 24, kind := (.bin .lss), args := [.t 23, .c (.int .i64 0)] },
  { dst := .t 25, kind := .mv, args := [.t 24] },
  { dst := .t 26, kind := (.fad 3), args := [.v 4], guard := some (.t 25, false) },
  { dst := .t 27, kind := (.ldSt false 1), args := [.t 26], guard := some (.t 25, false) },
  { dst := .t 28, kind := .mv, args := [.v 6], guard := some (.t 25, false) },
  { dst := .t 29, kind := (.slL 1 false true), args := [.t 27, .t 28], guard := some (.t 25, false) },
  { dst := .t 30, kind := .mv, args := [.v 7], guard := some (.t 25, false) },
  { dst := .t 31, kind := (.call 29), args := [.t 29, .t 30], guard := some (.t 25, false) },
  { dst := .t 32, kind := .pick, args := [.t 25, .c (.bool true), .t 31] },
  { dst := .t 33, kind := .mv, args := [.t 32] },
  { dst := .t 34, kind := .mv, args := [.v 0], guard := some (.t 33, false) },
  { dst := .t 35, kind := (.fad 2), args := [.l 3], guard := some (.t 33, false) },
  { dst := .t 36, kind := (.ldLc 3 false 1), args := [.t 35], box := some 3, guard := some (.t 33, false) },
  { dst := .t 37, kind := .mv, args := [.v 8], guard := some (.t 33, false) },
  { dst := .t 38, kind := (.iad 11), args := [.t 36, .t 37], guard := some (.t 33, false) },
  { dst := .t 39, kind := (.fad 2), args := [.t 38], guard := some (.t 33, false) },
  { dst := .t 40, kind := (.ldRo true 3), args := [.t 39], guard := some (.t 33, false) },
  { dst := .t 41, kind := (.fad 4), args := [.v 4], guard := some (.t 33, false) },
  { dst := .t 42, kind := (.ldSt false 1), args := [.t 41], guard := some (.t 33, false) },
  { dst := .t 43, kind := .mv, args := [.v 6], guard := some (.t 33, false) },
  { dst := .t 44, kind := (.iad 5), args := [.t 42, .t 43], guard := some (.t 33, false) },
  { dst := .t 45, kind := (.ldRo true 5), args := [.t 44], guard := some (.t 33, false) },
  { dst := .t 46, kind := (.call 64), args := [.t 34, .t 40, .t 45], guard := some (.t 33, false) },
  { dst := .t 47, kind := (.un .not), args := [.t 46], guard := some (.t 33, false) },
  { dst := .t 48, kind := .pick, args := [.t 33, .c (.bool true), .t 47] }]
def a74r11 : List AOper := [
  { dst := .v 5, kind := .mv, args := [.c (.bool false)] }]
def a74s12 : ACode := .reg [] a74r11
def a74s13 : ACode := .seq a74s12 .ret
def a74s14 : ACode := .test [] a74r10 (.t 48) a74s13 .skip
def a74s15 : ACode := .seq a74s9 a74s14
def a74s16 : ACode := .seq a74s7 a74s15
def a74s17 : ACode := .blk 1 a74s16
def a74r18 : List AOper := [
  { dst := .t 49, kind := (.bin .add), args := [.v 11, .c (.int .i64 1)] },
  { dst := .v 11, kind := .mv, args := [.t 49] }]
def a74s19 : ACode := .reg [] a74r18
def a74s20 : ACode := .seq a74s17 a74s19
def a74s21 : ACode := .seq a74s5 a74s20
def a74s22 : ACode := .loop a74s21
def a74s23 : ACode := .blk 0 a74s22
def a74s24 : ACode := .seq a74s3 a74s23
def a74r25 : List AOper := [
  { dst := .t 50, kind := (.fad 2), args := [.l 3] },
  { dst := .t 51, kind := (.ldLc 3 false 1), args := [.t 50], box := some 3 },
  { dst := .t 52, kind := (.mkF 78 0), args := [.v 4] },
  { dst := .t 53, kind := (.call 65), args := [.t 51, .t 52] },
  { dst := .t 54, kind := (.un .not), args := [.t 53] },
  { dst := .v 5, kind := .mv, args := [.t 54] }]
def a74s26 : ACode := .reg [] a74r25
def a74s27 : ACode := .seq a74s26 .ret
def a74s28 : ACode := .seq a74s24 a74s27
def a74s29 : ACode := .seq a74s1 a74s28
def a74c : ACode :=
  a74s29
def a74 : AFn := { np := 3, nv := 12, results := [.v 5], code := a74c }
def a74v : List Nat := [0, 1, 2, 4, 5, 6, 7, 8, 9, 11, 12, 13]
def a74b : List Nat := [3]

-- slices.IndexFunc[[]columbary/api.FieldDef,columbary/api.FieldDef]: 0, 1, 4, 5, 7, 8
def a75r0 : List AOper := [
  { dst := .v 2, kind := .mv, args := [.c (.int .i64 0)] }]
def a75s1 : ACode := .reg [] a75r0
def a75r2 : List AOper := [
  { dst := .t 6, kind := .mv, args := [.v 0] },
  { dst := .v 4, kind := .lenL, args := [.t 6] },
  { dst := .v 5, kind := .mv, args := [.c (.int .i64 0)] }]
def a75s3 : ACode := .reg [] a75r2
def a75r4 : List AOper := [
  { dst := .t 9, kind := (.bin .lss), args := [.v 5, .v 4] }]
def a75s5 : ACode := .test [] a75r4 (.t 9) .skip (.exit 0)
def a75r6 : List AOper := [
  { dst := .t 10, kind := .mv, args := [.v 5] },
  { dst := .v 3, kind := .mv, args := [.t 10] }]
def a75s7 : ACode := .reg [] a75r6
def a75r8 : List AOper := [
  { dst := .t 11, kind := .mv, args := [.v 1] },
  { dst := .t 12, kind := .mv, args := [.v 0] },
  { dst := .t 13, kind := .mv, args := [.v 3] },
  { dst := .t 14, kind := (.iad 11), args := [.t 12, .t 13] },
  { dst := .t 15, kind := (.ldRo true 11), args := [.t 14] },
  { dst := .t 16, kind := .callV, args := [.t 11, .t 15] }]
def a75r9 : List AOper := [
  { dst := .t 17, kind := .mv, args := [.v 3] },
  { dst := .v 2, kind := .mv, args := [.t 17] }]
def a75s10 : ACode := .reg [] a75r9
def a75s11 : ACode := .seq a75s10 .ret
def a75s12 : ACode := .test [] a75r8 (.t 16) a75s11 .skip
def a75s13 : ACode := .seq a75s7 a75s12
def a75s14 : ACode := .blk 1 a75s13
def a75r15 : List AOper := [
  { dst := .t 18, kind := (.bin .add), args := [.v 5, .c (.int .i64 1)] },
  { dst := .v 5, kind := .mv, args := [.t 18] }]
def a75s16 : ACode := .reg [] a75r15
def a75s17 : ACode := .seq a75s14 a75s16
def a75s18 : ACode := .seq a75s5 a75s17
def a75s19 : ACode := .loop a75s18
def a75s20 : ACode := .blk 0 a75s19
def a75s21 : ACode := .seq a75s3 a75s20
def a75r22 : List AOper := [
  { dst := .v 2, kind := .mv, args := [.c (.int .i64 (-1))] }]
def a75s23 : ACode := .reg [] a75r22
def a75s24 : ACode := .seq a75s23 .ret
def a75s25 : ACode := .seq a75s21 a75s24
def a75s26 : ACode := .seq a75s1 a75s25
def a75c : ACode :=
  a75s26
def a75 : AFn := { np := 2, nv := 6, results := [.v 2], code := a75c }
def a75v : List Nat := [0, 1, 4, 5, 7, 8]
def a75b : List Nat := []

-- strings.CutPrefix: 0, 1, 4, 5
def a76r0 : List AOper := [
  { dst := .v 2, kind := .mv, args := [.c (.str [])] },
  { dst := .v 3, kind := .mv, args := [.c (.bool false)] }]
def a76s1 : ACode := .reg [] a76r0
def a76r2 : List AOper := [
  { dst := .t 6, kind := .mv, args := [.v 0] },
  { dst := .t 7, kind := .mv, args := [.v 1] },
  { dst := .t 8, kind := (.call 79), args := [.t 6, .t 7] },
  { dst := .t 9, kind := (.ext 0), args := [.t 8] },
  { dst := .t 10, kind := (.ext 1), args := [.t 8] },
  { dst := .v 2, kind := .mv, args := [.t 9] },
  { dst := .v 3, kind := .mv, args := [.t 10] }]
def a76s3 : ACode := .reg [] a76r2
def a76s4 : ACode := .seq a76s3 .ret
def a76s5 : ACode := .seq a76s1 a76s4
def a76c : ACode :=
  a76s5
def a76 : AFn := { np := 2, nv := 4, results := [.v 2, .v 3], code := a76c }
def a76v : List Nat := [0, 1, 4, 5]
def a76b : List Nat := []

-- slices.IndexFunc[[]columbary/api.Value,columbary/api.Value]: 0, 1, 4, 5, 7, 8
def a77r0 : List AOper := [
  { dst := .v 2, kind := .mv, args := [.c (.int .i64 0)] }]
def a77s1 : ACode := .reg [] a77r0
def a77r2 : List AOper := [
  { dst := .t 6, kind := .mv, args := [.v 0] },
  { dst := .v 4, kind := .lenL, args := [.t 6] },
  { dst := .v 5, kind := .mv, args := [.c (.int .i64 0)] }]
def a77s3 : ACode := .reg [] a77r2
def a77r4 : List AOper := [
  { dst := .t 9, kind := (.bin .lss), args := [.v 5, .v 4] }]
def a77s5 : ACode := .test [] a77r4 (.t 9) .skip (.exit 0)
def a77r6 : List AOper := [
  { dst := .t 10, kind := .mv, args := [.v 5] },
  { dst := .v 3, kind := .mv, args := [.t 10] }]
def a77s7 : ACode := .reg [] a77r6
def a77r8 : List AOper := [
  { dst := .t 11, kind := .mv, args := [.v 1] },
  { dst := .t 12, kind := .mv, args := [.v 0] },
  { dst := .t 13, kind := .mv, args := [.v 3] },
  { dst := .t 14, kind := (.iad 5), args := [.t 12, .t 13] },
  { dst := .t 15, kind := (.ldRo true 5), args := [.t 14] },
  { dst := .t 16, kind := .callV, args := [.t 11, .t 15] }]
def a77r9 : List AOper := [
  { dst := .t 17, kind := .mv, args := [.v 3] },
  { dst := .v 2, kind := .mv, args := [.t 17] }]
def a77s10 : ACode := .reg [] a77r9
def a77s11 : ACode := .seq a77s10 .ret
def a77s12 : ACode := .test [] a77r8 (.t 16) a77s11 .skip
def a77s13 : ACode := .seq a77s7 a77s12
def a77s14 : ACode := .blk 1 a77s13
def a77r15 : List AOper := [
  { dst := .t 18, kind := (.bin .add), args := [.v 5, .c (.int .i64 1)] },
  { dst := .v 5, kind := .mv, args := [.t 18] }]
def a77s16 : ACode := .reg [] a77r15
def a77s17 : ACode := .seq a77s14 a77s16
def a77s18 : ACode := .seq a77s5 a77s17
def a77s19 : ACode := .loop a77s18
def a77s20 : ACode := .blk 0 a77s19
def a77s21 : ACode := .seq a77s3 a77s20
def a77r22 : List AOper := [
  { dst := .v 2, kind := .mv, args := [.c (.int .i64 (-1))] }]
def a77s23 : ACode := .reg [] a77r22
def a77s24 : ACode := .seq a77s23 .ret
def a77s25 : ACode := .seq a77s21 a77s24
def a77s26 : ACode := .seq a77s1 a77s25
def a77c : ACode :=
  a77s26
def a77 : AFn := { np := 2, nv := 6, results := [.v 2], code := a77c }
def a77v : List Nat := [0, 1, 4, 5, 7, 8]
def a77b : List Nat := []

-- (*columbary/schema.Schema).object$1: 0, 1, 2, 3
def a78r0 : List AOper := [
  { dst := .bx, kind := .boxV, args := [.v 0], box := some 2 },
  { dst := .v 3, kind := .mv, args := [.c (.bool false)] }]
def a78s1 : ACode := .reg [2] a78r0
def a78r2 : List AOper := [
  { dst := .t 4, kind := (.fad 2), args := [.l 2] },
  { dst := .t 5, kind := (.fad 2), args := [.t 4] },
  { dst := .t 6, kind := (.ldLc 2 false 1), args := [.t 5], box := some 2 },
  { dst := .t 7, kind := .mv, args := [.t 6] },
  { dst := .t 8, kind := (.fad 5), args := [.l 2], guard := some (.t 7, true) },
  { dst := .t 9, kind := (.ldLc 2 false 1), args := [.t 8], box := some 2, guard := some (.t 7, true) },
  { dst := .t 10, kind := (.un .not), args := [.t 9], guard := some (.t 7, true) },
  { dst := .t 11, kind := .pick, args := [.t 7, .t 10, .c (.bool false)] },
  { dst := .t 12, kind := .mv, args := [.t 11] },
  { dst := .t 13, kind := (.fad 3), args := [.v 1], guard := some (.t 12, true) },
  { dst := .t 14, kind := (.ldSt false 1), args := [.t 13], guard := some (.t 12, true) },
  { dst := .t 15, kind := (.fad 0), args := [.l 2], guard := some (.t 12, true) },
  { dst := .t 16, kind := (.ldLc 2 false 1), args := [.t 15], box := some 2, guard := some (.t 12, true) },
  { dst := .t 17, kind := (.call 29), args := [.t 14, .t 16], guard := some (.t 12, true) },
  { dst := .t 18, kind := (.un .not), args := [.t 17], guard := some (.t 12, true) },
  { dst := .t 19, kind := .pick, args := [.t 12, .t 18, .c (.bool false)] },
  { dst := .v 3, kind := .mv, args := [.t 19] }]
def a78s3 : ACode := .reg [] a78r2
def a78s4 : ACode := .seq a78s3 .ret
def a78s5 : ACode := .seq a78s1 a78s4
def a78c : ACode :=
  a78s5
def a78 : AFn := { np := 2, nv := 4, results := [.v 3], code := a78c }
def a78v : List Nat := [0, 1, 2, 3]
def a78b : List Nat := [2]

-- internal/stringslite.CutPrefix: 0, 1, 4, 5
def a79r0 : List AOper := [
  { dst := .v 2, kind := .mv, args := [.c (.str [])] },
  { dst := .v 3, kind := .mv, args := [.c (.bool false)] }]
def a79s1 : ACode := .reg [] a79r0
def a79r2 : List AOper := [
  { dst := .t 6, kind := .mv, args := [.v 0] },
  { dst := .t 7, kind := .mv, args := [.v 1] },
  { dst := .t 8, kind := (.call 49), args := [.t 6, .t 7] },
  { dst := .t 9, kind := (.un .not), args := [.t 8] }]
def a79r3 : List AOper := [
  { dst := .t 10, kind := .mv, args := [.v 0] },
  { dst := .v 2, kind := .mv, args := [.t 10] },
  { dst := .v 3, kind := .mv, args := [.c (.bool false)] }]
def a79s4 : ACode := .reg [] a79r3
def a79s5 : ACode := .seq a79s4 .ret
def a79s6 : ACode := .test [] a79r2 (.t 9) a79s5 .skip
def a79r7 : List AOper := [
  { dst := .t 11, kind := .mv, args := [.v 0] },
  { dst := .t 12, kind := .mv, args := [.v 1] },
  { dst := .t 13, kind := .lenS, args := [.t 12] },
  { dst := .t 14, kind := (.slS true false), args := [.t 11, .t 13] },
  { dst := .v 2, kind := .mv, args := [.t 14] },
  { dst := .v 3, kind := .mv, args := [.c (.bool true)] }]
def a79s8 : ACode := .reg [] a79r7
def a79s9 : ACode := .seq a79s8 .ret
def a79s10 : ACode := .seq a79s6 a79s9
def a79s11 : ACode := .seq a79s1 a79s10
def a79c : ACode :=
  a79s11
def a79 : AFn := { np := 2, nv := 4, results := [.v 2, .v 3], code := a79c }
def a79v : List Nat := [0, 1, 4, 5]
def a79b : List Nat := []

def tblL : List (List (Option AFn)) := [
  [none, none, none, some a3, some a4, some a5, some a6, some a7, some a8, some a9],
  [some a10, some a11, some a12, some a13, some a14, some a15, some a16, some a17, some a18, some a19],
  [some a20, some a21, some a22, some a23, some a24, some a25, some a26, some a27, some a28, some a29],
  [some a30, some a31, some a32, some a33, some a34, some a35, some a36, some a37, some a38, some a39],
  [some a40, some a41, some a42, some a43, some a44, some a45, some a46, some a47, some a48, some a49],
  [some a50, some a51, some a52, some a53, some a54, some a55, some a56, some a57, some a58, some a59],
  [some a60, some a61, some a62, some a63, some a64, some a65, some a66, some a67, some a68, some a69],
  [some a70, some a71, some a72, some a73, some a74, some a75, some a76, some a77, some a78, some a79],
  [none, none, none, none, none, none, none, none, none, none],
  [none, none, none, none, none, none, none, none, none, none],
  [none, none, none, none, none, none, none, none, none, none]]
def tbl : Nat → Option AFn := nth2 tblL
def gts : List (Nat × List AV) := [(0, [.str [66, 111, 111, 108, 101, 97, 110], .str [73, 68], .str [73, 110, 116], .str [83, 116, 114, 105, 110, 103]])]
end Go.Cb.CodeA
