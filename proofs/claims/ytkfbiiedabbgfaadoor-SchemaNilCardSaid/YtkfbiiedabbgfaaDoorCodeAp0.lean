/- The functions of the seat, told as code of the abstract machine. No conditions. -/
import Derived.Test.YtkfbiiedabbgfaaDoorXAm1
namespace Go.Cb.CodeA
open Go Go.Cb

-- columbary/columbarylaw09.SchemaTwice: 0, 1, 4, 5, 7, 10, 11, 12, 14, 15, 16, 18, 19
def a3r0 : List AOper := [
  { dst := .v 2, kind := .mv, args := [.c (.bool false)] }]
def a3s1 : ACode := .reg [] a3r0
def a3r2 : List AOper := [
  { dst := .t 20, kind := (.call 8), args := [] },
  { dst := .t 21, kind := (.un .not), args := [.t 20] },
  { dst := .t 22, kind := .mv, args := [.t 21] },
  { dst := .t 23, kind := .mv, args := [.v 0], guard := some (.t 22, false) },
  { dst := .t 24, kind := .lenS, args := [.t 23], guard := some (.t 22, false) },
  { dst := .t 25, kind := (.bin .gtr), args := [.t 24, .c (.int .i64 900)], guard := some (.t 22, false) },
  { dst := .t 26, kind := .pick, args := [.t 22, .c (.bool true), .t 25] }]
def a3r3 : List AOper := [
  { dst := .t 27, kind := (.call 8), args := [] },
  { dst := .v 2, kind := .mv, args := [.t 27] }]
def a3s4 : ACode := .reg [] a3r3
def a3s5 : ACode := .seq a3s4 .ret
def a3s6 : ACode := .test [] a3r2 (.t 26) a3s5 .skip
def a3r7 : List AOper := [
  { dst := .t 29, kind := .mv, args := [.v 0] },
  { dst := .t 30, kind := (.call 9), args := [.t 29] },
  { dst := .t 28, kind := .mv, args := [.t 30] },
  { dst := .t 31, kind := (.ext 0), args := [.t 28] },
  { dst := .t 32, kind := (.ext 1), args := [.t 28] },
  { dst := .t 33, kind := (.ext 2), args := [.t 28] },
  { dst := .v 3, kind := .mv, args := [.ts 31] },
  { dst := .t 6, kind := .mv, args := [.t 32] },
  { dst := .v 4, kind := .mv, args := [.t 33] }]
def a3s8 : ACode := .reg [] a3r7
def a3r9 : List AOper := [
  { dst := .t 35, kind := .mv, args := [.v 3] },
  { dst := .t 36, kind := (.call 10), args := [.t 35] },
  { dst := .t 34, kind := .mv, args := [.t 36] },
  { dst := .t 37, kind := (.ext 0), args := [.t 34] },
  { dst := .t 38, kind := (.ext 1), args := [.t 34] },
  { dst := .t 39, kind := (.ext 2), args := [.t 34] },
  { dst := .t 8, kind := .mv, args := [.t 37] },
  { dst := .t 9, kind := .mv, args := [.t 38] },
  { dst := .v 5, kind := .mv, args := [.t 39] }]
def a3s10 : ACode := .reg [] a3r9
def a3r11 : List AOper := [
  { dst := .t 40, kind := .mv, args := [.v 4] },
  { dst := .t 41, kind := (.bin .neq), args := [.t 40, .c (.int .i64 0)] },
  { dst := .t 42, kind := .mv, args := [.t 41] },
  { dst := .t 43, kind := .mv, args := [.v 5], guard := some (.t 42, false) },
  { dst := .t 44, kind := (.bin .neq), args := [.t 43, .c (.int .i64 0)], guard := some (.t 42, false) },
  { dst := .t 45, kind := .pick, args := [.t 42, .c (.bool true), .t 44] }]
def a3r12 : List AOper := [
  { dst := .v 2, kind := .mv, args := [.c (.bool true)] }]
def a3s13 : ACode := .reg [] a3r12
def a3s14 : ACode := .seq a3s13 .ret
def a3s15 : ACode := .test [] a3r11 (.t 45) a3s14 .skip
def a3r16 : List AOper := [
  { dst := .t 46, kind := .mv, args := [.v 1] },
  { dst := .t 47, kind := (.conv .i64), args := [.t 46] },
  { dst := .t 48, kind := .mv, args := [.v 3] },
  { dst := .t 49, kind := .lenL, args := [.t 48] },
  { dst := .t 50, kind := (.bin .rem), args := [.t 47, .t 49] },
  { dst := .v 6, kind := .mv, args := [.t 50] }]
def a3s17 : ACode := .reg [] a3r16
def a3r18 : List AOper := [
  { dst := .v 7, kind := .mv, args := [.c (.list true [])] }]
def a3s19 : ACode := .reg [] a3r18
def a3r20 : List AOper := [
  { dst := .t 51, kind := .mv, args := [.vs 7] },
  { dst := .t 52, kind := .mv, args := [.v 3] },
  { dst := .t 53, kind := (.app 4 72), args := [.ts 51, .t 52] },
  { dst := .v 7, kind := .mv, args := [.ts 53] }]
def a3s21 : ACode := .reg [] a3r20
def a3r22 : List AOper := [
  { dst := .t 54, kind := .mv, args := [.vs 7] },
  { dst := .t 55, kind := .mv, args := [.v 3] },
  { dst := .t 56, kind := .mv, args := [.v 6] },
  { dst := .t 57, kind := (.iad 4), args := [.t 55, .t 56] },
  { dst := .t 58, kind := (.ldRo true 4), args := [.t 57] },
  { dst := .t 59, kind := (.bslice 4 [[.int .u8 0, .str [], .list true [], .list true []]] [0]), args := [.t 58] },
  { dst := .t 60, kind := (.app 4 72), args := [.ts 54, .t 59] },
  { dst := .v 7, kind := .mv, args := [.ts 60] }]
def a3s23 : ACode := .reg [] a3r22
def a3r24 : List AOper := [
  { dst := .t 62, kind := .mv, args := [.v 7] },
  { dst := .t 63, kind := (.call 10), args := [.t 62] },
  { dst := .t 61, kind := .mv, args := [.t 63] },
  { dst := .t 64, kind := (.ext 0), args := [.t 61] },
  { dst := .t 65, kind := (.ext 1), args := [.t 61] },
  { dst := .t 66, kind := (.ext 2), args := [.t 61] },
  { dst := .t 13, kind := .mv, args := [.t 64] },
  { dst := .v 8, kind := .mv, args := [.t 65] },
  { dst := .v 9, kind := .mv, args := [.t 66] }]
def a3s25 : ACode := .reg [] a3r24
def a3r26 : List AOper := [
  { dst := .t 67, kind := (.build [.str [], .list true [], .bool false] [(0, 1)]), args := [.c (.str [90, 122, 56])] },
  { dst := .t 68, kind := (.build [.str [], .list true [], .str [], .list true [], .bool false, .bool false, .int .u8 0, .int .i64 0, .str [], .list true [], .list true []] [(0, 1), (2, 3)]), args := [.c (.str [122, 122]), .t 67] },
  { dst := .t 69, kind := (.bslice 11 [[.str [], .list true [], .str [], .list true [], .bool false, .bool false, .int .u8 0, .int .i64 0, .str [], .list true [], .list true []]] [0]), args := [.t 68] },
  { dst := .t 70, kind := (.build [.int .u8 0, .str [], .list true [], .list true []] [(0, 1), (1, 1), (2, 1)]), args := [.c (.int .u8 1), .c (.str [90, 122, 57]), .t 69] },
  { dst := .bx, kind := (.alloc [.int .u8 0, .str [], .list true [], .list true []]), args := [], box := some 10 },
  { dst := .none, kind := (.stLc 10 4), args := [.l 10, .ts 70], box := some 10 }]
def a3s27 : ACode := .reg [10] a3r26
def a3r28 : List AOper := [
  { dst := .t 72, kind := (.ldLc 10 true 4), args := [.l 10], box := some 10 },
  { dst := .t 73, kind := (.bslice 4 [[.int .u8 0, .str [], .list true [], .list true []]] [0]), args := [.t 72] },
  { dst := .t 74, kind := (.call 10), args := [.t 73] },
  { dst := .t 71, kind := .mv, args := [.t 74] },
  { dst := .t 75, kind := (.ext 0), args := [.t 71] },
  { dst := .t 76, kind := (.ext 1), args := [.t 71] },
  { dst := .t 77, kind := (.ext 2), args := [.t 71] },
  { dst := .t 17, kind := .mv, args := [.t 75] },
  { dst := .v 11, kind := .mv, args := [.t 76] },
  { dst := .v 12, kind := .mv, args := [.t 77] }]
def a3s29 : ACode := .reg [] a3r28
def a3r30 : List AOper := [
  { dst := .t 78, kind := .mv, args := [.v 9] },
  { dst := .t 79, kind := (.bin .eql), args := [.t 78, .c (.int .i64 7)] },
  { dst := .t 80, kind := .mv, args := [.t 79] },
  { dst := .t 81, kind := .mv, args := [.v 8], guard := some (.t 80, true) },
  { dst := .t 82, kind := .mv, args := [.v 3], guard := some (.t 80, true) },
  { dst := .t 83, kind := .mv, args := [.v 6], guard := some (.t 80, true) },
  { dst := .t 84, kind := (.iad 4), args := [.t 82, .t 83], guard := some (.t 80, true) },
  { dst := .t 85, kind := (.fad 1), args := [.t 84], guard := some (.t 80, true) },
  { dst := .t 86, kind := (.ldRo false 1), args := [.t 85], guard := some (.t 80, true) },
  { dst := .t 87, kind := (.bin .eql), args := [.t 81, .t 86], guard := some (.t 80, true) },
  { dst := .t 88, kind := .pick, args := [.t 80, .t 87, .c (.bool false)] },
  { dst := .t 89, kind := .mv, args := [.t 88] },
  { dst := .t 90, kind := .mv, args := [.v 12], guard := some (.t 89, true) },
  { dst := .t 91, kind := (.bin .eql), args := [.t 90, .c (.int .i64 6)], guard := some (.t 89, true) },
  { dst := .t 92, kind := .pick, args := [.t 89, .t 91, .c (.bool false)] },
  { dst := .t 93, kind := .mv, args := [.t 92] },
  { dst := .t 94, kind := .mv, args := [.v 11], guard := some (.t 93, true) },
  { dst := .t 95, kind := (.bin .eql), args := [.t 94, .c (.str [90, 122, 56])], guard := some (.t 93, true) },
  { dst := .t 96, kind := .pick, args := [.t 93, .t 95, .c (.bool false)] },
  { dst := .v 2, kind := .mv, args := [.t 96] }]
def a3s31 : ACode := .reg [] a3r30
def a3s32 : ACode := .seq a3s31 .ret
def a3s33 : ACode := .seq a3s29 a3s32
def a3s34 : ACode := .seq a3s27 a3s33
def a3s35 : ACode := .seq a3s25 a3s34
def a3s36 : ACode := .seq a3s23 a3s35
def a3s37 : ACode := .seq a3s21 a3s36
def a3s38 : ACode := .seq a3s19 a3s37
def a3s39 : ACode := .seq a3s17 a3s38
def a3s40 : ACode := .seq a3s15 a3s39
def a3s41 : ACode := .seq a3s10 a3s40
def a3s42 : ACode := .seq a3s8 a3s41
def a3s43 : ACode := .seq a3s6 a3s42
def a3s44 : ACode := .seq a3s1 a3s43
def a3c : ACode :=
  a3s44
def a3 : AFn := { np := 2, nv := 13, results := [.v 2], code := a3c }
def a3v : List Nat := [0, 1, 4, 5, 7, 10, 11, 12, 14, 15, 16, 18, 19]
def a3b : List Nat := [10]

-- columbary/columbarylaw09.SchemaOrder: 0, 1, 4, 5, 7, 8, 9, 10, 12, 13, 15, 16, 17, 18, 19
def a4r0 : List AOper := [
  { dst := .v 2, kind := .mv, args := [.c (.bool false)] }]
def a4s1 : ACode := .reg [] a4r0
def a4r2 : List AOper := [
  { dst := .t 20, kind := (.call 8), args := [] },
  { dst := .t 21, kind := (.un .not), args := [.t 20] }]
def a4r3 : List AOper := [
  { dst := .v 2, kind := .mv, args := [.c (.bool false)] }]
def a4s4 : ACode := .reg [] a4r3
def a4s5 : ACode := .seq a4s4 .ret
def a4s6 : ACode := .test [] a4r2 (.t 21) a4s5 .skip
def a4r7 : List AOper := [
  { dst := .t 23, kind := .mv, args := [.v 0] },
  { dst := .t 24, kind := (.call 9), args := [.t 23] },
  { dst := .t 22, kind := .mv, args := [.t 24] },
  { dst := .t 25, kind := (.ext 0), args := [.t 22] },
  { dst := .t 26, kind := (.ext 1), args := [.t 22] },
  { dst := .t 27, kind := (.ext 2), args := [.t 22] },
  { dst := .v 3, kind := .mv, args := [.ts 25] },
  { dst := .t 6, kind := .mv, args := [.t 26] },
  { dst := .v 4, kind := .mv, args := [.t 27] }]
def a4s8 : ACode := .reg [] a4r7
def a4r9 : List AOper := [
  { dst := .t 28, kind := .mv, args := [.v 4] },
  { dst := .t 29, kind := (.bin .neq), args := [.t 28, .c (.int .i64 0)] }]
def a4r10 : List AOper := [
  { dst := .v 2, kind := .mv, args := [.c (.bool true)] }]
def a4s11 : ACode := .reg [] a4r10
def a4s12 : ACode := .seq a4s11 .ret
def a4s13 : ACode := .test [] a4r9 (.t 29) a4s12 .skip
def a4r14 : List AOper := [
  { dst := .v 5, kind := .mv, args := [.c (.list true [])] }]
def a4s15 : ACode := .reg [] a4r14
def a4r16 : List AOper := [
  { dst := .t 30, kind := .mv, args := [.v 1] },
  { dst := .t 31, kind := (.conv .i64), args := [.t 30] },
  { dst := .t 32, kind := .mv, args := [.v 3] },
  { dst := .t 33, kind := .lenL, args := [.t 32] },
  { dst := .t 34, kind := (.bin .rem), args := [.t 31, .t 33] },
  { dst := .v 6, kind := .mv, args := [.t 34] }]
def a4s17 : ACode := .reg [] a4r16
def a4r18 : List AOper := [
  { dst := .t 35, kind := .mv, args := [.vs 5] },
  { dst := .t 36, kind := .mv, args := [.v 3] },
  { dst := .t 37, kind := .mv, args := [.v 6] },
  { dst := .t 38, kind := (.slL 4 true false), args := [.t 36, .t 37] },
  { dst := .t 39, kind := (.app 4 72), args := [.ts 35, .t 38] },
  { dst := .v 5, kind := .mv, args := [.ts 39] }]
def a4s19 : ACode := .reg [] a4r18
def a4r20 : List AOper := [
  { dst := .t 40, kind := .mv, args := [.vs 5] },
  { dst := .t 41, kind := .mv, args := [.v 3] },
  { dst := .t 42, kind := .mv, args := [.v 6] },
  { dst := .t 43, kind := (.slL 4 false true), args := [.t 41, .t 42] },
  { dst := .t 44, kind := (.app 4 72), args := [.ts 40, .t 43] },
  { dst := .v 5, kind := .mv, args := [.ts 44] }]
def a4s21 : ACode := .reg [] a4r20
def a4r22 : List AOper := [
  { dst := .t 46, kind := .mv, args := [.v 3] },
  { dst := .t 47, kind := (.call 10), args := [.t 46] },
  { dst := .t 45, kind := .mv, args := [.t 47] },
  { dst := .t 48, kind := (.ext 0), args := [.t 45] },
  { dst := .t 49, kind := (.ext 1), args := [.t 45] },
  { dst := .t 50, kind := (.ext 2), args := [.t 45] },
  { dst := .v 7, kind := .mv, args := [.t 48] },
  { dst := .t 11, kind := .mv, args := [.t 49] },
  { dst := .v 8, kind := .mv, args := [.t 50] }]
def a4s23 : ACode := .reg [] a4r22
def a4r24 : List AOper := [
  { dst := .t 52, kind := .mv, args := [.v 5] },
  { dst := .t 53, kind := (.call 10), args := [.t 52] },
  { dst := .t 51, kind := .mv, args := [.t 53] },
  { dst := .t 54, kind := (.ext 0), args := [.t 51] },
  { dst := .t 55, kind := (.ext 1), args := [.t 51] },
  { dst := .t 56, kind := (.ext 2), args := [.t 51] },
  { dst := .v 9, kind := .mv, args := [.t 54] },
  { dst := .t 14, kind := .mv, args := [.t 55] },
  { dst := .v 10, kind := .mv, args := [.t 56] }]
def a4s25 : ACode := .reg [] a4r24
def a4r26 : List AOper := [
  { dst := .t 57, kind := .mv, args := [.v 8] },
  { dst := .t 58, kind := (.bin .eql), args := [.t 57, .c (.int .i64 0)] },
  { dst := .t 59, kind := .mv, args := [.v 10] },
  { dst := .t 60, kind := (.bin .eql), args := [.t 59, .c (.int .i64 0)] },
  { dst := .t 61, kind := (.binB .neq), args := [.t 58, .t 60] }]
def a4r27 : List AOper := [
  { dst := .v 2, kind := .mv, args := [.c (.bool false)] }]
def a4s28 : ACode := .reg [] a4r27
def a4s29 : ACode := .seq a4s28 .ret
def a4s30 : ACode := .test [] a4r26 (.t 61) a4s29 .skip
def a4r31 : List AOper := [
  { dst := .v 11, kind := .mv, args := [.c (.int .i64 0)] }]
def a4s32 : ACode := .reg [] a4r31
def a4r33 : List AOper := [
  { dst := .t 62, kind := .mv, args := [.v 11] },
  { dst := .t 63, kind := .mv, args := [.v 3] },
  { dst := .t 64, kind := .lenL, args := [.t 63] },
  { dst := .t 65, kind := (.bin .lss), args := [.t 62, .t 64] },
  { dst := .t 66, kind := .mv, args := [.t 65] },
  { dst := .t 67, kind := .mv, args := [.v 8], guard := some (.t 66, true) },
  { dst := .t 68, kind := (.bin .eql), args := [.t 67, .c (.int .i64 0)], guard := some (.t 66, true) },
  { dst := .t 69, kind := .pick, args := [.t 66, .t 68, .c (.bool false)] }]
def a4s34 : ACode := .test [] a4r33 (.t 69) .skip (.exit 0)
def a4r35 : List AOper := [
  { dst := .t 72, kind := .mv, args := [.v 7] },
  { dst := .t 73, kind := .mv, args := [.v 3] },
  { dst := .t 74, kind := .mv, args := [.v 11] },
  { dst := .t 75, kind := (.iad 4), args := [.t 73, .t 74] },
  { dst := .t 76, kind := (.fad 1), args := [.t 75] },
  { dst := .t 77, kind := (.ldRo false 1), args := [.t 76] },
  { dst := .t 78, kind := (.call 11), args := [.t 72, .t 77] },
  { dst := .v 12, kind := .mv, args := [.ts 78] }]
def a4s36 : ACode := .reg [] a4r35
def a4r37 : List AOper := [
  { dst := .t 79, kind := .mv, args := [.v 9] },
  { dst := .t 80, kind := .mv, args := [.v 3] },
  { dst := .t 81, kind := .mv, args := [.v 11] },
  { dst := .t 82, kind := (.iad 4), args := [.t 80, .t 81] },
  { dst := .t 83, kind := (.fad 1), args := [.t 82] },
  { dst := .t 84, kind := (.ldRo false 1), args := [.t 83] },
  { dst := .t 85, kind := (.call 11), args := [.t 79, .t 84] },
  { dst := .v 13, kind := .mv, args := [.ts 85] }]
def a4s38 : ACode := .reg [] a4r37
def a4r39 : List AOper := [
  { dst := .t 86, kind := .mv, args := [.v 12] },
  { dst := .t 87, kind := .lenL, args := [.t 86] },
  { dst := .t 88, kind := .mv, args := [.v 13] },
  { dst := .t 89, kind := .lenL, args := [.t 88] },
  { dst := .t 90, kind := (.bin .neq), args := [.t 87, .t 89] },
  { dst := .t 91, kind := .mv, args := [.t 90] },
  { dst := .t 92, kind := .mv, args := [.v 7], guard := some (.t 91, false) },
  { dst := .t 93, kind := .mv, args := [.v 3], guard := some (.t 91, false) },
  { dst := .t 94, kind := .mv, args := [.v 11], guard := some (.t 91, false) },
  { dst := .t 95, kind := (.iad 4), args := [.t 93, .t 94], guard := some (.t 91, false) },
  { dst := .t 96, kind := (.fad 1), args := [.t 95], guard := some (.t 91, false) },
  { dst := .t 97, kind := (.ldRo false 1), args := [.t 96], guard := some (.t 91, false) },
  { dst := .t 98, kind := (.call 12), args := [.t 92, .t 97], guard := some (.t 91, false) },
  { dst := .t 99, kind := .mv, args := [.v 9], guard := some (.t 91, false) },
  { dst := .t 100, kind := .mv, args := [.v 3], guard := some (.t 91, false) },
  { dst := .t 101, kind := .mv, args := [.v 11], guard := some (.t 91, false) },
  { dst := .t 102, kind := (.iad 4), args := [.t 100, .t 101], guard := some (.t 91, false) },
  { dst := .t 103, kind := (.fad 1), args := [.t 102], guard := some (.t 91, false) },
  { dst := .t 104, kind := (.ldRo false 1), args := [.t 103], guard := some (.t 91, false) },
  { dst := .t 105, kind := (.call 12), args := [.t 99, .t 104], guard := some (.t 91, false) },
  { dst := .t 106, kind := (.binB .neq), args := [.t 98, .t 105], guard := some (.t 91, false) },
  { dst := .t 107, kind := .pick, args := [.t 91, .c (.bool true), .t 106] }]
def a4r40 : List AOper := [
  { dst := .v 2, kind := .mv, args := [.c (.bool false)] }]
def a4s41 : ACode := .reg [] a4r40
def a4s42 : ACode := .seq a4s41 .ret
def a4s43 : ACode := .test [] a4r39 (.t 107) a4s42 .skip
def a4r44 : List AOper := [
  { dst := .v 14, kind := .mv, args := [.c (.int .i64 0)] }]
def a4s45 : ACode := .reg [] a4r44
def a4r46 : List AOper := [
  { dst := .t 108, kind := .mv, args := [.v 14] },
  { dst := .t 109, kind := .mv, args := [.v 12] },
  { dst := .t 110, kind := .lenL, args := [.t 109] },
  { dst := .t 111, kind := (.bin .lss), args := [.t 108, .t 110] }]
def a4s47 : ACode := .test [] a4r46 (.t 111) .skip (.exit 2)
def a4r48 : List AOper := [
  { dst := .t 114, kind := .mv, args := [.v 13] },
  { dst := .t 115, kind := .mv, args := [.v 12] },
  { dst := .t 116, kind := .mv, args := [.v 14] },
  { dst := .t 117, kind := (.iad 1), args := [.t 115, .t 116] },
  { dst := .t 118, kind := (.ldRo false 1), args := [.t 117] },
  { dst := .t 119, kind := (.call 13), args := [.t 114, .t 118] },
  { dst := .t 120, kind := (.un .not), args := [.t 119] }]
def a4r49 : List AOper := [
  { dst := .v 2, kind := .mv, args := [.c (.bool false)] }]
def a4s50 : ACode := .reg [] a4r49
def a4s51 : ACode := .seq a4s50 .ret
def a4s52 : ACode := .test [] a4r48 (.t 120) a4s51 .skip
def a4s53 : ACode := .blk 3 a4s52
def a4r54 : List AOper := [
  { dst := .t 112, kind := .mv, args := [.v 14] },
  { dst := .t 113, kind := (.bin .add), args := [.t 112, .c (.int .i64 1)] },
  { dst := .v 14, kind := .mv, args := [.t 113] }]
def a4s55 : ACode := .reg [] a4r54
def a4s56 : ACode := .seq a4s53 a4s55
def a4s57 : ACode := .seq a4s47 a4s56
def a4s58 : ACode := .loop a4s57
def a4s59 : ACode := .blk 2 a4s58
def a4s60 : ACode := .seq a4s45 a4s59
def a4s61 : ACode := .seq a4s43 a4s60
def a4s62 : ACode := .seq a4s38 a4s61
def a4s63 : ACode := .seq a4s36 a4s62
def a4s64 : ACode := .blk 1 a4s63
def a4r65 : List AOper := [
  { dst := .t 70, kind := .mv, args := [.v 11] },
  { dst := .t 71, kind := (.bin .add), args := [.t 70, .c (.int .i64 1)] },
  { dst := .v 11, kind := .mv, args := [.t 71] }]
def a4s66 : ACode := .reg [] a4r65
def a4s67 : ACode := .seq a4s64 a4s66
def a4s68 : ACode := .seq a4s34 a4s67
def a4s69 : ACode := .loop a4s68
def a4s70 : ACode := .blk 0 a4s69
def a4s71 : ACode := .seq a4s32 a4s70
def a4r72 : List AOper := [
  { dst := .v 2, kind := .mv, args := [.c (.bool true)] }]
def a4s73 : ACode := .reg [] a4r72
def a4s74 : ACode := .seq a4s73 .ret
def a4s75 : ACode := .seq a4s71 a4s74
def a4s76 : ACode := .seq a4s30 a4s75
def a4s77 : ACode := .seq a4s25 a4s76
def a4s78 : ACode := .seq a4s23 a4s77
def a4s79 : ACode := .seq a4s21 a4s78
def a4s80 : ACode := .seq a4s19 a4s79
def a4s81 : ACode := .seq a4s17 a4s80
def a4s82 : ACode := .seq a4s15 a4s81
def a4s83 : ACode := .seq a4s13 a4s82
def a4s84 : ACode := .seq a4s8 a4s83
def a4s85 : ACode := .seq a4s6 a4s84
def a4s86 : ACode := .seq a4s1 a4s85
def a4c : ACode :=
  a4s86
def a4 : AFn := { np := 2, nv := 15, results := [.v 2], code := a4c }
def a4v : List Nat := [0, 1, 4, 5, 7, 8, 9, 10, 12, 13, 15, 16, 17, 18, 19]
def a4b : List Nat := []

-- columbary/columbarylaw09.SchemaMore: 0, 2, 3, 5, 6, 7, 8, 10, 11, 12, 13, 14
def a5r0 : List AOper := [
  { dst := .v 1, kind := .mv, args := [.c (.bool false)] }]
def a5s1 : ACode := .reg [] a5r0
def a5r2 : List AOper := [
  { dst := .t 15, kind := (.call 8), args := [] },
  { dst := .t 16, kind := (.un .not), args := [.t 15] },
  { dst := .t 17, kind := .mv, args := [.t 16] },
  { dst := .t 18, kind := .mv, args := [.v 0], guard := some (.t 17, false) },
  { dst := .t 19, kind := .lenS, args := [.t 18], guard := some (.t 17, false) },
  { dst := .t 20, kind := (.bin .gtr), args := [.t 19, .c (.int .i64 1800)], guard := some (.t 17, false) },
  { dst := .t 21, kind := .pick, args := [.t 17, .c (.bool true), .t 20] }]
def a5r3 : List AOper := [
  { dst := .t 22, kind := (.call 8), args := [] },
  { dst := .v 1, kind := .mv, args := [.t 22] }]
def a5s4 : ACode := .reg [] a5r3
def a5s5 : ACode := .seq a5s4 .ret
def a5s6 : ACode := .test [] a5r2 (.t 21) a5s5 .skip
def a5r7 : List AOper := [
  { dst := .t 24, kind := .mv, args := [.v 0] },
  { dst := .t 25, kind := (.call 14), args := [.t 24] },
  { dst := .t 23, kind := .mv, args := [.t 25] },
  { dst := .t 26, kind := (.ext 0), args := [.t 23] },
  { dst := .t 27, kind := (.ext 1), args := [.t 23] },
  { dst := .t 28, kind := (.ext 2), args := [.t 23] },
  { dst := .v 2, kind := .mv, args := [.t 26] },
  { dst := .t 4, kind := .mv, args := [.t 27] },
  { dst := .v 3, kind := .mv, args := [.t 28] }]
def a5s8 : ACode := .reg [] a5r7
def a5r9 : List AOper := [
  { dst := .t 29, kind := .mv, args := [.v 3] },
  { dst := .t 30, kind := (.bin .neq), args := [.t 29, .c (.int .i64 0)] }]
def a5r10 : List AOper := [
  { dst := .v 1, kind := .mv, args := [.c (.bool true)] }]
def a5s11 : ACode := .reg [] a5r10
def a5s12 : ACode := .seq a5s11 .ret
def a5s13 : ACode := .test [] a5r9 (.t 30) a5s12 .skip
def a5r14 : List AOper := [
  { dst := .t 32, kind := .mv, args := [.v 2] },
  { dst := .t 33, kind := (.call 15), args := [.t 32, .c (.str [90, 122, 57])] },
  { dst := .t 31, kind := .mv, args := [.t 33] },
  { dst := .t 34, kind := (.ext 0), args := [.t 31] },
  { dst := .t 35, kind := (.ext 1), args := [.t 31] },
  { dst := .bx, kind := (.alloc [.int .u8 0, .str [], .list true [], .list true []]), args := [], box := some 4 },
  { dst := .none, kind := (.stLc 4 4), args := [.l 4, .ts 34], box := some 4 },
  { dst := .v 5, kind := .mv, args := [.t 35] }]
def a5s15 : ACode := .reg [4] a5r14
def a5r16 : List AOper := [
  { dst := .t 37, kind := .mv, args := [.v 0] },
  { dst := .t 38, kind := (.bin .add), args := [.t 37, .c (.str [10, 116, 121, 112, 101, 32, 90, 122, 57, 32, 123, 32, 122, 122, 58, 32, 73, 110, 116, 32, 125])] },
  { dst := .t 39, kind := (.call 14), args := [.t 38] },
  { dst := .t 36, kind := .mv, args := [.t 39] },
  { dst := .t 40, kind := (.ext 0), args := [.t 36] },
  { dst := .t 41, kind := (.ext 1), args := [.t 36] },
  { dst := .t 42, kind := (.ext 2), args := [.t 36] },
  { dst := .v 6, kind := .mv, args := [.t 40] },
  { dst := .t 9, kind := .mv, args := [.t 41] },
  { dst := .v 7, kind := .mv, args := [.t 42] }]
def a5s17 : ACode := .reg [] a5r16
def a5r18 : List AOper := [
  { dst := .t 43, kind := .mv, args := [.v 5] }]
def a5r19 : List AOper := [
  { dst := .t 44, kind := .mv, args := [.v 7] },
  { dst := .t 45, kind := (.bin .eql), args := [.t 44, .c (.int .i64 7)] },
  { dst := .v 1, kind := .mv, args := [.t 45] }]
def a5s20 : ACode := .reg [] a5r19
def a5s21 : ACode := .seq a5s20 .ret
def a5s22 : ACode := .test [] a5r18 (.t 43) a5s21 .skip
def a5r23 : List AOper := [
  { dst := .t 46, kind := .mv, args := [.v 7] },
  { dst := .t 47, kind := (.bin .neq), args := [.t 46, .c (.int .i64 0)] }]
def a5r24 : List AOper := [
  { dst := .v 1, kind := .mv, args := [.c (.bool false)] }]
def a5s25 : ACode := .reg [] a5r24
def a5s26 : ACode := .seq a5s25 .ret
def a5s27 : ACode := .test [] a5r23 (.t 47) a5s26 .skip
def a5r28 : List AOper := [
  { dst := .t 48, kind := .mv, args := [.v 2] },
  { dst := .t 49, kind := (.call 16), args := [.t 48] },
  { dst := .v 8, kind := .mv, args := [.ts 49] }]
def a5s29 : ACode := .reg [] a5r28
def a5r30 : List AOper := [
  { dst := .v 9, kind := .mv, args := [.c (.int .i64 0)] }]
def a5s31 : ACode := .reg [] a5r30
def a5r32 : List AOper := [
  { dst := .t 50, kind := .mv, args := [.v 9] },
  { dst := .t 51, kind := .mv, args := [.v 8] },
  { dst := .t 52, kind := .lenL, args := [.t 51] },
  { dst := .t 53, kind := (.bin .lss), args := [.t 50, .t 52] }]
def a5s33 : ACode := .test [] a5r32 (.t 53) .skip (.exit 0)
def a5r34 : List AOper := [
  { dst := .t 57, kind := .mv, args := [.v 6] },
  { dst := .t 58, kind := .mv, args := [.v 8] },
  { dst := .t 59, kind := .mv, args := [.v 9] },
  { dst := .t 60, kind := (.iad 4), args := [.t 58, .t 59] },
  { dst := .t 61, kind := (.fad 1), args := [.t 60] },
  { dst := .t 62, kind := (.ldRo false 1), args := [.t 61] },
  { dst := .t 63, kind := (.call 15), args := [.t 57, .t 62] },
  { dst := .t 56, kind := .mv, args := [.t 63] },
  { dst := .t 64, kind := (.ext 0), args := [.t 56] },
  { dst := .t 65, kind := (.ext 1), args := [.t 56] },
  { dst := .bx, kind := (.alloc [.int .u8 0, .str [], .list true [], .list true []]), args := [], box := some 10 },
  { dst := .none, kind := (.stLc 10 4), args := [.l 10, .ts 64], box := some 10 },
  { dst := .v 11, kind := .mv, args := [.t 65] }]
def a5s35 : ACode := .reg [10] a5r34
def a5r36 : List AOper := [
  { dst := .t 66, kind := .mv, args := [.v 11] },
  { dst := .t 67, kind := (.un .not), args := [.t 66] },
  { dst := .t 68, kind := .mv, args := [.t 67] },
  { dst := .t 69, kind := (.fad 0), args := [.l 10], guard := some (.t 68, false) },
  { dst := .t 70, kind := (.ldLc 10 false 1), args := [.t 69], box := some 10, guard := some (.t 68, false) },
  { dst := .t 71, kind := .mv, args := [.v 8], guard := some (.t 68, false) },
  { dst := .t 72, kind := .mv, args := [.v 9], guard := some (.t 68, false) },
  { dst := .t 73, kind := (.iad 4), args := [.t 71, .t 72], guard := some (.t 68, false) },
  { dst := .t 74, kind := (.fad 0), args := [.t 73], guard := some (.t 68, false) },
  { dst := .t 75, kind := (.ldRo false 1), args := [.t 74], guard := some (.t 68, false) },
  { dst := .t 76, kind := (.bin .neq), args := [.t 70, .t 75], guard := some (.t 68, false) },
  { dst := .t 77, kind := .pick, args := [.t 68, .c (.bool true), .t 76] },
  { dst := .t 78, kind := .mv, args := [.t 77] },
  { dst := .t 79, kind := .mv, args := [.v 6], guard := some (.t 78, false) },
  { dst := .t 80, kind := .mv, args := [.v 8], guard := some (.t 78, false) },
  { dst := .t 81, kind := .mv, args := [.v 9], guard := some (.t 78, false) },
  { dst := .t 82, kind := (.iad 4), args := [.t 80, .t 81], guard := some (.t 78, false) },
  { dst := .t 83, kind := (.fad 1), args := [.t 82], guard := some (.t 78, false) },
  { dst := .t 84, kind := (.ldRo false 1), args := [.t 83], guard := some (.t 78, false) },
  { dst := .t 85, kind := (.call 11), args := [.t 79, .t 84], guard := some (.t 78, false) },
  { dst := .t 86, kind := .lenL, args := [.t 85], guard := some (.t 78, false) },
  { dst := .t 87, kind := .mv, args := [.v 2], guard := some (.t 78, false) },
  { dst := .t 88, kind := .mv, args := [.v 8], guard := some (.t 78, false) },
  { dst := .t 89, kind := .mv, args := [.v 9], guard := some (.t 78, false) },
  { dst := .t 90, kind := (.iad 4), args := [.t 88, .t 89], guard := some (.t 78, false) },
  { dst := .t 91, kind := (.fad 1), args := [.t 90], guard := some (.t 78, false) },
  { dst := .t 92, kind := (.ldRo false 1), args := [.t 91], guard := some (.t 78, false) },
  { dst := .t 93, kind := (.call 11), args := [.t 87, .t 92], guard := some (.t 78, false) },
  { dst := .t 94, kind := .lenL, args := [.t 93], guard := some (.t 78, false) },
  { dst := .t 95, kind := (.bin .neq), args := [.t 86, .t 94], guard := some (.t 78, false) },
  { dst := .t 96, kind := .pick, args := [.t 78, .c (.bool true), .t 95] }]
def a5r37 : List AOper := [
  { dst := .v 1, kind := .mv, args := [.c (.bool false)] }]
def a5s38 : ACode := .reg [] a5r37
def a5s39 : ACode := .seq a5s38 .ret
def a5s40 : ACode := .test [] a5r36 (.t 96) a5s39 .skip
def a5s41 : ACode := .seq a5s35 a5s40
def a5s42 : ACode := .blk 1 a5s41
def a5r43 : List AOper := [
  { dst := .t 54, kind := .mv, args := [.v 9] },
  { dst := .t 55, kind := (.bin .add), args := [.t 54, .c (.int .i64 1)] },
  { dst := .v 9, kind := .mv, args := [.t 55] }]
def a5s44 : ACode := .reg [] a5r43
def a5s45 : ACode := .seq a5s42 a5s44
def a5s46 : ACode := .seq a5s33 a5s45
def a5s47 : ACode := .loop a5s46
def a5s48 : ACode := .blk 0 a5s47
def a5s49 : ACode := .seq a5s31 a5s48
def a5r50 : List AOper := [
  { dst := .t 97, kind := .mv, args := [.v 6] },
  { dst := .t 98, kind := (.call 16), args := [.t 97] },
  { dst := .t 99, kind := .lenL, args := [.t 98] },
  { dst := .t 100, kind := .mv, args := [.v 8] },
  { dst := .t 101, kind := .lenL, args := [.t 100] },
  { dst := .t 102, kind := (.bin .add), args := [.t 101, .c (.int .i64 1)] },
  { dst := .t 103, kind := (.bin .eql), args := [.t 99, .t 102] },
  { dst := .v 1, kind := .mv, args := [.t 103] }]
def a5s51 : ACode := .reg [] a5r50
def a5s52 : ACode := .seq a5s51 .ret
def a5s53 : ACode := .seq a5s49 a5s52
def a5s54 : ACode := .seq a5s29 a5s53
def a5s55 : ACode := .seq a5s27 a5s54
def a5s56 : ACode := .seq a5s22 a5s55
def a5s57 : ACode := .seq a5s17 a5s56
def a5s58 : ACode := .seq a5s15 a5s57
def a5s59 : ACode := .seq a5s13 a5s58
def a5s60 : ACode := .seq a5s8 a5s59
def a5s61 : ACode := .seq a5s6 a5s60
def a5s62 : ACode := .seq a5s1 a5s61
def a5c : ACode :=
  a5s62
def a5 : AFn := { np := 1, nv := 12, results := [.v 1], code := a5c }
def a5v : List Nat := [0, 2, 3, 5, 6, 7, 8, 10, 11, 12, 13, 14]
def a5b : List Nat := [4, 10]

-- columbary/columbarylaw09.SchemaPossible: 0, 2, 3, 5, 6, 7, 8, 9, 10, 11, 12, 13, 14
def a6r0 : List AOper := [
  { dst := .v 1, kind := .mv, args := [.c (.bool false)] }]
def a6s1 : ACode := .reg [] a6r0
def a6r2 : List AOper := [
  { dst := .t 15, kind := (.call 8), args := [] },
  { dst := .t 16, kind := (.un .not), args := [.t 15] }]
def a6r3 : List AOper := [
  { dst := .v 1, kind := .mv, args := [.c (.bool false)] }]
def a6s4 : ACode := .reg [] a6r3
def a6s5 : ACode := .seq a6s4 .ret
def a6s6 : ACode := .test [] a6r2 (.t 16) a6s5 .skip
def a6r7 : List AOper := [
  { dst := .t 18, kind := .mv, args := [.v 0] },
  { dst := .t 19, kind := (.call 14), args := [.t 18] },
  { dst := .t 17, kind := .mv, args := [.t 19] },
  { dst := .t 20, kind := (.ext 0), args := [.t 17] },
  { dst := .t 21, kind := (.ext 1), args := [.t 17] },
  { dst := .t 22, kind := (.ext 2), args := [.t 17] },
  { dst := .v 2, kind := .mv, args := [.t 20] },
  { dst := .t 4, kind := .mv, args := [.t 21] },
  { dst := .v 3, kind := .mv, args := [.t 22] }]
def a6s8 : ACode := .reg [] a6r7
def a6r9 : List AOper := [
  { dst := .t 23, kind := .mv, args := [.v 3] },
  { dst := .t 24, kind := (.bin .neq), args := [.t 23, .c (.int .i64 0)] }]
def a6r10 : List AOper := [
  { dst := .v 1, kind := .mv, args := [.c (.bool true)] }]
def a6s11 : ACode := .reg [] a6r10
def a6s12 : ACode := .seq a6s11 .ret
def a6s13 : ACode := .test [] a6r9 (.t 24) a6s12 .skip
def a6r14 : List AOper := [
  { dst := .t 25, kind := .mv, args := [.v 2] },
  { dst := .t 26, kind := (.call 16), args := [.t 25] },
  { dst := .v 4, kind := .mv, args := [.ts 26] }]
def a6s15 : ACode := .reg [] a6r14
def a6r16 : List AOper := [
  { dst := .v 5, kind := .mv, args := [.c (.int .i64 0)] }]
def a6s17 : ACode := .reg [] a6r16
def a6r18 : List AOper := [
  { dst := .t 27, kind := .mv, args := [.v 5] },
  { dst := .t 28, kind := .mv, args := [.v 4] },
  { dst := .t 29, kind := .lenL, args := [.t 28] },
  { dst := .t 30, kind := (.bin .lss), args := [.t 27, .t 29] }]
def a6s19 : ACode := .test [] a6r18 (.t 30) .skip (.exit 0)
def a6r20 : List AOper := [
  { dst := .t 33, kind := .mv, args := [.v 2] },
  { dst := .t 34, kind := .mv, args := [.v 4] },
  { dst := .t 35, kind := .mv, args := [.v 5] },
  { dst := .t 36, kind := (.iad 4), args := [.t 34, .t 35] },
  { dst := .t 37, kind := (.fad 1), args := [.t 36] },
  { dst := .t 38, kind := (.ldRo false 1), args := [.t 37] },
  { dst := .t 39, kind := (.call 11), args := [.t 33, .t 38] },
  { dst := .v 6, kind := .mv, args := [.ts 39] }]
def a6s21 : ACode := .reg [] a6r20
def a6r22 : List AOper := [
  { dst := .v 7, kind := .mv, args := [.c (.int .i64 0)] }]
def a6s23 : ACode := .reg [] a6r22
def a6r24 : List AOper := [
  { dst := .t 40, kind := .mv, args := [.v 7] },
  { dst := .t 41, kind := .mv, args := [.v 6] },
  { dst := .t 42, kind := .lenL, args := [.t 41] },
  { dst := .t 43, kind := (.bin .lss), args := [.t 40, .t 42] }]
def a6s25 : ACode := .test [] a6r24 (.t 43) .skip (.exit 2)
def a6r26 : List AOper := [
  { dst := .t 47, kind := .mv, args := [.v 2] },
  { dst := .t 48, kind := .mv, args := [.v 6] },
  { dst := .t 49, kind := .mv, args := [.v 7] },
  { dst := .t 50, kind := (.iad 1), args := [.t 48, .t 49] },
  { dst := .t 51, kind := (.ldRo false 1), args := [.t 50] },
  { dst := .t 52, kind := (.call 15), args := [.t 47, .t 51] },
  { dst := .t 46, kind := .mv, args := [.t 52] },
  { dst := .t 53, kind := (.ext 0), args := [.t 46] },
  { dst := .t 54, kind := (.ext 1), args := [.t 46] },
  { dst := .bx, kind := (.alloc [.int .u8 0, .str [], .list true [], .list true []]), args := [], box := some 8 },
  { dst := .none, kind := (.stLc 8 4), args := [.l 8, .ts 53], box := some 8 },
  { dst := .v 9, kind := .mv, args := [.t 54] }]
def a6s27 : ACode := .reg [8] a6r26
def a6r28 : List AOper := [
  { dst := .t 55, kind := .mv, args := [.v 9] },
  { dst := .t 56, kind := (.un .not), args := [.t 55] },
  { dst := .t 57, kind := .mv, args := [.t 56] },
  { dst := .t 58, kind := (.fad 0), args := [.l 8], guard := some (.t 57, false) },
  { dst := .t 59, kind := (.ldLc 8 false 1), args := [.t 58], box := some 8, guard := some (.t 57, false) },
  { dst := .t 60, kind := (.bin .neq), args := [.t 59, .c (.int .u8 1)], guard := some (.t 57, false) },
  { dst := .t 61, kind := .pick, args := [.t 57, .c (.bool true), .t 60] }]
def a6r29 : List AOper := [
  { dst := .v 1, kind := .mv, args := [.c (.bool false)] }]
def a6s30 : ACode := .reg [] a6r29
def a6s31 : ACode := .seq a6s30 .ret
def a6s32 : ACode := .test [] a6r28 (.t 61) a6s31 .skip
def a6r33 : List AOper := [
  { dst := .v 10, kind := .mv, args := [.c (.int .i64 0)] }]
def a6s34 : ACode := .reg [] a6r33
def a6r35 : List AOper := [
  { dst := .t 62, kind := .mv, args := [.v 10] },
  { dst := .t 63, kind := .mv, args := [.v 4] },
  { dst := .t 64, kind := .mv, args := [.v 5] },
  { dst := .t 65, kind := (.iad 4), args := [.t 63, .t 64] },
  { dst := .t 66, kind := (.fad 2), args := [.t 65] },
  { dst := .t 67, kind := (.ldRo false 1), args := [.t 66] },
  { dst := .t 68, kind := .lenL, args := [.t 67] },
  { dst := .t 69, kind := (.bin .lss), args := [.t 62, .t 68] }]
def a6s36 : ACode := .test [] a6r35 (.t 69) .skip (.exit 4)
def a6r37 : List AOper := [
  { dst := .t 73, kind := .mv, args := [.v 2] },
  { dst := .t 74, kind := .mv, args := [.v 6] },
  { dst := .t 75, kind := .mv, args := [.v 7] },
  { dst := .t 76, kind := (.iad 1), args := [.t 74, .t 75] },
  { dst := .t 77, kind := (.ldRo false 1), args := [.t 76] },
  { dst := .t 78, kind := .mv, args := [.v 4] },
  { dst := .t 79, kind := .mv, args := [.v 5] },
  { dst := .t 80, kind := (.iad 4), args := [.t 78, .t 79] },
  { dst := .t 81, kind := (.fad 2), args := [.t 80] },
  { dst := .t 82, kind := (.ldRo false 1), args := [.t 81] },
  { dst := .t 83, kind := .mv, args := [.v 10] },
  { dst := .t 84, kind := (.iad 11), args := [.t 82, .t 83] },
  { dst := .t 85, kind := (.fad 0), args := [.t 84] },
  { dst := .t 86, kind := (.ldRo false 1), args := [.t 85] },
  { dst := .t 87, kind := (.call 17), args := [.t 73, .t 77, .t 86] },
  { dst := .t 72, kind := .mv, args := [.t 87] },
  { dst := .t 88, kind := (.ext 0), args := [.t 72] },
  { dst := .t 89, kind := (.ext 1), args := [.t 72] },
  { dst := .bx, kind := (.alloc [.str [], .list true [], .str [], .list true [], .bool false, .bool false, .int .u8 0, .int .i64 0, .str [], .list true [], .list true []]), args := [], box := some 11 },
  { dst := .none, kind := (.stLc 11 11), args := [.l 11, .ts 88], box := some 11 },
  { dst := .v 12, kind := .mv, args := [.t 89] }]
def a6s38 : ACode := .reg [11] a6r37
def a6r39 : List AOper := [
  { dst := .t 90, kind := .mv, args := [.v 12] },
  { dst := .t 91, kind := (.un .not), args := [.t 90] },
  { dst := .t 92, kind := .mv, args := [.t 91] },
  { dst := .t 93, kind := (.fad 2), args := [.l 11], guard := some (.t 92, false) },
  { dst := .t 94, kind := (.ldLc 11 true 3), args := [.t 93], box := some 11, guard := some (.t 92, false) },
  { dst := .t 95, kind := .mv, args := [.v 4], guard := some (.t 92, false) },
  { dst := .t 96, kind := .mv, args := [.v 5], guard := some (.t 92, false) },
  { dst := .t 97, kind := (.iad 4), args := [.t 95, .t 96], guard := some (.t 92, false) },
  { dst := .t 98, kind := (.fad 2), args := [.t 97], guard := some (.t 92, false) },
  { dst := .t 99, kind := (.ldRo false 1), args := [.t 98], guard := some (.t 92, false) },
  { dst := .t 100, kind := .mv, args := [.v 10], guard := some (.t 92, false) },
  { dst := .t 101, kind := (.iad 11), args := [.t 99, .t 100], guard := some (.t 92, false) },
  { dst := .t 102, kind := (.fad 2), args := [.t 101], guard := some (.t 92, false) },
  { dst := .t 103, kind := (.ldRo true 3), args := [.t 102], guard := some (.t 92, false) },
  { dst := .t 104, kind := (.call 18), args := [.t 94, .t 103], guard := some (.t 92, false) },
  { dst := .t 105, kind := (.un .not), args := [.t 104], guard := some (.t 92, false) },
  { dst := .t 106, kind := .pick, args := [.t 92, .c (.bool true), .t 105] }]
def a6r40 : List AOper := [
  { dst := .v 1, kind := .mv, args := [.c (.bool false)] }]
def a6s41 : ACode := .reg [] a6r40
def a6s42 : ACode := .seq a6s41 .ret
def a6s43 : ACode := .test [] a6r39 (.t 106) a6s42 .skip
def a6s44 : ACode := .seq a6s38 a6s43
def a6s45 : ACode := .blk 5 a6s44
def a6r46 : List AOper := [
  { dst := .t 70, kind := .mv, args := [.v 10] },
  { dst := .t 71, kind := (.bin .add), args := [.t 70, .c (.int .i64 1)] },
  { dst := .v 10, kind := .mv, args := [.t 71] }]
def a6s47 : ACode := .reg [] a6r46
def a6s48 : ACode := .seq a6s45 a6s47
def a6s49 : ACode := .seq a6s36 a6s48
def a6s50 : ACode := .loop a6s49
def a6s51 : ACode := .blk 4 a6s50
def a6s52 : ACode := .seq a6s34 a6s51
def a6s53 : ACode := .seq a6s32 a6s52
def a6s54 : ACode := .seq a6s27 a6s53
def a6s55 : ACode := .blk 3 a6s54
def a6r56 : List AOper := [
  { dst := .t 44, kind := .mv, args := [.v 7] },
  { dst := .t 45, kind := (.bin .add), args := [.t 44, .c (.int .i64 1)] },
  { dst := .v 7, kind := .mv, args := [.t 45] }]
def a6s57 : ACode := .reg [] a6r56
def a6s58 : ACode := .seq a6s55 a6s57
def a6s59 : ACode := .seq a6s25 a6s58
def a6s60 : ACode := .loop a6s59
def a6s61 : ACode := .blk 2 a6s60
def a6s62 : ACode := .seq a6s23 a6s61
def a6s63 : ACode := .seq a6s21 a6s62
def a6s64 : ACode := .blk 1 a6s63
def a6r65 : List AOper := [
  { dst := .t 31, kind := .mv, args := [.v 5] },
  { dst := .t 32, kind := (.bin .add), args := [.t 31, .c (.int .i64 1)] },
  { dst := .v 5, kind := .mv, args := [.t 32] }]
def a6s66 : ACode := .reg [] a6r65
def a6s67 : ACode := .seq a6s64 a6s66
def a6s68 : ACode := .seq a6s19 a6s67
def a6s69 : ACode := .loop a6s68
def a6s70 : ACode := .blk 0 a6s69
def a6s71 : ACode := .seq a6s17 a6s70
def a6r72 : List AOper := [
  { dst := .v 1, kind := .mv, args := [.c (.bool true)] }]
def a6s73 : ACode := .reg [] a6r72
def a6s74 : ACode := .seq a6s73 .ret
def a6s75 : ACode := .seq a6s71 a6s74
def a6s76 : ACode := .seq a6s15 a6s75
def a6s77 : ACode := .seq a6s13 a6s76
def a6s78 : ACode := .seq a6s8 a6s77
def a6s79 : ACode := .seq a6s6 a6s78
def a6s80 : ACode := .seq a6s1 a6s79
def a6c : ACode :=
  a6s80
def a6 : AFn := { np := 1, nv := 13, results := [.v 1], code := a6c }
def a6v : List Nat := [0, 2, 3, 5, 6, 7, 8, 9, 10, 11, 12, 13, 14]
def a6b : List Nat := [8, 11]

-- columbary/columbarylaw09.SchemaNil: 0, 1, 3, 4, 5, 6, 7, 8, 9
def a7r0 : List AOper := [
  { dst := .bx, kind := .boxV, args := [.v 1], box := some 2 },
  { dst := .v 3, kind := .mv, args := [.c (.bool false)] }]
def a7s1 : ACode := .reg [2] a7r0
def a7r2 : List AOper := [
  { dst := .t 10, kind := (.ldLc 2 true 5), args := [.l 2], box := some 2 },
  { dst := .t 11, kind := (.call 19), args := [.t 10] },
  { dst := .t 12, kind := .mv, args := [.t 11] },
  { dst := .t 13, kind := (.ldLc 2 true 5), args := [.l 2], box := some 2, guard := some (.t 12, false) },
  { dst := .t 14, kind := (.call 20), args := [.t 13], guard := some (.t 12, false) },
  { dst := .t 15, kind := (.un .not), args := [.t 14], guard := some (.t 12, false) },
  { dst := .t 16, kind := .pick, args := [.t 12, .c (.bool true), .t 15] }]
def a7r3 : List AOper := [
  { dst := .t 17, kind := (.call 8), args := [] },
  { dst := .v 3, kind := .mv, args := [.t 17] }]
def a7s4 : ACode := .reg [] a7r3
def a7s5 : ACode := .seq a7s4 .ret
def a7s6 : ACode := .test [] a7r2 (.t 16) a7s5 .skip
def a7r7 : List AOper := [
  { dst := .v 4, kind := .mv, args := [.c (.nilp)] }]
def a7s8 : ACode := .reg [] a7r7
def a7r9 : List AOper := [
  { dst := .t 19, kind := .mv, args := [.v 4] },
  { dst := .t 20, kind := .mv, args := [.v 0] },
  { dst := .t 21, kind := (.call 15), args := [.t 19, .t 20] },
  { dst := .t 18, kind := .mv, args := [.t 21] },
  { dst := .t 22, kind := (.ext 0), args := [.t 18] },
  { dst := .t 23, kind := (.ext 1), args := [.t 18] },
  { dst := .bx, kind := (.alloc [.int .u8 0, .str [], .list true [], .list true []]), args := [], box := some 5 },
  { dst := .none, kind := (.stLc 5 4), args := [.l 5, .ts 22], box := some 5 },
  { dst := .v 6, kind := .mv, args := [.t 23] }]
def a7s10 : ACode := .reg [5] a7r9
def a7r11 : List AOper := [
  { dst := .t 25, kind := .mv, args := [.v 4] },
  { dst := .t 26, kind := .mv, args := [.v 0] },
  { dst := .t 27, kind := .mv, args := [.v 0] },
  { dst := .t 28, kind := (.call 17), args := [.t 25, .t 26, .t 27] },
  { dst := .t 24, kind := .mv, args := [.t 28] },
  { dst := .t 29, kind := (.ext 0), args := [.t 24] },
  { dst := .t 30, kind := (.ext 1), args := [.t 24] },
  { dst := .bx, kind := (.alloc [.str [], .list true [], .str [], .list true [], .bool false, .bool false, .int .u8 0, .int .i64 0, .str [], .list true [], .list true []]), args := [], box := some 7 },
  { dst := .none, kind := (.stLc 7 11), args := [.l 7, .ts 29], box := some 7 },
  { dst := .v 8, kind := .mv, args := [.t 30] }]
def a7s12 : ACode := .reg [7] a7r11
def a7r13 : List AOper := [
  { dst := .t 31, kind := (.call 8), args := [] },
  { dst := .t 32, kind := .mv, args := [.t 31] },
  { dst := .t 33, kind := .mv, args := [.v 6], guard := some (.t 32, true) },
  { dst := .t 34, kind := (.un .not), args := [.t 33], guard := some (.t 32, true) },
  { dst := .t 35, kind := .pick, args := [.t 32, .t 34, .c (.bool false)] },
  { dst := .t 36, kind := .mv, args := [.t 35] },
  { dst := .t 37, kind := .mv, args := [.v 8], guard := some (.t 36, true) },
  { dst := .t 38, kind := (.un .not), args := [.t 37], guard := some (.t 36, true) },
  { dst := .t 39, kind := .pick, args := [.t 36, .t 38, .c (.bool false)] },
  { dst := .t 40, kind := .mv, args := [.t 39] },
  { dst := .t 41, kind := .mv, args := [.v 4], guard := some (.t 40, true) },
  { dst := .t 42, kind := .mv, args := [.v 0], guard := some (.t 40, true) },
  { dst := .t 43, kind := (.call 21), args := [.t 41, .t 42], guard := some (.t 40, true) },
  { dst := .t 44, kind := (.un .not), args := [.t 43], guard := some (.t 40, true) },
  { dst := .t 45, kind := .pick, args := [.t 40, .t 44, .c (.bool false)] },
  { dst := .t 46, kind := .mv, args := [.t 45] },
  { dst := .t 47, kind := .mv, args := [.v 4], guard := some (.t 46, true) },
  { dst := .t 48, kind := .mv, args := [.v 0], guard := some (.t 46, true) },
  { dst := .t 49, kind := (.call 22), args := [.t 47, .t 48], guard := some (.t 46, true) },
  { dst := .t 50, kind := (.un .not), args := [.t 49], guard := some (.t 46, true) },
  { dst := .t 51, kind := .pick, args := [.t 46, .t 50, .c (.bool false)] },
  { dst := .t 52, kind := .mv, args := [.t 51] },
  { dst := .t 53, kind := .mv, args := [.v 4], guard := some (.t 52, true) },
  { dst := .t 54, kind := .mv, args := [.v 0], guard := some (.t 52, true) },
  { dst := .t 55, kind := (.call 23), args := [.t 53, .t 54], guard := some (.t 52, true) },
  { dst := .t 56, kind := (.un .not), args := [.t 55], guard := some (.t 52, true) },
  { dst := .t 57, kind := .pick, args := [.t 52, .t 56, .c (.bool false)] },
  { dst := .t 58, kind := .mv, args := [.t 57] },
  { dst := .t 59, kind := .mv, args := [.v 4], guard := some (.t 58, true) },
  { dst := .t 60, kind := .mv, args := [.v 0], guard := some (.t 58, true) },
  { dst := .t 61, kind := (.call 24), args := [.t 59, .t 60], guard := some (.t 58, true) },
  { dst := .t 62, kind := (.un .not), args := [.t 61], guard := some (.t 58, true) },
  { dst := .t 63, kind := .pick, args := [.t 58, .t 62, .c (.bool false)] },
  { dst := .t 64, kind := .mv, args := [.t 63] },
  { dst := .t 65, kind := .mv, args := [.v 4], guard := some (.t 64, true) },
  { dst := .t 66, kind := .mv, args := [.v 0], guard := some (.t 64, true) },
  { dst := .t 67, kind := (.call 12), args := [.t 65, .t 66], guard := some (.t 64, true) },
  { dst := .t 68, kind := (.un .not), args := [.t 67], guard := some (.t 64, true) },
  { dst := .t 69, kind := .pick, args := [.t 64, .t 68, .c (.bool false)] },
  { dst := .t 70, kind := .mv, args := [.t 69] },
  { dst := .t 71, kind := .mv, args := [.v 4], guard := some (.t 70, true) },
  { dst := .t 72, kind := .mv, args := [.v 0], guard := some (.t 70, true) },
  { dst := .t 73, kind := (.call 11), args := [.t 71, .t 72], guard := some (.t 70, true) },
  { dst := .t 74, kind := .lenL, args := [.t 73], guard := some (.t 70, true) },
  { dst := .t 75, kind := (.bin .eql), args := [.t 74, .c (.int .i64 0)], guard := some (.t 70, true) },
  { dst := .t 76, kind := .pick, args := [.t 70, .t 75, .c (.bool false)] },
  { dst := .t 77, kind := .mv, args := [.t 76] },
  { dst := .t 78, kind := .mv, args := [.v 4], guard := some (.t 77, true) },
  { dst := .t 79, kind := (.call 16), args := [.t 78], guard := some (.t 77, true) },
  { dst := .t 80, kind := .lenL, args := [.t 79], guard := some (.t 77, true) },
  { dst := .t 81, kind := (.bin .eql), args := [.t 80, .c (.int .i64 0)], guard := some (.t 77, true) },
  { dst := .t 82, kind := .pick, args := [.t 77, .t 81, .c (.bool false)] },
  { dst := .v 3, kind := .mv, args := [.t 82] }]
def a7s14 : ACode := .reg [] a7r13
def a7s15 : ACode := .seq a7s14 .ret
def a7s16 : ACode := .seq a7s12 a7s15
def a7s17 : ACode := .seq a7s10 a7s16
def a7s18 : ACode := .seq a7s8 a7s17
def a7s19 : ACode := .seq a7s6 a7s18
def a7s20 : ACode := .seq a7s1 a7s19
def a7c : ACode :=
  a7s20
def a7 : AFn := { np := 2, nv := 9, results := [.v 3], code := a7c }
def a7v : List Nat := [0, 1, 3, 4, 5, 6, 7, 8, 9]
def a7b : List Nat := [2, 5, 7]

-- columbary/columbarylaw09.awake: 0, 1, 3
def a8r0 : List AOper := [
  { dst := .v 0, kind := .mv, args := [.c (.bool false)] }]
def a8s1 : ACode := .reg [] a8r0
def a8r2 : List AOper := [
  { dst := .t 5, kind := (.call 14), args := [.c (.str [116, 121, 112, 101, 32, 65, 32, 123, 32, 98, 58, 32, 73, 110, 116, 32, 125, 32, 116, 121, 112, 101, 32, 81, 117, 101, 114, 121, 32, 123, 32, 97, 40, 105, 100, 58, 32, 73, 68, 33, 41, 58, 32, 65, 32, 97, 108, 108, 58, 32, 91, 65, 33, 93, 33, 32, 125])] },
  { dst := .t 4, kind := .mv, args := [.t 5] },
  { dst := .t 6, kind := (.ext 0), args := [.t 4] },
  { dst := .t 7, kind := (.ext 1), args := [.t 4] },
  { dst := .t 8, kind := (.ext 2), args := [.t 4] },
  { dst := .v 1, kind := .mv, args := [.t 6] },
  { dst := .t 2, kind := .mv, args := [.t 7] },
  { dst := .v 2, kind := .mv, args := [.t 8] }]
def a8s3 : ACode := .reg [] a8r2
def a8r4 : List AOper := [
  { dst := .t 9, kind := .mv, args := [.v 2] },
  { dst := .t 10, kind := (.bin .eql), args := [.t 9, .c (.int .i64 0)] },
  { dst := .t 11, kind := .mv, args := [.t 10] },
  { dst := .t 12, kind := .mv, args := [.v 1], guard := some (.t 11, true) },
  { dst := .t 13, kind := (.binP .neq), args := [.t 12, .c (.nilp)], guard := some (.t 11, true) },
  { dst := .t 14, kind := .pick, args := [.t 11, .t 13, .c (.bool false)] },
  { dst := .t 15, kind := .mv, args := [.t 14] },
  { dst := .t 16, kind := .mv, args := [.v 1], guard := some (.t 15, true) },
  { dst := .t 17, kind := (.call 12), args := [.t 16, .c (.str [65])], guard := some (.t 15, true) },
  { dst := .t 18, kind := .pick, args := [.t 15, .t 17, .c (.bool false)] },
  { dst := .t 19, kind := .mv, args := [.t 18] },
  { dst := .t 20, kind := .mv, args := [.v 1], guard := some (.t 19, true) },
  { dst := .t 21, kind := (.call 12), args := [.t 20, .c (.str [81, 117, 101, 114, 121])], guard := some (.t 19, true) },
  { dst := .t 22, kind := (.un .not), args := [.t 21], guard := some (.t 19, true) },
  { dst := .t 23, kind := .pick, args := [.t 19, .t 22, .c (.bool false)] },
  { dst := .v 0, kind := .mv, args := [.t 23] }]
def a8s5 : ACode := .reg [] a8r4
def a8s6 : ACode := .seq a8s5 .ret
def a8s7 : ACode := .seq a8s3 a8s6
def a8s8 : ACode := .seq a8s1 a8s7
def a8c : ACode :=
  a8s8
def a8 : AFn := { np := 0, nv := 3, results := [.v 0], code := a8c }
def a8v : List Nat := [0, 1, 3]
def a8b : List Nat := []

-- columbary/columbaryref07.Types: 0, 2, 3, 4, 5, 6, 7, 8, 9, 10, 11
def a9r0 : List AOper := [
  { dst := .v 1, kind := .mv, args := [.c (.list true [])] },
  { dst := .v 2, kind := .mv, args := [.c (.int .i64 0)] },
  { dst := .v 3, kind := .mv, args := [.c (.int .i64 0)] }]
def a9s1 : ACode := .reg [] a9r0
def a9r2 : List AOper := [
  { dst := .t 13, kind := .mv, args := [.v 0] },
  { dst := .t 14, kind := (.call 25), args := [.t 13] },
  { dst := .t 12, kind := .mv, args := [.t 14] },
  { dst := .t 15, kind := (.ext 0), args := [.t 12] },
  { dst := .t 16, kind := (.ext 1), args := [.t 12] },
  { dst := .t 17, kind := (.ext 2), args := [.t 12] },
  { dst := .v 4, kind := .mv, args := [.ts 15] },
  { dst := .v 5, kind := .mv, args := [.t 16] },
  { dst := .v 6, kind := .mv, args := [.t 17] }]
def a9s3 : ACode := .reg [] a9r2
def a9r4 : List AOper := [
  { dst := .t 18, kind := .mv, args := [.v 6] },
  { dst := .t 19, kind := (.bin .neq), args := [.t 18, .c (.int .i64 0)] }]
def a9r5 : List AOper := [
  { dst := .t 20, kind := .mv, args := [.v 5] },
  { dst := .t 21, kind := .mv, args := [.v 6] },
  { dst := .v 1, kind := .mv, args := [.c (.list true [])] },
  { dst := .v 2, kind := .mv, args := [.t 20] },
  { dst := .v 3, kind := .mv, args := [.t 21] }]
def a9s6 : ACode := .reg [] a9r5
def a9s7 : ACode := .seq a9s6 .ret
def a9s8 : ACode := .test [] a9r4 (.t 19) a9s7 .skip
def a9r9 : List AOper := [
  { dst := .t 22, kind := .mv, args := [.v 4] },
  { dst := .t 23, kind := (.build [.list true [], .int .i64 0, .int .i64 0, .int .i64 0, .int .i64 0] [(0, 1)]), args := [.t 22] },
  { dst := .t 24, kind := .boxO, args := [.ts 23] },
  { dst := .v 7, kind := .mv, args := [.t 24] }]
def a9s10 : ACode := .reg [] a9r9
def a9r11 : List AOper := [
  { dst := .v 8, kind := .mv, args := [.c (.list true [])] }]
def a9s12 : ACode := .reg [] a9r11
def a9r13 : List AOper := [
  { dst := .v 9, kind := .mv, args := [.c (.bool true)] }]
def a9s14 : ACode := .reg [] a9r13
def a9r15 : List AOper := [
  { dst := .t 25, kind := .mv, args := [.v 9] },
  { dst := .t 26, kind := .mv, args := [.t 25] },
  { dst := .t 27, kind := .mv, args := [.v 7], guard := some (.t 26, false) },
  { dst := .t 28, kind := .nilchk, args := [.t 27], guard := some (.t 26, false) },
  { dst := .t 29, kind := (.fad 4), args := [.t 28], guard := some (.t 26, false) },
  { dst := .t 30, kind := (.ldSt false 1), args := [.t 29], guard := some (.t 26, false) },
  { dst := .t 31, kind := (.bin .eql), args := [.t 30, .c (.int .i64 0)], guard := some (.t 26, false) },
  { dst := .t 32, kind := .mv, args := [.t 31], guard := some (.t 26, false) },
  { dst := .t 33, kind := .mv, args := [.v 7], guard := some (.t 32, true) },
  { dst := .t 34, kind := (.call 26), args := [.t 33, .c (.int .u8 0)], guard := some (.t 32, true) },
  { dst := .t 35, kind := (.un .not), args := [.t 34], guard := some (.t 32, true) },
  { dst := .t 36, kind := .pick, args := [.t 32, .t 35, .c (.bool false)], guard := some (.t 26, false) },
  { dst := .t 37, kind := .pick, args := [.t 26, .c (.bool true), .t 36] }]
def a9s16 : ACode := .test [] a9r15 (.t 37) .skip (.exit 0)
def a9r17 : List AOper := [
  { dst := .t 38, kind := .mv, args := [.v 7] },
  { dst := .t 39, kind := (.call 27), args := [.t 38] },
  { dst := .bx, kind := (.alloc [.int .u8 0, .str [], .list true [], .list true []]), args := [], box := some 10 },
  { dst := .none, kind := (.stLc 10 4), args := [.l 10, .ts 39], box := some 10 }]
def a9s18 : ACode := .reg [10] a9r17
def a9r19 : List AOper := [
  { dst := .t 40, kind := .mv, args := [.vs 8] },
  { dst := .t 41, kind := (.ldLc 10 true 4), args := [.l 10], box := some 10 },
  { dst := .t 42, kind := (.bslice 4 [[.int .u8 0, .str [], .list true [], .list true []]] [0]), args := [.t 41] },
  { dst := .t 43, kind := (.app 4 72), args := [.ts 40, .t 42] },
  { dst := .v 8, kind := .mv, args := [.ts 43] }]
def a9s20 : ACode := .reg [] a9r19
def a9s21 : ACode := .seq a9s18 a9s20
def a9s22 : ACode := .blk 1 a9s21
def a9r23 : List AOper := [
  { dst := .v 9, kind := .mv, args := [.c (.bool false)] }]
def a9s24 : ACode := .reg [] a9r23
def a9s25 : ACode := .seq a9s22 a9s24
def a9s26 : ACode := .seq a9s16 a9s25
def a9s27 : ACode := .loop a9s26
def a9s28 : ACode := .blk 0 a9s27
def a9s29 : ACode := .seq a9s14 a9s28
def a9r30 : List AOper := [
  { dst := .t 44, kind := .mv, args := [.v 7] },
  { dst := .t 45, kind := .nilchk, args := [.t 44] },
  { dst := .t 46, kind := (.fad 4), args := [.t 45] },
  { dst := .t 47, kind := (.ldSt false 1), args := [.t 46] },
  { dst := .t 48, kind := (.bin .neq), args := [.t 47, .c (.int .i64 0)] }]
def a9r31 : List AOper := [
  { dst := .t 49, kind := .mv, args := [.v 7] },
  { dst := .t 50, kind := .nilchk, args := [.t 49] },
  { dst := .t 51, kind := (.fad 3), args := [.t 50] },
  { dst := .t 52, kind := (.ldSt false 1), args := [.t 51] },
  { dst := .t 53, kind := .mv, args := [.v 7] },
  { dst := .t 54, kind := .nilchk, args := [.t 53] },
  { dst := .t 55, kind := (.fad 4), args := [.t 54] },
  { dst := .t 56, kind := (.ldSt false 1), args := [.t 55] },
  { dst := .v 1, kind := .mv, args := [.c (.list true [])] },
  { dst := .v 2, kind := .mv, args := [.t 52] },
  { dst := .v 3, kind := .mv, args := [.t 56] }]
def a9s32 : ACode := .reg [] a9r31
def a9s33 : ACode := .seq a9s32 .ret
def a9s34 : ACode := .test [] a9r30 (.t 48) a9s33 .skip
def a9r35 : List AOper := [
  { dst := .t 57, kind := .mv, args := [.v 8] },
  { dst := .v 1, kind := .mv, args := [.ts 57] },
  { dst := .v 2, kind := .mv, args := [.c (.int .i64 0)] },
  { dst := .v 3, kind := .mv, args := [.c (.int .i64 0)] }]
def a9s36 : ACode := .reg [] a9r35
def a9s37 : ACode := .seq a9s36 .ret
def a9s38 : ACode := .seq a9s34 a9s37
def a9s39 : ACode := .seq a9s29 a9s38
def a9s40 : ACode := .seq a9s12 a9s39
def a9s41 : ACode := .seq a9s10 a9s40
def a9s42 : ACode := .seq a9s8 a9s41
def a9s43 : ACode := .seq a9s3 a9s42
def a9s44 : ACode := .seq a9s1 a9s43
def a9c : ACode :=
  a9s44
def a9 : AFn := { np := 1, nv := 11, results := [.v 1, .v 2, .v 3], code := a9c }
def a9v : List Nat := [0, 2, 3, 4, 5, 6, 7, 8, 9, 10, 11]
def a9b : List Nat := [10]

-- columbary/schema.Build: 0, 2, 3, 4, 5, 6, 7, 9, 11, 12, 13, 14, 16, 17, 23, 24, 25, 62, 63, 64, 91, 92, 93
def a10r0 : List AOper := [
  { dst := .v 1, kind := .mv, args := [.c (.nilp)] },
  { dst := .v 2, kind := .mv, args := [.c (.str [])] },
  { dst := .v 3, kind := .mv, args := [.c (.int .i64 0)] }]
def a10s1 : ACode := .reg [] a10r0
def a10r2 : List AOper := [
  { dst := .t 18, kind := .mv, args := [.v 0] },
  { dst := .t 19, kind := (.call 28), args := [.t 18] },
  { dst := .t 20, kind := .mkM, args := [] },
  { dst := .t 21, kind := (.build [.list true [], .nilm] [(0, 1), (1, 1)]), args := [.t 19, .t 20] },
  { dst := .t 22, kind := .boxO, args := [.ts 21] },
  { dst := .v 4, kind := .mv, args := [.t 22] }]
def a10s3 : ACode := .reg [] a10r2
def a10r4 : List AOper := [
  { dst := .v 14, kind := .mv, args := [.v 0] },
  { dst := .v 15, kind := .lenL, args := [.v 14] },
  { dst := .v 16, kind := .mv, args := [.c (.int .i64 0)] }]
def a10s5 : ACode := .reg [] a10r4
def a10r6 : List AOper := [
  { dst := .t 26, kind := (.bin .lss), args := [.v 16, .v 15] }]
def a10s7 : ACode := .test [] a10r6 (.t 26) .skip (.exit 0)
def a10r8 : List AOper := [
  { dst := .t 27, kind := .mv, args := [.v 16] },
  { dst := .t 28, kind := (.iad 4), args := [.v 14, .v 16] },
  { dst := .t 29, kind := (.ldRo true 4), args := [.t 28] },
  { dst := .bx, kind := (.alloc [.int .u8 0, .str [], .list true [], .list true []]), args := [], box := some 6 },
  { dst := .v 5, kind := .mv, args := [.t 27] },
  { dst := .none, kind := (.stLc 6 4), args := [.l 6, .ts 29], box := some 6 }]
def a10s9 : ACode := .reg [6] a10r8
def a10r10 : List AOper := [
  { dst := .t 31, kind := .mv, args := [.v 4] },
  { dst := .t 32, kind := .nilchk, args := [.t 31] },
  { dst := .t 33, kind := (.fad 1), args := [.t 32] },
  { dst := .t 34, kind := (.ldSt false 1), args := [.t 33] },
  { dst := .t 35, kind := (.fad 1), args := [.l 6] },
  { dst := .t 36, kind := (.ldLc 6 false 1), args := [.t 35], box := some 6 },
  { dst := .t 37, kind := (.mget 1 [.int .i64 0] false true), args := [.t 34, .t 36] },
  { dst := .t 30, kind := .mv, args := [.t 37] },
  { dst := .t 38, kind := (.ext 0), args := [.t 30] },
  { dst := .t 39, kind := (.ext 1), args := [.t 30] },
  { dst := .t 8, kind := .mv, args := [.t 38] },
  { dst := .v 7, kind := .mv, args := [.t 39] }]
def a10s11 : ACode := .reg [] a10r10
def a10r12 : List AOper := [
  { dst := .t 40, kind := .mv, args := [.v 7] },
  { dst := .t 41, kind := .mv, args := [.t 40] },
  { dst := .t 42, kind := (.slA 4 1 false false), args := [.c (.ro [.str [66, 111, 111, 108, 101, 97, 110], .str [73, 68], .str [73, 110, 116], .str [83, 116, 114, 105, 110, 103]])], guard := some (.t 41, false) },
  { dst := .t 43, kind := (.fad 1), args := [.l 6], guard := some (.t 41, false) },
  { dst := .t 44, kind := (.ldLc 6 false 1), args := [.t 43], box := some 6, guard := some (.t 41, false) },
  { dst := .t 45, kind := (.call 29), args := [.t 42, .t 44], guard := some (.t 41, false) },
  { dst := .t 46, kind := .pick, args := [.t 41, .c (.bool true), .t 45] }]
def a10r13 : List AOper := [
  { dst := .t 47, kind := (.fad 1), args := [.l 6] },
  { dst := .t 48, kind := (.ldLc 6 false 1), args := [.t 47], box := some 6 },
  { dst := .v 1, kind := .mv, args := [.c (.nilp)] },
  { dst := .v 2, kind := .mv, args := [.t 48] },
  { dst := .v 3, kind := .mv, args := [.c (.int .i64 7)] }]
def a10s14 : ACode := .reg [] a10r13
def a10s15 : ACode := .seq a10s14 .ret
def a10s16 : ACode := .test [] a10r12 (.t 46) a10s15 .skip
def a10s17 : ACode := .seq a10s11 a10s16
def a10r18 : List AOper := [
  { dst := .t 49, kind := (.fad 1), args := [.l 6] },
  { dst := .t 50, kind := (.ldLc 6 false 1), args := [.t 49], box := some 6 },
  { dst := .t 51, kind := (.call 30), args := [.t 50, .c (.str [95, 95])] }]
def a10r19 : List AOper := [
  { dst := .t 52, kind := (.fad 1), args := [.l 6] },
  { dst := .t 53, kind := (.ldLc 6 false 1), args := [.t 52], box := some 6 },
  { dst := .v 1, kind := .mv, args := [.c (.nilp)] },
  { dst := .v 2, kind := .mv, args := [.t 53] },
  { dst := .v 3, kind := .mv, args := [.c (.int .i64 1)] }]
def a10s20 : ACode := .reg [] a10r19
def a10s21 : ACode := .seq a10s20 .ret
def a10s22 : ACode := .test [] a10r18 (.t 51) a10s21 .skip
def a10r23 : List AOper := [
  { dst := .t 54, kind := .mv, args := [.v 4] },
  { dst := .t 55, kind := .nilchk, args := [.t 54] },
  { dst := .t 56, kind := (.fad 1), args := [.t 55] },
  { dst := .t 57, kind := (.ldSt false 1), args := [.t 56] },
  { dst := .t 58, kind := (.fad 1), args := [.l 6] },
  { dst := .t 59, kind := (.ldLc 6 false 1), args := [.t 58], box := some 6 },
  { dst := .t 60, kind := .mv, args := [.v 5] },
  { dst := .none, kind := (.mset 1), args := [.t 57, .t 59, .t 60] }]
def a10s24 : ACode := .reg [] a10r23
def a10s25 : ACode := .seq a10s22 a10s24
def a10s26 : ACode := .seq a10s17 a10s25
def a10s27 : ACode := .seq a10s9 a10s26
def a10s28 : ACode := .blk 1 a10s27
def a10r29 : List AOper := [
  { dst := .t 61, kind := (.bin .add), args := [.v 16, .c (.int .i64 1)] },
  { dst := .v 16, kind := .mv, args := [.t 61] }]
def a10s30 : ACode := .reg [] a10r29
def a10s31 : ACode := .seq a10s28 a10s30
def a10s32 : ACode := .seq a10s7 a10s31
def a10s33 : ACode := .loop a10s32
def a10s34 : ACode := .blk 0 a10s33
def a10s35 : ACode := .seq a10s5 a10s34
def a10r36 : List AOper := [
  { dst := .v 17, kind := .mv, args := [.v 0] },
  { dst := .v 18, kind := .lenL, args := [.v 17] },
  { dst := .v 19, kind := .mv, args := [.c (.int .i64 0)] }]
def a10s37 : ACode := .reg [] a10r36
def a10r38 : List AOper := [
  { dst := .t 65, kind := (.bin .lss), args := [.v 19, .v 18] }]
def a10s39 : ACode := .test [] a10r38 (.t 65) .skip (.exit 2)
def a10r40 : List AOper := [
  { dst := .t 66, kind := (.iad 4), args := [.v 17, .v 19] },
  { dst := .t 67, kind := (.ldRo true 4), args := [.t 66] },
  { dst := .bx, kind := (.alloc [.int .u8 0, .str [], .list true [], .list true []]), args := [], box := some 8 },
  { dst := .none, kind := (.stLc 8 4), args := [.l 8, .ts 67], box := some 8 }]
def a10s41 : ACode := .reg [8] a10r40
def a10r42 : List AOper := [
  { dst := .t 68, kind := .mv, args := [.v 4] },
  { dst := .t 69, kind := (.ldLc 8 true 4), args := [.l 8], box := some 8 },
  { dst := .t 70, kind := (.call 31), args := [.t 68, .t 69] },
  { dst := .bx, kind := (.alloc [.int .i64 0, .str []]), args := [], box := some 9 },
  { dst := .none, kind := (.stLc 9 2), args := [.l 9, .t 70], box := some 9 }]
def a10s43 : ACode := .reg [9] a10r42
def a10r44 : List AOper := [
  { dst := .t 71, kind := (.fad 0), args := [.l 9] },
  { dst := .t 72, kind := (.ldLc 9 false 1), args := [.t 71], box := some 9 },
  { dst := .t 73, kind := (.bin .neq), args := [.t 72, .c (.int .i64 0)] }]
def a10r45 : List AOper := [
  { dst := .t 74, kind := (.fad 1), args := [.l 9] },
  { dst := .t 75, kind := (.ldLc 9 false 1), args := [.t 74], box := some 9 },
  { dst := .t 76, kind := (.fad 0), args := [.l 9] },
  { dst := .t 77, kind := (.ldLc 9 false 1), args := [.t 76], box := some 9 },
  { dst := .v 1, kind := .mv, args := [.c (.nilp)] },
  { dst := .v 2, kind := .mv, args := [.t 75] },
  { dst := .v 3, kind := .mv, args := [.t 77] }]
def a10s46 : ACode := .reg [] a10r45
def a10s47 : ACode := .seq a10s46 .ret
def a10s48 : ACode := .test [] a10r44 (.t 73) a10s47 .skip
def a10s49 : ACode := .seq a10s43 a10s48
def a10s50 : ACode := .seq a10s41 a10s49
def a10s51 : ACode := .blk 3 a10s50
def a10r52 : List AOper := [
  { dst := .t 78, kind := (.bin .add), args := [.v 19, .c (.int .i64 1)] },
  { dst := .v 19, kind := .mv, args := [.t 78] }]
def a10s53 : ACode := .reg [] a10r52
def a10s54 : ACode := .seq a10s51 a10s53
def a10s55 : ACode := .seq a10s39 a10s54
def a10s56 : ACode := .loop a10s55
def a10s57 : ACode := .blk 2 a10s56
def a10s58 : ACode := .seq a10s37 a10s57
def a10r59 : List AOper := [
  { dst := .t 80, kind := .mv, args := [.v 4] },
  { dst := .t 81, kind := (.call 15), args := [.t 80, .c (.str [81, 117, 101, 114, 121])] },
  { dst := .t 79, kind := .mv, args := [.t 81] },
  { dst := .t 82, kind := (.ext 0), args := [.t 79] },
  { dst := .t 83, kind := (.ext 1), args := [.t 79] },
  { dst := .bx, kind := (.alloc [.int .u8 0, .str [], .list true [], .list true []]), args := [], box := some 10 },
  { dst := .none, kind := (.stLc 10 4), args := [.l 10, .ts 82], box := some 10 },
  { dst := .v 11, kind := .mv, args := [.t 83] }]
def a10s60 : ACode := .reg [10] a10r59
def a10r61 : List AOper := [
  { dst := .t 84, kind := .mv, args := [.v 11] },
  { dst := .t 85, kind := (.un .not), args := [.t 84] },
  { dst := .t 86, kind := .mv, args := [.t 85] },
  { dst := .t 87, kind := (.fad 0), args := [.l 10], guard := some (.t 86, false) },
  { dst := .t 88, kind := (.ldLc 10 false 1), args := [.t 87], box := some 10, guard := some (.t 86, false) },
  { dst := .t 89, kind := (.bin .neq), args := [.t 88, .c (.int .u8 1)], guard := some (.t 86, false) },
  { dst := .t 90, kind := .pick, args := [.t 86, .c (.bool true), .t 89] }]
def a10r62 : List AOper := [
  { dst := .v 1, kind := .mv, args := [.c (.nilp)] },
  { dst := .v 2, kind := .mv, args := [.c (.str [81, 117, 101, 114, 121])] },
  { dst := .v 3, kind := .mv, args := [.c (.int .i64 6)] }]
def a10s63 : ACode := .reg [] a10r62
def a10s64 : ACode := .seq a10s63 .ret
def a10s65 : ACode := .test [] a10r61 (.t 90) a10s64 .skip
def a10s66 : ACode := .seq a10s60 a10s65
def a10r67 : List AOper := [
  { dst := .v 20, kind := .mv, args := [.v 0] },
  { dst := .v 21, kind := .lenL, args := [.v 20] },
  { dst := .v 22, kind := .mv, args := [.c (.int .i64 0)] }]
def a10s68 : ACode := .reg [] a10r67
def a10r69 : List AOper := [
  { dst := .t 94, kind := (.bin .lss), args := [.v 22, .v 21] }]
def a10s70 : ACode := .test [] a10r69 (.t 94) .skip (.exit 4)
def a10r71 : List AOper := [
  { dst := .t 95, kind := (.iad 4), args := [.v 20, .v 22] },
  { dst := .t 96, kind := (.ldRo true 4), args := [.t 95] },
  { dst := .bx, kind := (.alloc [.int .u8 0, .str [], .list true [], .list true []]), args := [], box := some 12 },
  { dst := .none, kind := (.stLc 12 4), args := [.l 12, .ts 96], box := some 12 }]
def a10s72 : ACode := .reg [12] a10r71
def a10r73 : List AOper := [
  { dst := .t 97, kind := .mv, args := [.v 4] },
  { dst := .t 98, kind := (.ldLc 12 true 4), args := [.l 12], box := some 12 },
  { dst := .t 99, kind := (.call 32), args := [.t 97, .t 98] },
  { dst := .bx, kind := (.alloc [.int .i64 0, .str []]), args := [], box := some 13 },
  { dst := .none, kind := (.stLc 13 2), args := [.l 13, .t 99], box := some 13 }]
def a10s74 : ACode := .reg [13] a10r73
def a10r75 : List AOper := [
  { dst := .t 100, kind := (.fad 0), args := [.l 13] },
  { dst := .t 101, kind := (.ldLc 13 false 1), args := [.t 100], box := some 13 },
  { dst := .t 102, kind := (.bin .neq), args := [.t 101, .c (.int .i64 0)] }]
def a10r76 : List AOper := [
  { dst := .t 103, kind := (.fad 1), args := [.l 13] },
  { dst := .t 104, kind := (.ldLc 13 false 1), args := [.t 103], box := some 13 },
  { dst := .t 105, kind := (.fad 0), args := [.l 13] },
  { dst := .t 106, kind := (.ldLc 13 false 1), args := [.t 105], box := some 13 },
  { dst := .v 1, kind := .mv, args := [.c (.nilp)] },
  { dst := .v 2, kind := .mv, args := [.t 104] },
  { dst := .v 3, kind := .mv, args := [.t 106] }]
def a10s77 : ACode := .reg [] a10r76
def a10s78 : ACode := .seq a10s77 .ret
def a10s79 : ACode := .test [] a10r75 (.t 102) a10s78 .skip
def a10s80 : ACode := .seq a10s74 a10s79
def a10s81 : ACode := .seq a10s72 a10s80
def a10s82 : ACode := .blk 5 a10s81
def a10r83 : List AOper := [
  { dst := .t 107, kind := (.bin .add), args := [.v 22, .c (.int .i64 1)] },
  { dst := .v 22, kind := .mv, args := [.t 107] }]
def a10s84 : ACode := .reg [] a10r83
def a10s85 : ACode := .seq a10s82 a10s84
def a10s86 : ACode := .seq a10s70 a10s85
def a10s87 : ACode := .loop a10s86
def a10s88 : ACode := .blk 4 a10s87
def a10s89 : ACode := .seq a10s68 a10s88
def a10r90 : List AOper := [
  { dst := .t 108, kind := .mv, args := [.v 4] },
  { dst := .v 1, kind := .mv, args := [.t 108] },
  { dst := .v 2, kind := .mv, args := [.c (.str [])] },
  { dst := .v 3, kind := .mv, args := [.c (.int .i64 0)] }]
def a10s91 : ACode := .reg [] a10r90
def a10s92 : ACode := .seq a10s91 .ret
def a10s93 : ACode := .seq a10s89 a10s92
def a10s94 : ACode := .seq a10s66 a10s93
def a10s95 : ACode := .seq a10s58 a10s94
def a10s96 : ACode := .seq a10s35 a10s95
def a10s97 : ACode := .seq a10s3 a10s96
def a10s98 : ACode := .seq a10s1 a10s97
def a10c : ACode :=
  a10s98
def a10 : AFn := { np := 1, nv := 23, results := [.v 1, .v 2, .v 3], code := a10c }
def a10v : List Nat := [0, 2, 3, 4, 5, 6, 7, 9, 11, 12, 13, 14, 16, 17, 23, 24, 25, 62, 63, 64, 91, 92, 93]
def a10b : List Nat := [6, 8, 9, 10, 12, 13]

-- (*columbary/schema.Schema).Possible: 0, 1, 4, 5, 6, 7, 9, 39, 40, 41
def a11r0 : List AOper := [
  { dst := .v 2, kind := .mv, args := [.c (.list true [])] }]
def a11s1 : ACode := .reg [] a11r0
def a11r2 : List AOper := [
  { dst := .t 11, kind := .mv, args := [.v 0] },
  { dst := .t 12, kind := .mv, args := [.v 1] },
  { dst := .t 13, kind := (.call 15), args := [.t 11, .t 12] },
  { dst := .t 10, kind := .mv, args := [.t 13] },
  { dst := .t 14, kind := (.ext 0), args := [.t 10] },
  { dst := .t 15, kind := (.ext 1), args := [.t 10] },
  { dst := .bx, kind := (.alloc [.int .u8 0, .str [], .list true [], .list true []]), args := [], box := some 3 },
  { dst := .none, kind := (.stLc 3 4), args := [.l 3, .ts 14], box := some 3 },
  { dst := .v 4, kind := .mv, args := [.t 15] }]
def a11s3 : ACode := .reg [3] a11r2
def a11r4 : List AOper := [
  { dst := .t 17, kind := .mv, args := [.v 4] },
  { dst := .t 18, kind := (.un .not), args := [.t 17] },
  { dst := .t 16, kind := .mv, args := [.t 18] }]
def a11r5 : List AOper := [
  { dst := .v 2, kind := .mv, args := [.c (.list true [])] }]
def a11s6 : ACode := .reg [] a11r5
def a11s7 : ACode := .seq a11s6 .ret
def a11r8 : List AOper := [
  { dst := .t 20, kind := (.fad 0), args := [.l 3] },
  { dst := .t 21, kind := (.ldLc 3 false 1), args := [.t 20], box := some 3 },
  { dst := .t 22, kind := (.bin .eql), args := [.t 21, .c (.int .u8 1)] },
  { dst := .t 19, kind := .mv, args := [.t 22] }]
def a11r9 : List AOper := [
  { dst := .t 23, kind := .mv, args := [.v 1] },
  { dst := .t 24, kind := (.bslice 1 [[.str []]] [0]), args := [.t 23] },
  { dst := .v 2, kind := .mv, args := [.ts 24] }]
def a11s10 : ACode := .reg [] a11r9
def a11s11 : ACode := .seq a11s10 .ret
def a11r12 : List AOper := [
  { dst := .t 26, kind := (.fad 0), args := [.l 3] },
  { dst := .t 27, kind := (.ldLc 3 false 1), args := [.t 26], box := some 3 },
  { dst := .t 28, kind := (.bin .eql), args := [.t 27, .c (.int .u8 3)] },
  { dst := .t 25, kind := .mv, args := [.t 28] }]
def a11r13 : List AOper := [
  { dst := .t 29, kind := (.fad 3), args := [.l 3] },
  { dst := .t 30, kind := (.ldLc 3 false 1), args := [.t 29], box := some 3 },
  { dst := .t 31, kind := (.call 33), args := [.t 30] },
  { dst := .v 2, kind := .mv, args := [.ts 31] }]
def a11s14 : ACode := .reg [] a11r13
def a11s15 : ACode := .seq a11s14 .ret
def a11r16 : List AOper := [
  { dst := .t 33, kind := (.fad 0), args := [.l 3] },
  { dst := .t 34, kind := (.ldLc 3 false 1), args := [.t 33], box := some 3 },
  { dst := .t 35, kind := (.bin .neq), args := [.t 34, .c (.int .u8 2)] },
  { dst := .t 32, kind := .mv, args := [.t 35] }]
def a11r17 : List AOper := [
  { dst := .v 2, kind := .mv, args := [.c (.list true [])] }]
def a11s18 : ACode := .reg [] a11r17
def a11s19 : ACode := .seq a11s18 .ret
def a11s20 : ACode := .test [] a11r16 (.t 32) a11s19 .skip
def a11s21 : ACode := .test [] a11r12 (.t 25) a11s15 a11s20
def a11s22 : ACode := .test [] a11r8 (.t 19) a11s11 a11s21
def a11s23 : ACode := .test [] a11r4 (.t 16) a11s7 a11s22
def a11s24 : ACode := .blk 0 a11s23
def a11r25 : List AOper := [
  { dst := .v 5, kind := .mv, args := [.c (.list true [])] }]
def a11s26 : ACode := .reg [] a11r25
def a11r27 : List AOper := [
  { dst := .t 36, kind := .mv, args := [.v 0] },
  { dst := .t 37, kind := .nilchk, args := [.t 36] },
  { dst := .t 38, kind := (.fad 0), args := [.t 37] },
  { dst := .v 7, kind := (.ldSt false 1), args := [.t 38] },
  { dst := .v 8, kind := .lenL, args := [.v 7] },
  { dst := .v 9, kind := .mv, args := [.c (.int .i64 0)] }]
def a11s28 : ACode := .reg [] a11r27
def a11r29 : List AOper := [
  { dst := .t 42, kind := (.bin .lss), args := [.v 9, .v 8] }]
def a11s30 : ACode := .test [] a11r29 (.t 42) .skip (.exit 1)
def a11r31 : List AOper := [
  { dst := .t 43, kind := (.iad 4), args := [.v 7, .v 9] },
  { dst := .t 44, kind := (.ldRo true 4), args := [.t 43] },
  { dst := .bx, kind := (.alloc [.int .u8 0, .str [], .list true [], .list true []]), args := [], box := some 6 },
  { dst := .none, kind := (.stLc 6 4), args := [.l 6, .ts 44], box := some 6 }]
def a11s32 : ACode := .reg [6] a11r31
def a11r33 : List AOper := [
  { dst := .t 45, kind := (.fad 0), args := [.l 6] },
  { dst := .t 46, kind := (.ldLc 6 false 1), args := [.t 45], box := some 6 },
  { dst := .t 47, kind := (.bin .eql), args := [.t 46, .c (.int .u8 1)] },
  { dst := .t 48, kind := .mv, args := [.t 47] },
  { dst := .t 49, kind := (.fad 3), args := [.l 6], guard := some (.t 48, true) },
  { dst := .t 50, kind := (.ldLc 6 false 1), args := [.t 49], box := some 6, guard := some (.t 48, true) },
  { dst := .t 51, kind := .mv, args := [.v 1], guard := some (.t 48, true) },
  { dst := .t 52, kind := (.call 29), args := [.t 50, .t 51], guard := some (.t 48, true) },
  { dst := .t 53, kind := .pick, args := [.t 48, .t 52, .c (.bool false)] }]
def a11r34 : List AOper := [
  { dst := .t 54, kind := .mv, args := [.vs 5] },
  { dst := .t 55, kind := (.fad 1), args := [.l 6] },
  { dst := .t 56, kind := (.ldLc 6 false 1), args := [.t 55], box := some 6 },
  { dst := .t 57, kind := (.bslice 1 [[.str []]] [0]), args := [.t 56] },
  { dst := .t 58, kind := (.app 1 16), args := [.ts 54, .t 57] },
  { dst := .v 5, kind := .mv, args := [.ts 58] }]
def a11s35 : ACode := .reg [] a11r34
def a11s36 : ACode := .test [] a11r33 (.t 53) a11s35 .skip
def a11s37 : ACode := .seq a11s32 a11s36
def a11s38 : ACode := .blk 2 a11s37
def a11r39 : List AOper := [
  { dst := .t 59, kind := (.bin .add), args := [.v 9, .c (.int .i64 1)] },
  { dst := .v 9, kind := .mv, args := [.t 59] }]
def a11s40 : ACode := .reg [] a11r39
def a11s41 : ACode := .seq a11s38 a11s40
def a11s42 : ACode := .seq a11s30 a11s41
def a11s43 : ACode := .loop a11s42
def a11s44 : ACode := .blk 1 a11s43
def a11s45 : ACode := .seq a11s28 a11s44
def a11r46 : List AOper := [
  { dst := .t 60, kind := .mv, args := [.v 5] },
  { dst := .v 2, kind := .mv, args := [.ts 60] }]
def a11s47 : ACode := .reg [] a11r46
def a11s48 : ACode := .seq a11s47 .ret
def a11s49 : ACode := .seq a11s45 a11s48
def a11s50 : ACode := .seq a11s26 a11s49
def a11s51 : ACode := .seq a11s24 a11s50
def a11s52 : ACode := .seq a11s3 a11s51
def a11s53 : ACode := .seq a11s1 a11s52
def a11c : ACode :=
  a11s53
def a11 : AFn := { np := 2, nv := 10, results := [.v 2], code := a11c }
def a11v : List Nat := [0, 1, 4, 5, 6, 7, 9, 39, 40, 41]
def a11b : List Nat := [3, 6]

-- (*columbary/schema.Schema).Composite: 0, 1, 4
def a12r0 : List AOper := [
  { dst := .v 2, kind := .mv, args := [.c (.bool false)] }]
def a12s1 : ACode := .reg [] a12r0
def a12r2 : List AOper := [
  { dst := .t 5, kind := .mv, args := [.v 1] },
  { dst := .t 6, kind := (.call 34), args := [.t 5] },
  { dst := .t 7, kind := (.un .not), args := [.t 6] },
  { dst := .t 8, kind := .mv, args := [.t 7] },
  { dst := .t 9, kind := .mv, args := [.v 0], guard := some (.t 8, true) },
  { dst := .t 10, kind := .mv, args := [.v 1], guard := some (.t 8, true) },
  { dst := .t 11, kind := (.call 35), args := [.t 9, .t 10, .c (.int .u8 1)], guard := some (.t 8, true) },
  { dst := .t 12, kind := .mv, args := [.t 11], guard := some (.t 8, true) },
  { dst := .t 13, kind := .mv, args := [.v 0], guard := some (.t 12, false) },
  { dst := .t 14, kind := .mv, args := [.v 1], guard := some (.t 12, false) },
  { dst := .t 15, kind := (.call 35), args := [.t 13, .t 14, .c (.int .u8 2)], guard := some (.t 12, false) },
  { dst := .t 16, kind := .pick, args := [.t 12, .c (.bool true), .t 15], guard := some (.t 8, true) },
  { dst := .t 17, kind := .mv, args := [.t 16], guard := some (.t 8, true) },
  { dst := .t 18, kind := .mv, args := [.v 0], guard := some (.t 17, false) },
  { dst := .t 19, kind := .mv, args := [.v 1], guard := some (.t 17, false) },
  { dst := .t 20, kind := (.call 35), args := [.t 18, .t 19, .c (.int .u8 3)], guard := some (.t 17, false) },
  { dst := .t 21, kind := .pick, args := [.t 17, .c (.bool true), .t 20], guard := some (.t 8, true) },
  { dst := .t 22, kind := .pick, args := [.t 8, .t 21, .c (.bool false)] },
  { dst := .v 2, kind := .mv, args := [.t 22] }]
def a12s3 : ACode := .reg [] a12r2
def a12s4 : ACode := .seq a12s3 .ret
def a12s5 : ACode := .seq a12s1 a12s4
def a12c : ACode :=
  a12s5
def a12 : AFn := { np := 2, nv := 3, results := [.v 2], code := a12c }
def a12v : List Nat := [0, 1, 4]
def a12b : List Nat := []

-- columbary/columbaryref09.Has: 0, 1, 4, 5
def a13r0 : List AOper := [
  { dst := .v 2, kind := .mv, args := [.c (.bool false)] }]
def a13s1 : ACode := .reg [] a13r0
def a13r2 : List AOper := [
  { dst := .v 3, kind := .mv, args := [.c (.int .i64 0)] }]
def a13s3 : ACode := .reg [] a13r2
def a13r4 : List AOper := [
  { dst := .t 6, kind := .mv, args := [.v 3] },
  { dst := .t 7, kind := .mv, args := [.v 0] },
  { dst := .t 8, kind := .lenL, args := [.t 7] },
  { dst := .t 9, kind := (.bin .lss), args := [.t 6, .t 8] }]
def a13s5 : ACode := .test [] a13r4 (.t 9) .skip (.exit 0)
def a13r6 : List AOper := [
  { dst := .t 12, kind := .mv, args := [.v 0] },
  { dst := .t 13, kind := .mv, args := [.v 3] },
  { dst := .t 14, kind := (.iad 1), args := [.t 12, .t 13] },
  { dst := .t 15, kind := (.ldRo false 1), args := [.t 14] },
  { dst := .t 16, kind := .mv, args := [.v 1] },
  { dst := .t 17, kind := (.bin .eql), args := [.t 15, .t 16] }]
def a13r7 : List AOper := [
  { dst := .v 2, kind := .mv, args := [.c (.bool true)] }]
def a13s8 : ACode := .reg [] a13r7
def a13s9 : ACode := .seq a13s8 .ret
def a13s10 : ACode := .test [] a13r6 (.t 17) a13s9 .skip
def a13s11 : ACode := .blk 1 a13s10
def a13r12 : List AOper := [
  { dst := .t 10, kind := .mv, args := [.v 3] },
  { dst := .t 11, kind := (.bin .add), args := [.t 10, .c (.int .i64 1)] },
  { dst := .v 3, kind := .mv, args := [.t 11] }]
def a13s13 : ACode := .reg [] a13r12
def a13s14 : ACode := .seq a13s11 a13s13
def a13s15 : ACode := .seq a13s5 a13s14
def a13s16 : ACode := .loop a13s15
def a13s17 : ACode := .blk 0 a13s16
def a13s18 : ACode := .seq a13s3 a13s17
def a13r19 : List AOper := [
  { dst := .v 2, kind := .mv, args := [.c (.bool false)] }]
def a13s20 : ACode := .reg [] a13r19
def a13s21 : ACode := .seq a13s20 .ret
def a13s22 : ACode := .seq a13s18 a13s21
def a13s23 : ACode := .seq a13s1 a13s22
def a13c : ACode :=
  a13s23
def a13 : AFn := { np := 2, nv := 4, results := [.v 2], code := a13c }
def a13v : List Nat := [0, 1, 4, 5]
def a13b : List Nat := []

-- columbary/columbarylaw09.build: 0, 2, 3, 4, 5, 7
def a14r0 : List AOper := [
  { dst := .v 1, kind := .mv, args := [.c (.nilp)] },
  { dst := .v 2, kind := .mv, args := [.c (.str [])] },
  { dst := .v 3, kind := .mv, args := [.c (.int .i64 0)] }]
def a14s1 : ACode := .reg [] a14r0
def a14r2 : List AOper := [
  { dst := .t 9, kind := .mv, args := [.v 0] },
  { dst := .t 10, kind := (.call 9), args := [.t 9] },
  { dst := .t 8, kind := .mv, args := [.t 10] },
  { dst := .t 11, kind := (.ext 0), args := [.t 8] },
  { dst := .t 12, kind := (.ext 1), args := [.t 8] },
  { dst := .t 13, kind := (.ext 2), args := [.t 8] },
  { dst := .v 4, kind := .mv, args := [.ts 11] },
  { dst := .t 6, kind := .mv, args := [.t 12] },
  { dst := .v 5, kind := .mv, args := [.t 13] }]
def a14s3 : ACode := .reg [] a14r2
def a14r4 : List AOper := [
  { dst := .t 14, kind := .mv, args := [.v 5] },
  { dst := .t 15, kind := (.bin .neq), args := [.t 14, .c (.int .i64 0)] }]
def a14r5 : List AOper := [
  { dst := .v 1, kind := .mv, args := [.c (.nilp)] },
  { dst := .v 2, kind := .mv, args := [.c (.str [])] },
  { dst := .v 3, kind := .mv, args := [.c (.int .i64 4)] }]
def a14s6 : ACode := .reg [] a14r5
def a14s7 : ACode := .seq a14s6 .ret
def a14s8 : ACode := .test [] a14r4 (.t 15) a14s7 .skip
def a14r9 : List AOper := [
  { dst := .t 16, kind := .mv, args := [.v 4] },
  { dst := .t 17, kind := (.call 10), args := [.t 16] },
  { dst := .t 18, kind := (.ext 0), args := [.t 17] },
  { dst := .t 19, kind := (.ext 1), args := [.t 17] },
  { dst := .t 20, kind := (.ext 2), args := [.t 17] },
  { dst := .v 1, kind := .mv, args := [.t 18] },
  { dst := .v 2, kind := .mv, args := [.t 19] },
  { dst := .v 3, kind := .mv, args := [.t 20] }]
def a14s10 : ACode := .reg [] a14r9
def a14s11 : ACode := .seq a14s10 .ret
def a14s12 : ACode := .seq a14s8 a14s11
def a14s13 : ACode := .seq a14s3 a14s12
def a14s14 : ACode := .seq a14s1 a14s13
def a14c : ACode :=
  a14s14
def a14 : AFn := { np := 1, nv := 6, results := [.v 1, .v 2, .v 3], code := a14c }
def a14v : List Nat := [0, 2, 3, 4, 5, 7]
def a14b : List Nat := []

-- (*columbary/schema.Schema).Type: 0, 1, 4, 5, 6, 7
def a15r0 : List AOper := [
  { dst := .bx, kind := (.alloc [.int .u8 0, .str [], .list true [], .list true []]), args := [], box := some 2 },
  { dst := .v 3, kind := .mv, args := [.c (.bool false)] }]
def a15s1 : ACode := .reg [2] a15r0
def a15r2 : List AOper := [
  { dst := .t 8, kind := .mv, args := [.v 0] },
  { dst := .t 9, kind := (.binP .eql), args := [.t 8, .c (.nilp)] }]
def a15r3 : List AOper := [
  { dst := .t 10, kind := (.build [.int .u8 0, .str [], .list true [], .list true []] []), args := [] },
  { dst := .none, kind := (.stLc 2 4), args := [.l 2, .ts 10], box := some 2 },
  { dst := .v 3, kind := .mv, args := [.c (.bool false)] }]
def a15s4 : ACode := .reg [] a15r3
def a15s5 : ACode := .seq a15s4 .ret
def a15s6 : ACode := .test [] a15r2 (.t 9) a15s5 .skip
def a15r7 : List AOper := [
  { dst := .t 12, kind := .mv, args := [.v 0] },
  { dst := .t 13, kind := .nilchk, args := [.t 12] },
  { dst := .t 14, kind := (.fad 1), args := [.t 13] },
  { dst := .t 15, kind := (.ldSt false 1), args := [.t 14] },
  { dst := .t 16, kind := .mv, args := [.v 1] },
  { dst := .t 17, kind := (.mget 1 [.int .i64 0] false true), args := [.t 15, .t 16] },
  { dst := .t 11, kind := .mv, args := [.t 17] },
  { dst := .t 18, kind := (.ext 0), args := [.t 11] },
  { dst := .t 19, kind := (.ext 1), args := [.t 11] },
  { dst := .v 4, kind := .mv, args := [.t 18] },
  { dst := .v 5, kind := .mv, args := [.t 19] }]
def a15s8 : ACode := .reg [] a15r7
def a15r9 : List AOper := [
  { dst := .t 20, kind := .mv, args := [.v 5] },
  { dst := .t 21, kind := (.un .not), args := [.t 20] }]
def a15r10 : List AOper := [
  { dst := .t 22, kind := (.build [.int .u8 0, .str [], .list true [], .list true []] []), args := [] },
  { dst := .none, kind := (.stLc 2 4), args := [.l 2, .ts 22], box := some 2 },
  { dst := .v 3, kind := .mv, args := [.c (.bool false)] }]
def a15s11 : ACode := .reg [] a15r10
def a15s12 : ACode := .seq a15s11 .ret
def a15s13 : ACode := .test [] a15r9 (.t 21) a15s12 .skip
def a15r14 : List AOper := [
  { dst := .t 23, kind := .mv, args := [.v 0] },
  { dst := .t 24, kind := .nilchk, args := [.t 23] },
  { dst := .t 25, kind := (.fad 0), args := [.t 24] },
  { dst := .t 26, kind := (.ldSt false 1), args := [.t 25] },
  { dst := .t 27, kind := .mv, args := [.v 4] },
  { dst := .t 28, kind := (.iad 4), args := [.t 26, .t 27] },
  { dst := .t 29, kind := (.ldRo true 4), args := [.t 28] },
  { dst := .none, kind := (.stLc 2 4), args := [.l 2, .ts 29], box := some 2 },
  { dst := .v 3, kind := .mv, args := [.c (.bool true)] }]
def a15s15 : ACode := .reg [] a15r14
def a15s16 : ACode := .seq a15s15 .ret
def a15s17 : ACode := .seq a15s13 a15s16
def a15s18 : ACode := .seq a15s8 a15s17
def a15s19 : ACode := .seq a15s6 a15s18
def a15s20 : ACode := .seq a15s1 a15s19
def a15c : ACode :=
  a15s20
def a15 : AFn := { np := 2, nv := 6, results := [.bx 2 true 4, .v 3], code := a15c }
def a15v : List Nat := [0, 1, 4, 5, 6, 7]
def a15b : List Nat := [2]

-- (*columbary/schema.Schema).Types: 0, 2
def a16r0 : List AOper := [
  { dst := .v 1, kind := .mv, args := [.c (.list true [])] }]
def a16s1 : ACode := .reg [] a16r0
def a16r2 : List AOper := [
  { dst := .t 3, kind := .mv, args := [.v 0] },
  { dst := .t 4, kind := (.binP .eql), args := [.t 3, .c (.nilp)] }]
def a16r3 : List AOper := [
  { dst := .v 1, kind := .mv, args := [.c (.list true [])] }]
def a16s4 : ACode := .reg [] a16r3
def a16s5 : ACode := .seq a16s4 .ret
def a16s6 : ACode := .test [] a16r2 (.t 4) a16s5 .skip
def a16r7 : List AOper := [
  { dst := .t 5, kind := .mv, args := [.v 0] },
  { dst := .t 6, kind := .nilchk, args := [.t 5] },
  { dst := .t 7, kind := (.fad 0), args := [.t 6] },
  { dst := .t 8, kind := (.ldSt false 1), args := [.t 7] },
  { dst := .t 9, kind := (.call 28), args := [.t 8] },
  { dst := .v 1, kind := .mv, args := [.ts 9] }]
def a16s8 : ACode := .reg [] a16r7
def a16s9 : ACode := .seq a16s8 .ret
def a16s10 : ACode := .seq a16s6 a16s9
def a16s11 : ACode := .seq a16s1 a16s10
def a16c : ACode :=
  a16s11
def a16 : AFn := { np := 1, nv := 2, results := [.v 1], code := a16c }
def a16v : List Nat := [0, 2]
def a16b : List Nat := []

-- (*columbary/schema.Schema).Field: 0, 1, 2, 6, 7, 8, 9, 10
def a17r0 : List AOper := [
  { dst := .bx, kind := (.alloc [.str [], .list true [], .str [], .list true [], .bool false, .bool false, .int .u8 0, .int .i64 0, .str [], .list true [], .list true []]), args := [], box := some 3 },
  { dst := .v 4, kind := .mv, args := [.c (.bool false)] }]
def a17s1 : ACode := .reg [3] a17r0
def a17r2 : List AOper := [
  { dst := .t 12, kind := .mv, args := [.v 0] },
  { dst := .t 13, kind := .mv, args := [.v 1] },
  { dst := .t 14, kind := (.call 15), args := [.t 12, .t 13] },
  { dst := .t 11, kind := .mv, args := [.t 14] },
  { dst := .t 15, kind := (.ext 0), args := [.t 11] },
  { dst := .t 16, kind := (.ext 1), args := [.t 11] },
  { dst := .bx, kind := (.alloc [.int .u8 0, .str [], .list true [], .list true []]), args := [], box := some 5 },
  { dst := .none, kind := (.stLc 5 4), args := [.l 5, .ts 15], box := some 5 },
  { dst := .v 6, kind := .mv, args := [.t 16] }]
def a17s3 : ACode := .reg [5] a17r2
def a17r4 : List AOper := [
  { dst := .t 17, kind := .mv, args := [.v 6] },
  { dst := .t 18, kind := .mv, args := [.t 17] },
  { dst := .t 19, kind := .mv, args := [.v 2], guard := some (.t 18, true) },
  { dst := .t 20, kind := (.bin .eql), args := [.t 19, .c (.str [95, 95, 116, 121, 112, 101, 110, 97, 109, 101])], guard := some (.t 18, true) },
  { dst := .t 21, kind := .pick, args := [.t 18, .t 20, .c (.bool false)] },
  { dst := .t 22, kind := .mv, args := [.t 21] },
  { dst := .t 23, kind := .mv, args := [.v 0], guard := some (.t 22, true) },
  { dst := .t 24, kind := .mv, args := [.v 1], guard := some (.t 22, true) },
  { dst := .t 25, kind := (.call 12), args := [.t 23, .t 24], guard := some (.t 22, true) },
  { dst := .t 26, kind := .mv, args := [.t 25], guard := some (.t 22, true) },
  { dst := .t 27, kind := .mv, args := [.v 1], guard := some (.t 26, false) },
  { dst := .t 28, kind := (.call 34), args := [.t 27], guard := some (.t 26, false) },
  { dst := .t 29, kind := .pick, args := [.t 26, .c (.bool true), .t 28], guard := some (.t 22, true) },
  { dst := .t 30, kind := .pick, args := [.t 22, .t 29, .c (.bool false)] }]
def a17r5 : List AOper := [
  { dst := .t 31, kind := .mv, args := [.v 2] },
  { dst := .t 32, kind := (.build [.str [], .list true [], .bool false] [(0, 1), (2, 1)]), args := [.c (.str [83, 116, 114, 105, 110, 103]), .c (.bool true)] },
  { dst := .t 33, kind := (.build [.str [], .list true [], .str [], .list true [], .bool false, .bool false, .int .u8 0, .int .i64 0, .str [], .list true [], .list true []] [(0, 1), (2, 3)]), args := [.t 31, .t 32] },
  { dst := .none, kind := (.stLc 3 11), args := [.l 3, .ts 33], box := some 3 },
  { dst := .v 4, kind := .mv, args := [.c (.bool true)] }]
def a17s6 : ACode := .reg [] a17r5
def a17s7 : ACode := .seq a17s6 .ret
def a17s8 : ACode := .test [] a17r4 (.t 30) a17s7 .skip
def a17r9 : List AOper := [
  { dst := .t 34, kind := (.fad 2), args := [.l 5] },
  { dst := .t 35, kind := (.ldLc 5 false 1), args := [.t 34], box := some 5 },
  { dst := .t 36, kind := (.call 37), args := [.t 35] },
  { dst := .t 37, kind := .mv, args := [.v 2] },
  { dst := .t 38, kind := (.call 36), args := [.t 36, .t 37] },
  { dst := .v 7, kind := .mv, args := [.t 38] }]
def a17s10 : ACode := .reg [] a17r9
def a17r11 : List AOper := [
  { dst := .t 39, kind := .mv, args := [.v 7] },
  { dst := .t 40, kind := (.bin .geq), args := [.t 39, .c (.int .i64 0)] },
  { dst := .t 41, kind := .mv, args := [.t 40] },
  { dst := .t 42, kind := (.fad 0), args := [.l 5], guard := some (.t 41, true) },
  { dst := .t 43, kind := (.ldLc 5 false 1), args := [.t 42], box := some 5, guard := some (.t 41, true) },
  { dst := .t 44, kind := (.bin .neq), args := [.t 43, .c (.int .u8 5)], guard := some (.t 41, true) },
  { dst := .t 45, kind := .pick, args := [.t 41, .t 44, .c (.bool false)] }]
def a17r12 : List AOper := [
  { dst := .t 46, kind := (.fad 2), args := [.l 5] },
  { dst := .t 47, kind := (.ldLc 5 false 1), args := [.t 46], box := some 5 },
  { dst := .t 48, kind := .mv, args := [.v 7] },
  { dst := .t 49, kind := (.iad 11), args := [.t 47, .t 48] },
  { dst := .t 50, kind := (.ldRo true 11), args := [.t 49] },
  { dst := .none, kind := (.stLc 3 11), args := [.l 3, .ts 50], box := some 3 },
  { dst := .v 4, kind := .mv, args := [.c (.bool true)] }]
def a17s13 : ACode := .reg [] a17r12
def a17s14 : ACode := .seq a17s13 .ret
def a17s15 : ACode := .test [] a17r11 (.t 45) a17s14 .skip
def a17s16 : ACode := .seq a17s10 a17s15
def a17r17 : List AOper := [
  { dst := .t 51, kind := (.build [.str [], .list true [], .str [], .list true [], .bool false, .bool false, .int .u8 0, .int .i64 0, .str [], .list true [], .list true []] []), args := [] },
  { dst := .none, kind := (.stLc 3 11), args := [.l 3, .ts 51], box := some 3 },
  { dst := .v 4, kind := .mv, args := [.c (.bool false)] }]
def a17s18 : ACode := .reg [] a17r17
def a17s19 : ACode := .seq a17s18 .ret
def a17s20 : ACode := .seq a17s16 a17s19
def a17s21 : ACode := .seq a17s8 a17s20
def a17s22 : ACode := .seq a17s3 a17s21
def a17s23 : ACode := .seq a17s1 a17s22
def a17c : ACode :=
  a17s23
def a17 : AFn := { np := 3, nv := 8, results := [.bx 3 true 11, .v 4], code := a17c }
def a17v : List Nat := [0, 1, 2, 6, 7, 8, 9, 10]
def a17b : List Nat := [3, 5]

-- columbary/schema.SameType: 0, 1, 2, 3, 4
def a18r0 : List AOper := [
  { dst := .bx, kind := .boxV, args := [.v 0], box := some 2 },
  { dst := .bx, kind := .boxV, args := [.v 1], box := some 3 },
  { dst := .v 4, kind := .mv, args := [.c (.bool false)] }]
def a18s1 : ACode := .reg [2, 3] a18r0
def a18r2 : List AOper := [
  { dst := .t 5, kind := (.fad 0), args := [.l 2] },
  { dst := .t 6, kind := (.ldLc 2 false 1), args := [.t 5], box := some 2 },
  { dst := .t 7, kind := (.fad 0), args := [.l 3] },
  { dst := .t 8, kind := (.ldLc 3 false 1), args := [.t 7], box := some 3 },
  { dst := .t 9, kind := (.bin .eql), args := [.t 6, .t 8] },
  { dst := .t 10, kind := .mv, args := [.t 9] },
  { dst := .t 11, kind := (.fad 2), args := [.l 2], guard := some (.t 10, true) },
  { dst := .t 12, kind := (.ldLc 2 false 1), args := [.t 11], box := some 2, guard := some (.t 10, true) },
  { dst := .t 13, kind := (.fad 2), args := [.l 3], guard := some (.t 10, true) },
  { dst := .t 14, kind := (.ldLc 3 false 1), args := [.t 13], box := some 3, guard := some (.t 10, true) },
  { dst := .t 15, kind := (.binB .eql), args := [.t 12, .t 14], guard := some (.t 10, true) },
  { dst := .t 16, kind := .pick, args := [.t 10, .t 15, .c (.bool false)] },
  { dst := .t 17, kind := .mv, args := [.t 16] },
  { dst := .t 18, kind := (.fad 1), args := [.l 2], guard := some (.t 17, true) },
  { dst := .t 19, kind := (.ldLc 2 false 1), args := [.t 18], box := some 2, guard := some (.t 17, true) },
  { dst := .t 20, kind := (.fad 1), args := [.l 3], guard := some (.t 17, true) },
  { dst := .t 21, kind := (.ldLc 3 false 1), args := [.t 20], box := some 3, guard := some (.t 17, true) },
  { dst := .t 22, kind := (.call 38), args := [.t 19, .t 21, .c (.func 18 [] [])], guard := some (.t 17, true) },
  { dst := .t 23, kind := .pick, args := [.t 17, .t 22, .c (.bool false)] },
  { dst := .v 4, kind := .mv, args := [.t 23] }]
def a18s3 : ACode := .reg [] a18r2
def a18s4 : ACode := .seq a18s3 .ret
def a18s5 : ACode := .seq a18s1 a18s4
def a18c : ACode :=
  a18s5
def a18 : AFn := { np := 2, nv := 5, results := [.v 4], code := a18c }
def a18v : List Nat := [0, 1, 2, 3, 4]
def a18b : List Nat := [2, 3]

-- columbary/columbaryref03.Great: 0, 1, 2
def a19r0 : List AOper := [
  { dst := .bx, kind := .boxV, args := [.v 0], box := some 1 },
  { dst := .v 2, kind := .mv, args := [.c (.bool false)] }]
def a19s1 : ACode := .reg [1] a19r0
def a19r2 : List AOper := [
  { dst := .t 3, kind := (.ldLc 1 true 5), args := [.l 1], box := some 1 },
  { dst := .t 4, kind := (.call 39), args := [.t 3, .c (.int .i64 0), .c (.int .i64 3000)] },
  { dst := .t 5, kind := (.bin .gtr), args := [.t 4, .c (.int .i64 3000)] },
  { dst := .v 2, kind := .mv, args := [.t 5] }]
def a19s3 : ACode := .reg [] a19r2
def a19s4 : ACode := .seq a19s3 .ret
def a19s5 : ACode := .seq a19s1 a19s4
def a19c : ACode :=
  a19s5
def a19 : AFn := { np := 1, nv := 3, results := [.v 2], code := a19c }
def a19v : List Nat := [0, 1, 2]
def a19b : List Nat := [1]

-- columbary/columbaryref03.Right: 0, 1, 2, 3, 4, 5
def a20r0 : List AOper := [
  { dst := .bx, kind := .boxV, args := [.v 0], box := some 1 },
  { dst := .v 2, kind := .mv, args := [.c (.bool false)] }]
def a20s1 : ACode := .reg [1] a20r0
def a20r2 : List AOper := [
  { dst := .t 6, kind := (.fad 0), args := [.l 1] },
  { dst := .t 7, kind := (.ldLc 1 false 1), args := [.t 6], box := some 1 },
  { dst := .t 8, kind := (.bin .eql), args := [.t 7, .c (.int .u8 1)] },
  { dst := .t 9, kind := .mv, args := [.t 8] },
  { dst := .t 10, kind := (.fad 0), args := [.l 1], guard := some (.t 9, false) },
  { dst := .t 11, kind := (.ldLc 1 false 1), args := [.t 10], box := some 1, guard := some (.t 9, false) },
  { dst := .t 12, kind := (.bin .eql), args := [.t 11, .c (.int .u8 3)], guard := some (.t 9, false) },
  { dst := .t 13, kind := .mv, args := [.t 12], guard := some (.t 9, false) },
  { dst := .t 14, kind := (.fad 1), args := [.l 1], guard := some (.t 13, true) },
  { dst := .t 15, kind := (.ldLc 1 false 1), args := [.t 14], box := some 1, guard := some (.t 13, true) },
  { dst := .t 16, kind := (.bin .eql), args := [.t 15, .c (.int .i64 0)], guard := some (.t 13, true) },
  { dst := .t 17, kind := .mv, args := [.t 16], guard := some (.t 13, true) },
  { dst := .t 18, kind := (.fad 1), args := [.l 1], guard := some (.t 17, false) },
  { dst := .t 19, kind := (.ldLc 1 false 1), args := [.t 18], box := some 1, guard := some (.t 17, false) },
  { dst := .t 20, kind := (.bin .eql), args := [.t 19, .c (.int .i64 1)], guard := some (.t 17, false) },
  { dst := .t 21, kind := .pick, args := [.t 17, .c (.bool true), .t 20], guard := some (.t 13, true) },
  { dst := .t 22, kind := .pick, args := [.t 13, .t 21, .c (.bool false)], guard := some (.t 9, false) },
  { dst := .t 23, kind := .pick, args := [.t 9, .c (.bool true), .t 22] },
  { dst := .v 3, kind := .mv, args := [.t 23] }]
def a20s3 : ACode := .reg [] a20r2
def a20r4 : List AOper := [
  { dst := .t 24, kind := (.fad 0), args := [.l 1] },
  { dst := .t 25, kind := (.ldLc 1 false 1), args := [.t 24], box := some 1 },
  { dst := .t 26, kind := (.bin .eql), args := [.t 25, .c (.int .u8 2)] },
  { dst := .t 27, kind := .mv, args := [.t 26] },
  { dst := .t 28, kind := (.fad 0), args := [.l 1], guard := some (.t 27, false) },
  { dst := .t 29, kind := (.ldLc 1 false 1), args := [.t 28], box := some 1, guard := some (.t 27, false) },
  { dst := .t 30, kind := (.bin .eql), args := [.t 29, .c (.int .u8 4)], guard := some (.t 27, false) },
  { dst := .t 31, kind := .pick, args := [.t 27, .c (.bool true), .t 30] },
  { dst := .t 32, kind := .mv, args := [.t 31] },
  { dst := .t 33, kind := (.fad 0), args := [.l 1], guard := some (.t 32, false) },
  { dst := .t 34, kind := (.ldLc 1 false 1), args := [.t 33], box := some 1, guard := some (.t 32, false) },
  { dst := .t 35, kind := (.bin .eql), args := [.t 34, .c (.int .u8 7)], guard := some (.t 32, false) },
  { dst := .t 36, kind := .pick, args := [.t 32, .c (.bool true), .t 35] },
  { dst := .t 37, kind := .mv, args := [.t 36] },
  { dst := .t 38, kind := (.fad 0), args := [.l 1], guard := some (.t 37, false) },
  { dst := .t 39, kind := (.ldLc 1 false 1), args := [.t 38], box := some 1, guard := some (.t 37, false) },
  { dst := .t 40, kind := (.bin .eql), args := [.t 39, .c (.int .u8 8)], guard := some (.t 37, false) },
  { dst := .t 41, kind := .pick, args := [.t 37, .c (.bool true), .t 40] },
  { dst := .v 4, kind := .mv, args := [.t 41] }]
def a20s5 : ACode := .reg [] a20r4
def a20r6 : List AOper := [
  { dst := .t 42, kind := (.fad 0), args := [.l 1] },
  { dst := .t 43, kind := (.ldLc 1 false 1), args := [.t 42], box := some 1 },
  { dst := .t 44, kind := (.bin .gtr), args := [.t 43, .c (.int .u8 8)] },
  { dst := .t 45, kind := .mv, args := [.t 44] },
  { dst := .t 46, kind := .mv, args := [.v 3], guard := some (.t 45, false) },
  { dst := .t 47, kind := (.un .not), args := [.t 46], guard := some (.t 45, false) },
  { dst := .t 48, kind := .mv, args := [.t 47], guard := some (.t 45, false) },
  { dst := .t 49, kind := (.fad 1), args := [.l 1], guard := some (.t 48, true) },
  { dst := .t 50, kind := (.ldLc 1 false 1), args := [.t 49], box := some 1, guard := some (.t 48, true) },
  { dst := .t 51, kind := (.bin .neq), args := [.t 50, .c (.int .i64 0)], guard := some (.t 48, true) },
  { dst := .t 52, kind := .pick, args := [.t 48, .t 51, .c (.bool false)], guard := some (.t 45, false) },
  { dst := .t 53, kind := .pick, args := [.t 45, .c (.bool true), .t 52] },
  { dst := .t 54, kind := .mv, args := [.t 53] },
  { dst := .t 55, kind := .mv, args := [.v 4], guard := some (.t 54, false) },
  { dst := .t 56, kind := (.un .not), args := [.t 55], guard := some (.t 54, false) },
  { dst := .t 57, kind := .mv, args := [.t 56], guard := some (.t 54, false) },
  { dst := .t 58, kind := (.fad 2), args := [.l 1], guard := some (.t 57, true) },
  { dst := .t 59, kind := (.ldLc 1 false 1), args := [.t 58], box := some 1, guard := some (.t 57, true) },
  { dst := .t 60, kind := (.bin .neq), args := [.t 59, .c (.str [])], guard := some (.t 57, true) },
  { dst := .t 61, kind := .pick, args := [.t 57, .t 60, .c (.bool false)], guard := some (.t 54, false) },
  { dst := .t 62, kind := .pick, args := [.t 54, .c (.bool true), .t 61] },
  { dst := .t 63, kind := .mv, args := [.t 62] },
  { dst := .t 64, kind := (.fad 0), args := [.l 1], guard := some (.t 63, false) },
  { dst := .t 65, kind := (.ldLc 1 false 1), args := [.t 64], box := some 1, guard := some (.t 63, false) },
  { dst := .t 66, kind := (.bin .neq), args := [.t 65, .c (.int .u8 5)], guard := some (.t 63, false) },
  { dst := .t 67, kind := .mv, args := [.t 66], guard := some (.t 63, false) },
  { dst := .t 68, kind := (.fad 0), args := [.l 1], guard := some (.t 67, true) },
  { dst := .t 69, kind := (.ldLc 1 false 1), args := [.t 68], box := some 1, guard := some (.t 67, true) },
  { dst := .t 70, kind := (.bin .neq), args := [.t 69, .c (.int .u8 6)], guard := some (.t 67, true) },
  { dst := .t 71, kind := .pick, args := [.t 67, .t 70, .c (.bool false)], guard := some (.t 63, false) },
  { dst := .t 72, kind := .mv, args := [.t 71], guard := some (.t 63, false) },
  { dst := .t 73, kind := (.fad 4), args := [.l 1], guard := some (.t 72, true) },
  { dst := .t 74, kind := (.ldLc 1 false 1), args := [.t 73], box := some 1, guard := some (.t 72, true) },
  { dst := .t 75, kind := .lenL, args := [.t 74], guard := some (.t 72, true) },
  { dst := .t 76, kind := (.bin .gtr), args := [.t 75, .c (.int .i64 0)], guard := some (.t 72, true) },
  { dst := .t 77, kind := .pick, args := [.t 72, .t 76, .c (.bool false)], guard := some (.t 63, false) },
  { dst := .t 78, kind := .pick, args := [.t 63, .c (.bool true), .t 77] }]
def a20r7 : List AOper := [
  { dst := .v 2, kind := .mv, args := [.c (.bool false)] }]
def a20s8 : ACode := .reg [] a20r7
def a20s9 : ACode := .seq a20s8 .ret
def a20s10 : ACode := .test [] a20r6 (.t 78) a20s9 .skip
def a20r11 : List AOper := [
  { dst := .t 79, kind := (.fad 0), args := [.l 1] },
  { dst := .t 80, kind := (.ldLc 1 false 1), args := [.t 79], box := some 1 },
  { dst := .t 81, kind := (.bin .eql), args := [.t 80, .c (.int .u8 6)] },
  { dst := .t 82, kind := .mv, args := [.t 81] },
  { dst := .t 83, kind := (.fad 3), args := [.l 1], guard := some (.t 82, true) },
  { dst := .t 84, kind := (.ldLc 1 false 1), args := [.t 83], box := some 1, guard := some (.t 82, true) },
  { dst := .t 85, kind := .lenL, args := [.t 84], guard := some (.t 82, true) },
  { dst := .t 86, kind := (.fad 4), args := [.l 1], guard := some (.t 82, true) },
  { dst := .t 87, kind := (.ldLc 1 false 1), args := [.t 86], box := some 1, guard := some (.t 82, true) },
  { dst := .t 88, kind := .lenL, args := [.t 87], guard := some (.t 82, true) },
  { dst := .t 89, kind := (.bin .neq), args := [.t 85, .t 88], guard := some (.t 82, true) },
  { dst := .t 90, kind := .pick, args := [.t 82, .t 89, .c (.bool false)] },
  { dst := .t 91, kind := .mv, args := [.t 90] },
  { dst := .t 92, kind := (.fad 0), args := [.l 1], guard := some (.t 91, false) },
  { dst := .t 93, kind := (.ldLc 1 false 1), args := [.t 92], box := some 1, guard := some (.t 91, false) },
  { dst := .t 94, kind := (.bin .neq), args := [.t 93, .c (.int .u8 6)], guard := some (.t 91, false) },
  { dst := .t 95, kind := .mv, args := [.t 94], guard := some (.t 91, false) },
  { dst := .t 96, kind := (.fad 3), args := [.l 1], guard := some (.t 95, true) },
  { dst := .t 97, kind := (.ldLc 1 false 1), args := [.t 96], box := some 1, guard := some (.t 95, true) },
  { dst := .t 98, kind := .lenL, args := [.t 97], guard := some (.t 95, true) },
  { dst := .t 99, kind := (.bin .gtr), args := [.t 98, .c (.int .i64 0)], guard := some (.t 95, true) },
  { dst := .t 100, kind := .pick, args := [.t 95, .t 99, .c (.bool false)], guard := some (.t 91, false) },
  { dst := .t 101, kind := .pick, args := [.t 91, .c (.bool true), .t 100] }]
def a20r12 : List AOper := [
  { dst := .v 2, kind := .mv, args := [.c (.bool false)] }]
def a20s13 : ACode := .reg [] a20r12
def a20s14 : ACode := .seq a20s13 .ret
def a20s15 : ACode := .test [] a20r11 (.t 101) a20s14 .skip
def a20r16 : List AOper := [
  { dst := .v 5, kind := .mv, args := [.c (.int .i64 0)] }]
def a20s17 : ACode := .reg [] a20r16
def a20r18 : List AOper := [
  { dst := .t 102, kind := .mv, args := [.v 5] },
  { dst := .t 103, kind := (.fad 4), args := [.l 1] },
  { dst := .t 104, kind := (.ldLc 1 false 1), args := [.t 103], box := some 1 },
  { dst := .t 105, kind := .lenL, args := [.t 104] },
  { dst := .t 106, kind := (.bin .lss), args := [.t 102, .t 105] }]
def a20s19 : ACode := .test [] a20r18 (.t 106) .skip (.exit 0)
def a20r20 : List AOper := [
  { dst := .t 109, kind := (.fad 4), args := [.l 1] },
  { dst := .t 110, kind := (.ldLc 1 false 1), args := [.t 109], box := some 1 },
  { dst := .t 111, kind := .mv, args := [.v 5] },
  { dst := .t 112, kind := (.iad 5), args := [.t 110, .t 111] },
  { dst := .t 113, kind := (.ldRo true 5), args := [.t 112] },
  { dst := .t 114, kind := (.call 20), args := [.t 113] },
  { dst := .t 115, kind := (.un .not), args := [.t 114] }]
def a20r21 : List AOper := [
  { dst := .v 2, kind := .mv, args := [.c (.bool false)] }]
def a20s22 : ACode := .reg [] a20r21
def a20s23 : ACode := .seq a20s22 .ret
def a20s24 : ACode := .test [] a20r20 (.t 115) a20s23 .skip
def a20s25 : ACode := .blk 1 a20s24
def a20r26 : List AOper := [
  { dst := .t 107, kind := .mv, args := [.v 5] },
  { dst := .t 108, kind := (.bin .add), args := [.t 107, .c (.int .i64 1)] },
  { dst := .v 5, kind := .mv, args := [.t 108] }]
def a20s27 : ACode := .reg [] a20r26
def a20s28 : ACode := .seq a20s25 a20s27
def a20s29 : ACode := .seq a20s19 a20s28
def a20s30 : ACode := .loop a20s29
def a20s31 : ACode := .blk 0 a20s30
def a20s32 : ACode := .seq a20s17 a20s31
def a20r33 : List AOper := [
  { dst := .v 2, kind := .mv, args := [.c (.bool true)] }]
def a20s34 : ACode := .reg [] a20r33
def a20s35 : ACode := .seq a20s34 .ret
def a20s36 : ACode := .seq a20s32 a20s35
def a20s37 : ACode := .seq a20s15 a20s36
def a20s38 : ACode := .seq a20s10 a20s37
def a20s39 : ACode := .seq a20s5 a20s38
def a20s40 : ACode := .seq a20s3 a20s39
def a20s41 : ACode := .seq a20s1 a20s40
def a20c : ACode :=
  a20s41
def a20 : AFn := { np := 1, nv := 6, results := [.v 2], code := a20c }
def a20v : List Nat := [0, 1, 2, 3, 4, 5]
def a20b : List Nat := [1]

-- (*columbary/schema.Schema).Scalar: 0, 1, 4
def a21r0 : List AOper := [
  { dst := .v 2, kind := .mv, args := [.c (.bool false)] }]
def a21s1 : ACode := .reg [] a21r0
def a21r2 : List AOper := [
  { dst := .t 5, kind := .mv, args := [.v 0] },
  { dst := .t 6, kind := (.binP .neq), args := [.t 5, .c (.nilp)] },
  { dst := .t 7, kind := .mv, args := [.t 6] },
  { dst := .t 8, kind := (.slA 4 1 false false), args := [.c (.ro [.str [66, 111, 111, 108, 101, 97, 110], .str [73, 68], .str [73, 110, 116], .str [83, 116, 114, 105, 110, 103]])], guard := some (.t 7, true) },
  { dst := .t 9, kind := .mv, args := [.v 1], guard := some (.t 7, true) },
  { dst := .t 10, kind := (.call 29), args := [.t 8, .t 9], guard := some (.t 7, true) },
  { dst := .t 11, kind := .pick, args := [.t 7, .t 10, .c (.bool false)] },
  { dst := .v 2, kind := .mv, args := [.t 11] }]
def a21s3 : ACode := .reg [] a21r2
def a21s4 : ACode := .seq a21s3 .ret
def a21s5 : ACode := .seq a21s1 a21s4
def a21c : ACode :=
  a21s5
def a21 : AFn := { np := 2, nv := 3, results := [.v 2], code := a21c }
def a21v : List Nat := [0, 1, 4]
def a21b : List Nat := []

-- (*columbary/schema.Schema).Enum: 0, 1, 4
def a22r0 : List AOper := [
  { dst := .v 2, kind := .mv, args := [.c (.bool false)] }]
def a22s1 : ACode := .reg [] a22r0
def a22r2 : List AOper := [
  { dst := .t 5, kind := .mv, args := [.v 0] },
  { dst := .t 6, kind := .mv, args := [.v 1] },
  { dst := .t 7, kind := (.call 35), args := [.t 5, .t 6, .c (.int .u8 4)] },
  { dst := .v 2, kind := .mv, args := [.t 7] }]
def a22s3 : ACode := .reg [] a22r2
def a22s4 : ACode := .seq a22s3 .ret
def a22s5 : ACode := .seq a22s1 a22s4
def a22c : ACode :=
  a22s5
def a22 : AFn := { np := 2, nv := 3, results := [.v 2], code := a22c }
def a22v : List Nat := [0, 1, 4]
def a22b : List Nat := []

-- (*columbary/schema.Schema).Input: 0, 1, 4
def a23r0 : List AOper := [
  { dst := .v 2, kind := .mv, args := [.c (.bool false)] }]
def a23s1 : ACode := .reg [] a23r0
def a23r2 : List AOper := [
  { dst := .t 5, kind := .mv, args := [.v 0] },
  { dst := .t 6, kind := .mv, args := [.v 1] },
  { dst := .t 7, kind := (.call 35), args := [.t 5, .t 6, .c (.int .u8 5)] },
  { dst := .v 2, kind := .mv, args := [.t 7] }]
def a23s3 : ACode := .reg [] a23r2
def a23s4 : ACode := .seq a23s3 .ret
def a23s5 : ACode := .seq a23s1 a23s4
def a23c : ACode :=
  a23s5
def a23 : AFn := { np := 2, nv := 3, results := [.v 2], code := a23c }
def a23v : List Nat := [0, 1, 4]
def a23b : List Nat := []

-- (*columbary/schema.Schema).Leaf: 0, 1, 4
def a24r0 : List AOper := [
  { dst := .v 2, kind := .mv, args := [.c (.bool false)] }]
def a24s1 : ACode := .reg [] a24r0
def a24r2 : List AOper := [
  { dst := .t 5, kind := .mv, args := [.v 0] },
  { dst := .t 6, kind := .mv, args := [.v 1] },
  { dst := .t 7, kind := (.call 21), args := [.t 5, .t 6] },
  { dst := .t 8, kind := .mv, args := [.t 7] },
  { dst := .t 9, kind := .mv, args := [.v 0], guard := some (.t 8, false) },
  { dst := .t 10, kind := .mv, args := [.v 1], guard := some (.t 8, false) },
  { dst := .t 11, kind := (.call 22), args := [.t 9, .t 10], guard := some (.t 8, false) },
  { dst := .t 12, kind := .pick, args := [.t 8, .c (.bool true), .t 11] },
  { dst := .v 2, kind := .mv, args := [.t 12] }]
def a24s3 : ACode := .reg [] a24r2
def a24s4 : ACode := .seq a24s3 .ret
def a24s5 : ACode := .seq a24s1 a24s4
def a24c : ACode :=
  a24s5
def a24 : AFn := { np := 2, nv := 3, results := [.v 2], code := a24c }
def a24v : List Nat := [0, 1, 4]
def a24b : List Nat := []

-- columbary/columbaryref05.Tokens: 0, 2, 3, 4, 5, 6, 7, 8, 9, 10, 11
def a25r0 : List AOper := [
  { dst := .v 1, kind := .mv, args := [.c (.list true [])] },
  { dst := .v 2, kind := .mv, args := [.c (.int .i64 0)] },
  { dst := .v 3, kind := .mv, args := [.c (.int .i64 0)] }]
def a25s1 : ACode := .reg [] a25r0
def a25r2 : List AOper := [
  { dst := .t 12, kind := .mv, args := [.v 0] },
  { dst := .t 13, kind := .lenS, args := [.t 12] },
  { dst := .t 14, kind := (.bin .gtr), args := [.t 13, .c (.int .i64 2000)] }]
def a25r3 : List AOper := [
  { dst := .v 1, kind := .mv, args := [.c (.list true [])] },
  { dst := .v 2, kind := .mv, args := [.c (.int .i64 0)] },
  { dst := .v 3, kind := .mv, args := [.c (.int .i64 2)] }]
def a25s4 : ACode := .reg [] a25r3
def a25s5 : ACode := .seq a25s4 .ret
def a25s6 : ACode := .test [] a25r2 (.t 14) a25s5 .skip
def a25r7 : List AOper := [
  { dst := .v 4, kind := .mv, args := [.c (.list true [])] }]
def a25s8 : ACode := .reg [] a25r7
def a25r9 : List AOper := [
  { dst := .v 5, kind := .mv, args := [.c (.int .i64 0)] }]
def a25s10 : ACode := .reg [] a25r9
def a25r11 : List AOper := [
  { dst := .t 15, kind := .mv, args := [.v 5] },
  { dst := .t 16, kind := .mv, args := [.v 0] },
  { dst := .t 17, kind := .lenS, args := [.t 16] },
  { dst := .t 18, kind := (.bin .lss), args := [.t 15, .t 17] }]
def a25s12 : ACode := .test [] a25r11 (.t 18) .skip (.exit 0)
def a25r13 : List AOper := [
  { dst := .t 19, kind := .mv, args := [.v 0] },
  { dst := .t 20, kind := .mv, args := [.v 5] },
  { dst := .t 21, kind := .idxS, args := [.t 19, .t 20] },
  { dst := .v 6, kind := .mv, args := [.t 21] }]
def a25s14 : ACode := .reg [] a25r13
def a25r15 : List AOper := [
  { dst := .t 23, kind := .mv, args := [.v 6] },
  { dst := .t 24, kind := (.bin .eql), args := [.t 23, .c (.int .u8 32)] },
  { dst := .t 25, kind := .mv, args := [.t 24] },
  { dst := .t 26, kind := .mv, args := [.v 6], guard := some (.t 25, false) },
  { dst := .t 27, kind := (.bin .eql), args := [.t 26, .c (.int .u8 10)], guard := some (.t 25, false) },
  { dst := .t 28, kind := .pick, args := [.t 25, .c (.bool true), .t 27] },
  { dst := .t 29, kind := .mv, args := [.t 28] },
  { dst := .t 30, kind := .mv, args := [.v 6], guard := some (.t 29, false) },
  { dst := .t 31, kind := (.bin .eql), args := [.t 30, .c (.int .u8 9)], guard := some (.t 29, false) },
  { dst := .t 32, kind := .pick, args := [.t 29, .c (.bool true), .t 31] },
  { dst := .t 33, kind := .mv, args := [.t 32] },
  { dst := .t 34, kind := .mv, args := [.v 6], guard := some (.t 33, false) },
  { dst := .t 35, kind := (.bin .eql), args := [.t 34, .c (.int .u8 13)], guard := some (.t 33, false) },
  { dst := .t 36, kind := .pick, args := [.t 33, .c (.bool true), .t 35] },
  { dst := .t 37, kind := .mv, args := [.t 36] },
  { dst := .t 38, kind := .mv, args := [.v 6], guard := some (.t 37, false) },
  { dst := .t 39, kind := (.bin .eql), args := [.t 38, .c (.int .u8 44)], guard := some (.t 37, false) },
  { dst := .t 40, kind := .pick, args := [.t 37, .c (.bool true), .t 39] },
  { dst := .t 22, kind := .mv, args := [.t 40] }]
def a25r16 : List AOper := [
  { dst := .t 41, kind := .mv, args := [.v 5] },
  { dst := .t 42, kind := (.bin .add), args := [.t 41, .c (.int .i64 1)] },
  { dst := .v 5, kind := .mv, args := [.t 42] }]
def a25s17 : ACode := .reg [] a25r16
def a25s18 : ACode := .seq a25s17 (.exit 1)
def a25r19 : List AOper := [
  { dst := .t 44, kind := .mv, args := [.v 6] },
  { dst := .t 45, kind := (.bin .eql), args := [.t 44, .c (.int .u8 35)] },
  { dst := .t 43, kind := .mv, args := [.t 45] }]
def a25r20 : List AOper := [
  { dst := .t 46, kind := .mv, args := [.v 5] },
  { dst := .t 47, kind := .mv, args := [.v 0] },
  { dst := .t 48, kind := .lenS, args := [.t 47] },
  { dst := .t 49, kind := (.bin .lss), args := [.t 46, .t 48] },
  { dst := .t 50, kind := .mv, args := [.t 49] },
  { dst := .t 51, kind := .mv, args := [.v 0], guard := some (.t 50, true) },
  { dst := .t 52, kind := .mv, args := [.v 5], guard := some (.t 50, true) },
  { dst := .t 53, kind := .idxS, args := [.t 51, .t 52], guard := some (.t 50, true) },
  { dst := .t 54, kind := (.bin .neq), args := [.t 53, .c (.int .u8 10)], guard := some (.t 50, true) },
  { dst := .t 55, kind := .pick, args := [.t 50, .t 54, .c (.bool false)] }]
def a25s21 : ACode := .test [] a25r20 (.t 55) .skip (.exit 3)
def a25r22 : List AOper := [
  { dst := .t 56, kind := .mv, args := [.v 5] },
  { dst := .t 57, kind := (.bin .add), args := [.t 56, .c (.int .i64 1)] },
  { dst := .v 5, kind := .mv, args := [.t 57] }]
def a25s23 : ACode := .reg [] a25r22
def a25s24 : ACode := .blk 4 a25s23
def a25s25 : ACode := .seq a25s21 a25s24
def a25s26 : ACode := .loop a25s25
def a25s27 : ACode := .blk 3 a25s26
def a25s28 : ACode := .seq a25s27 (.exit 1)
def a25s29 : ACode := .test [] a25r19 (.t 43) a25s28 .skip
def a25s30 : ACode := .test [] a25r15 (.t 22) a25s18 a25s29
def a25s31 : ACode := .blk 2 a25s30
def a25r32 : List AOper := [
  { dst := .t 59, kind := .mv, args := [.v 0] },
  { dst := .t 60, kind := .mv, args := [.v 5] },
  { dst := .t 61, kind := (.call 40), args := [.t 59, .t 60] },
  { dst := .t 58, kind := .mv, args := [.t 61] },
  { dst := .t 62, kind := (.ext 0), args := [.t 58] },
  { dst := .t 63, kind := (.ext 1), args := [.t 58] },
  { dst := .t 64, kind := (.ext 2), args := [.t 58] },
  { dst := .t 65, kind := (.ext 3), args := [.t 58] },
  { dst := .bx, kind := (.alloc [.int .u8 0, .str [], .int .i64 0, .int .i64 0]), args := [], box := some 7 },
  { dst := .none, kind := (.stLc 7 4), args := [.l 7, .t 62], box := some 7 },
  { dst := .v 8, kind := .mv, args := [.t 63] },
  { dst := .v 9, kind := .mv, args := [.t 64] },
  { dst := .v 10, kind := .mv, args := [.t 65] }]
def a25s33 : ACode := .reg [7] a25r32
def a25r34 : List AOper := [
  { dst := .t 66, kind := .mv, args := [.v 10] },
  { dst := .t 67, kind := (.bin .neq), args := [.t 66, .c (.int .i64 0)] }]
def a25r35 : List AOper := [
  { dst := .t 68, kind := .mv, args := [.v 9] },
  { dst := .t 69, kind := .mv, args := [.v 10] },
  { dst := .v 1, kind := .mv, args := [.c (.list true [])] },
  { dst := .v 2, kind := .mv, args := [.t 68] },
  { dst := .v 3, kind := .mv, args := [.t 69] }]
def a25s36 : ACode := .reg [] a25r35
def a25s37 : ACode := .seq a25s36 .ret
def a25s38 : ACode := .test [] a25r34 (.t 67) a25s37 .skip
def a25r39 : List AOper := [
  { dst := .t 70, kind := .mv, args := [.v 5] },
  { dst := .t 71, kind := (.fad 3), args := [.l 7] },
  { dst := .none, kind := (.stLc 7 1), args := [.t 71, .t 70], box := some 7 }]
def a25s40 : ACode := .reg [] a25r39
def a25r41 : List AOper := [
  { dst := .t 72, kind := .mv, args := [.vs 4] },
  { dst := .t 73, kind := (.ldLc 7 true 4), args := [.l 7], box := some 7 },
  { dst := .t 74, kind := (.bslice 4 [[.int .u8 0, .str [], .int .i64 0, .int .i64 0]] [0]), args := [.t 73] },
  { dst := .t 75, kind := (.app 4 40), args := [.ts 72, .t 74] },
  { dst := .v 4, kind := .mv, args := [.ts 75] }]
def a25s42 : ACode := .reg [] a25r41
def a25r43 : List AOper := [
  { dst := .t 76, kind := .mv, args := [.v 8] },
  { dst := .v 5, kind := .mv, args := [.t 76] }]
def a25s44 : ACode := .reg [] a25r43
def a25s45 : ACode := .seq a25s42 a25s44
def a25s46 : ACode := .seq a25s40 a25s45
def a25s47 : ACode := .seq a25s38 a25s46
def a25s48 : ACode := .seq a25s33 a25s47
def a25s49 : ACode := .seq a25s31 a25s48
def a25s50 : ACode := .seq a25s14 a25s49
def a25s51 : ACode := .blk 1 a25s50
def a25s52 : ACode := .seq a25s12 a25s51
def a25s53 : ACode := .loop a25s52
def a25s54 : ACode := .blk 0 a25s53
def a25r55 : List AOper := [
  { dst := .t 77, kind := .mv, args := [.vs 4] },
  { dst := .t 78, kind := .mv, args := [.v 5] },
  { dst := .t 79, kind := (.build [.int .u8 0, .str [], .int .i64 0, .int .i64 0] [(3, 1)]), args := [.t 78] },
  { dst := .t 80, kind := (.bslice 4 [[.int .u8 0, .str [], .int .i64 0, .int .i64 0]] [0]), args := [.t 79] },
  { dst := .t 81, kind := (.app 4 40), args := [.ts 77, .t 80] },
  { dst := .v 1, kind := .mv, args := [.ts 81] },
  { dst := .v 2, kind := .mv, args := [.c (.int .i64 0)] },
  { dst := .v 3, kind := .mv, args := [.c (.int .i64 0)] }]
def a25s56 : ACode := .reg [] a25r55
def a25s57 : ACode := .seq a25s56 .ret
def a25s58 : ACode := .seq a25s54 a25s57
def a25s59 : ACode := .seq a25s10 a25s58
def a25s60 : ACode := .seq a25s8 a25s59
def a25s61 : ACode := .seq a25s6 a25s60
def a25s62 : ACode := .seq a25s1 a25s61
def a25c : ACode :=
  a25s62
def a25 : AFn := { np := 1, nv := 11, results := [.v 1, .v 2, .v 3], code := a25c }
def a25v : List Nat := [0, 2, 3, 4, 5, 6, 7, 8, 9, 10, 11]
def a25b : List Nat := [7]

-- (*columbary/columbaryref06.Reader).Kind: 0, 1, 4
def a26r0 : List AOper := [
  { dst := .v 2, kind := .mv, args := [.c (.bool false)] }]
def a26s1 : ACode := .reg [] a26r0
def a26r2 : List AOper := [
  { dst := .t 5, kind := .mv, args := [.v 0] },
  { dst := .t 6, kind := .nilchk, args := [.t 5] },
  { dst := .t 7, kind := (.fad 4), args := [.t 6] },
  { dst := .t 8, kind := (.ldSt false 1), args := [.t 7] },
  { dst := .t 9, kind := (.bin .eql), args := [.t 8, .c (.int .i64 0)] },
  { dst := .t 10, kind := .mv, args := [.t 9] },
  { dst := .t 11, kind := .mv, args := [.v 0], guard := some (.t 10, true) },
  { dst := .t 12, kind := .nilchk, args := [.t 11], guard := some (.t 10, true) },
  { dst := .t 13, kind := (.fad 0), args := [.t 12], guard := some (.t 10, true) },
  { dst := .t 14, kind := (.ldSt false 1), args := [.t 13], guard := some (.t 10, true) },
  { dst := .t 15, kind := .mv, args := [.v 0], guard := some (.t 10, true) },
  { dst := .t 16, kind := .nilchk, args := [.t 15], guard := some (.t 10, true) },
  { dst := .t 17, kind := (.fad 1), args := [.t 16], guard := some (.t 10, true) },
  { dst := .t 18, kind := (.ldSt false 1), args := [.t 17], guard := some (.t 10, true) },
  { dst := .t 19, kind := (.iad 4), args := [.t 14, .t 18], guard := some (.t 10, true) },
  { dst := .t 20, kind := (.fad 0), args := [.t 19], guard := some (.t 10, true) },
  { dst := .t 21, kind := (.ldRo false 1), args := [.t 20], guard := some (.t 10, true) },
  { dst := .t 22, kind := .mv, args := [.v 1], guard := some (.t 10, true) },
  { dst := .t 23, kind := (.bin .eql), args := [.t 21, .t 22], guard := some (.t 10, true) },
  { dst := .t 24, kind := .pick, args := [.t 10, .t 23, .c (.bool false)] },
  { dst := .v 2, kind := .mv, args := [.t 24] }]
def a26s3 : ACode := .reg [] a26r2
def a26s4 : ACode := .seq a26s3 .ret
def a26s5 : ACode := .seq a26s1 a26s4
def a26c : ACode :=
  a26s5
def a26 : AFn := { np := 2, nv := 3, results := [.v 2], code := a26c }
def a26v : List Nat := [0, 1, 4]
def a26b : List Nat := []

-- columbary/columbaryref07.one: 0, 2, 3, 4, 5, 6, 41
def a27r0 : List AOper := [
  { dst := .bx, kind := (.alloc [.int .u8 0, .str [], .list true [], .list true []]), args := [], box := some 1 }]
def a27s1 : ACode := .reg [1] a27r0
def a27r2 : List AOper := [
  { dst := .bx, kind := (.alloc [.int .u8 0, .str [], .list true [], .list true []]), args := [], box := some 2 }]
def a27s3 : ACode := .reg [2] a27r2
def a27r4 : List AOper := [
  { dst := .t 11, kind := .mv, args := [.v 0] },
  { dst := .t 12, kind := (.call 41), args := [.t 11, .c (.str [116, 121, 112, 101])] },
  { dst := .t 10, kind := .mv, args := [.t 12] }]
def a27r5 : List AOper := [
  { dst := .t 13, kind := (.fad 0), args := [.l 2] },
  { dst := .none, kind := (.stLc 2 1), args := [.t 13, .c (.int .u8 1)], box := some 2 }]
def a27s6 : ACode := .reg [] a27r5
def a27r7 : List AOper := [
  { dst := .t 15, kind := .mv, args := [.v 0] },
  { dst := .t 16, kind := (.call 41), args := [.t 15, .c (.str [105, 110, 116, 101, 114, 102, 97, 99, 101])] },
  { dst := .t 14, kind := .mv, args := [.t 16] }]
def a27r8 : List AOper := [
  { dst := .t 17, kind := (.fad 0), args := [.l 2] },
  { dst := .none, kind := (.stLc 2 1), args := [.t 17, .c (.int .u8 2)], box := some 2 }]
def a27s9 : ACode := .reg [] a27r8
def a27r10 : List AOper := [
  { dst := .t 19, kind := .mv, args := [.v 0] },
  { dst := .t 20, kind := (.call 41), args := [.t 19, .c (.str [117, 110, 105, 111, 110])] },
  { dst := .t 18, kind := .mv, args := [.t 20] }]
def a27r11 : List AOper := [
  { dst := .t 21, kind := (.fad 0), args := [.l 2] },
  { dst := .none, kind := (.stLc 2 1), args := [.t 21, .c (.int .u8 3)], box := some 2 }]
def a27s12 : ACode := .reg [] a27r11
def a27r13 : List AOper := [
  { dst := .t 23, kind := .mv, args := [.v 0] },
  { dst := .t 24, kind := (.call 41), args := [.t 23, .c (.str [101, 110, 117, 109])] },
  { dst := .t 22, kind := .mv, args := [.t 24] }]
def a27r14 : List AOper := [
  { dst := .t 25, kind := (.fad 0), args := [.l 2] },
  { dst := .none, kind := (.stLc 2 1), args := [.t 25, .c (.int .u8 4)], box := some 2 }]
def a27s15 : ACode := .reg [] a27r14
def a27r16 : List AOper := [
  { dst := .t 27, kind := .mv, args := [.v 0] },
  { dst := .t 28, kind := (.call 41), args := [.t 27, .c (.str [105, 110, 112, 117, 116])] },
  { dst := .t 26, kind := .mv, args := [.t 28] }]
def a27r17 : List AOper := [
  { dst := .t 29, kind := (.fad 0), args := [.l 2] },
  { dst := .none, kind := (.stLc 2 1), args := [.t 29, .c (.int .u8 5)], box := some 2 }]
def a27s18 : ACode := .reg [] a27r17
def a27r19 : List AOper := [
  { dst := .t 7, kind := .mv, args := [.v 0] },
  { dst := .t 8, kind := (.call 42), args := [.t 7, .c (.int .i64 4)] }]
def a27s20 : ACode := .reg [] a27r19
def a27r21 : List AOper := [
  { dst := .t 9, kind := (.ldLc 2 true 4), args := [.l 2], box := some 2 },
  { dst := .none, kind := (.stLc 1 4), args := [.l 1, .ts 9], box := some 1 }]
def a27s22 : ACode := .reg [] a27r21
def a27s23 : ACode := .seq a27s22 .ret
def a27s24 : ACode := .seq a27s20 a27s23
def a27s25 : ACode := .test [] a27r16 (.t 26) a27s18 a27s24
def a27s26 : ACode := .test [] a27r13 (.t 22) a27s15 a27s25
def a27s27 : ACode := .test [] a27r10 (.t 18) a27s12 a27s26
def a27s28 : ACode := .test [] a27r7 (.t 14) a27s9 a27s27
def a27s29 : ACode := .test [] a27r4 (.t 10) a27s6 a27s28
def a27s30 : ACode := .blk 0 a27s29
def a27r31 : List AOper := [
  { dst := .t 30, kind := .mv, args := [.v 0] },
  { dst := .t 31, kind := .nilchk, args := [.t 30] },
  { dst := .t 32, kind := (.fad 1), args := [.t 31] },
  { dst := .t 33, kind := (.ldSt false 1), args := [.t 32] },
  { dst := .t 34, kind := (.bin .add), args := [.t 33, .c (.int .i64 1)] },
  { dst := .t 35, kind := .nilchk, args := [.t 30] },
  { dst := .t 36, kind := (.fad 1), args := [.t 35] },
  { dst := .none, kind := (.stSt 1), args := [.t 36, .t 34] }]
def a27s32 : ACode := .reg [] a27r31
def a27r33 : List AOper := [
  { dst := .t 37, kind := .mv, args := [.v 0] },
  { dst := .t 38, kind := (.call 43), args := [.t 37] },
  { dst := .t 39, kind := (.fad 1), args := [.l 2] },
  { dst := .none, kind := (.stLc 2 1), args := [.t 39, .t 38], box := some 2 }]
def a27s34 : ACode := .reg [] a27r33
def a27r35 : List AOper := [
  { dst := .t 40, kind := (.fad 0), args := [.l 2] },
  { dst := .v 6, kind := (.ldLc 2 false 1), args := [.t 40], box := some 2 }]
def a27s36 : ACode := .reg [] a27r35
def a27r37 : List AOper := [
  { dst := .t 87, kind := (.bin .eql), args := [.v 6, .c (.int .u8 3)] },
  { dst := .t 86, kind := .mv, args := [.t 87] }]
def a27r38 : List AOper := [
  { dst := .t 88, kind := .mv, args := [.v 0] },
  { dst := .t 89, kind := (.call 44), args := [.t 88, .c (.str [61])] }]
def a27s39 : ACode := .reg [] a27r38
def a27r40 : List AOper := [
  { dst := .t 90, kind := .mv, args := [.v 0] },
  { dst := .t 91, kind := (.call 45), args := [.t 90, .c (.str [124])] },
  { dst := .t 92, kind := (.fad 3), args := [.l 2] },
  { dst := .none, kind := (.stLc 2 1), args := [.t 92, .ts 91], box := some 2 }]
def a27s41 : ACode := .reg [] a27r40
def a27s42 : ACode := .seq a27s39 a27s41
def a27r43 : List AOper := [
  { dst := .t 94, kind := (.bin .eql), args := [.v 6, .c (.int .u8 4)] },
  { dst := .t 93, kind := .mv, args := [.t 94] }]
def a27r44 : List AOper := [
  { dst := .t 95, kind := .mv, args := [.v 0] },
  { dst := .t 96, kind := (.call 44), args := [.t 95, .c (.str [123])] }]
def a27s45 : ACode := .reg [] a27r44
def a27r46 : List AOper := [
  { dst := .v 3, kind := .mv, args := [.c (.bool true)] }]
def a27s47 : ACode := .reg [] a27r46
def a27r48 : List AOper := [
  { dst := .t 97, kind := .mv, args := [.v 0] },
  { dst := .t 98, kind := .nilchk, args := [.t 97] },
  { dst := .t 99, kind := (.fad 4), args := [.t 98] },
  { dst := .t 100, kind := (.ldSt false 1), args := [.t 99] },
  { dst := .t 101, kind := (.bin .eql), args := [.t 100, .c (.int .i64 0)] },
  { dst := .t 102, kind := .mv, args := [.t 101] },
  { dst := .t 103, kind := .mv, args := [.v 3], guard := some (.t 102, true) },
  { dst := .t 104, kind := .mv, args := [.t 103], guard := some (.t 102, true) },
  { dst := .t 105, kind := .mv, args := [.v 0], guard := some (.t 104, false) },
  { dst := .t 106, kind := (.call 46), args := [.t 105, .c (.str [125])], guard := some (.t 104, false) },
  { dst := .t 107, kind := (.un .not), args := [.t 106], guard := some (.t 104, false) },
  { dst := .t 108, kind := .pick, args := [.t 104, .c (.bool true), .t 107], guard := some (.t 102, true) },
  { dst := .t 109, kind := .pick, args := [.t 102, .t 108, .c (.bool false)] }]
def a27s49 : ACode := .test [] a27r48 (.t 109) .skip (.exit 4)
def a27r50 : List AOper := [
  { dst := .t 110, kind := .mv, args := [.v 0] },
  { dst := .t 111, kind := (.call 41), args := [.t 110, .c (.str [116, 114, 117, 101])] },
  { dst := .t 112, kind := .mv, args := [.t 111] },
  { dst := .t 113, kind := .mv, args := [.v 0], guard := some (.t 112, false) },
  { dst := .t 114, kind := (.call 41), args := [.t 113, .c (.str [102, 97, 108, 115, 101])], guard := some (.t 112, false) },
  { dst := .t 115, kind := .pick, args := [.t 112, .c (.bool true), .t 114] },
  { dst := .t 116, kind := .mv, args := [.t 115] },
  { dst := .t 117, kind := .mv, args := [.v 0], guard := some (.t 116, false) },
  { dst := .t 118, kind := (.call 41), args := [.t 117, .c (.str [110, 117, 108, 108])], guard := some (.t 116, false) },
  { dst := .t 119, kind := .pick, args := [.t 116, .c (.bool true), .t 118] }]
def a27r51 : List AOper := [
  { dst := .t 120, kind := .mv, args := [.v 0] },
  { dst := .t 121, kind := (.call 42), args := [.t 120, .c (.int .i64 4)] }]
def a27s52 : ACode := .reg [] a27r51
def a27s53 : ACode := .test [] a27r50 (.t 119) a27s52 .skip
def a27r54 : List AOper := [
  { dst := .t 122, kind := (.fad 3), args := [.l 2] },
  { dst := .t 123, kind := (.ldLcS 2), args := [.t 122], box := some 2 },
  { dst := .t 124, kind := .mv, args := [.v 0] },
  { dst := .t 125, kind := (.call 43), args := [.t 124] },
  { dst := .t 126, kind := (.bslice 1 [[.str []]] [0]), args := [.t 125] },
  { dst := .t 127, kind := (.app 1 16), args := [.ts 123, .t 126] },
  { dst := .t 128, kind := (.fad 3), args := [.l 2] },
  { dst := .none, kind := (.stLc 2 1), args := [.t 128, .ts 127], box := some 2 }]
def a27s55 : ACode := .reg [] a27r54
def a27s56 : ACode := .seq a27s53 a27s55
def a27s57 : ACode := .blk 5 a27s56
def a27r58 : List AOper := [
  { dst := .v 3, kind := .mv, args := [.c (.bool false)] }]
def a27s59 : ACode := .reg [] a27r58
def a27s60 : ACode := .seq a27s57 a27s59
def a27s61 : ACode := .seq a27s49 a27s60
def a27s62 : ACode := .loop a27s61
def a27s63 : ACode := .blk 4 a27s62
def a27s64 : ACode := .seq a27s47 a27s63
def a27s65 : ACode := .seq a27s45 a27s64
def a27r66 : List AOper := [
  { dst := .t 130, kind := (.bin .eql), args := [.v 6, .c (.int .u8 5)] },
  { dst := .t 129, kind := .mv, args := [.t 130] }]
def a27r67 : List AOper := [
  { dst := .t 131, kind := .mv, args := [.v 0] },
  { dst := .t 132, kind := (.call 44), args := [.t 131, .c (.str [123])] }]
def a27s68 : ACode := .reg [] a27r67
def a27r69 : List AOper := [
  { dst := .t 133, kind := .mv, args := [.v 0] },
  { dst := .t 134, kind := (.call 47), args := [.t 133, .c (.str [125])] },
  { dst := .t 135, kind := (.fad 2), args := [.l 2] },
  { dst := .none, kind := (.stLc 2 1), args := [.t 135, .ts 134], box := some 2 }]
def a27s70 : ACode := .reg [] a27r69
def a27s71 : ACode := .seq a27s68 a27s70
def a27r72 : List AOper := [
  { dst := .t 42, kind := (.fad 0), args := [.l 2] },
  { dst := .t 43, kind := (.ldLc 2 false 1), args := [.t 42], box := some 2 },
  { dst := .t 44, kind := (.bin .eql), args := [.t 43, .c (.int .u8 1)] },
  { dst := .t 45, kind := .mv, args := [.t 44] },
  { dst := .t 46, kind := .mv, args := [.v 0], guard := some (.t 45, true) },
  { dst := .t 47, kind := (.call 46), args := [.t 46, .c (.str [105, 109, 112, 108, 101, 109, 101, 110, 116, 115])], guard := some (.t 45, true) },
  { dst := .t 48, kind := .pick, args := [.t 45, .t 47, .c (.bool false)] }]
def a27r73 : List AOper := [
  { dst := .t 49, kind := .mv, args := [.v 0] },
  { dst := .t 50, kind := (.call 45), args := [.t 49, .c (.str [38])] },
  { dst := .t 51, kind := (.fad 3), args := [.l 2] },
  { dst := .none, kind := (.stLc 2 1), args := [.t 51, .ts 50], box := some 2 }]
def a27s74 : ACode := .reg [] a27r73
def a27s75 : ACode := .test [] a27r72 (.t 48) a27s74 .skip
def a27r76 : List AOper := [
  { dst := .t 52, kind := .mv, args := [.v 0] },
  { dst := .t 53, kind := (.call 44), args := [.t 52, .c (.str [123])] }]
def a27s77 : ACode := .reg [] a27r76
def a27r78 : List AOper := [
  { dst := .v 4, kind := .mv, args := [.c (.bool true)] }]
def a27s79 : ACode := .reg [] a27r78
def a27r80 : List AOper := [
  { dst := .t 54, kind := .mv, args := [.v 0] },
  { dst := .t 55, kind := .nilchk, args := [.t 54] },
  { dst := .t 56, kind := (.fad 4), args := [.t 55] },
  { dst := .t 57, kind := (.ldSt false 1), args := [.t 56] },
  { dst := .t 58, kind := (.bin .eql), args := [.t 57, .c (.int .i64 0)] },
  { dst := .t 59, kind := .mv, args := [.t 58] },
  { dst := .t 60, kind := .mv, args := [.v 4], guard := some (.t 59, true) },
  { dst := .t 61, kind := .mv, args := [.t 60], guard := some (.t 59, true) },
  { dst := .t 62, kind := .mv, args := [.v 0], guard := some (.t 61, false) },
  { dst := .t 63, kind := (.call 46), args := [.t 62, .c (.str [125])], guard := some (.t 61, false) },
  { dst := .t 64, kind := (.un .not), args := [.t 63], guard := some (.t 61, false) },
  { dst := .t 65, kind := .pick, args := [.t 61, .c (.bool true), .t 64], guard := some (.t 59, true) },
  { dst := .t 66, kind := .pick, args := [.t 59, .t 65, .c (.bool false)] }]
def a27s81 : ACode := .test [] a27r80 (.t 66) .skip (.exit 2)
def a27r82 : List AOper := [
  { dst := .t 67, kind := .mv, args := [.v 0] },
  { dst := .t 68, kind := (.call 43), args := [.t 67] },
  { dst := .t 69, kind := (.build [.str [], .list true [], .str [], .list true [], .bool false, .bool false, .int .u8 0, .int .i64 0, .str [], .list true [], .list true []] [(0, 1)]), args := [.t 68] },
  { dst := .bx, kind := (.alloc [.str [], .list true [], .str [], .list true [], .bool false, .bool false, .int .u8 0, .int .i64 0, .str [], .list true [], .list true []]), args := [], box := some 5 },
  { dst := .none, kind := (.stLc 5 11), args := [.l 5, .ts 69], box := some 5 }]
def a27s83 : ACode := .reg [5] a27r82
def a27r84 : List AOper := [
  { dst := .t 70, kind := .mv, args := [.v 0] },
  { dst := .t 71, kind := (.call 46), args := [.t 70, .c (.str [40])] }]
def a27r85 : List AOper := [
  { dst := .t 72, kind := .mv, args := [.v 0] },
  { dst := .t 73, kind := (.call 47), args := [.t 72, .c (.str [41])] },
  { dst := .t 74, kind := (.fad 1), args := [.l 5] },
  { dst := .none, kind := (.stLc 5 1), args := [.t 74, .ts 73], box := some 5 }]
def a27s86 : ACode := .reg [] a27r85
def a27s87 : ACode := .test [] a27r84 (.t 71) a27s86 .skip
def a27r88 : List AOper := [
  { dst := .t 75, kind := .mv, args := [.v 0] },
  { dst := .t 76, kind := (.call 44), args := [.t 75, .c (.str [58])] }]
def a27s89 : ACode := .reg [] a27r88
def a27r90 : List AOper := [
  { dst := .t 77, kind := .mv, args := [.v 0] },
  { dst := .t 78, kind := (.call 48), args := [.t 77] },
  { dst := .t 79, kind := (.fad 2), args := [.l 5] },
  { dst := .none, kind := (.stLc 5 3), args := [.t 79, .ts 78], box := some 5 }]
def a27s91 : ACode := .reg [] a27r90
def a27r92 : List AOper := [
  { dst := .t 80, kind := (.fad 2), args := [.l 2] },
  { dst := .t 81, kind := (.ldLcS 2), args := [.t 80], box := some 2 },
  { dst := .t 82, kind := (.ldLc 5 true 11), args := [.l 5], box := some 5 },
  { dst := .t 83, kind := (.bslice 11 [[.str [], .list true [], .str [], .list true [], .bool false, .bool false, .int .u8 0, .int .i64 0, .str [], .list true [], .list true []]] [0]), args := [.t 82] },
  { dst := .t 84, kind := (.app 11 176), args := [.ts 81, .t 83] },
  { dst := .t 85, kind := (.fad 2), args := [.l 2] },
  { dst := .none, kind := (.stLc 2 1), args := [.t 85, .ts 84], box := some 2 }]
def a27s93 : ACode := .reg [] a27r92
def a27s94 : ACode := .seq a27s91 a27s93
def a27s95 : ACode := .seq a27s89 a27s94
def a27s96 : ACode := .seq a27s87 a27s95
def a27s97 : ACode := .seq a27s83 a27s96
def a27s98 : ACode := .blk 3 a27s97
def a27r99 : List AOper := [
  { dst := .v 4, kind := .mv, args := [.c (.bool false)] }]
def a27s100 : ACode := .reg [] a27r99
def a27s101 : ACode := .seq a27s98 a27s100
def a27s102 : ACode := .seq a27s81 a27s101
def a27s103 : ACode := .loop a27s102
def a27s104 : ACode := .blk 2 a27s103
def a27s105 : ACode := .seq a27s79 a27s104
def a27s106 : ACode := .seq a27s77 a27s105
def a27s107 : ACode := .seq a27s75 a27s106
def a27s108 : ACode := .test [] a27r66 (.t 129) a27s71 a27s107
def a27s109 : ACode := .test [] a27r43 (.t 93) a27s65 a27s108
def a27s110 : ACode := .test [] a27r37 (.t 86) a27s42 a27s109
def a27s111 : ACode := .blk 1 a27s110
def a27s112 : ACode := .seq a27s36 a27s111
def a27r113 : List AOper := [
  { dst := .t 136, kind := (.ldLc 2 true 4), args := [.l 2], box := some 2 },
  { dst := .none, kind := (.stLc 1 4), args := [.l 1, .ts 136], box := some 1 }]
def a27s114 : ACode := .reg [] a27r113
def a27s115 : ACode := .seq a27s114 .ret
def a27s116 : ACode := .seq a27s112 a27s115
def a27s117 : ACode := .seq a27s34 a27s116
def a27s118 : ACode := .seq a27s32 a27s117
def a27s119 : ACode := .seq a27s30 a27s118
def a27s120 : ACode := .seq a27s3 a27s119
def a27s121 : ACode := .seq a27s1 a27s120
def a27c : ACode :=
  a27s121
def a27 : AFn := { np := 1, nv := 7, results := [.bx 1 true 4], code := a27c }
def a27v : List Nat := [0, 2, 3, 4, 5, 6, 41]
def a27b : List Nat := [1, 2, 5]

-- slices.Clone[[]columbary/api.TypeDef,columbary/api.TypeDef]
def a28 : AFn := { np := 1, nv := 0, results := [], code := .skip, ext := some (cloneX 4 72) }
-- slices.Contains[[]string,string]: 0, 1, 4
def a29r0 : List AOper := [
  { dst := .v 2, kind := .mv, args := [.c (.bool false)] }]
def a29s1 : ACode := .reg [] a29r0
def a29r2 : List AOper := [
  { dst := .t 5, kind := .mv, args := [.v 0] },
  { dst := .t 6, kind := .mv, args := [.v 1] },
  { dst := .t 7, kind := (.call 36), args := [.t 5, .t 6] },
  { dst := .t 8, kind := (.bin .geq), args := [.t 7, .c (.int .i64 0)] },
  { dst := .v 2, kind := .mv, args := [.t 8] }]
def a29s3 : ACode := .reg [] a29r2
def a29s4 : ACode := .seq a29s3 .ret
def a29s5 : ACode := .seq a29s1 a29s4
def a29c : ACode :=
  a29s5
def a29 : AFn := { np := 2, nv := 3, results := [.v 2], code := a29c }
def a29v : List Nat := [0, 1, 4]
def a29b : List Nat := []

-- strings.HasPrefix: 0, 1, 4
def a30r0 : List AOper := [
  { dst := .v 2, kind := .mv, args := [.c (.bool false)] }]
def a30s1 : ACode := .reg [] a30r0
def a30r2 : List AOper := [
  { dst := .t 5, kind := .mv, args := [.v 0] },
  { dst := .t 6, kind := .mv, args := [.v 1] },
  { dst := .t 7, kind := (.call 49), args := [.t 5, .t 6] },
  { dst := .v 2, kind := .mv, args := [.t 7] }]
def a30s3 : ACode := .reg [] a30r2
def a30s4 : ACode := .seq a30s3 .ret
def a30s5 : ACode := .seq a30s1 a30s4
def a30c : ACode :=
  a30s5
def a30 : AFn := { np := 2, nv := 3, results := [.v 2], code := a30c }
def a30v : List Nat := [0, 1, 4]
def a30b : List Nat := []

-- (*columbary/schema.Schema).check: 0, 1, 3, 4, 5, 6, 7, 9, 10, 11, 13, 14, 15, 48, 49, 50, 71, 72, 73
def a31r0 : List AOper := [
  { dst := .bx, kind := .boxV, args := [.v 1], box := some 2 },
  { dst := .bx, kind := (.alloc [.int .i64 0, .str []]), args := [], box := some 3 }]
def a31s1 : ACode := .reg [2, 3] a31r0
def a31r2 : List AOper := [
  { dst := .t 16, kind := (.fad 2), args := [.l 2] },
  { dst := .t 17, kind := (.ldLc 2 false 1), args := [.t 16], box := some 2 },
  { dst := .t 18, kind := (.call 37), args := [.t 17] },
  { dst := .t 19, kind := (.fad 3), args := [.l 2] },
  { dst := .t 20, kind := (.ldLc 2 false 1), args := [.t 19], box := some 2 },
  { dst := .t 21, kind := (.app 1 16), args := [.ts 18, .t 20] },
  { dst := .t 22, kind := (.call 50), args := [.t 21] },
  { dst := .bx, kind := (.alloc [.int .i64 0, .str []]), args := [], box := some 4 },
  { dst := .none, kind := (.stLc 4 2), args := [.l 4, .t 22], box := some 4 }]
def a31s3 : ACode := .reg [4] a31r2
def a31r4 : List AOper := [
  { dst := .t 23, kind := (.fad 0), args := [.l 4] },
  { dst := .t 24, kind := (.ldLc 4 false 1), args := [.t 23], box := some 4 },
  { dst := .t 25, kind := (.bin .neq), args := [.t 24, .c (.int .i64 0)] },
  { dst := .t 26, kind := .mv, args := [.t 25] },
  { dst := .t 27, kind := (.fad 0), args := [.l 2], guard := some (.t 26, true) },
  { dst := .t 28, kind := (.ldLc 2 false 1), args := [.t 27], box := some 2, guard := some (.t 26, true) },
  { dst := .t 29, kind := (.bin .neq), args := [.t 28, .c (.int .u8 1)], guard := some (.t 26, true) },
  { dst := .t 30, kind := .pick, args := [.t 26, .t 29, .c (.bool false)] }]
def a31r5 : List AOper := [
  { dst := .t 31, kind := (.ldLc 4 true 2), args := [.l 4], box := some 4 },
  { dst := .none, kind := (.stLc 3 2), args := [.l 3, .t 31], box := some 3 }]
def a31s6 : ACode := .reg [] a31r5
def a31s7 : ACode := .seq a31s6 .ret
def a31s8 : ACode := .test [] a31r4 (.t 30) a31s7 .skip
def a31s9 : ACode := .seq a31s3 a31s8
def a31r10 : List AOper := [
  { dst := .t 32, kind := (.fad 2), args := [.l 2] },
  { dst := .t 33, kind := (.ldLc 2 false 1), args := [.t 32], box := some 2 },
  { dst := .t 34, kind := (.call 37), args := [.t 33] },
  { dst := .t 35, kind := (.call 50), args := [.t 34] },
  { dst := .bx, kind := (.alloc [.int .i64 0, .str []]), args := [], box := some 5 },
  { dst := .none, kind := (.stLc 5 2), args := [.l 5, .t 35], box := some 5 }]
def a31s11 : ACode := .reg [5] a31r10
def a31r12 : List AOper := [
  { dst := .t 36, kind := (.fad 0), args := [.l 5] },
  { dst := .t 37, kind := (.ldLc 5 false 1), args := [.t 36], box := some 5 },
  { dst := .t 38, kind := (.bin .neq), args := [.t 37, .c (.int .i64 0)] }]
def a31r13 : List AOper := [
  { dst := .t 39, kind := (.ldLc 5 true 2), args := [.l 5], box := some 5 },
  { dst := .none, kind := (.stLc 3 2), args := [.l 3, .t 39], box := some 3 }]
def a31s14 : ACode := .reg [] a31r13
def a31s15 : ACode := .seq a31s14 .ret
def a31s16 : ACode := .test [] a31r12 (.t 38) a31s15 .skip
def a31s17 : ACode := .seq a31s11 a31s16
def a31r18 : List AOper := [
  { dst := .t 40, kind := (.fad 3), args := [.l 2] },
  { dst := .t 41, kind := (.ldLc 2 false 1), args := [.t 40], box := some 2 },
  { dst := .t 42, kind := (.call 50), args := [.t 41] },
  { dst := .bx, kind := (.alloc [.int .i64 0, .str []]), args := [], box := some 6 },
  { dst := .none, kind := (.stLc 6 2), args := [.l 6, .t 42], box := some 6 }]
def a31s19 : ACode := .reg [6] a31r18
def a31r20 : List AOper := [
  { dst := .t 43, kind := (.fad 0), args := [.l 6] },
  { dst := .t 44, kind := (.ldLc 6 false 1), args := [.t 43], box := some 6 },
  { dst := .t 45, kind := (.bin .neq), args := [.t 44, .c (.int .i64 0)] }]
def a31r21 : List AOper := [
  { dst := .t 46, kind := (.ldLc 6 true 2), args := [.l 6], box := some 6 },
  { dst := .none, kind := (.stLc 3 2), args := [.l 3, .t 46], box := some 3 }]
def a31s22 : ACode := .reg [] a31r21
def a31s23 : ACode := .seq a31s22 .ret
def a31s24 : ACode := .test [] a31r20 (.t 45) a31s23 .skip
def a31s25 : ACode := .seq a31s19 a31s24
def a31r26 : List AOper := [
  { dst := .t 47, kind := (.fad 2), args := [.l 2] },
  { dst := .v 13, kind := (.ldLc 2 false 1), args := [.t 47], box := some 2 },
  { dst := .v 14, kind := .lenL, args := [.v 13] },
  { dst := .v 15, kind := .mv, args := [.c (.int .i64 0)] }]
def a31s27 : ACode := .reg [] a31r26
def a31r28 : List AOper := [
  { dst := .t 51, kind := (.bin .lss), args := [.v 15, .v 14] }]
def a31s29 : ACode := .test [] a31r28 (.t 51) .skip (.exit 0)
def a31r30 : List AOper := [
  { dst := .t 52, kind := (.iad 11), args := [.v 13, .v 15] },
  { dst := .t 53, kind := (.ldRo true 11), args := [.t 52] },
  { dst := .bx, kind := (.alloc [.str [], .list true [], .str [], .list true [], .bool false, .bool false, .int .u8 0, .int .i64 0, .str [], .list true [], .list true []]), args := [], box := some 7 },
  { dst := .none, kind := (.stLc 7 11), args := [.l 7, .ts 53], box := some 7 }]
def a31s31 : ACode := .reg [7] a31r30
def a31r32 : List AOper := [
  { dst := .t 54, kind := .mv, args := [.v 0] },
  { dst := .t 55, kind := (.ldLc 7 true 11), args := [.l 7], box := some 7 },
  { dst := .t 56, kind := (.fad 0), args := [.l 2] },
  { dst := .t 57, kind := (.ldLc 2 false 1), args := [.t 56], box := some 2 },
  { dst := .t 58, kind := (.bin .eql), args := [.t 57, .c (.int .u8 5)] },
  { dst := .t 59, kind := (.call 51), args := [.t 54, .t 55, .t 58] },
  { dst := .bx, kind := (.alloc [.int .i64 0, .str []]), args := [], box := some 8 },
  { dst := .none, kind := (.stLc 8 2), args := [.l 8, .t 59], box := some 8 }]
def a31s33 : ACode := .reg [8] a31r32
def a31r34 : List AOper := [
  { dst := .t 60, kind := (.fad 0), args := [.l 8] },
  { dst := .t 61, kind := (.ldLc 8 false 1), args := [.t 60], box := some 8 },
  { dst := .t 62, kind := (.bin .neq), args := [.t 61, .c (.int .i64 0)] }]
def a31r35 : List AOper := [
  { dst := .t 63, kind := (.ldLc 8 true 2), args := [.l 8], box := some 8 },
  { dst := .none, kind := (.stLc 3 2), args := [.l 3, .t 63], box := some 3 }]
def a31s36 : ACode := .reg [] a31r35
def a31s37 : ACode := .seq a31s36 .ret
def a31s38 : ACode := .test [] a31r34 (.t 62) a31s37 .skip
def a31s39 : ACode := .seq a31s33 a31s38
def a31s40 : ACode := .seq a31s31 a31s39
def a31s41 : ACode := .blk 1 a31s40
def a31r42 : List AOper := [
  { dst := .t 64, kind := (.bin .add), args := [.v 15, .c (.int .i64 1)] },
  { dst := .v 15, kind := .mv, args := [.t 64] }]
def a31s43 : ACode := .reg [] a31r42
def a31s44 : ACode := .seq a31s41 a31s43
def a31s45 : ACode := .seq a31s29 a31s44
def a31s46 : ACode := .loop a31s45
def a31s47 : ACode := .blk 0 a31s46
def a31s48 : ACode := .seq a31s27 a31s47
def a31r49 : List AOper := [
  { dst := .t 65, kind := .mkM, args := [] },
  { dst := .none, kind := (.mset 0), args := [.t 65, .c (.int .u8 1), .c (.int .u8 2)] },
  { dst := .none, kind := (.mset 0), args := [.t 65, .c (.int .u8 3), .c (.int .u8 1)] },
  { dst := .t 66, kind := .mv, args := [.t 65] },
  { dst := .t 67, kind := (.fad 0), args := [.l 2] },
  { dst := .t 68, kind := (.ldLc 2 false 1), args := [.t 67], box := some 2 },
  { dst := .t 69, kind := (.mget 0 [.int .u8 0] false false), args := [.t 66, .t 68] },
  { dst := .v 9, kind := .mv, args := [.t 69] }]
def a31s50 : ACode := .reg [] a31r49
def a31r51 : List AOper := [
  { dst := .t 70, kind := (.fad 3), args := [.l 2] },
  { dst := .v 16, kind := (.ldLc 2 false 1), args := [.t 70], box := some 2 },
  { dst := .v 17, kind := .lenL, args := [.v 16] },
  { dst := .v 18, kind := .mv, args := [.c (.int .i64 0)] }]
def a31s52 : ACode := .reg [] a31r51
def a31r53 : List AOper := [
  { dst := .t 74, kind := (.bin .lss), args := [.v 18, .v 17] }]
def a31s54 : ACode := .test [] a31r53 (.t 74) .skip (.exit 2)
def a31r55 : List AOper := [
  { dst := .t 75, kind := (.iad 1), args := [.v 16, .v 18] },
  { dst := .t 76, kind := (.ldRo false 1), args := [.t 75] },
  { dst := .v 10, kind := .mv, args := [.t 76] }]
def a31s56 : ACode := .reg [] a31r55
def a31r57 : List AOper := [
  { dst := .t 78, kind := .mv, args := [.v 0] },
  { dst := .t 79, kind := .mv, args := [.v 10] },
  { dst := .t 80, kind := (.call 15), args := [.t 78, .t 79] },
  { dst := .t 77, kind := .mv, args := [.t 80] },
  { dst := .t 81, kind := (.ext 0), args := [.t 77] },
  { dst := .t 82, kind := (.ext 1), args := [.t 77] },
  { dst := .bx, kind := (.alloc [.int .u8 0, .str [], .list true [], .list true []]), args := [], box := some 11 },
  { dst := .none, kind := (.stLc 11 4), args := [.l 11, .ts 81], box := some 11 },
  { dst := .v 12, kind := .mv, args := [.t 82] }]
def a31s58 : ACode := .reg [11] a31r57
def a31r59 : List AOper := [
  { dst := .t 84, kind := (.fad 0), args := [.l 2] },
  { dst := .t 85, kind := (.ldLc 2 false 1), args := [.t 84], box := some 2 },
  { dst := .t 86, kind := (.bin .eql), args := [.t 85, .c (.int .u8 4)] },
  { dst := .t 83, kind := .mv, args := [.t 86] }]
def a31r60 : List AOper := [
  { dst := .t 88, kind := .mv, args := [.v 12] },
  { dst := .t 89, kind := (.un .not), args := [.t 88] },
  { dst := .t 87, kind := .mv, args := [.t 89] }]
def a31r61 : List AOper := [
  { dst := .t 90, kind := .mv, args := [.v 10] },
  { dst := .t 91, kind := (.build [.int .i64 0, .str []] [(0, 1), (1, 1)]), args := [.c (.int .i64 6), .t 90] },
  { dst := .none, kind := (.stLc 3 2), args := [.l 3, .t 91], box := some 3 }]
def a31s62 : ACode := .reg [] a31r61
def a31s63 : ACode := .seq a31s62 .ret
def a31r64 : List AOper := [
  { dst := .t 93, kind := (.fad 0), args := [.l 11] },
  { dst := .t 94, kind := (.ldLc 11 false 1), args := [.t 93], box := some 11 },
  { dst := .t 95, kind := .mv, args := [.v 9] },
  { dst := .t 96, kind := (.bin .neq), args := [.t 94, .t 95] },
  { dst := .t 97, kind := .mv, args := [.t 96] },
  { dst := .t 98, kind := .mv, args := [.v 10], guard := some (.t 97, false) },
  { dst := .t 99, kind := (.call 34), args := [.t 98], guard := some (.t 97, false) },
  { dst := .t 100, kind := .pick, args := [.t 97, .c (.bool true), .t 99] },
  { dst := .t 92, kind := .mv, args := [.t 100] }]
def a31r65 : List AOper := [
  { dst := .t 101, kind := .mv, args := [.v 10] },
  { dst := .t 102, kind := (.build [.int .i64 0, .str []] [(0, 1), (1, 1)]), args := [.c (.int .i64 8), .t 101] },
  { dst := .none, kind := (.stLc 3 2), args := [.l 3, .t 102], box := some 3 }]
def a31s66 : ACode := .reg [] a31r65
def a31s67 : ACode := .seq a31s66 .ret
def a31r68 : List AOper := [
  { dst := .t 104, kind := (.fad 0), args := [.l 2] },
  { dst := .t 105, kind := (.ldLc 2 false 1), args := [.t 104], box := some 2 },
  { dst := .t 106, kind := (.bin .eql), args := [.t 105, .c (.int .u8 1)] },
  { dst := .t 107, kind := .mv, args := [.t 106] },
  { dst := .t 108, kind := .mv, args := [.v 0], guard := some (.t 107, true) },
  { dst := .t 109, kind := (.ldLc 2 true 4), args := [.l 2], box := some 2, guard := some (.t 107, true) },
  { dst := .t 110, kind := (.ldLc 11 true 4), args := [.l 11], box := some 11, guard := some (.t 107, true) },
  { dst := .t 111, kind := (.call 52), args := [.t 108, .t 109, .t 110], guard := some (.t 107, true) },
  { dst := .t 112, kind := (.un .not), args := [.t 111], guard := some (.t 107, true) },
  { dst := .t 113, kind := .pick, args := [.t 107, .t 112, .c (.bool false)] },
  { dst := .t 103, kind := .mv, args := [.t 113] }]
def a31r69 : List AOper := [
  { dst := .t 114, kind := .mv, args := [.v 10] },
  { dst := .t 115, kind := (.build [.int .i64 0, .str []] [(0, 1), (1, 1)]), args := [.c (.int .i64 3), .t 114] },
  { dst := .none, kind := (.stLc 3 2), args := [.l 3, .t 115], box := some 3 }]
def a31s70 : ACode := .reg [] a31r69
def a31s71 : ACode := .seq a31s70 .ret
def a31s72 : ACode := .test [] a31r68 (.t 103) a31s71 .skip
def a31s73 : ACode := .test [] a31r64 (.t 92) a31s67 a31s72
def a31s74 : ACode := .test [] a31r60 (.t 87) a31s63 a31s73
def a31s75 : ACode := .test [] a31r59 (.t 83) .skip a31s74
def a31s76 : ACode := .blk 4 a31s75
def a31s77 : ACode := .seq a31s58 a31s76
def a31s78 : ACode := .seq a31s56 a31s77
def a31s79 : ACode := .blk 3 a31s78
def a31r80 : List AOper := [
  { dst := .t 116, kind := (.bin .add), args := [.v 18, .c (.int .i64 1)] },
  { dst := .v 18, kind := .mv, args := [.t 116] }]
def a31s81 : ACode := .reg [] a31r80
def a31s82 : ACode := .seq a31s79 a31s81
def a31s83 : ACode := .seq a31s54 a31s82
def a31s84 : ACode := .loop a31s83
def a31s85 : ACode := .blk 2 a31s84
def a31s86 : ACode := .seq a31s52 a31s85
def a31r87 : List AOper := [
  { dst := .t 117, kind := (.build [.int .i64 0, .str []] []), args := [] },
  { dst := .none, kind := (.stLc 3 2), args := [.l 3, .t 117], box := some 3 }]
def a31s88 : ACode := .reg [] a31r87
def a31s89 : ACode := .seq a31s88 .ret
def a31s90 : ACode := .seq a31s86 a31s89
def a31s91 : ACode := .seq a31s50 a31s90
def a31s92 : ACode := .seq a31s48 a31s91
def a31s93 : ACode := .seq a31s25 a31s92
def a31s94 : ACode := .seq a31s17 a31s93
def a31s95 : ACode := .seq a31s9 a31s94
def a31s96 : ACode := .seq a31s1 a31s95
def a31c : ACode :=
  a31s96
def a31 : AFn := { np := 2, nv := 19, results := [.bx 3 true 2], code := a31c }
def a31v : List Nat := [0, 1, 3, 4, 5, 6, 7, 9, 10, 11, 13, 14, 15, 48, 49, 50, 71, 72, 73]
def a31b : List Nat := [2, 3, 4, 5, 6, 7, 8, 11]

-- (*columbary/schema.Schema).roles: 0, 1, 3, 4, 6, 7, 18, 19, 20, 29
def a32r0 : List AOper := [
  { dst := .bx, kind := .boxV, args := [.v 1], box := some 2 },
  { dst := .bx, kind := (.alloc [.int .i64 0, .str []]), args := [], box := some 3 }]
def a32s1 : ACode := .reg [2, 3] a32r0
def a32r2 : List AOper := [
  { dst := .t 8, kind := (.fad 0), args := [.l 2] },
  { dst := .t 9, kind := (.ldLc 2 false 1), args := [.t 8], box := some 2 },
  { dst := .t 10, kind := (.bin .neq), args := [.t 9, .c (.int .u8 1)] },
  { dst := .t 11, kind := .mv, args := [.t 10] },
  { dst := .t 12, kind := (.fad 0), args := [.l 2], guard := some (.t 11, true) },
  { dst := .t 13, kind := (.ldLc 2 false 1), args := [.t 12], box := some 2, guard := some (.t 11, true) },
  { dst := .t 14, kind := (.bin .neq), args := [.t 13, .c (.int .u8 2)], guard := some (.t 11, true) },
  { dst := .t 15, kind := .pick, args := [.t 11, .t 14, .c (.bool false)] }]
def a32r3 : List AOper := [
  { dst := .t 16, kind := (.build [.int .i64 0, .str []] []), args := [] },
  { dst := .none, kind := (.stLc 3 2), args := [.l 3, .t 16], box := some 3 }]
def a32s4 : ACode := .reg [] a32r3
def a32s5 : ACode := .seq a32s4 .ret
def a32s6 : ACode := .test [] a32r2 (.t 15) a32s5 .skip
def a32r7 : List AOper := [
  { dst := .t 17, kind := (.fad 2), args := [.l 2] },
  { dst := .v 6, kind := (.ldLc 2 false 1), args := [.t 17], box := some 2 },
  { dst := .v 7, kind := .lenL, args := [.v 6] },
  { dst := .v 8, kind := .mv, args := [.c (.int .i64 0)] }]
def a32s8 : ACode := .reg [] a32r7
def a32r9 : List AOper := [
  { dst := .t 21, kind := (.bin .lss), args := [.v 8, .v 7] }]
def a32s10 : ACode := .test [] a32r9 (.t 21) .skip (.exit 0)
def a32r11 : List AOper := [
  { dst := .t 22, kind := (.iad 11), args := [.v 6, .v 8] },
  { dst := .t 23, kind := (.ldRo true 11), args := [.t 22] },
  { dst := .bx, kind := (.alloc [.str [], .list true [], .str [], .list true [], .bool false, .bool false, .int .u8 0, .int .i64 0, .str [], .list true [], .list true []]), args := [], box := some 4 },
  { dst := .none, kind := (.stLc 4 11), args := [.l 4, .ts 23], box := some 4 }]
def a32s12 : ACode := .reg [4] a32r11
def a32r13 : List AOper := [
  { dst := .t 24, kind := (.fad 1), args := [.l 4] },
  { dst := .t 25, kind := (.ldLc 4 false 1), args := [.t 24], box := some 4 },
  { dst := .t 26, kind := .lenL, args := [.t 25] },
  { dst := .t 27, kind := (.bin .eql), args := [.t 26, .c (.int .i64 0)] },
  { dst := .v 5, kind := .mv, args := [.t 27] }]
def a32s14 : ACode := .reg [] a32r13
def a32r15 : List AOper := [
  { dst := .t 28, kind := (.fad 1), args := [.l 2] },
  { dst := .v 9, kind := (.ldLc 2 false 1), args := [.t 28], box := some 2 }]
def a32s16 : ACode := .reg [] a32r15
def a32r17 : List AOper := [
  { dst := .t 31, kind := (.bin .eql), args := [.v 9, .c (.str [81, 117, 101, 114, 121])] },
  { dst := .t 30, kind := .mv, args := [.t 31] }]
def a32r18 : List AOper := [
  { dst := .t 32, kind := .mv, args := [.v 0] },
  { dst := .t 33, kind := (.ldLc 4 true 11), args := [.l 4], box := some 4 },
  { dst := .t 34, kind := (.call 53), args := [.t 32, .t 33] },
  { dst := .t 35, kind := .mv, args := [.t 34] },
  { dst := .t 36, kind := .mv, args := [.v 0], guard := some (.t 35, false) },
  { dst := .t 37, kind := (.ldLc 4 true 11), args := [.l 4], box := some 4, guard := some (.t 35, false) },
  { dst := .t 38, kind := (.call 54), args := [.t 36, .t 37], guard := some (.t 35, false) },
  { dst := .t 39, kind := .pick, args := [.t 35, .c (.bool true), .t 38] },
  { dst := .v 5, kind := .mv, args := [.t 39] }]
def a32s19 : ACode := .reg [] a32r18
def a32r20 : List AOper := [
  { dst := .t 41, kind := (.bin .eql), args := [.v 9, .c (.str [77, 117, 116, 97, 116, 105, 111, 110])] },
  { dst := .t 40, kind := .mv, args := [.t 41] }]
def a32r21 : List AOper := [
  { dst := .t 42, kind := (.fad 0), args := [.l 2] },
  { dst := .t 43, kind := (.ldLc 2 false 1), args := [.t 42], box := some 2 },
  { dst := .t 44, kind := (.bin .eql), args := [.t 43, .c (.int .u8 1)] },
  { dst := .t 45, kind := .mv, args := [.t 44] },
  { dst := .t 46, kind := .mv, args := [.v 0], guard := some (.t 45, true) },
  { dst := .t 47, kind := (.ldLc 4 true 11), args := [.l 4], box := some 4, guard := some (.t 45, true) },
  { dst := .t 48, kind := (.call 55), args := [.t 46, .t 47], guard := some (.t 45, true) },
  { dst := .t 49, kind := .pick, args := [.t 45, .t 48, .c (.bool false)] },
  { dst := .v 5, kind := .mv, args := [.t 49] }]
def a32s22 : ACode := .reg [] a32r21
def a32s23 : ACode := .test [] a32r20 (.t 40) a32s22 .skip
def a32s24 : ACode := .test [] a32r17 (.t 30) a32s19 a32s23
def a32s25 : ACode := .blk 2 a32s24
def a32s26 : ACode := .seq a32s16 a32s25
def a32r27 : List AOper := [
  { dst := .t 50, kind := .mv, args := [.v 5] },
  { dst := .t 51, kind := (.un .not), args := [.t 50] }]
def a32r28 : List AOper := [
  { dst := .t 52, kind := (.fad 0), args := [.l 4] },
  { dst := .t 53, kind := (.ldLc 4 false 1), args := [.t 52], box := some 4 },
  { dst := .t 54, kind := (.build [.int .i64 0, .str []] [(0, 1), (1, 1)]), args := [.c (.int .i64 3), .t 53] },
  { dst := .none, kind := (.stLc 3 2), args := [.l 3, .t 54], box := some 3 }]
def a32s29 : ACode := .reg [] a32r28
def a32s30 : ACode := .seq a32s29 .ret
def a32s31 : ACode := .test [] a32r27 (.t 51) a32s30 .skip
def a32s32 : ACode := .seq a32s26 a32s31
def a32s33 : ACode := .seq a32s14 a32s32
def a32s34 : ACode := .seq a32s12 a32s33
def a32s35 : ACode := .blk 1 a32s34
def a32r36 : List AOper := [
  { dst := .t 55, kind := (.bin .add), args := [.v 8, .c (.int .i64 1)] },
  { dst := .v 8, kind := .mv, args := [.t 55] }]
def a32s37 : ACode := .reg [] a32r36
def a32s38 : ACode := .seq a32s35 a32s37
def a32s39 : ACode := .seq a32s10 a32s38
def a32s40 : ACode := .loop a32s39
def a32s41 : ACode := .blk 0 a32s40
def a32s42 : ACode := .seq a32s8 a32s41
def a32r43 : List AOper := [
  { dst := .t 56, kind := (.build [.int .i64 0, .str []] []), args := [] },
  { dst := .none, kind := (.stLc 3 2), args := [.l 3, .t 56], box := some 3 }]
def a32s44 : ACode := .reg [] a32r43
def a32s45 : ACode := .seq a32s44 .ret
def a32s46 : ACode := .seq a32s42 a32s45
def a32s47 : ACode := .seq a32s6 a32s46
def a32s48 : ACode := .seq a32s1 a32s47
def a32c : ACode :=
  a32s48
def a32 : AFn := { np := 2, nv := 10, results := [.bx 3 true 2], code := a32c }
def a32v : List Nat := [0, 1, 3, 4, 6, 7, 18, 19, 20, 29]
def a32b : List Nat := [2, 3, 4]

-- slices.Clone[[]string,string]
def a33 : AFn := { np := 1, nv := 0, results := [], code := .skip, ext := some (cloneX 1 16) }
-- columbary/schema.root: 0, 2
def a34r0 : List AOper := [
  { dst := .v 1, kind := .mv, args := [.c (.bool false)] }]
def a34s1 : ACode := .reg [] a34r0
def a34r2 : List AOper := [
  { dst := .t 3, kind := .mv, args := [.v 0] },
  { dst := .t 4, kind := (.bin .eql), args := [.t 3, .c (.str [81, 117, 101, 114, 121])] },
  { dst := .t 5, kind := .mv, args := [.t 4] },
  { dst := .t 6, kind := .mv, args := [.v 0], guard := some (.t 5, false) },
  { dst := .t 7, kind := (.bin .eql), args := [.t 6, .c (.str [77, 117, 116, 97, 116, 105, 111, 110])], guard := some (.t 5, false) },
  { dst := .t 8, kind := .pick, args := [.t 5, .c (.bool true), .t 7] },
  { dst := .v 1, kind := .mv, args := [.t 8] }]
def a34s3 : ACode := .reg [] a34r2
def a34s4 : ACode := .seq a34s3 .ret
def a34s5 : ACode := .seq a34s1 a34s4
def a34c : ACode :=
  a34s5
def a34 : AFn := { np := 1, nv := 2, results := [.v 1], code := a34c }
def a34v : List Nat := [0, 2]
def a34b : List Nat := []

-- (*columbary/schema.Schema).kind: 0, 1, 2, 6, 7, 8
def a35r0 : List AOper := [
  { dst := .v 3, kind := .mv, args := [.c (.bool false)] }]
def a35s1 : ACode := .reg [] a35r0
def a35r2 : List AOper := [
  { dst := .t 10, kind := .mv, args := [.v 0] },
  { dst := .t 11, kind := .mv, args := [.v 1] },
  { dst := .t 12, kind := (.call 15), args := [.t 10, .t 11] },
  { dst := .t 9, kind := .mv, args := [.t 12] },
  { dst := .t 13, kind := (.ext 0), args := [.t 9] },
  { dst := .t 14, kind := (.ext 1), args := [.t 9] },
  { dst := .bx, kind := (.alloc [.int .u8 0, .str [], .list true [], .list true []]), args := [], box := some 4 },
  { dst := .none, kind := (.stLc 4 4), args := [.l 4, .ts 13], box := some 4 },
  { dst := .v 5, kind := .mv, args := [.t 14] }]
def a35s3 : ACode := .reg [4] a35r2
def a35r4 : List AOper := [
  { dst := .t 15, kind := .mv, args := [.v 5] },
  { dst := .t 16, kind := .mv, args := [.t 15] },
  { dst := .t 17, kind := (.fad 0), args := [.l 4], guard := some (.t 16, true) },
  { dst := .t 18, kind := (.ldLc 4 false 1), args := [.t 17], box := some 4, guard := some (.t 16, true) },
  { dst := .t 19, kind := .mv, args := [.v 2], guard := some (.t 16, true) },
  { dst := .t 20, kind := (.bin .eql), args := [.t 18, .t 19], guard := some (.t 16, true) },
  { dst := .t 21, kind := .pick, args := [.t 16, .t 20, .c (.bool false)] },
  { dst := .v 3, kind := .mv, args := [.t 21] }]
def a35s5 : ACode := .reg [] a35r4
def a35s6 : ACode := .seq a35s5 .ret
def a35s7 : ACode := .seq a35s3 a35s6
def a35s8 : ACode := .seq a35s1 a35s7
def a35c : ACode :=
  a35s8
def a35 : AFn := { np := 3, nv := 6, results := [.v 3], code := a35c }
def a35v : List Nat := [0, 1, 2, 6, 7, 8]
def a35b : List Nat := [4]

-- slices.Index[[]string,string]: 0, 1, 4, 5, 7, 8
def a36r0 : List AOper := [
  { dst := .v 2, kind := .mv, args := [.c (.int .i64 0)] }]
def a36s1 : ACode := .reg [] a36r0
def a36r2 : List AOper := [
  { dst := .t 6, kind := .mv, args := [.v 0] },
  { dst := .v 4, kind := .lenL, args := [.t 6] },
  { dst := .v 5, kind := .mv, args := [.c (.int .i64 0)] }]
def a36s3 : ACode := .reg [] a36r2
def a36r4 : List AOper := [
  { dst := .t 9, kind := (.bin .lss), args := [.v 5, .v 4] }]
def a36s5 : ACode := .test [] a36r4 (.t 9) .skip (.exit 0)
def a36r6 : List AOper := [
  { dst := .t 10, kind := .mv, args := [.v 5] },
  { dst := .v 3, kind := .mv, args := [.t 10] }]
def a36s7 : ACode := .reg [] a36r6
def a36r8 : List AOper := [
  { dst := .t 11, kind := .mv, args := [.v 1] },
  { dst := .t 12, kind := .mv, args := [.v 0] },
  { dst := .t 13, kind := .mv, args := [.v 3] },
  { dst := .t 14, kind := (.iad 1), args := [.t 12, .t 13] },
  { dst := .t 15, kind := (.ldRo false 1), args := [.t 14] },
  { dst := .t 16, kind := (.bin .eql), args := [.t 11, .t 15] }]
def a36r9 : List AOper := [
  { dst := .t 17, kind := .mv, args := [.v 3] },
  { dst := .v 2, kind := .mv, args := [.t 17] }]
def a36s10 : ACode := .reg [] a36r9
def a36s11 : ACode := .seq a36s10 .ret
def a36s12 : ACode := .test [] a36r8 (.t 16) a36s11 .skip
def a36s13 : ACode := .seq a36s7 a36s12
def a36s14 : ACode := .blk 1 a36s13
def a36r15 : List AOper := [
  { dst := .t 18, kind := (.bin .add), args := [.v 5, .c (.int .i64 1)] },
  { dst := .v 5, kind := .mv, args := [.t 18] }]
def a36s16 : ACode := .reg [] a36r15
def a36s17 : ACode := .seq a36s14 a36s16
def a36s18 : ACode := .seq a36s5 a36s17
def a36s19 : ACode := .loop a36s18
def a36s20 : ACode := .blk 0 a36s19
def a36s21 : ACode := .seq a36s3 a36s20
def a36r22 : List AOper := [
  { dst := .v 2, kind := .mv, args := [.c (.int .i64 (-1))] }]
def a36s23 : ACode := .reg [] a36r22
def a36s24 : ACode := .seq a36s23 .ret
def a36s25 : ACode := .seq a36s21 a36s24
def a36s26 : ACode := .seq a36s1 a36s25
def a36c : ACode :=
  a36s26
def a36 : AFn := { np := 2, nv := 6, results := [.v 2], code := a36c }
def a36v : List Nat := [0, 1, 4, 5, 7, 8]
def a36b : List Nat := []

-- columbary/schema.list: 0, 2, 3, 5, 6, 7, 8
def a37r0 : List AOper := [
  { dst := .v 1, kind := .mv, args := [.c (.list true [])] }]
def a37s1 : ACode := .reg [] a37r0
def a37r2 : List AOper := [
  { dst := .v 2, kind := .mv, args := [.c (.list true [])] }]
def a37s3 : ACode := .reg [] a37r2
def a37r4 : List AOper := [
  { dst := .v 4, kind := .mv, args := [.v 0] },
  { dst := .v 5, kind := .lenL, args := [.v 4] },
  { dst := .v 6, kind := .mv, args := [.c (.int .i64 0)] }]
def a37s5 : ACode := .reg [] a37r4
def a37r6 : List AOper := [
  { dst := .t 9, kind := (.bin .lss), args := [.v 6, .v 5] }]
def a37s7 : ACode := .test [] a37r6 (.t 9) .skip (.exit 0)
def a37r8 : List AOper := [
  { dst := .t 10, kind := (.iad 11), args := [.v 4, .v 6] },
  { dst := .t 11, kind := (.ldRo true 11), args := [.t 10] },
  { dst := .bx, kind := (.alloc [.str [], .list true [], .str [], .list true [], .bool false, .bool false, .int .u8 0, .int .i64 0, .str [], .list true [], .list true []]), args := [], box := some 3 },
  { dst := .none, kind := (.stLc 3 11), args := [.l 3, .ts 11], box := some 3 }]
def a37s9 : ACode := .reg [3] a37r8
def a37r10 : List AOper := [
  { dst := .t 12, kind := .mv, args := [.vs 2] },
  { dst := .t 13, kind := (.fad 0), args := [.l 3] },
  { dst := .t 14, kind := (.ldLc 3 false 1), args := [.t 13], box := some 3 },
  { dst := .t 15, kind := (.bslice 1 [[.str []]] [0]), args := [.t 14] },
  { dst := .t 16, kind := (.app 1 16), args := [.ts 12, .t 15] },
  { dst := .v 2, kind := .mv, args := [.ts 16] }]
def a37s11 : ACode := .reg [] a37r10
def a37s12 : ACode := .seq a37s9 a37s11
def a37s13 : ACode := .blk 1 a37s12
def a37r14 : List AOper := [
  { dst := .t 17, kind := (.bin .add), args := [.v 6, .c (.int .i64 1)] },
  { dst := .v 6, kind := .mv, args := [.t 17] }]
def a37s15 : ACode := .reg [] a37r14
def a37s16 : ACode := .seq a37s13 a37s15
def a37s17 : ACode := .seq a37s7 a37s16
def a37s18 : ACode := .loop a37s17
def a37s19 : ACode := .blk 0 a37s18
def a37s20 : ACode := .seq a37s5 a37s19
def a37r21 : List AOper := [
  { dst := .t 18, kind := .mv, args := [.vs 2] },
  { dst := .v 1, kind := .mv, args := [.ts 18] }]
def a37s22 : ACode := .reg [] a37r21
def a37s23 : ACode := .seq a37s22 .ret
def a37s24 : ACode := .seq a37s20 a37s23
def a37s25 : ACode := .seq a37s3 a37s24
def a37s26 : ACode := .seq a37s1 a37s25
def a37c : ACode :=
  a37s26
def a37 : AFn := { np := 1, nv := 7, results := [.vs 1], code := a37c }
def a37v : List Nat := [0, 2, 3, 5, 6, 7, 8]
def a37b : List Nat := [3]

-- slices.EqualFunc[[]columbary/api.TypeRef,[]columbary/api.TypeRef,columbary/api.TypeRef,columbary/api.TypeRef]: 0, 1, 2, 6, 7, 8, 9, 15, 16, 17
def a38r0 : List AOper := [
  { dst := .v 3, kind := .mv, args := [.c (.bool false)] }]
def a38s1 : ACode := .reg [] a38r0
def a38r2 : List AOper := [
  { dst := .t 10, kind := .mv, args := [.v 0] },
  { dst := .t 11, kind := .lenL, args := [.t 10] },
  { dst := .t 12, kind := .mv, args := [.v 1] },
  { dst := .t 13, kind := .lenL, args := [.t 12] },
  { dst := .t 14, kind := (.bin .neq), args := [.t 11, .t 13] }]
def a38r3 : List AOper := [
  { dst := .v 3, kind := .mv, args := [.c (.bool false)] }]
def a38s4 : ACode := .reg [] a38r3
def a38s5 : ACode := .seq a38s4 .ret
def a38s6 : ACode := .test [] a38r2 (.t 14) a38s5 .skip
def a38r7 : List AOper := [
  { dst := .v 7, kind := .mv, args := [.v 0] },
  { dst := .v 8, kind := .lenL, args := [.v 7] },
  { dst := .v 9, kind := .mv, args := [.c (.int .i64 0)] }]
def a38s8 : ACode := .reg [] a38r7
def a38r9 : List AOper := [
  { dst := .t 18, kind := (.bin .lss), args := [.v 9, .v 8] }]
def a38s10 : ACode := .test [] a38r9 (.t 18) .skip (.exit 0)
def a38r11 : List AOper := [
  { dst := .t 19, kind := .mv, args := [.v 9] },
  { dst := .t 20, kind := (.iad 3), args := [.v 7, .v 9] },
  { dst := .t 21, kind := (.ldRo true 3), args := [.t 20] },
  { dst := .bx, kind := (.alloc [.str [], .list true [], .bool false]), args := [], box := some 5 },
  { dst := .v 4, kind := .mv, args := [.t 19] },
  { dst := .none, kind := (.stLc 5 3), args := [.l 5, .ts 21], box := some 5 }]
def a38s12 : ACode := .reg [5] a38r11
def a38r13 : List AOper := [
  { dst := .t 22, kind := .mv, args := [.v 1] },
  { dst := .t 23, kind := .mv, args := [.v 4] },
  { dst := .t 24, kind := (.iad 3), args := [.t 22, .t 23] },
  { dst := .t 25, kind := (.ldRo true 3), args := [.t 24] },
  { dst := .bx, kind := (.alloc [.str [], .list true [], .bool false]), args := [], box := some 6 },
  { dst := .none, kind := (.stLc 6 3), args := [.l 6, .ts 25], box := some 6 }]
def a38s14 : ACode := .reg [6] a38r13
def a38r15 : List AOper := [
  { dst := .t 26, kind := .mv, args := [.v 2] },
  { dst := .t 27, kind := (.ldLc 5 true 3), args := [.l 5], box := some 5 },
  { dst := .t 28, kind := (.ldLc 6 true 3), args := [.l 6], box := some 6 },
  { dst := .t 29, kind := .callV, args := [.t 26, .t 27, .t 28] },
  { dst := .t 30, kind := (.un .not), args := [.t 29] }]
def a38r16 : List AOper := [
  { dst := .v 3, kind := .mv, args := [.c (.bool false)] }]
def a38s17 : ACode := .reg [] a38r16
def a38s18 : ACode := .seq a38s17 .ret
def a38s19 : ACode := .test [] a38r15 (.t 30) a38s18 .skip
def a38s20 : ACode := .seq a38s14 a38s19
def a38s21 : ACode := .seq a38s12 a38s20
def a38s22 : ACode := .blk 1 a38s21
def a38r23 : List AOper := [
  { dst := .t 31, kind := (.bin .add), args := [.v 9, .c (.int .i64 1)] },
  { dst := .v 9, kind := .mv, args := [.t 31] }]
def a38s24 : ACode := .reg [] a38r23
def a38s25 : ACode := .seq a38s22 a38s24
def a38s26 : ACode := .seq a38s10 a38s25
def a38s27 : ACode := .loop a38s26
def a38s28 : ACode := .blk 0 a38s27
def a38s29 : ACode := .seq a38s8 a38s28
def a38r30 : List AOper := [
  { dst := .v 3, kind := .mv, args := [.c (.bool true)] }]
def a38s31 : ACode := .reg [] a38r30
def a38s32 : ACode := .seq a38s31 .ret
def a38s33 : ACode := .seq a38s29 a38s32
def a38s34 : ACode := .seq a38s6 a38s33
def a38s35 : ACode := .seq a38s1 a38s34
def a38c : ACode :=
  a38s35
def a38 : AFn := { np := 3, nv := 10, results := [.v 3], code := a38c }
def a38v : List Nat := [0, 1, 2, 6, 7, 8, 9, 15, 16, 17]
def a38b : List Nat := [5, 6]

end Go.Cb.CodeA
