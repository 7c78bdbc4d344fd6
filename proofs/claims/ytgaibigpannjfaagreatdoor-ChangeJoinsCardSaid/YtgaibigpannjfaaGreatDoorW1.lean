import Derived.Test.YtgaibigpannjfaaGreatDoorXs1
import Derived.Test.YtgaibigpannjfaaGreatDoorWH
set_option maxRecDepth 20000
set_option linter.all false
namespace Go.Cb.CodeA
open Go Go.Cb
open Nat renaming reduceAdd→rA,reduceSub→rS,reduceLeDiff→rL,reduceEqDiff→rE
attribute [local congr] F2 H7 J0 I8 G6 G7 M4 M5 V.runR_congr
theorem a2A (e:Ent) (es:List Ent) (id:List Nat):n9 (e::es) id=if m9 e.id id then n9 es id else if eqN e.id id then some e else none:=by
 unfold n9;cases h:m9 e.id id with
 | true=>rw[(a5Q h es).1,(a5Q h es).2,if_pos rfl,List.getElem?_cons_succ]
 | false =>rw[(a6b h es).1,(a6b h es).2];cases eqN e.id id<;>rfl
theorem Y9 (x:Ent):∀ es:List Ent,n9 (i8 es x) x.id=some x
 | []=>by rw[a5A,a2A,a02,if_neg (by decide),X8,if_pos rfl]
 | e::es=>by
  rw[a4y];split
  · rename_i h; rw[a2A,if_pos h]; exact Y9 x es
  · split
    · rw[a2A,a02,if_neg (by decide),X8,if_pos rfl]
    · rw[a2A,a02,if_neg (by decide),X8,if_pos rfl]
theorem a4A (es:List Ent) (id:List Nat):C4 id es=(n9 es id).isSome:=by
 unfold n9;cases h:C4 id es with
 | false=>rfl
 | true=>rw[if_pos rfl,List.getElem?_eq_getElem (a3t h)]; rfl
theorem w32 {m:Int} (hm:MOK m):D9 .i32 m=m:=by
 have i:=a7v hm.1 hm.2;cases m with
 | ofNat k=>show(if Nat.blt k 2147483648 then Int.ofNat k else IntKind.i32.wrap (.ofNat k))=_; rw[i]; exact ite_self _
 | negSucc k=>show(if Nat.blt k 2147483648 then Int.negSucc k else IntKind.i32.wrap (.negSucc k))=_; rw[i]; exact ite_self _
theorem w64 {m:Int} (hm:MOK m):D9 .i64 m=m:=a1q (by have:=hm.1; omega) (by have:=hm.2; omega)
theorem d6C {m:Int} (hm:MOK m) {a b c d e f g h z:AV} {o1 o2:Bool} {st:St}:XC e7 a127s22 [a,b,c,d,e,.box [.int .u8 1,.int .i64 m,.str [],.list o1 [],.list o2 []],f,g,h,z] st (.normal,[a,b,c,d,e,.box [.int .u8 1,.int .i64 m,.str [],.list o1 [],.list o2 []],.bool true,g,h,z],st):=by
 have w:WC (fun k=>exec (m6 e7 k) k a127s22 [a,b,c,d,e,.box [.int .u8 1,.int .i64 m,.str [],.list o1 [],.list o2 []],f,g,h,z] st) (fun o=>o=(.normal,[a,b,c,d,e,.box [.int .u8 1,.int .i64 m,.str [],.list o1 [],.list o2 []],.bool true,g,h,z],st)):=by simp +contextual -implicitDefEqProofs only [e3A,SS,rA,rS,rL,rE,reduceCtorEq,w32 hm,w64 hm,eqI_eq,beq_self_eq_true];exact wd rfl
 obtain⟨k,o,h,rfl⟩:=w;exact⟨k,h k (Nat.le_refl k)⟩
end Go.Cb.CodeA
