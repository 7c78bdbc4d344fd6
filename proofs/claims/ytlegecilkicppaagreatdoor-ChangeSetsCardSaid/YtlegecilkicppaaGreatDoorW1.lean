import Derived.Test.YtlegecilkicppaaGreatDoorX7
import Derived.Test.YtlegecilkicppaaGreatDoorWH
set_option maxRecDepth 20000
set_option linter.all false
namespace Go.Cb.CodeA
open Go Go.Cb
open Nat renaming reduceAdd→rA,reduceSub→rS,reduceLeDiff→rL,reduceEqDiff→rE
attribute [local congr] F1 H7 L1 K5 H5 H1 O7 N7 V.runR_congr
theorem a1E (e:Ent) (es:List Ent) (id:List Nat):O3 (e::es) id=if l6 e.id id then O3 es id else if eqN e.id id then some e else none:=by
 unfold O3;cases h:l6 e.id id with
 | true=>rw[(a4H h es).1,(a4H h es).2,if_pos rfl,List.getElem?_cons_succ]
 | false =>rw[(a4M h es).1,(a4M h es).2];cases eqN e.id id<;>rfl
theorem a1M (x:Ent):∀ es:List Ent,O3 (x9 es x) x.id=some x
 | []=>by rw[a1S,a1E,a0o,if_neg (by decide),q7,if_pos rfl]
 | e::es=>by
  rw[a05];split
  · rename_i h; rw[a1E,if_pos h]; exact a1M x es
  · split
    · rw[a1E,a0o,if_neg (by decide),q7,if_pos rfl]
    · rw[a1E,a0o,if_neg (by decide),q7,if_pos rfl]
theorem b6L {es:List Ent} {id:List Nat} (h:∀ e∈es,eqN e.id id=false):O3 es id=none:=by
 cases i:O3 es id with
 | none=>rfl
 | some e=>have:=b6W i; rw[h e this.1]at this; cases this.2
theorem a3o (es:List Ent) (id:List Nat):t8 id es=(O3 es id).isSome:=by
 unfold O3;cases h:t8 id es with
 | false=>rfl
 | true=>rw[if_pos rfl,List.getElem?_eq_getElem (a4y h)]; rfl
def b9m:AV:=.tuple [(.agg [(.int .u8 0),(.str []),(.list false []),(.list false [])]),(.bool false)]
theorem b7m:Ev e7 32 [.ptr 2 0,.str [73,110,116]] T_b0 b9m T_b0:=Go.Cb.G.ev_ofG (k:=400) (by kernel_rfl)
theorem w32 {m:Int} (hm:MOK m):B2 .i32 m=m:=by
 have i:=a5V hm.1 hm.2;cases m with
 | ofNat k=>show(if Nat.blt k 2147483648 then Int.ofNat k else IntKind.i32.wrap (.ofNat k))=_; rw[i]; exact ite_self _
 | negSucc k=>show(if Nat.blt k 2147483648 then Int.negSucc k else IntKind.i32.wrap (.negSucc k))=_; rw[i]; exact ite_self _
theorem w64 {m:Int} (hm:MOK m):B2 .i64 m=m:=a3F (by have:=hm.1; omega) (by have:=hm.2; omega)
def b8q (m:Int):AV:=.agg [.int .u8 1,.int .i64 m,.str [],.list false [],.list false []]
theorem a6I {m:Int} (hm:MOK m):EvQ e7 223 [.agg [.ptr 2 0,.int .u8 0,.int .i64 0,.str [],.list false [],.list false [],.bool true],.str [73,110,116],b8q m] T_b0 (fun a st'=>a=.tuple [b8q m,.bool true,.int .i64 0]∧st'=T_b0):=by unfold b8q;refine wh (fn:=a223) rfl rfl rfl ?_;simp +contextual -implicitDefEqProofs only [c9E,SS,rA,rS,rL,rE,reduceCtorEq];refine wa (EvQ.of_ev b7m (Q:=fun a st'=>a=b9m∧st'=T_b0) ⟨rfl,rfl⟩) rfl rfl ?_;rintro _ _ ⟨rfl,rfl⟩;simp +contextual -implicitDefEqProofs only [c9E,SS,rA,rS,rL,rE,reduceCtorEq,b9m,w32 hm,w64 hm,eqI_eq,beq_self_eq_true];exact wb ⟨_,_,rfl,rfl,rfl⟩
theorem b9T {m:Int} (hm:MOK m) {a b c d e f g h z:AV} {o1 o2:Bool} {st:St}:XC e7 a128s22 [a,b,c,d,e,.box [.int .u8 1,.int .i64 m,.str [],.list o1 [],.list o2 []],f,g,h,z] st (.normal,[a,b,c,d,e,.box [.int .u8 1,.int .i64 m,.str [],.list o1 [],.list o2 []],.bool true,g,h,z],st):=by
 have w:WC (fun k=>exec (j0 e7 k) k a128s22 [a,b,c,d,e,.box [.int .u8 1,.int .i64 m,.str [],.list o1 [],.list o2 []],f,g,h,z] st) (fun o=>o=(.normal,[a,b,c,d,e,.box [.int .u8 1,.int .i64 m,.str [],.list o1 [],.list o2 []],.bool true,g,h,z],st)):=by simp +contextual -implicitDefEqProofs only [d9s,SS,rA,rS,rL,rE,reduceCtorEq,w32 hm,w64 hm,eqI_eq,beq_self_eq_true];exact wb rfl
 obtain⟨k,o,h,rfl⟩:=w;exact⟨k,h k (Nat.le_refl k)⟩
end Go.Cb.CodeA
