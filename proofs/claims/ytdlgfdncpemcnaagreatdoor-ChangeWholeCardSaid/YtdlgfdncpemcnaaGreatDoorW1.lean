import Derived.Test.YtdlgfdncpemcnaaGreatDoorX7
import Derived.Test.YtdlgfdncpemcnaaGreatDoorWH
set_option maxRecDepth 20000
set_option linter.all false
namespace Go.Cb.CodeA
open Go Go.Cb
open Nat renaming reduceAdd→rA,reduceSub→rS,reduceLeDiff→rL,reduceEqDiff→rE
attribute [local congr] H6 L7 O2 O3 K5 L8 S4 R9 V.runR_congr
theorem F6 (e:Ent) (es:List Ent) (id:List Nat):F8 (e::es) id=if l5 e.id id then F8 es id else if eqN e.id id then some e else none:=by
 unfold F8;cases h:l5 e.id id with
 | true=>rw[(a7m h es).1,(a7m h es).2,if_pos rfl,List.getElem?_cons_succ]
 | false =>rw[(a7v h es).1,(a7v h es).2];cases eqN e.id id<;>rfl
theorem a3L (x:Ent):∀ es:List Ent,F8 (i8 es x) x.id=some x
 | []=>by rw[a1C,F6,Z9,if_neg (by decide),P5,if_pos rfl]
 | e::es=>by
  rw[a0Q];split
  · rename_i h; rw[F6,if_pos h]; exact a3L x es
  · split
    · rw[F6,Z9,if_neg (by decide),P5,if_pos rfl]
    · rw[F6,Z9,if_neg (by decide),P5,if_pos rfl]
theorem U6 (x:Ent) {id:List Nat} (h:eqN x.id id=false):∀ es:List Ent,F8 (i8 es x) id=F8 es id
 | []=>by rw[a1C,F6,h];split<;>rfl
 | e::es=>by
  rw[a0Q];split
  · rw[F6,F6,U6 x h es]
  · rename_i t;split
    · rename_i l;have:=(a2n _ _).1 l;rw[F6,F6,h,this,h];split<;>rfl
    · rename_i l;rw[F6,h];split
      · rfl
      · rename_i u;have t:l5 e.id x.id=false:=by simpa using t
        have l:eqN e.id x.id=false:=by simpa using l
        have u:l5 x.id id=false:=by simpa using u
        -- id lies before x, and x before e
        have v:l5 id x.id=true:=by
         cases j:l5 id x.id with
         | true=>rfl
         | false=>rw[a2H _ _ u j,P5]at h; cases h
        have y:l5 x.id e.id=true:=by
         cases j:l5 x.id e.id with
         | true=>rfl
         | false=>rw[a2H _ _ t j,P5]at l; cases l
        have i:=T8 _ _ _ v y;rw[F6];have z:l5 e.id id=false:=by
         cases j:l5 e.id id with
         | false=>rfl
         | true=>have:=T8 _ _ _ j i; rw[Z9]at this; cases this
        have B:eqN e.id id=false:=by
         cases j:eqN e.id id with
         | false=>rfl
         | true=>rw[(a2n _ _).1 j,Z9]at i; cases i
        rw[z,B];rfl
theorem a8h {es:List Ent} {id:List Nat} (h:∀ e∈es,eqN e.id id=false):F8 es id=none:=by
 cases i:F8 es id with
 | none=>rfl
 | some e=>have:=a7Y i; rw[h e this.1]at this; cases this.2
theorem a8H (es:List Ent) (id:List Nat):D4 id es=(F8 es id).isSome:=by
 unfold F8;cases h:D4 id es with
 | false=>rfl
 | true=>rw[if_pos rfl,List.getElem?_eq_getElem (a7L h)]; rfl
def b7n:AV:=.tuple [(.agg [(.int .u8 0),(.str []),(.list false []),(.list false [])]),(.bool false)]
theorem b7e:Ev e8 30 [.ptr 2 0,.str [73,110,116]] T_b0 b7n T_b0:=Go.Cb.G.ev_ofG (k:=400) (by kernel_rfl)
theorem w32 {m:Int} (j:MOK m):A0 .i32 m=m:=by
 have i:=a5w j.1 j.2;cases m with
 | ofNat k=>show(if Nat.blt k 2147483648 then Int.ofNat k else IntKind.i32.wrap (.ofNat k))=_; rw[i]; exact ite_self _
 | negSucc k=>show(if Nat.blt k 2147483648 then Int.negSucc k else IntKind.i32.wrap (.negSucc k))=_; rw[i]; exact ite_self _
theorem w64 {m:Int} (i:MOK m):A0 .i64 m=m:=a4p (by have:=i.1; omega) (by have:=i.2; omega)
def b7Z (m:Int):AV:=.agg [.int .u8 1,.int .i64 m,.str [],.list false [],.list false []]
theorem b15 {m:Int} (i:MOK m):EvQ e8 224 [.agg [.ptr 2 0,.int .u8 0,.int .i64 0,.str [],.list false [],.list false [],.bool true],.str [73,110,116],b7Z m] T_b0 (fun a st'=>a=.tuple [b7Z m,.bool true,.int .i64 0]∧st'=T_b0):=by unfold b7Z;refine wh (fn:=a224) rfl rfl rfl ?_;simp +contextual -implicitDefEqProofs only [d5y,SS,rA,rS,rL,rE,reduceCtorEq];refine wa (EvQ.of_ev b7e (Q:=fun a st'=>a=b7n∧st'=T_b0) ⟨rfl,rfl⟩) rfl rfl ?_;rintro _ _ ⟨rfl,rfl⟩;simp +contextual -implicitDefEqProofs only [d5y,SS,rA,rS,rL,rE,reduceCtorEq,b7n,w32 i,w64 i,eqI_eq,beq_self_eq_true];exact wb ⟨_,_,rfl,rfl,rfl⟩
theorem d5p {m:Int} (i:MOK m) {a b c d e f g h z:AV} {o1 o2:Bool} {st:St}:XC e8 a128s22 [a,b,c,d,e,.box [.int .u8 1,.int .i64 m,.str [],.list o1 [],.list o2 []],f,g,h,z] st (.normal,[a,b,c,d,e,.box [.int .u8 1,.int .i64 m,.str [],.list o1 [],.list o2 []],.bool true,g,h,z],st):=by
 have w:WC (fun k=>exec (j9 e8 k) k a128s22 [a,b,c,d,e,.box [.int .u8 1,.int .i64 m,.str [],.list o1 [],.list o2 []],f,g,h,z] st) (fun o=>o=(.normal,[a,b,c,d,e,.box [.int .u8 1,.int .i64 m,.str [],.list o1 [],.list o2 []],.bool true,g,h,z],st)):=by simp +contextual -implicitDefEqProofs only [g5L,SS,rA,rS,rL,rE,reduceCtorEq,w32 i,w64 i,eqI_eq,beq_self_eq_true];exact wb rfl
 obtain⟨k,o,h,rfl⟩:=w;exact⟨k,h k (Nat.le_refl k)⟩
end Go.Cb.CodeA
