/-
 RulesFrags: what fragment, Contains and flat answer, for selections of a plain form.
-/
import Derived.Test.YtendfdoplhhjbaaGreatDoorChV
import Derived.Test.YtendfdoplhhjbaaGreatDoorFR
import Derived.Test.YtendfdoplhhjbaaGreatDoorXAms3
set_option maxRecDepth 20000
set_option linter.unusedSimpArgs false
set_option linter.unusedVariables false
namespace Go.Cb.CodeA
open Go Go.Cb
open Nat renaming reduceAdd→rA,reduceSub→rS,reduceLeDiff→rL,reduceEqDiff→rE
attribute [local congr] L8 M4 Q9 R5 O5 N9 Y9 Y8 V.runR_congr
theorem a1Z (n:List Nat):eqN n n=true:=by rw [W9]; simp
theorem a4i {st:St} {i:Nat} {x y:Cb.Obj} (h:st[i]?=some x):(st++[y])[i]?=some x:=by rw [List.getElem?_append_left (List.getElem?_eq_some_iff.1 h).1]; exact h
theorem P0 (st:St) (y:Cb.Obj):(st++[y])[st.length]?=some y:=by rw [List.getElem?_append_right (Nat.le_refl _),Nat.sub_self]; rfl
/-- a fragment -/
structure FK where
 nm:List Nat
 on:List Nat
 sub:List (List AV)
def FK.row (f:FK):List AV:=[.str f.nm,.str f.on,.list false f.sub]
def R4 (n:List Nat):List FK→Option FK
 | []=>none
 | f::fs=>if eqN f.nm n then some f else R4 n fs
def a0O:Option FK→AV
 | some f=>.tuple [.agg f.row,.bool true]
 | none=>.tuple [.agg [.str [],.str [],.list false []],.bool false]
/-- the checker as an object -/
def chk (s ops:AV) (F:List FK) (out:AV):Cb.Obj:=.cells [s,ops,.list false (F.map FK.row),out]
theorem a6s (F:List FK) (hF:F.length≤10000) (n:List Nat) {o:Nat} {s ops out:AV} {st:St} (ho:st[o]?=some (chk s ops F out)):EvQ tbl 58 [.ptr o 0,.str n] st (fun a st'=>st'=st∧a=a0O (R4 n F)):=by
 refine EvQ.body (fn:=a58) rfl rfl rfl ?_
 unfold chk at ho
 simp +contextual -implicitDefEqProofs only [K58,SS,rA,rS,rL,rE,reduceCtorEq,ho,List.length_map]
 refine WC.loopR (fun mm fr st'=>st'=st∧∃ (i:Nat) (v4:AV),i≤F.length∧mm=F.length - i∧R4 n F=R4 n (F.drop i)∧fr=[.ptr o 0,.str n,.box [.str [],.str [],.list true []],.bool false,v4,.list false (F.map FK.row),.int .i64 F.length,.int .i64 i]) (m:=F.length) ⟨rfl,0,_,Nat.zero_le _,rfl,rfl,rfl⟩ ?_
 rintro mm fr st' ⟨rfl,i,v4,hi,rfl,hidx,rfl⟩
 simp +contextual -implicitDefEqProofs only [K58,SS,rA,rS,rL,rE,reduceCtorEq]
 by_cases hil:i < F.length
 · have e2:(F.map FK.row)[i]?=some [.str (F[i]).nm,.str (F[i]).on,.list false (F[i]).sub]:=by rw [List.getElem?_map,List.getElem?_eq_getElem hil]; rfl
   rw [List.drop_eq_getElem_cons hil] at hidx
   revert e2 hidx
   generalize F[i]=x
   intro hidx e2
   simp +contextual -implicitDefEqProofs only [K58,SS,rA,rS,rL,rE,reduceCtorEq,hil,e2]
   refine WC.br (fun hx=>?_) (fun hx=>?_)
   · simp +contextual -implicitDefEqProofs only [K58,SS,rA,rS,rL,rE,reduceCtorEq]
     refine WC.leaveR ?_
     simp +contextual -implicitDefEqProofs only [K58,SS,rA,rS,rL,rE,reduceCtorEq]
     refine WC.ret ⟨_,_,rfl,rfl,?_⟩
     rw [hidx,R4,if_pos hx]
     rfl
   · simp +contextual -implicitDefEqProofs only [K58,SS,rA,rS,rL,rE,reduceCtorEq,E4 (show i+1 < 2 ^ 63 by omega)]
     refine WC.next (m':=F.length - (i+1)) (by omega) ⟨rfl,i+1,_,hil,rfl,?_,rfl⟩
     rw [hidx,R4,if_neg (by rw [hx]; decide)]
 · simp +contextual -implicitDefEqProofs only [K58,SS,rA,rS,rL,rE,reduceCtorEq,hil]
   refine WC.leave ?_
   simp +contextual -implicitDefEqProofs only [K58,SS,rA,rS,rL,rE,reduceCtorEq]
   refine WC.ret ⟨_,_,rfl,rfl,?_⟩
   rw [hidx,List.drop_of_length_le (by omega)]
   rfl
end Go.Cb.CodeA
