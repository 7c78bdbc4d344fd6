import Derived.Test.YthnliekianmljaaGreatDoorV1
import Derived.Test.YthnliekianmljaaGreatDoorC6
set_option maxRecDepth 20000
set_option linter.unusedSimpArgs false
set_option linter.unusedVariables false
namespace Go.Cb.CodeA
open Go Go.Cb
open Nat renaming reduceAdd → rA,reduceSub → rS,reduceLeDiff → rL,reduceEqDiff → rE
attribute [local congr] i8 k4 k6 k7 j4 j3 l8 l7 V.runR_congr

theorem a1X (a b:List Nat):eqN a b=eqN b a:=by
 rcases k8 (eqN a b) with h|h
 · have e:=(u6 _ _).1 h; subst e; rfl
 · rcases k8 (eqN b a) with g|g
   · have e:=(u6 _ _).1 g; subst e; rfl
   · rw [h,g]
/-! the reference's: what an object has by a name; what directives let be -/
def Cfg.varRow (K:Cfg):List AV:=[.int .u8 K.vk,.int .i64 K.vn,.str K.vs,.list false (K.vks.map b9),.list false (K.vls.map Val.row)]
theorem c8z {K:Cfg} (hK:K.OK) (n:List Nat) (st:St):EvQ tbl 101 [.agg K.varRow,.str n] st (fun a st'=>st'=st∧∃ b,a=.tuple [.agg (K.get n).row,.bool b]):=by
 have hks:=hK.ks
 refine EvQ.body (fn:=a101) rfl rfl rfl ?_
 simp +contextual -implicitDefEqProofs only [a01,SS,rA,rS,rL,rE,reduceCtorEq,Cfg.varRow]
 refine WC.loopR (fun mm fr st'=>st'=st∧∃ (i:Nat),i≤K.vks.length∧mm=K.vks.length - i∧pI (fun x=>eqN n x) K.vks=(pI (fun x=>eqN n x) (K.vks.drop i)).map (fun j=>j+i)∧fr=[.agg [.int .u8 K.vk,.int .i64 K.vn,.str K.vs,.list false (K.vks.map b9),.list false (K.vls.map Val.row)],.str n,.box [.int .u8 K.vk,.int .i64 K.vn,.str K.vs,.list false (K.vks.map b9),.list false (K.vls.map Val.row)],.box [.int .u8 0,.int .i64 0,.str [],.list true [],.list true []],.bool false,.int .i64 i]) (m:=K.vks.length) ⟨rfl,0,Nat.zero_le _,rfl,by simp,rfl⟩ ?_
 rintro mm fr st' ⟨rfl,i,hi,rfl,hidx,rfl⟩
 simp +contextual -implicitDefEqProofs only [a01,SS,rA,rS,rL,rE,reduceCtorEq,List.length_map]
 by_cases hil:i < K.vks.length
 · have e2:(K.vks.map b9)[i]?=some (b9 K.vks[i]):=by rw [List.getElem?_map,List.getElem?_eq_getElem hil]; rfl
   rcases k8 (eqI K.vk 6) with h6|h6
   · have hil2:i < K.vls.length:=by rw [← hK.ev (by rw [eqI_eq] at h6; simpa using h6)]; exact hil
     have e3:(K.vls.map Val.row)[i]?=some (K.vls[i]).row:=by rw [List.getElem?_map,List.getElem?_eq_getElem hil2]; rfl
     have e4:K.vls[i]?=some K.vls[i]:=List.getElem?_eq_getElem hil2
     rw [List.drop_eq_getElem_cons hil,F3] at hidx
     have hcm:eqN K.vks[i] n=eqN n K.vks[i]:=a1X _ _
     revert e2 e3 e4 hidx hcm
     generalize K.vls[i]=u
     generalize K.vks[i]=x
     intro hidx e2 e3 e4 hcm
     obtain ⟨k1,n1,s1,ks1,ls1,e1⟩:=u.row_cells
     have e3':=e3
     rw [e1] at e3
     simp +contextual -implicitDefEqProofs only [a01,SS,rA,rS,rL,rE,reduceCtorEq,hil,h6,e2,b9,hcm]
     refine WC.br (fun hx=>?_) (fun hx=>?_)
     · rw [if_pos hx] at hidx
       simp +contextual -implicitDefEqProofs only [a01,SS,rA,rS,rL,rE,reduceCtorEq,e3]
       refine WC.leaveR ?_
       simp +contextual -implicitDefEqProofs only [a01,SS,rA,rS,rL,rE,reduceCtorEq]
       refine WC.ret ⟨_,_,rfl,rfl,true,?_⟩
       unfold Cfg.get
       rw [h6,if_pos rfl,hidx]
       show _=AV.tuple [.agg ((K.vls[0+i]?).getD Val.none).row,.bool true]
       rw [Nat.zero_add,e4,Option.getD_some,e1]
       rfl
     · rw [if_neg (by rw [hx]; decide),Option.map_map] at hidx
       simp +contextual -implicitDefEqProofs only [a01,SS,rA,rS,rL,rE,reduceCtorEq,l5 (show i+1 < 2 ^ 63 by omega)]
       refine WC.next (m':=K.vks.length - (i+1)) (by omega) ⟨rfl,i+1,hil,rfl,?_,rfl⟩
       rw [hidx]
       congr 1
       funext j
       show j+1+i=j+(i+1)
       omega
   · simp +contextual -implicitDefEqProofs only [a01,SS,rA,rS,rL,rE,reduceCtorEq,hil,h6]
     refine WC.leave ?_
     simp +contextual -implicitDefEqProofs only [a01,SS,rA,rS,rL,rE,reduceCtorEq]
     refine WC.ret ⟨_,_,rfl,rfl,false,?_⟩
     unfold Cfg.get
     rw [h6,if_neg (by decide),Option.getD_none,Val.none_row]
     rfl
 · simp +contextual -implicitDefEqProofs only [a01,SS,rA,rS,rL,rE,reduceCtorEq,hil]
   refine WC.leave ?_
   simp +contextual -implicitDefEqProofs only [a01,SS,rA,rS,rL,rE,reduceCtorEq]
   refine WC.ret ⟨_,_,rfl,rfl,false,?_⟩
   have hn:pI (fun x=>eqN n x) K.vks=none:=by rw [hidx,List.drop_of_length_le (by omega)]; rfl
   have hg:K.get n=Val.none:=by unfold Cfg.get; rw [hn]; split <;> rfl
   rw [hg,Val.none_row]
   rfl
theorem b35 (l:List (List Nat)) (hl:l.length≤10000) (n:List Nat) (st:St):EvQ tbl 51 [.list false (l.map b9),.str n] st (fun a st'=>st'=st∧a=.bool (o9 l n)):=by
 refine EvQ.body (fn:=a51) rfl rfl rfl ?_
 simp +contextual -implicitDefEqProofs only [K51,SS,rA,rS,rL,rE,reduceCtorEq]
 refine WC.loopR (fun mm fr st'=>st'=st∧∃ (i:Nat),i≤l.length∧mm=l.length - i∧o9 l n=o9 (l.drop i) n∧fr=[.list false (l.map b9),.str n,.bool false,.int .i64 i]) (m:=l.length) ⟨rfl,0,Nat.zero_le _,rfl,rfl,rfl⟩ ?_
 rintro mm fr st' ⟨rfl,i,hi,rfl,hidx,rfl⟩
 simp +contextual -implicitDefEqProofs only [K51,SS,rA,rS,rL,rE,reduceCtorEq,List.length_map]
 by_cases hil:i < l.length
 · have e2:(l.map b9)[i]?=some (b9 l[i]):=by rw [List.getElem?_map,List.getElem?_eq_getElem hil]; rfl
   have hcm:eqN l[i] n=eqN n l[i]:=a1X _ _
   rw [List.drop_eq_getElem_cons hil] at hidx
   revert e2 hcm hidx
   generalize l[i]=x
   intro hidx e2 hcm
   have hidx:o9 l n=(eqN n x || o9 (l.drop (i+1)) n):=by rw [hidx]; rfl
   simp +contextual -implicitDefEqProofs only [K51,SS,rA,rS,rL,rE,reduceCtorEq,hil,e2,b9,hcm]
   refine WC.br (fun hx=>?_) (fun hx=>?_)
   · simp +contextual -implicitDefEqProofs only [K51,SS,rA,rS,rL,rE,reduceCtorEq]
     refine WC.leaveR ?_
     simp +contextual -implicitDefEqProofs only [K51,SS,rA,rS,rL,rE,reduceCtorEq]
     exact WC.ret ⟨_,_,rfl,rfl,by rw [hidx,hx]; rfl⟩
   · simp +contextual -implicitDefEqProofs only [K51,SS,rA,rS,rL,rE,reduceCtorEq,l5 (show i+1 < 2 ^ 63 by omega)]
     exact WC.next (m':=l.length - (i+1)) (by omega) ⟨rfl,i+1,hil,rfl,by rw [hidx,hx]; rfl,rfl⟩
 · simp +contextual -implicitDefEqProofs only [K51,SS,rA,rS,rL,rE,reduceCtorEq,hil]
   refine WC.leave ?_
   simp +contextual -implicitDefEqProofs only [K51,SS,rA,rS,rL,rE,reduceCtorEq]
   refine WC.ret ⟨_,_,rfl,rfl,?_⟩
   rw [hidx,List.drop_of_length_le (by omega)]
   rfl
theorem a9r (l:List (List Nat)):(l.map b9).flatten=l.map AV.str:=by
 induction l with
 | nil=>rfl
 | cons x l ih=>rw [List.map_cons,List.flatten_cons,ih]; rfl
/-- the same, of a list that lies in an object -/
theorem c9H (l:List (List Nat)) (hl:l.length≤10000) (n:List Nat) (o:Nat) (st:St) (ho:st[o]?=some (.cells (l.map b9).flatten)):EvQ tbl 51 [.sl o 0 l.length 1,.str n] st (fun a st'=>st'=st∧a=.bool (o9 l n)):=by
 rw [a9r] at ho
 refine EvQ.body (fn:=a51) rfl rfl rfl ?_
 simp +contextual -implicitDefEqProofs only [K51,SS,rA,rS,rL,rE,reduceCtorEq]
 refine WC.loopR (fun mm fr st'=>st'=st∧∃ (i:Nat),i≤l.length∧mm=l.length - i∧o9 l n=o9 (l.drop i) n∧fr=[.sl o 0 l.length 1,.str n,.bool false,.int .i64 i]) (m:=l.length) ⟨rfl,0,Nat.zero_le _,rfl,rfl,rfl⟩ ?_
 rintro mm fr st' ⟨rfl,i,hi,rfl,hidx,rfl⟩
 simp +contextual -implicitDefEqProofs only [K51,SS,rA,rS,rL,rE,reduceCtorEq]
 by_cases hil:i < l.length
 · have e2:(l.map AV.str).drop i=.str l[i]::(l.map AV.str).drop (i+1):=by
    rw [List.drop_eq_getElem_cons (by simpa using hil),List.getElem_map]
   have hlt:(i:Int) < (l.length:Int):=by omega
   have hcm:eqN l[i] n=eqN n l[i]:=a1X _ _
   rw [List.drop_eq_getElem_cons hil] at hidx
   revert e2 hcm hidx
   generalize l[i]=x
   intro hidx e2 hcm
   have hidx:o9 l n=(eqN n x || o9 (l.drop (i+1)) n):=by rw [hidx]; rfl
   simp +contextual -implicitDefEqProofs only [K51,SS,rA,rS,rL,rE,reduceCtorEq,hil,hlt,ho,Nat.zero_add,Nat.mul_one,e2,hcm]
   refine WC.br (fun hx=>?_) (fun hx=>?_)
   · simp +contextual -implicitDefEqProofs only [K51,SS,rA,rS,rL,rE,reduceCtorEq]
     refine WC.leaveR ?_
     simp +contextual -implicitDefEqProofs only [K51,SS,rA,rS,rL,rE,reduceCtorEq]
     exact WC.ret ⟨_,_,rfl,rfl,by rw [hidx,hx]; rfl⟩
   · simp +contextual -implicitDefEqProofs only [K51,SS,rA,rS,rL,rE,reduceCtorEq,l5 (show i+1 < 2 ^ 63 by omega)]
     exact WC.next (m':=l.length - (i+1)) (by omega) ⟨rfl,i+1,hil,rfl,by rw [hidx,hx]; rfl,rfl⟩
 · simp +contextual -implicitDefEqProofs only [K51,SS,rA,rS,rL,rE,reduceCtorEq,hil]
   refine WC.leave ?_
   simp +contextual -implicitDefEqProofs only [K51,SS,rA,rS,rL,rE,reduceCtorEq]
   refine WC.ret ⟨_,_,rfl,rfl,?_⟩
   rw [hidx,List.drop_of_length_le (by omega)]
   rfl
theorem c90 (n:List Nat) (st:St):EvQ tbl 51 [.nils,.str n] st (fun a st'=>st'=st∧a=.bool false):=by
 refine EvQ.body (fn:=a51) rfl rfl rfl ?_
 simp +contextual -implicitDefEqProofs only [K51,SS,rA,rS,rL,rE,reduceCtorEq]
 refine WC.loopR (fun mm fr st'=>st'=st∧mm=0∧fr=[.nils,.str n,.bool false,.int .i64 0]) (m:=0) ⟨rfl,rfl,rfl⟩ ?_
 rintro mm fr st' ⟨rfl,rfl,rfl⟩
 simp +contextual -implicitDefEqProofs only [K51,SS,rA,rS,rL,rE,reduceCtorEq,show ltI 0 0=false from rfl]
 refine WC.leave ?_
 simp +contextual -implicitDefEqProofs only [K51,SS,rA,rS,rL,rE,reduceCtorEq]
 exact WC.ret ⟨_,_,rfl,rfl,rfl⟩
end Go.Cb.CodeA
