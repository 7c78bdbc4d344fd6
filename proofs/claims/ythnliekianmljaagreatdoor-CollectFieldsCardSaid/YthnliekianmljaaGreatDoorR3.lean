import Derived.Test.YthnliekianmljaaGreatDoorR2
set_option maxRecDepth 20000
set_option linter.unusedSimpArgs false
set_option linter.unusedVariables false
namespace Go.Cb.CodeA
open Go Go.Cb
open Nat renaming reduceAdd → rA,reduceSub → rS,reduceLeDiff → rL,reduceEqDiff → rE
attribute [local congr] i8 k4 k6 k7 j4 j3 l8 l7 V.runR_congr

/-- the reference's schema -/
structure Sch9 (l:List TD) (mo:Nat) (st:St):Prop where
 len:l.length≤3001
 ok:∀ t∈l,t.OK
 ob:∃ w,st[mo]?=some (.cells [.list w (l.map TD.row)])
theorem Sch9.gr {l:List TD} {mo:Nat} {st st':St} (h:Sch9 l mo st) (hg:∀ x,st[mo]?=some x→st'[mo]?=some x):Sch9 l mo st' :=
 ⟨h.len,h.ok,let ⟨w,h1⟩:=h.ob; ⟨w,hg _ h1⟩⟩
theorem c0t (t:TD) (l:List TD) (n:List Nat):lk (t::l) n=if eqN n t.n then some t else lk l n:=by
 unfold lk
 rw [List.find?_cons]
 cases eqN n t.n <;> rfl
theorem c27 {l:List TD} {mo:Nat} {st:St} (h:Sch9 l mo st) (n:List Nat):EvQ tbl 54 [.ptr mo 0,.str n] st (fun a st'=>st'=st∧a=.agg ((lk l n).getD TD.zero).row):=by
 obtain ⟨w,h1⟩:=h.ob
 have hlen:=h.len
 refine EvQ.body (fn:=a54) rfl rfl rfl ?_
 simp +contextual -implicitDefEqProofs only [K54,SS,rA,rS,rL,rE,reduceCtorEq]
 refine WC.loopR (fun mm fr st'=>st'=st∧∃ (i:Nat),i≤l.length∧mm=l.length - i∧lk l n=lk (l.drop i) n∧fr=[.ptr mo 0,.str n,.box [.int .u8 0,.str [],.list true [],.list true []],.int .i64 i]) (m:=l.length) ⟨rfl,0,Nat.zero_le _,rfl,rfl,rfl⟩ ?_
 rintro mm fr st' ⟨rfl,i,hi,rfl,hlk,rfl⟩
 simp +contextual -implicitDefEqProofs only [K54,SS,rA,rS,rL,rE,reduceCtorEq,h1,List.length_map]
 by_cases hil:i < l.length
 · have e2:(l.map TD.row)[i]?=some (l[i]).row:=by rw [List.getElem?_map,List.getElem?_eq_getElem hil]; rfl
   rw [List.drop_eq_getElem_cons hil,c0t] at hlk
   revert hlk e2
   generalize l[i]=u
   intro hlk e2
   have hcm:=a1X u.n n
   have e2:(l.map TD.row)[i]?=some [.int .u8 u.k,.str u.n,.list false u.fs,.list false (u.ns.map b9)]:=e2
   simp +contextual -implicitDefEqProofs only [K54,SS,rA,rS,rL,rE,reduceCtorEq,hil,e2,h1,hcm]
   refine WC.br (fun hx=>?_) (fun hx=>?_)
   · rw [if_pos hx] at hlk
     simp +contextual -implicitDefEqProofs only [K54,SS,rA,rS,rL,rE,reduceCtorEq,h1,e2]
     refine WC.leaveR ?_
     simp +contextual -implicitDefEqProofs only [K54,SS,rA,rS,rL,rE,reduceCtorEq]
     exact WC.ret ⟨_,_,rfl,rfl,by rw [hlk]; rfl⟩
   · rw [if_neg (by rw [hx]; decide)] at hlk
     simp +contextual -implicitDefEqProofs only [K54,SS,rA,rS,rL,rE,reduceCtorEq,l5 (show i+1 < 2 ^ 63 by omega)]
     exact WC.next (m':=l.length - (i+1)) (by omega) ⟨rfl,i+1,hil,rfl,hlk,rfl⟩
 · simp +contextual -implicitDefEqProofs only [K54,SS,rA,rS,rL,rE,reduceCtorEq,hil]
   refine WC.leave ?_
   simp +contextual -implicitDefEqProofs only [K54,SS,rA,rS,rL,rE,reduceCtorEq]
   refine WC.ret ⟨_,_,rfl,rfl,?_⟩
   rw [hlk,List.drop_of_length_le (by omega)]
   rfl
theorem b1U {l:List TD} {mo:Nat} {st:St} (h:Sch9 l mo st) (n:List Nat):EvQ tbl 63 [.ptr mo 0,.str n] st (fun a st'=>st'=st∧a=.list false ((O9 l n).map b9)):=by
 have hlen:=h.len
 obtain ⟨w,h1⟩:=h.ob
 unfold O9
 refine EvQ.body (fn:=a63) rfl rfl rfl ?_
 simp +contextual -implicitDefEqProofs only [K63,SS,rA,rS,rL,rE,reduceCtorEq]
 refine WC.call (c27 h n) rfl rfl ?_
 rintro _ st ⟨rfl,rfl⟩
 cases hl:lk l n with
 | none =>
  simp +contextual -implicitDefEqProofs only [K63,SS,rA,rS,rL,rE,reduceCtorEq,Option.getD_none,TD.zero,TD.row,show eqI 0 1=false from rfl,show eqI 0 2=false from rfl,show eqI 0 3=false from rfl]
  exact WC.ret ⟨_,_,rfl,rfl,rfl⟩
 | some t =>
  simp +contextual -implicitDefEqProofs only [K63,SS,rA,rS,rL,rE,reduceCtorEq,Option.getD_some,TD.row]
  refine WC.br (fun hk=>?_) (fun hk=>?_)
  · rw [if_pos hk]
    simp +contextual -implicitDefEqProofs only [K63,SS,rA,rS,rL,rE,reduceCtorEq]
    exact WC.ret ⟨_,_,rfl,rfl,rfl⟩
  rw [if_neg (by rw [hk]; decide)]
  simp +contextual -implicitDefEqProofs only [K63,SS,rA,rS,rL,rE,reduceCtorEq]
  refine WC.br (fun hk=>?_) (fun hk=>?_)
  · rw [if_pos hk]
    simp +contextual -implicitDefEqProofs only [K63,SS,rA,rS,rL,rE,reduceCtorEq]
    exact WC.ret ⟨_,_,rfl,rfl,rfl⟩
  rw [if_neg (by rw [hk]; decide)]
  simp +contextual -implicitDefEqProofs only [K63,SS,rA,rS,rL,rE,reduceCtorEq]
  refine WC.br (fun hk=>?_) (fun hk=>?_)
  rotate_left
  · rw [if_pos (by rw [hk]; rfl)]
    simp +contextual -implicitDefEqProofs only [K63,SS,rA,rS,rL,rE,reduceCtorEq]
    exact WC.ret ⟨_,_,rfl,rfl,rfl⟩
  rw [if_neg (by rw [hk]; decide)]
  simp +contextual -implicitDefEqProofs only [K63,SS,rA,rS,rL,rE,reduceCtorEq]
  refine WC.loopR (fun mm fr st'=>st'=st∧∃ (i:Nat),i≤l.length∧mm=l.length - i ∧
   fr=[.ptr mo 0,.str n,.list true [],.box [.int .u8 t.k,.str t.n,.list false t.fs,.list false (t.ns.map b9)],.list true ((((l.take i).filter (B1 n)).map (fun u=>u.n)).map b9),.int .i64 i,.int .u8 t.k]) (m:=l.length) ⟨rfl,0,Nat.zero_le _,rfl,rfl⟩ ?_
  rintro mm fr st' ⟨rfl,i,hi,rfl,rfl⟩
  simp +contextual -implicitDefEqProofs only [K63,SS,rA,rS,rL,rE,reduceCtorEq,h1,List.length_map]
  by_cases hil:i < l.length
  · have e2:(l.map TD.row)[i]?=some (l[i]).row:=by rw [List.getElem?_map,List.getElem?_eq_getElem hil]; rfl
    have e3:l.take (i+1)=l.take i++[l[i]]:=by rw [List.take_add_one,List.getElem?_eq_getElem hil]; rfl
    have hu:=h.ok _ (List.getElem_mem hil)
    revert e2 e3 hu
    generalize l[i]=u
    intro e2 e3 hu
    have hun:u.ns.length≤3001:=hu
    have i1:=l5 (show i+1 < 2 ^ 63 by omega)
    rw [TD.row] at e2
    have hf:∀ b,B1 n u=b→(l.take (i+1)).filter (B1 n)=(l.take i).filter (B1 n)++(if b then [u] else []):=by
     intro b hb
     rw [e3,List.filter_append]
     cases b <;> simp [hb]
    cases hk1:eqI u.k 1 with
    | false =>
     have hff:=hf false (by rw [B1,hk1]; rfl)
     simp +contextual -implicitDefEqProofs only [K63,SS,rA,rS,rL,rE,reduceCtorEq,hil,e2,hk1,i1,h1]
     exact WC.next (m':=l.length - (i+1)) (by omega) ⟨rfl,i+1,hil,rfl,by rw [hff]; simp only [Bool.false_eq_true,if_false,List.append_nil]⟩
    | true =>
     simp +contextual -implicitDefEqProofs only [K63,SS,rA,rS,rL,rE,reduceCtorEq,hil,e2,hk1,h1]
     refine WC.call (b35 u.ns (by omega) n _) rfl rfl ?_
     rintro _ st' ⟨rfl,rfl⟩
     cases hc:o9 u.ns n with
     | false =>
      have hff:=hf false (by rw [B1,hk1,hc]; rfl)
      simp +contextual -implicitDefEqProofs only [K63,SS,rA,rS,rL,rE,reduceCtorEq,i1]
      exact WC.next (m':=l.length - (i+1)) (by omega) ⟨rfl,i+1,hil,rfl,by rw [hff]; simp only [Bool.false_eq_true,if_false,List.append_nil]⟩
     | true =>
      have hff:=hf true (by rw [B1,hk1,hc]; rfl)
      have hcount:((((l.take i).filter (B1 n)).map (fun u=>u.n)).map b9).length≤3001:=by
       rw [List.length_map,List.length_map]
       have:=List.length_filter_le (B1 n) (l.take i)
       simp only [List.length_take] at this
       omega
      simp +contextual -implicitDefEqProofs only [K63,SS,rA,rS,rL,rE,reduceCtorEq,i1,h1,e2,a04,show (((((l.take i).filter (B1 n)).map (fun u=>u.n)).map b9).length+1)*16≤2 ^ 47 by omega]
      refine WC.next (m':=l.length - (i+1)) (by omega) ⟨rfl,i+1,hil,rfl,?_⟩
      rw [hff]
      simp only [if_true,List.map_append,List.map_cons,List.map_nil]
      rfl
  · simp +contextual -implicitDefEqProofs only [K63,SS,rA,rS,rL,rE,reduceCtorEq,hil]
    refine WC.leave ?_
    simp +contextual -implicitDefEqProofs only [K63,SS,rA,rS,rL,rE,reduceCtorEq]
    refine WC.ret ⟨_,_,rfl,rfl,?_⟩
    rw [List.take_of_length_le (by omega)]
    rfl
end Go.Cb.CodeA
