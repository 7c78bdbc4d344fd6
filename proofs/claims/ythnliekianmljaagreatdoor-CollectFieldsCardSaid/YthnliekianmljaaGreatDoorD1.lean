import Derived.Test.YthnliekianmljaaGreatDoorD0
set_option maxRecDepth 20000
set_option linter.unusedSimpArgs false
set_option linter.unusedVariables false
namespace Go.Cb.CodeA
open Go Go.Cb
open Nat renaming reduceAdd → rA,reduceSub → rS,reduceLeDiff → rL,reduceEqDiff → rE
attribute [local congr] i8 k4 k6 k7 j4 j3 l8 l7 V.runR_congr
variable {B:St}

/-- on, perhaps not at all, and what was read is what a plain reader tells -/
def b3v {α:Type} (B:St) (L:List Tok) (o i:Nat) (d e:Int) (p:Option (α×Nat)) (x:α) (st':St):Prop:=∃ i' e',Rd B L o st' i' d e'∧i≤i'∧(e'=0→e=0)∧(e=0→p=if e'=0 then some (x,i') else none)
abbrev c7q (B:St) (L:List Tok) (o i:Nat) (d:Int) (f:Nat) (w:Option ((Bool×List Arg)×Nat)) (mm:Nat) (fr:List AV) (st':St):Prop:=∃ (i':Nat) (e':Int) (l:List Arg) (first:Bool) (v4:AV),Rd B L o st' i' d e'∧i+1≤i'∧(∀ a∈l,a.v.OK)∧mm=rem L i' e'∧l.length+mm≤L.length∧LoopAt (R3 L f) w i' (first,l) e' ∧
 fr=[.ptr o 0,.list true [],.list true (l.map Arg.row),.bool first,v4]
theorem b44 (L:List Tok) (o f:Nat) {st:St} {i:Nat} {d e:Int} (h:Rd B L o st i d e) (hd:0≤d) (hd2:d+f=24) :
 EvQ tbl 68 [.ptr o 0] st (fun a st'=>∃ l:List Arg,a=.list false (l.map Arg.row)∧ArgsOK l∧b3v B L o i d e (P3 L f i) l st'):=by
 have hl:=h.hL.2
 have hi:=h.hi
 refine EvQ.body (fn:=a68) rfl rfl rfl ?_
 simp +contextual -implicitDefEqProofs only [K68,SS,rA,rS,rL,rE,reduceCtorEq]
 refine WC.call (z9 h _) rfl rfl ?_
 rintro _ st1 (⟨rfl,rfl,hE⟩|⟨rfl,rfl,h1,hE⟩)
 · simp +contextual -implicitDefEqProofs only [K68,SS,rA,rS,rL,rE,reduceCtorEq]
   exact WC.ret ⟨_,_,rfl,[],rfl,a1u,i,e,h,Nat.le_refl _,id,fun h0=>by rw [P3,hE h0,if_neg (by decide),if_pos h0]⟩
 have hA:P3 L f i=j0 (t8 (R3 L f) 2002 (i+1) (true,[])) fun x j=>some (x.2,j):=by rw [P3,hE,if_pos rfl]
 revert hA
 generalize hw:t8 (R3 L f) 2002 (i+1) (true,[])=w
 intro hA
 simp +contextual -implicitDefEqProofs only [K68,SS,rA,rS,rL,rE,reduceCtorEq]
 refine WC.loopR (c7q B L o i d f w) (m:=rem L (i+1) 0) ⟨i+1,0,[],true,_,h1,Nat.le_refl _,by simp,rfl,by simpa using a0y L (i+1) 0,LoopAt.start _ _ _ _ (by rw [if_pos rfl,hw]),rfl⟩ ?_
 rintro mm fr st' ⟨i',e',l,first,v4,hr,hi',hl',hmm,hlen,hLo,rfl⟩
 obtain ⟨bad',ho'⟩:=hr.ob
 have hi2:=hr.hi
 have hend:∀ (st3:St) (i3:Nat) (e3:Int),Rd B L o st3 i3 d e3→i+1≤i3→(w=if e3=0 then some ((first,l),i3) else none)→WC (fun n=>C7 (P7 0 some) (d8 (e8 tbl n) n (a68s33.seq ACode.ret)) (Ex.exit 0,[.ptr o 0,.list true [],.list true (l.map Arg.row),.bool first,v4],st3))
  (fun o_1=>∃ r st',finK [ResK.v 1] (some o_1)=some (r,st')∧∃ l:List Arg,r=.list false (l.map Arg.row)∧ArgsOK l∧b3v B L o i d 0 (P3 L f i) l st'):=by
  intro st3 i3 e3 h3 hi3 hw3
  simp +contextual -implicitDefEqProofs only [K68,SS,rA,rS,rL,rE,reduceCtorEq]
  refine WC.ret ⟨_,_,rfl,l,rfl,⟨by omega,hl'⟩,i3,e3,h3,by omega,fun _=>rfl,fun _=>?_⟩
  rw [hA]
  exact r7 hw3 id fun h0=>by rw [if_pos h0]
 by_cases he0:e'=0
 rotate_left
 · have hf:eqI e' 0=false:=by rw [eqI_eq]; simpa using he0
   simp +contextual -implicitDefEqProofs only [K68,SS,rA,rS,rL,rE,reduceCtorEq,ho',rdC,hf]
   exact WC.leave (hend st' i' e' hr hi' (by rw [if_neg he0]; exact hLo.bad he0))
 subst he0
 have body:∀ (st1:St),Rd B L o st1 i' d 0→(!first && s8 L i' [41])=false→WC (fun n=>d8 (e8 tbl n) n ((ACode.blk 1 (a68s14.seq (a68s16.seq (a68s18.seq a68s20)))).seq a68s26) [.ptr o 0,.list true [],.list true (l.map Arg.row),.bool first,v4] st1)
  (LQ (c7q B L o i d f w) mm (fun n=>C7 (P7 0 some) (d8 (e8 tbl n) n (a68s33.seq ACode.ret))) (fun o_1=>∃ r st',finK [ResK.v 1] (some o_1)=some (r,st')∧∃ l:List Arg,r=.list false (l.map Arg.row)∧ArgsOK l∧b3v B L o i d 0 (P3 L f i) l st')):=by
  intro st1 h1 hE1
  simp +contextual -implicitDefEqProofs only [K68,SS,rA,rS,rL,rE,reduceCtorEq]
  refine WC.call (H8 h1) rfl rfl ?_
  rintro _ st2 ⟨t,rfl,i2,e2,h2,h2a,h2b,hX2⟩
  simp +contextual -implicitDefEqProofs only [K68,SS,rA,rS,rL,rE,reduceCtorEq]
  refine WC.call (a0i h2 _) rfl rfl ?_
  rintro _ st3 ⟨i3,e3,h3,h3a,h3b,hX3⟩
  simp +contextual -implicitDefEqProofs only [K68,SS,rA,rS,rL,rE,reduceCtorEq]
  refine WC.call (b1L L false o f h3 hd hd2) rfl rfl ?_
  rintro _ st4 ⟨v,hv,rfl,i4,e4,h4,h4a,h4b,hX4⟩
  obtain ⟨vk,vn,vs,vx,vy,ev⟩:=v.row_cells
  have hlt:rem L i4 e4 < rem L i' 0:=X2 rfl hr.hi (fun h0=>by
   have:=h4b h0
   have:=h3b this.1
   have:=h2b this.1
   omega)
  have hfr:(l.length+1)*96≤2 ^ 47:=by omega
  simp +contextual -implicitDefEqProofs only [K68,SS,rA,rS,rL,rE,reduceCtorEq,ev,c2E,List.length_map,hfr]
  refine WC.next (m':=rem L i4 e4) (by omega) ⟨i4,e4,l++[⟨t,v⟩],false,.box [.str t,.int .u8 vk,.int .i64 vn,.str vs,.list false vx,.list false vy],h4,by omega,fun a ha=>?_,rfl,by simp only [List.length_append,List.length_cons,List.length_nil]; omega,hLo.next (by omega) (fun h0=>by have:=h4b h0; have:=h3b this.1; have:=h2b this.1; omega) ?_,?_⟩
  · rcases List.mem_append.1 ha with h0|h0
    · exact hl' a h0
    · simp at h0; subst h0; exact hv
  · rw [R3,hE1,if_neg (by decide)]
    exact r7 (hX2 rfl) (fun h=>(h3b (h4b h).1).1) fun h0=>a3e (hX3 h0) (fun h=>(h4b h).1) fun h1=>r7 (hX4 h1) id fun h2=>by rw [if_pos h2]
  · simp only [List.map_append,List.map_cons,List.map_nil,Arg.row,ev]
 cases first with
 | true =>
  simp +contextual -implicitDefEqProofs only [K68,SS,rA,rS,rL,rE,reduceCtorEq,ho',rdC,show eqI 0 0=true from rfl]
  have:=body st' hr rfl
  simp +contextual -implicitDefEqProofs only [K68,SS,rA,rS,rL,rE,reduceCtorEq] at this ⊢
  exact this
 | false =>
  simp +contextual -implicitDefEqProofs only [K68,SS,rA,rS,rL,rE,reduceCtorEq,ho',rdC,show eqI 0 0=true from rfl]
  refine WC.call (z9 hr _) rfl rfl ?_
  rintro _ st3 (⟨rfl,rfl,hE⟩|⟨rfl,_,h3,hE⟩)
  · have:=body st3 hr (by rw [hE rfl]; rfl)
    simp +contextual -implicitDefEqProofs only [K68,SS,rA,rS,rL,rE,reduceCtorEq] at this ⊢
    exact this
  · simp +contextual -implicitDefEqProofs only [K68,SS,rA,rS,rL,rE,reduceCtorEq]
    exact WC.leave (hend st3 (i'+1) 0 h3 (by omega) (by rw [if_pos rfl]; exact hLo.exit (by omega) (by rw [R3,hE]; rfl)))

abbrev e0R (B:St) (L:List Tok) (o i:Nat) (d e:Int) (f:Nat) (w:Option (List Dir×Nat)) (mm:Nat) (fr:List AV) (st':St):Prop:=∃ (i':Nat) (e':Int) (l:List Dir) (v3:AV),Rd B L o st' i' d e'∧i≤i'∧(e'=0→e=0)∧(∀ a∈l,ArgsOK a.as)∧mm=rem L i' e'∧l.length+mm≤L.length∧LoopAt (R1 L f) w i' l e' ∧
 fr=[.ptr o 0,.list true [],.list true (l.map Dir.row),v3]
theorem a9g (L:List Tok) (o f:Nat) {st:St} {i:Nat} {d e:Int} (h:Rd B L o st i d e) (hd:0≤d) (hd2:d+f=24) :
 EvQ tbl 69 [.ptr o 0] st (fun a st'=>∃ l:List Dir,a=.list false (l.map Dir.row)∧b06 l∧b3v B L o i d e (Z0 L f i) l st'):=by
 have hl:=h.hL.2
 have hi:=h.hi
 refine EvQ.body (fn:=a69) rfl rfl rfl ?_
 have hA:Z0 L f i=t8 (R1 L f) 2002 i []:=rfl
 have hw0:∃ w,w=(if e=0 then t8 (R1 L f) 2002 i [] else none):=⟨_,rfl⟩
 obtain ⟨w,hw⟩:=hw0
 simp +contextual -implicitDefEqProofs only [K69,SS,rA,rS,rL,rE,reduceCtorEq]
 refine WC.loopR (e0R B L o i d e f w) (m:=rem L i e) ⟨i,e,[],_,h,Nat.le_refl _,id,by simp,rfl,by simpa using a0y L i e,LoopAt.start _ _ _ _ hw,rfl⟩ ?_
 rintro mm fr st' ⟨i',e',l,v3,hr,hi',hee,hl',hmm,hlen,hLo,rfl⟩
 have hi2:=hr.hi
 simp +contextual -implicitDefEqProofs only [K69,SS,rA,rS,rL,rE,reduceCtorEq]
 refine WC.call (z9 hr _) rfl rfl ?_
 rintro _ st3 (⟨rfl,rfl,hE⟩|⟨rfl,rfl,h3,hE⟩)
 · simp +contextual -implicitDefEqProofs only [K69,SS,rA,rS,rL,rE,reduceCtorEq]
   refine WC.leave ?_
   simp +contextual -implicitDefEqProofs only [K69,SS,rA,rS,rL,rE,reduceCtorEq]
   refine WC.ret ⟨_,_,rfl,l,rfl,⟨by omega,hl'⟩,i',e',hr,by omega,hee,fun h0=>?_⟩
   rw [hA]
   rw [if_pos h0] at hw
   rw [← hw]
   by_cases h1:e'=0
   · subst h1
     rw [if_pos rfl]
     exact hLo.exit (by omega) (by rw [R1,hE rfl]; rfl)
   · rw [if_neg h1]
     exact hLo.bad h1
 · simp +contextual -implicitDefEqProofs only [K69,SS,rA,rS,rL,rE,reduceCtorEq]
   refine WC.call (H8 h3) rfl rfl ?_
   rintro _ st4 ⟨t,rfl,i4,e4,h4,h4a,h4b,hX4⟩
   simp +contextual -implicitDefEqProofs only [K69,SS,rA,rS,rL,rE,reduceCtorEq]
   refine WC.call (b44 L o f h4 hd hd2) rfl rfl ?_
   rintro _ st5 ⟨as,rfl,has,i5,e5,h5,h5a,h5b,hX5⟩
   have hlt:rem L i5 e5 < rem L i' 0:=X2 rfl hr.hi (fun h0=>by
    have:=h4b (h5b h0)
    omega)
   have hfr:(l.length+1)*40≤2 ^ 47:=by omega
   simp +contextual -implicitDefEqProofs only [K69,SS,rA,rS,rL,rE,reduceCtorEq,c2g,List.length_map,hfr]
   refine WC.next (m':=rem L i5 e5) (by omega) ⟨i5,e5,l++[⟨t,as⟩],.box [.str t,.list false (as.map Arg.row)],h5,by omega,(fun h0=>hee rfl),fun a ha=>?_,rfl,by simp only [List.length_append,List.length_cons,List.length_nil]; omega,hLo.next (by omega) (fun h0=>by have:=h4b (h5b h0); omega) ?_,?_⟩
   · rcases List.mem_append.1 ha with h0|h0
     · exact hl' a h0
     · simp at h0; subst h0; exact has
   · rw [R1,hE,if_pos rfl]
     exact r7 (hX4 rfl) h5b fun h0=>r7 (hX5 h0) id fun h2=>by rw [if_pos h2]
   · simp only [List.map_append,List.map_cons,List.map_nil,Dir.row]
end Go.Cb.CodeA
