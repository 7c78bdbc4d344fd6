/- What functions of the abstract machine answer. No conditions but those that each theorem names. -/
import Derived.Test.YthnliekianmljaaGreatDoorD2
set_option maxRecDepth 20000
set_option linter.unusedSimpArgs false
set_option linter.unusedVariables false
namespace Go.Cb.CodeA
open Go Go.Cb
open Nat renaming reduceAdd → rA,reduceSub → rS,reduceLeDiff → rL,reduceEqDiff → rE
attribute [local congr] i8 k4 k6 k7 j4 j3 l8 l7 V.runR_congr
variable {B:St}

theorem c0v {L:List Tok} {o:Nat} {st:St} {i:Nat} {d:Int} (h:Rd B L o st i d 0) (s:List Nat) :
 EvQ tbl 26 [.ptr o 0,.str s] st (fun a st'=>∃ i' e',Rd B L o st' i' d e'∧i≤i'∧(e'=0→i < i')∧a2V L s i=if e'=0 then some i' else none):=by
 obtain ⟨bad,ho⟩:=h.ob
 have hs:∀ y:Obj,(st.set o y)[o]?=some y:=fun y=>m9 ho
 have hl:=h.hL.2
 have hi:=h.hi
 have i1:=l5 (show i+1 < 2 ^ 63 by omega)
 refine EvQ.body (fn:=a26) rfl rfl rfl ?_
 simp +contextual -implicitDefEqProofs only [K26,SS,rA,rS,rL,rE,reduceCtorEq,ho,rdC,show eqI 0 0=true from rfl]
 refine WC.call (a6G h s) rfl rfl ?_
 rintro _ st1 ⟨rfl,b,rfl,hb,hbs⟩
 have hbs:=hbs rfl
 simp +contextual -implicitDefEqProofs only [K26,SS,rA,rS,rL,rE,reduceCtorEq]
 refine WC.br (fun hk=>?_) (fun hk=>?_)
 · have hk:b=false:=by simpa using hk
   simp +contextual -implicitDefEqProofs only [K26,SS,rA,rS,rL,rE,reduceCtorEq]
   refine WC.call (a0b h 4 (by decide)) rfl rfl ?_
   rintro _ st2 ⟨e2,h2,he2⟩
   simp +contextual -implicitDefEqProofs only [K26,SS,rA,rS,rL,rE,reduceCtorEq]
   exact WC.ret ⟨_,_,rfl,i,e2,h2,Nat.le_refl _,(fun h=>absurd h he2),by rw [a2V,← hbs,hk,if_neg he2]; rfl⟩
 · have hk:b=true:=by simpa using hk
   have hkk:=(hb hk).2
   simp +contextual -implicitDefEqProofs only [K26,SS,rA,rS,rL,rE,reduceCtorEq,ho,rdC,hs,i1]
   exact WC.ret ⟨_,_,rfl,i+1,0,h.put (H0 h.hL.1 h.hi (by rw [hkk]; decide)),by omega,(fun _=>by omega),by rw [a2V,← hbs,hk]; rfl⟩
theorem VDef.row_mk {n:List Nat} {t:TRef} {has:Bool} {v:Val} {tn:List Nat} {txs:List (List AV)} {tb:Bool} {vk vn:Int} {vs:List Nat} {vx vy:List (List AV)}
 (et:t.row=[.str tn,.list false txs,.bool tb]) (ev:v.row=[.int .u8 vk,.int .i64 vn,.str vs,.list false vx,.list false vy]):(VDef.mk n t has v).row=[.str n,.str tn,.list false txs,.bool tb,.bool has,.int .u8 vk,.int .i64 vn,.str vs,.list false vx,.list false vy]:=by
 rw [VDef.row,et,ev]; rfl
theorem VDef.row_cells (v:VDef):∃ n tn txs tb has vk vn vs vx vy,v.row=[.str n,.str tn,.list false txs,.bool tb,.bool has,.int .u8 vk,.int .i64 vn,.str vs,.list false vx,.list false vy]:=by
 obtain ⟨n,t,has,v⟩:=v
 obtain ⟨tn,txs,tb,etr⟩:=t.row_cells
 obtain ⟨vk,vn,vs,vx,vy,ev⟩:=v.row_cells
 exact ⟨_,_,_,_,_,_,_,_,_,_,VDef.row_mk etr ev⟩
theorem d1M (l:List VDef):m7 10 (l.map VDef.row)=true:=E3 (by
 intro r hr
 obtain ⟨v,_,rfl⟩:=List.mem_map.1 hr
 obtain ⟨_,_,_,_,_,_,_,_,_,_,e⟩:=v.row_cells
 rw [e]; rfl)
theorem c8p (l:List Op):m7 4 (l.map Op.row)=true:=E3 (by
 intro r hr
 obtain ⟨v,_,rfl⟩:=List.mem_map.1 hr
 rfl)
theorem b7c (l:List Frag):m7 3 (l.map Frag.row)=true:=E3 (by
 intro r hr
 obtain ⟨v,_,rfl⟩:=List.mem_map.1 hr
 rfl)
theorem b94 {L:List Tok} {o:Nat} {st:St} {i:Nat} (h:Rd B L o st i 0 0) :
 EvQ tbl 27 [.ptr o 0] st (fun a st'=>∃ v:VDef,a=.agg v.row∧v.v.OK∧a1P B L o i 0 0 (a2D L i) v st'):=by
 refine EvQ.body (fn:=a27) rfl rfl rfl ?_
 simp +contextual -implicitDefEqProofs only [K27,SS,rA,rS,rL,rE,reduceCtorEq]
 refine WC.call (a0i h _) rfl rfl ?_
 rintro _ st1 ⟨i1,e1,h1,h1a,h1b,hX1⟩
 simp +contextual -implicitDefEqProofs only [K27,SS,rA,rS,rL,rE,reduceCtorEq]
 refine WC.call (H8 h1) rfl rfl ?_
 rintro _ st2 ⟨n,rfl,i2,e2,h2,h2a,h2b,hX2⟩
 simp +contextual -implicitDefEqProofs only [K27,SS,rA,rS,rL,rE,reduceCtorEq]
 refine WC.call (a0i h2 _) rfl rfl ?_
 rintro _ st3 ⟨i3,e3,h3,h3a,h3b,hX3⟩
 simp +contextual -implicitDefEqProofs only [K27,SS,rA,rS,rL,rE,reduceCtorEq]
 refine WC.call (c8Q L o 24 h3 (Int.le_refl _) (by decide)) rfl rfl ?_
 rintro _ st4 ⟨t,rfl,i4,e4,h4,h4a,h4b,hX4⟩
 obtain ⟨tn,txs,tb,etr⟩:=t.row_cells
 simp +contextual -implicitDefEqProofs only [K27,SS,rA,rS,rL,rE,reduceCtorEq,etr]
 have hS:∀ (e7:Int) (s:VDef) (i7:Nat),(e7=0→e4=0)→(e4=0→(if s8 L i4 [61] then j0 (t9 L true 24 (i4+1)) fun v j=>some ((⟨n,t,true,v⟩:VDef),j) else some (⟨n,t,false,Val.none⟩,i4))=if e7=0 then some (s,i7) else none)→a2D L i=if e7=0 then some (s,i7) else none:=by
  intro e7 s i7 g1 g2
  exact a3e (hX1 rfl) (fun h=>(h2b (h3b (h4b (g1 h)).1).1).1) fun h0=>r7 (hX2 h0) (fun h=>(h3b (h4b (g1 h)).1).1) fun h0=>a3e (hX3 h0) (fun h=>(h4b (g1 h)).1) fun h0=>r7 (hX4 h0) g1 g2
 refine WC.call (z9 h4 _) rfl rfl ?_
 rintro _ st5 (⟨rfl,rfl,hE⟩|⟨rfl,rfl,h5,hE⟩)
 · simp +contextual -implicitDefEqProofs only [K27,SS,rA,rS,rL,rE,reduceCtorEq]
   refine WC.ret ⟨_,_,rfl,⟨n,t,false,Val.none⟩,?_,Val.none_ok,i4,e4,h4,by omega,(fun h0=>⟨rfl,?_⟩),fun _=>?_⟩
   · rw [VDef.row_mk etr Val.none_row]; rfl
   · have b4:=h4b h0; have b3:=h3b b4.1; have b2:=h2b b3.1; have:=h1b b2.1; omega
   · refine hS e4 _ i4 id fun h0=>?_
     rw [hE h0,if_neg (by decide),if_pos h0]
 · simp +contextual -implicitDefEqProofs only [K27,SS,rA,rS,rL,rE,reduceCtorEq]
   refine WC.call (b1L L true o 24 h5 (Int.le_refl _) (by decide)) rfl rfl ?_
   rintro _ st6 ⟨v,hv,rfl,i6,e6,h6,h6a,h6b,hX6⟩
   obtain ⟨vk,vn,vs,vx,vy,ev⟩:=v.row_cells
   simp +contextual -implicitDefEqProofs only [K27,SS,rA,rS,rL,rE,reduceCtorEq,ev]
   refine WC.ret ⟨_,_,rfl,⟨n,t,true,v⟩,?_,hv,i6,e6,h6,by omega,(fun h0=>⟨rfl,?_⟩),fun _=>?_⟩
   · rw [VDef.row_mk etr ev]; rfl
   · have:=h6b h0; omega
   · refine hS e6 _ i6 (fun _=>rfl) fun h0=>?_
     rw [hE,if_pos rfl]
     exact r7 (hX6 rfl) id fun h0=>by rw [if_pos h0]
end Go.Cb.CodeA
