import Derived.Test.YtbibkdncfclnbaaGreatDoorLA
set_option maxRecDepth 20000
set_option linter.unusedSimpArgs false
set_option linter.unusedVariables false
namespace Go.Cb.CodeA
open Go Go.Cb
open Nat renaming reduceAdd→rA,reduceSub→rS,reduceLeDiff→rL,reduceEqDiff→rE
attribute [local congr] g8 i8 j1 j0 i6 g9 j4 j5 V.runR_congr
theorem a2F:∀ {ps:List (Pth×Int)} {i:Nat} (h:i < ps.length),(t8 ps)[i*2]?=some (.list false (ps[i].1.map d8))∧(t8 ps)[i*2+1]?=some (.int .i64 ps[i].2)
 | p::ps,0,_=>⟨rfl,rfl⟩
 | p::ps,i+1,h=>by
  have ih:=a2F (ps:=ps) (i:=i) (by simpa using h)
  rw [show t8 (p::ps)=.list false (p.1.map d8)::.int .i64 p.2::t8 ps from rfl,show (i+1)*2=i*2+1+1 by omega]
  exact ih
theorem a2a {cs:List AV} {j:Nat} {c:AV} (h:cs[j]?=some c):j3 false 1 (cs.drop j)=some c.weak1:=by
 obtain ⟨hlt,e⟩:=List.getElem?_eq_some_iff.1 h
 rw [List.drop_eq_getElem_cons hlt,e]
 rfl
theorem ProbAt.len {pv:AV} {ps:List (Pth×Int)} {st:St} (h:ProbAt pv ps st):∀ (call:b9) (bx:AV) (st:St),C8 call [pv] bx st=some (.int .i64 ps.length,bx,st):=fun call bx st=>by
 rcases h with ⟨rfl,rfl|rfl⟩|⟨o,rfl,_⟩ <;> rfl
theorem ProbAt.at {pv:AV} {ps:List (Pth×Int)} {st:St} (h:ProbAt pv ps st) {i:Nat} (hi:i < ps.length):∃ o,pv=.sl o 0 ps.length 2∧st[o]?=some (.cells (t8 ps)):=by
 rcases h with ⟨rfl,_⟩|h
 · cases hi
 · exact h
theorem a6q {n:Int} (hn:0≤n∧n < 256):n6 .i64 n=n:=by
 obtain ⟨m,rfl⟩:=Int.eq_ofNat_of_zero_le hn.1
 unfold n6
 dsimp only
 rw [if_pos (by rw [Nat.blt_eq]; omega)]
 rfl
theorem a6W (a b:List Nat):l6 .add (.str a) (.str b)=if a.length+b.length≤2 ^ 62 then some (.str (a++b)) else none:=rfl
/-- what is known of two documents of which one has another name -/
structure AliasD (d d':List Sel) (nm:List Nat):Prop where
 x:SelX 2001 d
 x':SelX 2001 d'
 pure:∀ (es:List Ent) (v:AV),es.length≤12→(∀ e∈es,e.Good)→∃ (D D':Val) (l:List (Pth×Int)),a1Q (E0 d es v) d=(0,D,l.map (U6 [nm]))∧a1Q (E0 d' es v) d'=(0,D',l.map (U6 [zz9]))∧((D=Val.none∧D'=Val.none)∨∃ w:Val,w.Fin∧D=a4B [nm] [w]∧D'=a4B [zz9] [w])
theorem S2 (l:List Thg) (hl:∀ x∈l,x.OK) {d d':List Sel} {nm:List Nat} (hA:AliasD d d' nm) {a1 v3:AV} {x:List Nat} (hx:x.length≤1000) {st1:St} {RR:St→Prop}
 (h2:EvQ tbl 13 [.ptr 80 0,.str ([123,122,122,57,58,32]++x++[125])] st1 (fun a st'=>a=N2 d'∧Gr a0I st'∧RR st')) :
 WC (fun n'=>e9 (l3 tbl n') n' a4s53 [.list false (l.map Thg.row),a1,.bool false,v3,.str x,.ptr 52 0,.ptr 80 0,.box [.list false [[.bool false,.str [],.list false [],.list false (d.map Sel.row)]],.list false []],.bool true,.undef,.undef,.undef,.undef,.undef,.undef] st1)
  (fun o=>∃ r st',finK [.v 2] (some o)=some (r,st')∧r=.bool true):=by
 unfold N2 at h2
 simp +contextual -implicitDefEqProofs only [K4,SS,rA,rS,rL,rE,reduceCtorEq,Nat.reducePow,if_true,Option.map_some,a6W,List.length_cons,List.length_nil,List.length_append,show (6+x.length≤4611686018427387904)=True by simp; omega,show (6+x.length+1≤4611686018427387904)=True by simp; omega,show (x.length≤4611686018427387898)=True by simp; omega,show (x.length≤4611686018427387897)=True by simp; omega,List.cons_append,List.nil_append]
 refine WC.call h2 rfl rfl ?_
 rintro _ st1 ⟨rfl,hg1,_⟩
 simp +contextual -implicitDefEqProofs only [K4,SS,rA,rS,rL,rE,reduceCtorEq]
 refine WC.call (b7K l hl st1) rfl rfl ?_
 rintro _ st1 ⟨rfl,L,rfl,hL,hg⟩
 simp +contextual -implicitDefEqProofs only [K4,SS,rA,rS,rL,rE,reduceCtorEq]
 refine WC.call (d34 L (by omega) st1) rfl rfl ?_
 rintro _ st2 ⟨v0,rfl,hv0,hg2⟩
 obtain ⟨hs0,hl0,hm0⟩:=b5O L
 have hge:∀ e∈ofE L,e.Good:=fun e he=>hg e (hm0 e he)
 have hle:(ofE L).length≤12:=by omega
 obtain ⟨w1,w2,w3,w4,w5,w6,w7⟩:=hv0.wk
 have hB2:=hg1.trans hg2
 have hq:=qry (d:=d) hB2 hv0 hs0 hle hge hA.x
 have hq':=fun (B:St) (h:Gr st2 B)=>qry (d:=d') (hB2.trans h) (hv0.gr h) hs0 hle hge hA.x'
 obtain ⟨D,D',ps,hR,hR',hD⟩:=hA.pure (ofE L) v0 hle hge
 rw [hR] at hq
 rw [hR'] at hq'
 unfold b4k at hq hq'
 generalize ofE L=es at *
 simp +contextual -implicitDefEqProofs only [K4,SS,rA,rS,rL,rE,reduceCtorEq,w1,w2,w3,w4,w5,w6,w7]
 refine WC.call hq (by simp only [R.allPlain_c,R.allPlain_n,R.plain_agg]; rfl) (by simp only [List.map_cons,List.map_nil,N4,w2]; rfl) ?_
 rintro _ st3 ⟨hg3,pv,rfl,hpv,hps⟩
 have hq':=hq' st3 hg3
 obtain ⟨u1,u2,u3,u4,u5,u6,u7⟩:=hpv.wk
 unfold b9A
 dsimp only at hpv ⊢
 simp +contextual -implicitDefEqProofs only [K4,SS,rA,rS,rL,rE,reduceCtorEq,w1,w2,w3,w4,w5,w6,w7,u1,u2,u3,u4,u5,u6,u7]
 refine WC.call hq' (by simp only [R.allPlain_c,R.allPlain_n,R.plain_agg]; rfl) (by simp only [List.map_cons,List.map_nil,N4,w2]; rfl) ?_
 rintro _ st4 ⟨hg4,pv',rfl,hpv',_⟩
 have hpv:=hpv.gr hg4
 obtain ⟨x1,x2,x3,x4,x5,x6,x7⟩:=hpv'.wk
 have hln:=hpv.len
 have hln':=hpv'.len
 unfold b9A
 dsimp only at hpv' hln' ⊢
 rw [List.length_map] at hln hln'
 have hk:eqI D.kind D'.kind=true:=by
  rcases hD with ⟨rfl,rfl⟩|⟨w,_,rfl,rfl⟩ <;> rfl
 simp +contextual -implicitDefEqProofs only [K4,SS,rA,rS,rL,rE,reduceCtorEq,Bool.not_true,hk,hln,hln',a4F,u1,u2,u3,u4,u5,u6,u7,x1,x2,x3,x4,x5,x6,x7]
 have hpl:ps.length≤100000:=by rw [← List.length_map (f:=U6 [nm])]; exact hps
 refine WC.loopR (fun mm fr st'=>st'=st4∧∃ (i:Nat),i≤ps.length∧mm=ps.length - i∧fr=[.list false (l.map Thg.row),a1,.bool false,v3,.str x,.ptr 52 0,.ptr 80 0,.box [.list false [[.bool false,.str [],.list false [],.list false (d.map Sel.row)]],.list false []],.bool true,.box [.list false [[.bool false,.str [],.list false [],.list false (d'.map Sel.row)]],.list false []],.bool true,.box [v0],.box [.int .i64 0,.int .u8 D.kind,.int .i64 D.num,.str D.text,.list false (D.names.map d8),.list false (D.vals.map Val.row),pv],.box [.int .i64 0,.int .u8 D'.kind,.int .i64 D'.num,.str D'.text,.list false (D'.names.map d8),.list false (D'.vals.map Val.row),pv'],.int .i64 i]) (m:=ps.length) ⟨rfl,0,Nat.zero_le _,rfl,rfl⟩ ?_
 rintro mm fr st' ⟨rfl,i,hi,rfl,rfl⟩
 simp +contextual -implicitDefEqProofs only [K4,SS,rA,rS,rL,rE,reduceCtorEq,ltN,hln,hln',u1,u2,u3,u4,u5,u6,u7,x1,x2,x3,x4,x5,x6,x7]
 by_cases hil:i < ps.length
 · obtain ⟨o,eo,ho⟩:=hpv.at (i:=i) (by rw [List.length_map]; exact hil)
   obtain ⟨o',eo',ho'⟩:=hpv'.at (i:=i) (by rw [List.length_map]; exact hil)
   obtain ⟨e1,e2⟩:=a2F (ps:=ps.map (U6 [nm])) (i:=i) (by rw [List.length_map]; exact hil)
   obtain ⟨e1',e2'⟩:=a2F (ps:=ps.map (U6 [zz9])) (i:=i) (by rw [List.length_map]; exact hil)
   rw [List.length_map] at eo eo'
   subst eo eo'
   rw [List.getElem_map] at e1 e2 e1' e2'
   revert e1 e2 e1' e2'
   generalize ps[i]=z
   obtain ⟨zp,ze⟩:=z
   intro e1 e2 e1' e2'
   have hml:((i:Int) < (ps.length:Int))=True:=by simp; omega
   have n1:(U6 [nm] (zp,ze)).1.map d8=[.str nm]::zp.map d8:=rfl
   have n2:(U6 [zz9] (zp,ze)).1.map d8=[.str [122,122,57]]::zp.map d8:=rfl
   rw [n1] at e1
   rw [n2] at e1'
   have e1:=a2a e1
   have e1':=a2a e1'
   have e2:=a2a (show (t8 (ps.map (U6 [nm])))[i*2+1]?=some (.int .i64 ze) from e2)
   have e2':=a2a (show (t8 (ps.map (U6 [zz9])))[i*2+1]?=some (.int .i64 ze) from e2')
   simp (maxSteps:=1000000) (contextual:=true) (implicitDefEqProofs:=false) only [K4,SS,rA,rS,rL,rE,reduceCtorEq,hil,hml,if_true,ho,ho',e1,e2,e1',e2',List.cons_append,List.nil_append,List.length_cons,a4F,a0H,Bool.not_true,List.getElem?_cons_zero,s4 (show i+1 < 2 ^ 63 by omega)]
   exact WC.next (m':=ps.length - (i+1)) (by omega) ⟨rfl,i+1,hil,rfl,rfl⟩
 · simp +contextual -implicitDefEqProofs only [K4,SS,rA,rS,rL,rE,reduceCtorEq,hil]
   refine WC.leave ?_
   rcases hD with ⟨rfl,rfl⟩|⟨w,hw,rfl,rfl⟩
   · simp +contextual -implicitDefEqProofs only [K4,SS,rA,rS,rL,rE,reduceCtorEq,Val.none,Val.kind,show eqI 0 0=true from rfl,u1,u2,u3,u4,u5,u6,u7,x1,x2,x3,x4,x5,x6,x7]
     exact WC.ret ⟨_,_,rfl,rfl⟩
   · have hsm:=c5Q hw st'
     rw [w.row_eta] at hsm
     unfold a4B zz9 Val.kind Val.num Val.text Val.names Val.vals
     dsimp only
     simp only [List.map_cons,List.map_nil]
     rw [w.row_eta,show d8 nm=[.str nm] from rfl,show d8 [122,122,57]=[.str [122,122,57]] from rfl]
     simp (maxSteps:=1000000) (contextual:=true) (implicitDefEqProofs:=false) only [K4,SS,rA,rS,rL,rE,reduceCtorEq,show eqI 6 0=false from rfl,List.length_cons,List.length_nil,show eqI (((0+1:Nat)):Int) 1=true from rfl,List.getElem?_cons_zero,show eqN [122,122,57] [122,122,57]=true from rfl,u1,u2,u3,u4,u5,u6,u7,x1,x2,x3,x4,x5,x6,x7]
     refine WC.call hsm rfl rfl ?_
     rintro _ _ ⟨rfl,rfl⟩
     simp +contextual -implicitDefEqProofs only [K4,SS,rA,rS,rL,rE,reduceCtorEq]
     exact WC.ret ⟨_,_,rfl,rfl⟩
def by_ (s:List Nat):List Nat:=s
def fPerson:FDef:=⟨[112,101,114,115,111,110],[idF.row],.base b2T false,false,Val.none⟩
def fNamed:FDef:=⟨[110,97,109,101,100],[idF.row],.base [78,97,109,101,100] false,false,Val.none⟩
def fAll:FDef:=⟨[97,108,108],[],.wrap (.base [78,97,109,101,100] true) true,false,Val.none⟩
theorem c2I:AliasD dA0 dA1 b3m:=⟨L7 (by kernel_rfl),L7 (by kernel_rfl),fun es v hl hg=>T1 (f:=c2S) hl hg (by kernel_rfl) (by kernel_rfl) (by kernel_rfl)⟩
theorem c1M:AliasD dA2 dA3 c0A:=⟨L7 (by kernel_rfl),L7 (by kernel_rfl),fun es v hl hg=>T1 (f:=d0S) hl hg (by kernel_rfl) (by kernel_rfl) (by kernel_rfl)⟩
theorem c2k:AliasD dA4 dA5 fPerson.n:=⟨L7 (by kernel_rfl),L7 (by kernel_rfl),fun es v hl hg=>T1 (f:=fPerson) hl hg (by kernel_rfl) (by kernel_rfl) (by kernel_rfl)⟩
theorem c2l:AliasD dA6 dA7 fAll.n:=⟨L7 (by kernel_rfl),L7 (by kernel_rfl),fun es v hl hg=>T1 (f:=fAll) hl hg (by kernel_rfl) (by kernel_rfl) (by kernel_rfl)⟩
theorem c27:AliasD dA8 dA9 fNamed.n:=⟨L7 (by kernel_rfl),L7 (by kernel_rfl),fun es v hl hg=>T1 (f:=fNamed) hl hg (by kernel_rfl) (by kernel_rfl) (by kernel_rfl)⟩
theorem il3:(0≤(3:Int))=True:=by simp
theorem it3:(3:Int).toNat=3:=rfl
theorem il4:(0≤(4:Int))=True:=by simp
theorem it4:(4:Int).toNat=4:=rfl
theorem alias_law (l:List Thg) (hl:∀ x∈l,x.OK) (n:Int) (hn:0≤n∧n < 256):EvQ tbl 4 [.list false (l.map Thg.row),.int .u8 n] [] (fun a _=>a=.bool true):=by
 refine EvQ.body (fn:=a4) rfl rfl rfl ?_
 simp +contextual -implicitDefEqProofs only [K4b,SS,rA,rS,rL,rE,reduceCtorEq]
 refine WC.call c1P rfl rfl ?_
 rintro _ _ ⟨rfl,rfl⟩
 have z5:((5:Int)=0)=False:=by simp
 have hj:n.tmod 5=0∨n.tmod 5=1∨n.tmod 5=2∨n.tmod 5=3∨n.tmod 5=4:=by
  rw [Int.tmod_eq_emod_of_nonneg hn.1]
  omega
 rcases hj with hj|hj|hj|hj|hj
 · simp +contextual -implicitDefEqProofs only [K4b,SS,rA,rS,rL,rE,reduceCtorEq,Bool.not_true,Nat.reduceLT,if_true,Option.map_some,a6q hn,z5,if_false,hj,il3,it3,il4,it4,List.getElem?_cons_zero,List.getElem?_cons_succ]
   refine WC.call a2Y rfl rfl ?_
   rintro _ _ ⟨rfl,rfl⟩
   have hrd:=L6 d33
   unfold mo0 tA0 N2 at hrd
   simp +contextual -implicitDefEqProofs only [K4b,SS,rA,rS,rL,rE,reduceCtorEq,List.cons_append,List.nil_append,Nat.reducePow,if_true,Option.map_some,a6W,List.length_cons,List.length_nil]
   refine WC.call hrd rfl rfl ?_
   rintro _ st1 ⟨rfl,hg1,hrd⟩
   have hrd:=L6 hrd
   unfold mo0 tA1 at hrd
   simp +contextual -implicitDefEqProofs only [K4b,SS,rA,rS,rL,rE,reduceCtorEq]
   exact S2 l hl c2I (by decide) hrd
 · simp +contextual -implicitDefEqProofs only [K4b,SS,rA,rS,rL,rE,reduceCtorEq,Bool.not_true,Nat.reduceLT,if_true,Option.map_some,a6q hn,z5,if_false,hj,il3,it3,il4,it4,List.getElem?_cons_zero,List.getElem?_cons_succ]
   refine WC.call a2Y rfl rfl ?_
   rintro _ _ ⟨rfl,rfl⟩
   have hrd:=L6 d36
   unfold mo0 tA2 N2 at hrd
   simp +contextual -implicitDefEqProofs only [K4b,SS,rA,rS,rL,rE,reduceCtorEq,List.cons_append,List.nil_append,Nat.reducePow,if_true,Option.map_some,a6W,List.length_cons,List.length_nil]
   refine WC.call hrd rfl rfl ?_
   rintro _ st1 ⟨rfl,hg1,hrd⟩
   have hrd:=L6 hrd
   unfold mo0 tA3 at hrd
   simp +contextual -implicitDefEqProofs only [K4b,SS,rA,rS,rL,rE,reduceCtorEq]
   exact S2 l hl c1M (by decide) hrd
 · simp +contextual -implicitDefEqProofs only [K4b,SS,rA,rS,rL,rE,reduceCtorEq,Bool.not_true,Nat.reduceLT,if_true,Option.map_some,a6q hn,z5,if_false,hj,il3,it3,il4,it4,List.getElem?_cons_zero,List.getElem?_cons_succ]
   refine WC.call a2Y rfl rfl ?_
   rintro _ _ ⟨rfl,rfl⟩
   have hrd:=L6 d5q
   unfold mo0 tA4 N2 at hrd
   simp +contextual -implicitDefEqProofs only [K4b,SS,rA,rS,rL,rE,reduceCtorEq,List.cons_append,List.nil_append,Nat.reducePow,if_true,Option.map_some,a6W,List.length_cons,List.length_nil]
   refine WC.call hrd rfl rfl ?_
   rintro _ st1 ⟨rfl,hg1,hrd⟩
   have hrd:=L6 hrd
   unfold mo0 tA5 at hrd
   simp +contextual -implicitDefEqProofs only [K4b,SS,rA,rS,rL,rE,reduceCtorEq]
   exact S2 l hl c2k (by decide) hrd
 · simp +contextual -implicitDefEqProofs only [K4b,SS,rA,rS,rL,rE,reduceCtorEq,Bool.not_true,Nat.reduceLT,if_true,Option.map_some,a6q hn,z5,if_false,hj,il3,it3,il4,it4,List.getElem?_cons_zero,List.getElem?_cons_succ]
   refine WC.call a2Y rfl rfl ?_
   rintro _ _ ⟨rfl,rfl⟩
   have hrd:=L6 d26
   unfold mo0 tA6 N2 at hrd
   simp +contextual -implicitDefEqProofs only [K4b,SS,rA,rS,rL,rE,reduceCtorEq,List.cons_append,List.nil_append,Nat.reducePow,if_true,Option.map_some,a6W,List.length_cons,List.length_nil]
   refine WC.call hrd rfl rfl ?_
   rintro _ st1 ⟨rfl,hg1,hrd⟩
   have hrd:=L6 hrd
   unfold mo0 tA7 at hrd
   simp +contextual -implicitDefEqProofs only [K4b,SS,rA,rS,rL,rE,reduceCtorEq]
   exact S2 l hl c2l (by decide) hrd
 · simp +contextual -implicitDefEqProofs only [K4b,SS,rA,rS,rL,rE,reduceCtorEq,Bool.not_true,Nat.reduceLT,if_true,Option.map_some,a6q hn,z5,if_false,hj,il3,it3,il4,it4,List.getElem?_cons_zero,List.getElem?_cons_succ]
   refine WC.call a2Y rfl rfl ?_
   rintro _ _ ⟨rfl,rfl⟩
   have hrd:=L6 d4Z
   unfold mo0 tA8 N2 at hrd
   simp +contextual -implicitDefEqProofs only [K4b,SS,rA,rS,rL,rE,reduceCtorEq,List.cons_append,List.nil_append,Nat.reducePow,if_true,Option.map_some,a6W,List.length_cons,List.length_nil]
   refine WC.call hrd rfl rfl ?_
   rintro _ st1 ⟨rfl,hg1,hrd⟩
   have hrd:=L6 hrd
   unfold mo0 tA9 at hrd
   simp +contextual -implicitDefEqProofs only [K4b,SS,rA,rS,rL,rE,reduceCtorEq]
   exact S2 l hl c27 (by decide) hrd
end Go.Cb.CodeA
