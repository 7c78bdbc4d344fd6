import Derived.Test.YtbibkdncfclnbaaGreatDoorX2
set_option maxRecDepth 20000
set_option linter.unusedSimpArgs false
set_option linter.unusedVariables false
namespace Go.Cb.CodeA
open Go Go.Cb
open Nat renaming reduceAdd→rA,reduceSub→rS,reduceLeDiff→rL,reduceEqDiff→rE
attribute [local congr] j1 k8 l5 k9 k4 j9 m0 m2 V.runR_congr
theorem c0a (a b:List Nat):j3 .gtr (.str a) (.str b)=some (.bool !(g8 a b || eqN a b)):=a8 rfl
theorem Ent.row_w (e:Ent):List.map AV.weak1 e.row=e.row:=rfl
def a2M (a b:List Nat):Int:=if g8 a b then -1 else if eqN a b then 0 else 1
theorem b7d (e:Ent) (id:List Nat) (st:St):EvQ tbl 93 [.agg e.row,.str id] st (fun a st'=>st'=st∧a=.int .i64 (a2M e.id id)):=by
 have ee:e.row=[.str e.t,.str e.id,.list false (e.ks.map j6),.list false (e.ls.map Val.row)]:=rfl
 rw [ee]
 refine EvQ.body (fn:=a93) rfl rfl rfl ?_
 simp +contextual -implicitDefEqProofs only [K93,SS,rA,rS,rL,rE,reduceCtorEq]
 rcases j5 (g8 e.id id) with h|h
 · simp +contextual -implicitDefEqProofs only [K93,SS,rA,rS,rL,rE,reduceCtorEq,h]
   exact WC.ret ⟨_,_,rfl,rfl,by rw [a2M,if_pos h]; rfl⟩
 rcases j5 (eqN e.id id) with h2|h2
 · simp +contextual -implicitDefEqProofs only [K93,SS,rA,rS,rL,rE,reduceCtorEq,h,h2,c0a,Bool.false_or,Bool.not_true,Bool.not_false]
   exact WC.ret ⟨_,_,rfl,rfl,by rw [a2M,h,if_neg (by decide),if_pos h2]; rfl⟩
 · simp +contextual -implicitDefEqProofs only [K93,SS,rA,rS,rL,rE,reduceCtorEq,h,h2,c0a,Bool.false_or,Bool.not_true,Bool.not_false]
   exact WC.ret ⟨_,_,rfl,rfl,by rw [a2M,h,if_neg (by decide),h2,if_neg (by decide)]; rfl⟩
abbrev A9 (es:List Ent):Prop:=es.Pairwise fun a b=>g8 a.id b.id=true
/-- where a name stands, or would stand -/
def n7 (id:List Nat):List Ent→Nat
 | []=>0
 | e::es=>if g8 e.id id then n7 id es+1 else 0
def C1 (id:List Nat) (es:List Ent):Bool:=match es[n7 id es]? with
 | some e=>eqN e.id id
 | none=>false
theorem a9U (id:List Nat):∀ es:List Ent,n7 id es≤es.length
 | []=>Nat.le_refl _
 | e::es=>by
  rw [n7]
  split
  · have:=a9U id es; rw [List.length_cons]; omega
  · omega
theorem a9x (id:List Nat):∀ (es:List Ent) (i:Nat),i≤es.length→(∀ k (h:k < es.length),k < i→g8 es[k].id id=true)→(∀ h:i < es.length,g8 es[i].id id=false)→n7 id es=i
 | [],i,h,_,_=>by simp at h; subst h; rfl
 | e::es,0,_,_,h2=>by rw [n7,show g8 e.id id=false from h2 (by simp)]; rfl
 | e::es,i+1,h,h1,h2=>by
  have h0:g8 e.id id=true:=h1 0 (by simp) (by omega)
  rw [n7,if_pos h0]
  rw [a9x id es i (by simpa using h) (fun k hk hki=>h1 (k+1) (by simpa using hk) (by omega)) (fun hi=>h2 (by simpa using hi))]
theorem a2G {es:List Ent} {o:Nat} {st:St} (h:st[o]?=some (.cells (i6 es))) {i:Nat} (hi:i < es.length) (call:b9) (bx:AV):B6 true 4 call [.ptr o (i*4)] bx st=some (.agg es[i].row,bx,st):=by
 rw [R.ldAn_ptr,h]
 dsimp only
 rw [a5N hi]
 rfl
theorem c7c {i j:Nat} (h:i+j < 2 ^ 62):o9 .i64 (Int.fdiv (o9 .u64 (o9 .i64 (a4O (i:Int) (j:Int)))) 2)=(((i+j) / 2:Nat):Int):=by
 have e1:o9 .i64 ((i:Int)+(j:Int))=(i:Int)+(j:Int):=a0O (by omega) (by omega)
 rw [addI_eq,e1]
 have:o9 .u64 ((i:Int)+(j:Int))=(i:Int)+(j:Int):=by
  rw [J0]
  simp only [IntKind.wrap,IntKind.signed,IntKind.bits,Bool.false_and,Bool.false_eq_true,if_false]
  omega
 rw [this]
 have e:Int.fdiv ((i:Int)+(j:Int)) 2=(((i+j) / 2:Nat):Int):=by
  rw [Int.fdiv_eq_ediv_of_nonneg _ (by omega)]
  omega
 rw [e,a0O (by omega) (by omega)]
theorem c7I (a:Int):j3 .shr (.int .u64 a) (.int .u64 1)=some (.int .u64 (Int.fdiv a 2)):=by
 have:(2:Int) ^ (min (1:Int).toNat IntKind.u64.bits)=2:=by decide
 simp only [j3]
 rw [this]
 rfl
theorem b44 {es:List Ent} {v:AV} {st:St} (h:EntsAt v es st) (hs:A9 es) (hl:es.length≤100000) (id:List Nat):EvQ tbl 92 [v,.str id,.func 93 [] []] st (fun a st'=>st'=st∧a=.tuple [.int .i64 (n7 id es),.bool (C1 id es)]):=by
 rcases h with ⟨rfl,rfl⟩|⟨o,rfl,ho⟩
 · refine EvQ.body (fn:=a92) rfl rfl rfl ?_
   simp +contextual -implicitDefEqProofs only [K92,SS,rA,rS,rL,rE,reduceCtorEq]
   refine WC.loopR (fun mm fr st'=>st'=st∧fr=[.nils,.str id,.func 93 [] [],.int .i64 0,.bool false,.int .i64 0,.int .i64 0,.int .i64 0,.undef]) (m:=0) ⟨rfl,rfl⟩ ?_
   rintro mm fr st' ⟨rfl,rfl⟩
   simp +contextual -implicitDefEqProofs only [K92,SS,rA,rS,rL,rE,reduceCtorEq,show ltI 0 0=false from rfl]
   refine WC.leave ?_
   simp +contextual -implicitDefEqProofs only [K92,SS,rA,rS,rL,rE,reduceCtorEq,show ltI 0 0=false from rfl]
   exact WC.ret ⟨_,_,rfl,rfl,rfl⟩
 · refine EvQ.body (fn:=a92) rfl rfl rfl ?_
   simp +contextual -implicitDefEqProofs only [K92,SS,rA,rS,rL,rE,reduceCtorEq]
   refine WC.loopR (fun mm fr st'=>st'=st∧∃ (i j:Nat) (v8:AV),i≤j∧j≤es.length∧mm=j - i∧(∀ k (h:k < es.length),k < i→g8 es[k].id id=true)∧(∀ k (h:k < es.length),j≤k→g8 es[k].id id=false)∧fr=[.sl o 0 es.length 4,.str id,.func 93 [] [],.int .i64 0,.bool false,.int .i64 es.length,.int .i64 i,.int .i64 j,v8]) (m:=es.length) ⟨rfl,0,es.length,_,Nat.zero_le _,Nat.le_refl _,by omega,fun k _ hk=>absurd hk (Nat.not_lt_zero _),fun k h1 h2=>by omega,rfl⟩ ?_
   rintro mm fr st' ⟨rfl,i,j,v8,hij,hj,rfl,h1,h2,rfl⟩
   simp +contextual -implicitDefEqProofs only [K92,SS,rA,rS,rL,rE,reduceCtorEq,ltN]
   by_cases hlt:i < j
   · have hm:(i+j) / 2 < es.length:=by omega
     have hlo:i≤(i+j) / 2:=by omega
     have hhi:(i+j) / 2 < j:=by omega
     have hmid:=c7c (i:=i) (j:=j) (by omega)
     have hld:=fun call bx=>a2G ho hm call bx
     have hcq:=b7d (es[(i+j) / 2]) id st'
     have hlow:g8 es[(i+j) / 2].id id=true→∀ k (h:k < es.length),k < (i+j) / 2+1→g8 es[k].id id=true:=fun hh k hk hki=>by
      by_cases e:k=(i+j) / 2
      · subst e; exact hh
      · exact J6 _ _ _ (List.pairwise_iff_getElem.1 hs k ((i+j) / 2) hk hm (by omega)) hh
     have hhigh:g8 es[(i+j) / 2].id id=false→∀ k (h:k < es.length),(i+j) / 2≤k→g8 es[k].id id=false:=fun hh k hk hki=>by
      by_cases e:k=(i+j) / 2
      · subst e; exact hh
      · rcases j5 (g8 es[k].id id) with h3|h3
        · have:=J6 _ _ _ (List.pairwise_iff_getElem.1 hs ((i+j) / 2) k hm hk (by omega)) h3
          rw [hh] at this; cases this
        · exact h3
     revert hld hcq hlow hhigh hmid
     generalize hmm:(i+j) / 2=m at *
     generalize es[m]=e
     intro hmid hld hcq hlow hhigh
     have hml:((m:Int) < (es.length:Int))=True:=by simp; omega
     simp +contextual -implicitDefEqProofs only [K92,SS,rA,rS,rL,rE,reduceCtorEq,hlt,ltN,c7I,hmid,hml,if_true,hld,Ent.row_w]
     refine WC.callV hcq rfl rfl ?_
     rintro _ _ ⟨rfl,rfl⟩
     unfold a2M
     rcases j5 (g8 e.id id) with hq|hq
     · simp +contextual -implicitDefEqProofs only [K92,SS,rA,rS,rL,rE,reduceCtorEq,hq,if_true,show ltI (-1) 0=true from rfl,D7 (show m+1 < 2 ^ 63 by omega)]
       exact WC.next (m':=j - (m+1)) (by omega) ⟨rfl,m+1,j,_,by omega,hj,rfl,hlow hq,h2,rfl⟩
     · have:ltI (if eqN e.id id=true then 0 else 1) 0=false:=by split <;> rfl
       simp +contextual -implicitDefEqProofs only [K92,SS,rA,rS,rL,rE,reduceCtorEq,hq,if_false,this,Bool.false_eq_true]
       exact WC.next (m':=m - i) (by omega) ⟨rfl,i,m,_,by omega,by omega,rfl,h1,hhigh hq,rfl⟩
   · simp +contextual -implicitDefEqProofs only [K92,SS,rA,rS,rL,rE,reduceCtorEq,hlt,ltN]
     refine WC.leave ?_
     obtain rfl:i=j:=by omega
     have hpe:n7 id es=i:=a9x id es i hj h1 (fun h=>h2 i h (Nat.le_refl _))
     by_cases hil:i < es.length
     · have hld:=fun call bx=>a2G ho hil call bx
       have hcq:=b7d (es[i]) id st'
       have hle:=h2 i hil (Nat.le_refl _)
       have hhe:C1 id es=eqN es[i].id id:=by rw [C1,hpe,List.getElem?_eq_getElem hil]
       have hml:((i:Int) < (es.length:Int))=True:=by simp; omega
       rw [hpe,hhe]
       revert hld hcq hle
       generalize es[i]=e
       intro hld hcq hle
       simp +contextual -implicitDefEqProofs only [K92,SS,rA,rS,rL,rE,reduceCtorEq,hil,ltN,hml,if_true,hld,Ent.row_w]
       refine WC.callV hcq rfl rfl ?_
       rintro _ _ ⟨rfl,rfl⟩
       simp +contextual -implicitDefEqProofs only [K92,SS,rA,rS,rL,rE,reduceCtorEq]
       refine WC.ret ⟨_,_,rfl,rfl,?_⟩
       have:eqI (a2M e.id id) 0=eqN e.id id:=by
        unfold a2M
        rw [hle,if_neg (by decide)]
        cases eqN e.id id <;> rfl
       rw [this]
       rfl
     · have hhe:C1 id es=false:=by rw [C1,hpe,List.getElem?_eq_none (by omega)]
       rw [hpe,hhe]
       simp +contextual -implicitDefEqProofs only [K92,SS,rA,rS,rL,rE,reduceCtorEq,hil,ltN]
       exact WC.ret ⟨_,_,rfl,rfl,rfl⟩
end Go.Cb.CodeA
