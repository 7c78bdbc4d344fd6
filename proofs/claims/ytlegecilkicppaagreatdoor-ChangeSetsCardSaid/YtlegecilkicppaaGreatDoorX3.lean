import Derived.Test.YtlegecilkicppaaGreatDoorX2
set_option maxRecDepth 20000
set_option linter.all false
namespace Go.Cb.CodeA
open Go Go.Cb
open Nat renaming reduceAdd→rA,reduceSub→rS,reduceLeDiff→rL,reduceEqDiff→rE
attribute [local congr] F1 H7 L1 K5 H5 H1 O7 N7 V.runR_congr
theorem c5V (a b:List Nat):l7 .gtr (.str a) (.str b)=some (.bool !(l6 a b || eqN a b)):=b9 rfl
theorem Ent.row_w (e:Ent):List.map AV.weak1 e.row=e.row:=rfl
def a5G (a b:List Nat):Int:=if l6 a b then -1 else if eqN a b then 0 else 1
theorem c0e (e:Ent) (id:List Nat) (st:St):EvQ e7 50 [.agg e.row,.str id] st (fun a st'=>st'=st∧a=.int .i64 (a5G e.id id)):=by
 have i:e.row=[.str e.t,.str e.id,.list false (e.ks.map r6),.list false (e.ls.map Val.row)]:=rfl;rw[i];refine wh (fn:=a50) rfl rfl rfl ?_;simp +contextual -implicitDefEqProofs only [K50,SS,rA,rS,rL,rE,reduceCtorEq];rcases s9 (l6 e.id id)with h|h
 · simp +contextual -implicitDefEqProofs only [K50,SS,rA,rS,rL,rE,reduceCtorEq,h];exact wb ⟨_,_,rfl,rfl,by rw[a5G,if_pos h]; rfl⟩
 rcases s9 (eqN e.id id)with h2|h2
 · simp +contextual -implicitDefEqProofs only [K50,SS,rA,rS,rL,rE,reduceCtorEq,h,h2,c5V,Bool.false_or,Bool.not_true,Bool.not_false];exact wb ⟨_,_,rfl,rfl,by rw[a5G,h,if_neg (by decide),if_pos h2]; rfl⟩
 · simp +contextual -implicitDefEqProofs only [K50,SS,rA,rS,rL,rE,reduceCtorEq,h,h2,c5V,Bool.false_or,Bool.not_true,Bool.not_false];exact wb ⟨_,_,rfl,rfl,by rw[a5G,h,if_neg (by decide),h2,if_neg (by decide)]; rfl⟩
abbrev y8 (es:List Ent):Prop:=es.Pairwise fun a b=>l6 a.id b.id=true
def B0 (id:List Nat):List Ent→Nat
 | []=>0
 | e::es=>if l6 e.id id then B0 id es+1 else 0
def t8 (id:List Nat) (es:List Ent):Bool:=match es[B0 id es]? with
 | some e=>eqN e.id id
 | none=>false
theorem a7b (id:List Nat):∀ es:List Ent,B0 id es≤es.length
 | []=>Nat.le_refl _
 | e::es=>by
  rw[B0];split
  · have:=a7b id es; rw[List.length_cons]; omega
  · omega
theorem b14 (id:List Nat):∀ (es:List Ent) (i:Nat),i≤es.length→(∀ k (h:k < es.length),k < i→l6 es[k].id id=true)→(∀ h:i < es.length,l6 es[i].id id=false)→B0 id es=i
 | [],i,h,_,_=>by simp at h; subst h; rfl
 | e::es,0,_,_,h2=>by rw[B0,show l6 e.id id=false from h2 (by simp)]; rfl
 | e::es,i+1,h,h1,h2=>by have j:l6 e.id id=true:=h1 0 (by simp) (by omega);rw[B0,if_pos j];rw[b14 id es i (by simpa using h) (fun k l t=>h1 (k+1) (by simpa using l) (by omega)) (fun hi=>h2 (by simpa using hi))]
theorem a2L {es:List Ent} {o:Nat} {st:St} (h:st[o]?=some (.cells (g8 es))) {i:Nat} (hi:i < es.length) (call:d8) (bx:AV):D2 true 4 call [.ptr o (i*4)] bx st=some (.agg es[i].row,bx,st):=by rw[R.ldAn_ptr,h];dsimp only;rw[a7x hi];rfl
theorem d33 {i j:Nat} (h:i+j < 2 ^ 62):B2 .i64 (Int.fdiv (B2 .u64 (B2 .i64 (a6K (i:Int) (j:Int)))) 2)=(((i+j) / 2:Nat):Int):=by
 have e1:B2 .i64 ((i:Int)+(j:Int))=(i:Int)+(j:Int):=a3F (by omega) (by omega);rw[addI_eq,e1];have:B2 .u64 ((i:Int)+(j:Int))=(i:Int)+(j:Int):=by rw[R5];simp only[IntKind.wrap,IntKind.signed,IntKind.bits,Bool.false_and,Bool.false_eq_true,if_false];omega
 rw[this];have e:Int.fdiv ((i:Int)+(j:Int)) 2=(((i+j) / 2:Nat):Int):=by rw[Int.fdiv_eq_ediv_of_nonneg _ (by omega)];omega
 rw[e,a3F (by omega) (by omega)]
theorem d6X (a:Int):l7 .shr (.int .u64 a) (.int .u64 1)=some (.int .u64 (Int.fdiv a 2)):=by
 have:(2:Int) ^ (min (1:Int).toNat IntKind.u64.bits)=2:=by decide
 simp only[l7];rw[this];rfl
theorem b8r {es:List Ent} {v:AV} {st:St} (h:EntsAt v es st) (hs:y8 es) (hl:es.length≤100000) (id:List Nat):EvQ e7 49 [v,.str id,.func 50 [] []] st (fun a st'=>st'=st∧a=.tuple [.int .i64 (B0 id es),.bool (t8 id es)]):=by
 rcases h with⟨rfl,rfl⟩|⟨o,rfl,S⟩
 · refine wh (fn:=a49) rfl rfl rfl ?_;simp +contextual -implicitDefEqProofs only [K49,SS,rA,rS,rL,rE,reduceCtorEq];refine we (fun M fr st'=>st'=st∧fr=[.nils,.str id,.func 50 [] [],.int .i64 0,.bool false,.int .i64 0,.int .i64 0,.int .i64 0,.undef]) (m:=0) ⟨rfl,rfl⟩ ?_;rintro M fr st' ⟨rfl,rfl⟩;simp +contextual -implicitDefEqProofs only [K49,SS,rA,rS,rL,rE,reduceCtorEq,show ltI 0 0=false from rfl];refine wd ?_;simp +contextual -implicitDefEqProofs only [K49,SS,rA,rS,rL,rE,reduceCtorEq,show ltI 0 0=false from rfl];exact wb ⟨_,_,rfl,rfl,rfl⟩
 · refine wh (fn:=a49) rfl rfl rfl ?_;simp +contextual -implicitDefEqProofs only [K49,SS,rA,rS,rL,rE,reduceCtorEq];refine we (fun M fr st'=>st'=st∧∃ (i j:Nat) (T:AV),i≤j∧j≤es.length∧M=j - i∧(∀ k (h:k < es.length),k < i→l6 es[k].id id=true)∧(∀ k (h:k < es.length),j≤k→l6 es[k].id id=false)∧fr=[.sl o 0 es.length 4,.str id,.func 50 [] [],.int .i64 0,.bool false,.int .i64 es.length,.int .i64 i,.int .i64 j,T]) (m:=es.length) ⟨rfl,0,es.length,_,Nat.zero_le _,Nat.le_refl _,by omega,fun k _ G=>absurd G (Nat.not_lt_zero _),fun k N J=>by omega,rfl⟩ ?_;rintro M fr st' ⟨rfl,i,j,T,V,R,rfl,N,J,rfl⟩;simp +contextual -implicitDefEqProofs only [K49,SS,rA,rS,rL,rE,reduceCtorEq,ltN];by_cases I:i < j
   · have hm:(i+j) / 2 < es.length:=by omega
     have W:i≤(i+j) / 2:=by omega
     have U:(i+j) / 2 < j:=by omega
     have z:=d33 (i:=i) (j:=j) (by omega);have u:=fun call bx=>a2L S hm call bx
     have l:=c0e (es[(i+j) / 2]) id st';have y:l6 es[(i+j) / 2].id id=true→∀ k (h:k < es.length),k < (i+j) / 2+1→l6 es[k].id id=true:=fun F k G O=>by
      by_cases e:k=(i+j) / 2
      · subst e; exact F
      · exact Y5 _ _ _ (List.pairwise_iff_getElem.1 hs k ((i+j) / 2) G hm (by omega)) F
     have t:l6 es[(i+j) / 2].id id=false→∀ k (h:k < es.length),(i+j) / 2≤k→l6 es[k].id id=false:=fun F k G O=>by
      by_cases e:k=(i+j) / 2
      · subst e; exact F
      · rcases s9 (l6 es[k].id id)with h3|h3
        · have:=Y5 _ _ _ (List.pairwise_iff_getElem.1 hs ((i+j) / 2) k hm G (by omega)) h3;rw[F]at this; cases this
        · exact h3
     revert u l y t z;generalize Y:(i+j) / 2=m at *
     generalize es[m]=e;intro z u l y t;have E:((m:Int) < (es.length:Int))=True:=by simp; omega
     simp +contextual -implicitDefEqProofs only [K49,SS,rA,rS,rL,rE,reduceCtorEq,I,ltN,d6X,z,E,if_true,u,Ent.row_w];refine wi l rfl rfl ?_;rintro _ _ ⟨rfl,rfl⟩;unfold a5G;rcases s9 (l6 e.id id)with hq|hq
     · simp +contextual -implicitDefEqProofs only [K49,SS,rA,rS,rL,rE,reduceCtorEq,hq,if_true,show ltI (-1) 0=true from rfl,a0z (show m+1 < 2 ^ 63 by omega)];exact wc (m':=j - (m+1)) (by omega) ⟨rfl,m+1,j,_,by omega,R,rfl,y hq,J,rfl⟩
     · have:ltI (if eqN e.id id=true then 0 else 1) 0=false:=by split<;>rfl
       simp +contextual -implicitDefEqProofs only [K49,SS,rA,rS,rL,rE,reduceCtorEq,hq,if_false,this,Bool.false_eq_true];exact wc (m':=m - i) (by omega) ⟨rfl,i,m,_,by omega,by omega,rfl,N,t hq,rfl⟩
   · simp +contextual -implicitDefEqProofs only [K49,SS,rA,rS,rL,rE,reduceCtorEq,I,ltN];refine wd ?_;obtain rfl:i=j:=by omega
     have B:B0 id es=i:=b14 id es i R N (fun h=>J i h (Nat.le_refl _));by_cases x:i < es.length
     · have u:=fun call bx=>a2L S x call bx
       have l:=c0e (es[i]) id st';have D:=J i x (Nat.le_refl _);have C:t8 id es=eqN es[i].id id:=by rw[t8,B,List.getElem?_eq_getElem x]
       have E:((i:Int) < (es.length:Int))=True:=by simp; omega
       rw[B,C];revert u l D;generalize es[i]=e;intro u l D;simp +contextual -implicitDefEqProofs only [K49,SS,rA,rS,rL,rE,reduceCtorEq,x,ltN,E,if_true,u,Ent.row_w];refine wi l rfl rfl ?_;rintro _ _ ⟨rfl,rfl⟩;simp +contextual -implicitDefEqProofs only [K49,SS,rA,rS,rL,rE,reduceCtorEq];refine wb ⟨_,_,rfl,rfl,?_⟩;have:eqI (a5G e.id id) 0=eqN e.id id:=by unfold a5G;rw[D,if_neg (by decide)];cases eqN e.id id<;>rfl
       rw[this];rfl
     · have C:t8 id es=false:=by rw[t8,B,List.getElem?_eq_none (by omega)]
       rw[B,C];simp +contextual -implicitDefEqProofs only [K49,SS,rA,rS,rL,rE,reduceCtorEq,x,ltN];exact wb ⟨_,_,rfl,rfl,rfl⟩
end Go.Cb.CodeA
