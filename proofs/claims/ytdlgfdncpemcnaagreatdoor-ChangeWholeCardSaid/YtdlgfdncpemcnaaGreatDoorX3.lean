import Derived.Test.YtdlgfdncpemcnaaGreatDoorX2
set_option maxRecDepth 20000
set_option linter.all false
namespace Go.Cb.CodeA
open Go Go.Cb
open Nat renaming reduceAdd→rA,reduceSub→rS,reduceLeDiff→rL,reduceEqDiff→rE
attribute [local congr] H6 L7 O2 O3 K5 L8 S4 R9 V.runR_congr
theorem d4Z (a b:List Nat):l8 .gtr (.str a) (.str b)=some (.bool !(l5 a b || eqN a b)):=b9 rfl
theorem Ent.row_w (e:Ent):List.map AV.weak1 e.row=e.row:=rfl
def a5p (a b:List Nat):Int:=if l5 a b then -1 else if eqN a b then 0 else 1
theorem c0u (e:Ent) (id:List Nat) (st:St):EvQ e8 78 [.agg e.row,.str id] st (fun a st'=>st'=st∧a=.int .i64 (a5p e.id id)):=by
 have i:e.row=[.str e.t,.str e.id,.list false (e.ks.map m3),.list false (e.ls.map Val.row)]:=rfl;rw[i];refine wh (fn:=a78) rfl rfl rfl ?_;simp +contextual -implicitDefEqProofs only [K78,SS,rA,rS,rL,rE,reduceCtorEq];rcases D8 (l5 e.id id)with h|h
 · simp +contextual -implicitDefEqProofs only [K78,SS,rA,rS,rL,rE,reduceCtorEq,h];exact wb ⟨_,_,rfl,rfl,by rw[a5p,if_pos h]; rfl⟩
 rcases D8 (eqN e.id id)with h2|h2
 · simp +contextual -implicitDefEqProofs only [K78,SS,rA,rS,rL,rE,reduceCtorEq,h,h2,d4Z,Bool.false_or,Bool.not_true,Bool.not_false];exact wb ⟨_,_,rfl,rfl,by rw[a5p,h,if_neg (by decide),if_pos h2]; rfl⟩
 · simp +contextual -implicitDefEqProofs only [K78,SS,rA,rS,rL,rE,reduceCtorEq,h,h2,d4Z,Bool.false_or,Bool.not_true,Bool.not_false];exact wb ⟨_,_,rfl,rfl,by rw[a5p,h,if_neg (by decide),h2,if_neg (by decide)]; rfl⟩
abbrev C9 (es:List Ent):Prop:=es.Pairwise fun a b=>l5 a.id b.id=true
def C1 (id:List Nat):List Ent→Nat
 | []=>0
 | e::es=>if l5 e.id id then C1 id es+1 else 0
def D4 (id:List Nat) (es:List Ent):Bool:=match es[C1 id es]? with
 | some e=>eqN e.id id
 | none=>false
theorem a6V (id:List Nat):∀ es:List Ent,C1 id es≤es.length
 | []=>Nat.le_refl _
 | e::es=>by
  rw[C1];split
  · have:=a6V id es; rw[List.length_cons]; omega
  · omega
theorem b2b (id:List Nat):∀ (es:List Ent) (i:Nat),i≤es.length→(∀ k (h:k < es.length),k < i→l5 es[k].id id=true)→(∀ h:i < es.length,l5 es[i].id id=false)→C1 id es=i
 | [],i,h,_,_=>by simp at h; subst h; rfl
 | e::es,0,_,_,h2=>by rw[C1,show l5 e.id id=false from h2 (by simp)]; rfl
 | e::es,i+1,h,h1,h2=>by have j:l5 e.id id=true:=h1 0 (by simp) (by omega);rw[C1,if_pos j];rw[b2b id es i (by simpa using h) (fun k hk l=>h1 (k+1) (by simpa using hk) (by omega)) (fun hi=>h2 (by simpa using hi))]
theorem a3g {es:List Ent} {o:Nat} {st:St} (h:st[o]?=some (.cells (e9 es))) {i:Nat} (hi:i < es.length) (call:d8) (bx:AV):D3 true 4 call [.ptr o (i*4)] bx st=some (.agg es[i].row,bx,st):=by rw[R.ldAn_ptr,h];dsimp only;rw[a7P hi];rfl
theorem g2T {i j:Nat} (h:i+j < 2 ^ 62):A0 .i64 (Int.fdiv (A0 .u64 (A0 .i64 (a6U (i:Int) (j:Int)))) 2)=(((i+j) / 2:Nat):Int):=by
 have l:A0 .i64 ((i:Int)+(j:Int))=(i:Int)+(j:Int):=a4p (by omega) (by omega);rw[addI_eq,l];have:A0 .u64 ((i:Int)+(j:Int))=(i:Int)+(j:Int):=by rw[R8];simp only[IntKind.wrap,IntKind.signed,IntKind.bits,Bool.false_and,Bool.false_eq_true,if_false];omega
 rw[this];have e:Int.fdiv ((i:Int)+(j:Int)) 2=(((i+j) / 2:Nat):Int):=by rw[Int.fdiv_eq_ediv_of_nonneg _ (by omega)];omega
 rw[e,a4p (by omega) (by omega)]
theorem g7M (a:Int):l8 .shr (.int .u64 a) (.int .u64 1)=some (.int .u64 (Int.fdiv a 2)):=by
 have:(2:Int) ^ (min (1:Int).toNat IntKind.u64.bits)=2:=by decide
 simp only[l8];rw[this];rfl
theorem b7r {es:List Ent} {v:AV} {st:St} (h:EntsAt v es st) (hs:C9 es) (hl:es.length≤100000) (id:List Nat):EvQ e8 77 [v,.str id,.func 78 [] []] st (fun a st'=>st'=st∧a=.tuple [.int .i64 (C1 id es),.bool (D4 id es)]):=by
 rcases h with⟨rfl,rfl⟩|⟨o,rfl,U⟩
 · refine wh (fn:=a77) rfl rfl rfl ?_;simp +contextual -implicitDefEqProofs only [K77,SS,rA,rS,rL,rE,reduceCtorEq];refine we (fun M fr st'=>st'=st∧fr=[.nils,.str id,.func 78 [] [],.int .i64 0,.bool false,.int .i64 0,.int .i64 0,.int .i64 0,.undef]) (m:=0) ⟨rfl,rfl⟩ ?_;rintro M fr st' ⟨rfl,rfl⟩;simp +contextual -implicitDefEqProofs only [K77,SS,rA,rS,rL,rE,reduceCtorEq,show ltI 0 0=false from rfl];refine wd ?_;simp +contextual -implicitDefEqProofs only [K77,SS,rA,rS,rL,rE,reduceCtorEq,show ltI 0 0=false from rfl];exact wb ⟨_,_,rfl,rfl,rfl⟩
 · refine wh (fn:=a77) rfl rfl rfl ?_;simp +contextual -implicitDefEqProofs only [K77,SS,rA,rS,rL,rE,reduceCtorEq];refine we (fun M fr st'=>st'=st∧∃ (i j:Nat) (V:AV),i≤j∧j≤es.length∧M=j - i∧(∀ k (h:k < es.length),k < i→l5 es[k].id id=true)∧(∀ k (h:k < es.length),j≤k→l5 es[k].id id=false)∧fr=[.sl o 0 es.length 4,.str id,.func 78 [] [],.int .i64 0,.bool false,.int .i64 es.length,.int .i64 i,.int .i64 j,V]) (m:=es.length) ⟨rfl,0,es.length,_,Nat.zero_le _,Nat.le_refl _,by omega,fun k _ hk=>absurd hk (Nat.not_lt_zero _),fun k N J=>by omega,rfl⟩ ?_;rintro M fr st' ⟨rfl,i,j,V,Y,T,rfl,N,J,rfl⟩;simp +contextual -implicitDefEqProofs only [K77,SS,rA,rS,rL,rE,reduceCtorEq,ltN];by_cases I:i < j
   · have S:(i+j) / 2 < es.length:=by omega
     have Z:i≤(i+j) / 2:=by omega
     have W:(i+j) / 2 < j:=by omega
     have z:=g2T (i:=i) (j:=j) (by omega);have u:=fun call bx=>a3g U S call bx
     have l:=c0u (es[(i+j) / 2]) id st';have y:l5 es[(i+j) / 2].id id=true→∀ k (h:k < es.length),k < (i+j) / 2+1→l5 es[k].id id=true:=fun G k hk O=>by
      by_cases e:k=(i+j) / 2
      · subst e; exact G
      · exact T8 _ _ _ (List.pairwise_iff_getElem.1 hs k ((i+j) / 2) hk S (by omega)) G
     have t:l5 es[(i+j) / 2].id id=false→∀ k (h:k < es.length),(i+j) / 2≤k→l5 es[k].id id=false:=fun G k hk O=>by
      by_cases e:k=(i+j) / 2
      · subst e; exact G
      · rcases D8 (l5 es[k].id id)with h3|h3
        · have:=T8 _ _ _ (List.pairwise_iff_getElem.1 hs ((i+j) / 2) k S hk (by omega)) h3;rw[G]at this; cases this
        · exact h3
     revert u l y t z;generalize a0:(i+j) / 2=m at *
     generalize es[m]=e;intro z u l y t;have F:((m:Int) < (es.length:Int))=True:=by simp; omega
     simp +contextual -implicitDefEqProofs only [K77,SS,rA,rS,rL,rE,reduceCtorEq,I,ltN,g7M,z,F,if_true,u,Ent.row_w];refine wi l rfl rfl ?_;rintro _ _ ⟨rfl,rfl⟩;unfold a5p;rcases D8 (l5 e.id id)with hq|hq
     · simp +contextual -implicitDefEqProofs only [K77,SS,rA,rS,rL,rE,reduceCtorEq,hq,if_true,show ltI (-1) 0=true from rfl,a0X (show m+1 < 2 ^ 63 by omega)];exact wc (m':=j - (m+1)) (by omega) ⟨rfl,m+1,j,_,by omega,T,rfl,y hq,J,rfl⟩
     · have:ltI (if eqN e.id id=true then 0 else 1) 0=false:=by split<;>rfl
       simp +contextual -implicitDefEqProofs only [K77,SS,rA,rS,rL,rE,reduceCtorEq,hq,if_false,this,Bool.false_eq_true];exact wc (m':=m - i) (by omega) ⟨rfl,i,m,_,by omega,by omega,rfl,N,t hq,rfl⟩
   · simp +contextual -implicitDefEqProofs only [K77,SS,rA,rS,rL,rE,reduceCtorEq,I,ltN];refine wd ?_;obtain rfl:i=j:=by omega
     have B:C1 id es=i:=b2b id es i T N (fun h=>J i h (Nat.le_refl _));by_cases x:i < es.length
     · have u:=fun call bx=>a3g U x call bx
       have l:=c0u (es[i]) id st';have E:=J i x (Nat.le_refl _);have D:D4 id es=eqN es[i].id id:=by rw[D4,B,List.getElem?_eq_getElem x]
       have F:((i:Int) < (es.length:Int))=True:=by simp; omega
       rw[B,D];revert u l E;generalize es[i]=e;intro u l E;simp +contextual -implicitDefEqProofs only [K77,SS,rA,rS,rL,rE,reduceCtorEq,x,ltN,F,if_true,u,Ent.row_w];refine wi l rfl rfl ?_;rintro _ _ ⟨rfl,rfl⟩;simp +contextual -implicitDefEqProofs only [K77,SS,rA,rS,rL,rE,reduceCtorEq];refine wb ⟨_,_,rfl,rfl,?_⟩;have:eqI (a5p e.id id) 0=eqN e.id id:=by unfold a5p;rw[E,if_neg (by decide)];cases eqN e.id id<;>rfl
       rw[this];rfl
     · have D:D4 id es=false:=by rw[D4,B,List.getElem?_eq_none (by omega)]
       rw[B,D];simp +contextual -implicitDefEqProofs only [K77,SS,rA,rS,rL,rE,reduceCtorEq,x,ltN];exact wb ⟨_,_,rfl,rfl,rfl⟩
end Go.Cb.CodeA
