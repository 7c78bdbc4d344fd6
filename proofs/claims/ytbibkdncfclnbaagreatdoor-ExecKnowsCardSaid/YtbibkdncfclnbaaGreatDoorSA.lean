import Derived.Test.YtbibkdncfclnbaaGreatDoorZs1
import Derived.Test.YtbibkdncfclnbaaGreatDoorYs1
set_option maxRecDepth 20000
set_option linter.all false
namespace Go.Cb.CodeA
open Go Go.Cb
open Nat renaming reduceAdd→rA,reduceSub→rS,reduceLeDiff→rL,reduceEqDiff→rE
attribute [local congr] g9 j3 j4 j5 i8 j0 j8 j9 V.runR_congr
theorem ProbAt.len {pv:AV} {ps:List (Pth×Int)} {st:St} (h:ProbAt pv ps st):∀ (call:d8) (bx:AV) (st:St),H6 call [pv] bx st=some (.int .i64 ps.length,bx,st):=fun call bx st=>by rcases h with⟨rfl,rfl|rfl⟩|⟨o,rfl,_⟩<;>rfl
theorem ProbAt.at {pv:AV} {ps:List (Pth×Int)} {st:St} (h:ProbAt pv ps st) {i:Nat} (hi:i < ps.length):∃ o,pv=.sl o 0 ps.length 2∧st[o]?=some (.cells (H5 ps)):=by
 rcases h with⟨rfl,_⟩|h
 · cases hi
 · exact h
theorem a7R:∀ {ps:List (Pth×Int)} {i:Nat} (h:i < ps.length),l8 true 2 ((H5 ps).drop (i*2))=some (.agg [.list false (ps[i].1.map b9),.int .i64 ps[i].2])
 | p::ps,0,_=>rfl
 | p::ps,i+1,h=>by have e:=a7R (ps:=ps) (i:=i) (by simpa using h);rw[show H5 (p::ps)=.list false (p.1.map b9)::.int .i64 p.2::H5 ps from rfl,show(i+1)*2=i*2+1+1 by omega];exact e
theorem b0f (e:Int) {D:Val} (hD:D.Fin) {ps:List (Pth×Int)} (hl:ps.length≤100000) (W:∀ x∈ps,x.1.length≤100000) {pv u:AV} {st:St} (U:ProbAt pv ps st) (y:ProbAt u ps st) :
 EvQ tbl 20 [a1G e D pv,a1G e D u] st (fun a st'=>st'=st∧a=.bool true):=by
 have Z:=c6U hD st;obtain⟨u1,Y,u3,u4,u5,u6,u7⟩:=U.wk;obtain⟨x1,x2,x3,x4,x5,x6,x7⟩:=y.wk;have J:=U.len;have L:=y.len;unfold a1G;rw[D.row_eta]at Z;refine wj (fn:=a20) rfl rfl rfl ?_;simp only[K20,rA,rS,rL,rE,a4h,Y,x2];refine wa Z rfl rfl ?_;rintro _ st ⟨rfl,rfl⟩;simp only[K20,a4h,J,L,u1,Y,u4,x1,x2,x4];refine wg (fun M fr st'=>st'=st∧∃ (i:Nat) (v6 v7 v8:AV),i≤ps.length∧M=ps.length - i∧fr=[.agg [.int .i64 e,.int .u8 D.kind,.int .i64 D.num,.str D.text,.list false (D.names.map b9),.list false (D.vals.map Val.row),pv],.agg [.int .i64 e,.int .u8 D.kind,.int .i64 D.num,.str D.text,.list false (D.names.map b9),.list false (D.vals.map Val.row),u],
  .box [.int .i64 e,.int .u8 D.kind,.int .i64 D.num,.str D.text,.list false (D.names.map b9),.list false (D.vals.map Val.row),pv],.box [.int .i64 e,.int .u8 D.kind,.int .i64 D.num,.str D.text,.list false (D.names.map b9),.list false (D.vals.map Val.row),u],.bool false,.int .i64 i,v6,v7,v8]) (m:=ps.length) ⟨rfl,0,_,_,_,Aa _,rfl,rfl⟩ ?_
 rintro M fr st' ⟨rfl,i,v6,v7,v8,hi,rfl,rfl⟩;simp only[K20,rE,J,u1,Y,u4];by_cases l:i < ps.length
 rotate_left
 · simp only[SS,l];refine we ?_;simp only[K20];exact wc ⟨_,_,rfl,rfl,rfl⟩
 obtain⟨o,eo,ho⟩:=U.at l;obtain⟨o',N,T⟩:=y.at l;subst eo N;have e2:=a7R l;have C:=W _ (List.getElem_mem l);have O:((i:Int) < (ps.length:Int))=True:=by simp; omega
 revert e2 C;generalize ps[i]=z;obtain⟨I,ze⟩:=z;intro e2 C;dsimp only at e2 C;simp only[K20,rA,rE,l,O,ho,T,e2,a4h,AG];refine wg (fun M fr v=>v=st'∧∃ (j:Nat),j≤I.length∧M=I.length - j∧fr=[.agg [.int .i64 e,.int .u8 D.kind,.int .i64 D.num,.str D.text,.list false (D.names.map b9),.list false (D.vals.map Val.row),.sl o 0 ps.length 2],.agg [.int .i64 e,.int .u8 D.kind,.int .i64 D.num,.str D.text,.list false (D.names.map b9),.list false (D.vals.map Val.row),.sl o' 0 ps.length 2],
  .box [.int .i64 e,.int .u8 D.kind,.int .i64 D.num,.str D.text,.list false (D.names.map b9),.list false (D.vals.map Val.row),.sl o 0 ps.length 2],.box [.int .i64 e,.int .u8 D.kind,.int .i64 D.num,.str D.text,.list false (D.names.map b9),.list false (D.vals.map Val.row),.sl o' 0 ps.length 2],.bool false,.int .i64 i,.box [.list false (I.map b9),.int .i64 ze],.box [.list false (I.map b9),.int .i64 ze],.int .i64 j]) (m:=I.length) ⟨rfl,0,Aa _,rfl,rfl⟩ ?_
 rintro M fr v ⟨rfl,j,hj,rfl,rfl⟩;simp only[K20,rE,AG];by_cases t:j < I.length
 · have e3:=a0A t;simp only[K20,rE,t,e3,R2,k7 (show j+1 < 2 ^ 63 by omega)];exact wd (m':=I.length - (j+1)) (by omega) ⟨rfl,j+1,t,rfl,rfl⟩
 · simp only[SS,t];refine we ?_;simp only[K20,rE,k7 (show i+1 < 2 ^ 63 by omega)];exact wd (m':=ps.length - (i+1)) (by omega) ⟨rfl,i+1,_,_,_,l,rfl,rfl⟩
end Go.Cb.CodeA
