import Derived.Test.YtlegecilkicppaaGreatDoorX1
set_option maxRecDepth 20000
set_option linter.all false
namespace Go.Cb.CodeA
open Go Go.Cb
open Nat renaming reduceAdd→rA,reduceSub→rS,reduceLeDiff→rL,reduceEqDiff→rE
attribute [local congr] F1 H7 L1 K5 H5 H1 O7 N7 V.runR_congr
theorem a2x (a b:List Nat):eqN a b=true↔a=b:=by rw[a3B]; simp
theorem q7 (a:List Nat):eqN a a=true:=(a2x a a).2 rfl
theorem a0o:∀ a:List Nat,l6 a a=false
 | []=>rfl
 | a::x=>by
  have h:Nat.blt a a=false:=by
   rcases s9 (Nat.blt a a)with h|h
   · rw[Nat.blt_eq]at h; omega
   · exact h
  rw[l6,h,a0o x,Bool.and_false];rfl
theorem a5D:∀ a b:List Nat,l6 a b=false→l6 b a=false→a=b
 | [],[],_,_=>rfl
 | [],b::y,h,_=>by simp[l6]at h
 | a::x,[],_,h=>by simp[l6]at h
 | a::x,b::y,i,j=>by
  simp only[l6,Bool.or_eq_false_iff,Bool.and_eq_false_iff,Nat.blt_eq,Bool.not_eq_true]at i j;obtain⟨i,h3⟩:=i;obtain⟨j,h4⟩:=j;have e1:¬ a < b:=fun h=>by
   have:Nat.blt a b=true:=by simpa[Nat.blt_eq]using h
   rw[this]at i; cases i
  have e2:¬ b < a:=fun h=>by
   have:Nat.blt b a=true:=by simpa[Nat.blt_eq]using h
   rw[this]at j; cases j
  obtain rfl:a=b:=by omega
  have l:Nat.beq a a=true:=by simp
  rw[l]at h3 h4;rcases h3 with h3|h3
  · cases h3
  rcases h4 with h4|h4
  · cases h4
  rw[a5D x y h3 h4]
theorem Y5:∀ a b c:List Nat,l6 a b=true→l6 b c=true→l6 a c=true
 | _,[],_,h,_=>by simp[l6]at h
 | _,_::_,[],_,h=>by simp[l6]at h
 | [],_::_,_::_,_,_=>rfl
 | a::x,b::y,c::z,j,i=>by
  simp only[l6,Bool.or_eq_true,Bool.and_eq_true,Nat.blt_eq,Nat.beq_eq]at j i ⊢;rcases j with j|⟨j,l⟩
  · rcases i with i|⟨i,_⟩
    · left; omega
    · left; omega
  · rcases i with i|⟨i,t⟩
    · left; omega
    · right; exact⟨by omega,Y5 x y z l t⟩
def g8 (es:List Ent):List AV:=es.flatMap Ent.row
theorem a0B (es:List Ent):∀ i,(g8 es).drop (i*4)=g8 (es.drop i):=by
 induction es with
 | nil=>intro i; simp[g8]
 | cons e es j =>
  intro i;cases i with
  | zero=>rw[Nat.zero_mul,List.drop_zero,List.drop_zero]
  | succ i =>rw[List.drop_succ_cons,← j i,show(i+1)*4=i*4+4 by omega,← List.drop_drop,show g8 (e::es)=e.row++g8 es from rfl];rw[List.drop_drop,show i*4+4=4+i*4 by omega,← List.drop_drop];rfl
theorem Y1 (es:List Ent):(g8 es).length=es.length*4:=by
 induction es with
 | nil=>rfl
 | cons e es i=>rw[show g8 (e::es)=e.row++g8 es from rfl,List.length_append,i,List.length_cons]; simp[Ent.row]; omega
theorem a3n (a b:List Ent):g8 (a++b)=g8 a++g8 b:=by simp[g8]
theorem a7x {es:List Ent} {i:Nat} (h:i < es.length):i8 true 4 ((g8 es).drop (i*4))=some (.agg es[i].row):=by rw[a0B,List.drop_eq_getElem_cons h];rfl
def EntsAt (v:AV) (es:List Ent) (st:St):Prop:=(v=.nils∧es=[])∨∃ o,v=.sl o 0 es.length 4∧st[o]?=some (.cells (g8 es))
theorem b9F (l:List Thg) (h:∀ x∈l,x.OK) (st:St):EvQ e7 7 [.list false (l.map Thg.row)] st (fun a st'=>st'=st∧∃ es:List Ent,a=.list false (es.map Ent.row)∧es.length≤12∧∀ e∈es,e.Good):=by
 refine wh (fn:=a7) rfl rfl rfl ?_;simp +contextual -implicitDefEqProofs only [K7,SS,rA,rS,rL,rE,reduceCtorEq];refine we (fun D fr st'=>st'=st∧∃ (i:Nat) (es:List Ent),i≤12∧D=12 - i∧es.length≤i∧(∀ e∈es,e.Good)∧fr=[.list false (l.map Thg.row),.list true [],.list true (es.map Ent.row),.int .i64 i]) (m:=12) ⟨rfl,0,[],by decide,rfl,by simp,by simp,rfl⟩ ?_;rintro D fr st' ⟨rfl,i,es,hi,rfl,I,B,rfl⟩;simp +contextual -implicitDefEqProofs only [K7,SS,rA,rS,rL,rE,reduceCtorEq,List.length_map,ltN];rcases s9 (decide (i < l.length) && ltI (i:Int) 12)with hc|hc
 · have j:i < l.length:=by rw[Bool.and_eq_true]at hc;exact of_decide_eq_true hc.1
   have G:i < 12:=by rw[Bool.and_eq_true,ltI_eq]at hc;have:=of_decide_eq_true hc.2;omega
   have e1:(l.map Thg.row)[i]?=some l[i].row:=by rw[List.getElem?_map,List.getElem?_eq_getElem j]; rfl
   have z:=h _ (List.getElem_mem j);revert e1 z;generalize l[i]=x;intro e1 z;have C:=b7O z st';have ex:x.row=[.int .u8 x.t,.int .u8 x.d,.int .i32 x.n,.str x.s,.list false (x.refs.map a03),.int .u8 x.lack]:=rfl;rw[ex]at e1 C;simp +contextual -implicitDefEqProofs only [K7,SS,rA,rS,rL,rE,reduceCtorEq,hc,e1];refine wa C rfl rfl ?_;rintro _ _ ⟨rfl,e,rfl,F,_⟩;have y:m2 4 (es.map Ent.row)=true:=a2P fun r J=>by obtain⟨v,_,rfl⟩:=List.mem_map.1 J;rfl
   have E:e.row=[.str e.t,.str e.id,.list false (e.ks.map r6),.list false (e.ls.map Val.row)]:=rfl;rw[E];simp +contextual -implicitDefEqProofs only [K7,SS,rA,rS,rL,rE,reduceCtorEq,y,List.length_map,a0z (show i+1 < 2 ^ 63 by omega),show(es.length+1)*80≤2 ^ 47 by omega];refine wc (m':=12 - (i+1)) (by omega) ⟨rfl,i+1,es++[e],by omega,rfl,by simp; omega,fun u hu=>?_,by rw[List.map_append]; rfl⟩
   rcases List.mem_append.1 hu with hu|hu
   · exact B u hu
   · rw[List.mem_singleton.1 hu]; exact F
 · simp +contextual -implicitDefEqProofs only [K7,SS,rA,rS,rL,rE,reduceCtorEq,hc];refine wd ?_;simp +contextual -implicitDefEqProofs only [K7,SS,rA,rS,rL,rE,reduceCtorEq];exact wb ⟨_,_,rfl,rfl,es,rfl,by omega,B⟩
end Go.Cb.CodeA
