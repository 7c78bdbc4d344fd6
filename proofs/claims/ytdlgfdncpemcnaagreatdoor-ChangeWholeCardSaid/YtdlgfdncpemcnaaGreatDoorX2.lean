import Derived.Test.YtdlgfdncpemcnaaGreatDoorX1
set_option maxRecDepth 20000
set_option linter.all false
namespace Go.Cb.CodeA
open Go Go.Cb
open Nat renaming reduceAdd→rA,reduceSub→rS,reduceLeDiff→rL,reduceEqDiff→rE
attribute [local congr] H6 L7 O2 O3 K5 L8 S4 R9 V.runR_congr
theorem a2n (a b:List Nat):eqN a b=true↔a=b:=by rw[a3w]; simp
theorem P5 (a:List Nat):eqN a a=true:=(a2n a a).2 rfl
theorem Z9:∀ a:List Nat,l5 a a=false
 | []=>rfl
 | a::x=>by
  have h:Nat.blt a a=false:=by
   rcases D8 (Nat.blt a a)with h|h
   · rw[Nat.blt_eq]at h; omega
   · exact h
  rw[l5,h,Z9 x,Bool.and_false];rfl
theorem a2H:∀ a b:List Nat,l5 a b=false→l5 b a=false→a=b
 | [],[],_,_=>rfl
 | [],b::y,h,_=>by simp[l5]at h
 | a::x,[],_,h=>by simp[l5]at h
 | a::x,b::y,i,j=>by
  simp only[l5,Bool.or_eq_false_iff,Bool.and_eq_false_iff,Nat.blt_eq,Bool.not_eq_true]at i j;obtain⟨i,h3⟩:=i;obtain⟨j,h4⟩:=j;have t:¬ a < b:=fun h=>by
   have:Nat.blt a b=true:=by simpa[Nat.blt_eq]using h
   rw[this]at i; cases i
  have u:¬ b < a:=fun h=>by
   have:Nat.blt b a=true:=by simpa[Nat.blt_eq]using h
   rw[this]at j; cases j
  obtain rfl:a=b:=by omega
  have l:Nat.beq a a=true:=by simp
  rw[l]at h3 h4;rcases h3 with h3|h3
  · cases h3
  rcases h4 with h4|h4
  · cases h4
  rw[a2H x y h3 h4]
theorem T8:∀ a b c:List Nat,l5 a b=true→l5 b c=true→l5 a c=true
 | _,[],_,h,_=>by simp[l5]at h
 | _,_::_,[],_,h=>by simp[l5]at h
 | [],_::_,_::_,_,_=>rfl
 | a::x,b::y,c::z,j,i=>by
  simp only[l5,Bool.or_eq_true,Bool.and_eq_true,Nat.blt_eq,Nat.beq_eq]at j i ⊢;rcases j with j|⟨j,l⟩
  · rcases i with i|⟨i,_⟩
    · left; omega
    · left; omega
  · rcases i with i|⟨i,t⟩
    · left; omega
    · right; exact⟨by omega,T8 x y z l t⟩
def e9 (es:List Ent):List AV:=es.flatMap Ent.row
theorem a2b (es:List Ent):∀ i,(e9 es).drop (i*4)=e9 (es.drop i):=by
 induction es with
 | nil=>intro i; simp[e9]
 | cons e es j =>
  intro i;cases i with
  | zero=>rw[Nat.zero_mul,List.drop_zero,List.drop_zero]
  | succ i =>rw[List.drop_succ_cons,← j i,show(i+1)*4=i*4+4 by omega,← List.drop_drop,show e9 (e::es)=e.row++e9 es from rfl];rw[List.drop_drop,show i*4+4=4+i*4 by omega,← List.drop_drop];rfl
theorem a0S (es:List Ent):(e9 es).length=es.length*4:=by
 induction es with
 | nil=>rfl
 | cons e es i=>rw[show e9 (e::es)=e.row++e9 es from rfl,List.length_append,i,List.length_cons]; simp[Ent.row]; omega
theorem a6w (a b:List Ent):e9 (a++b)=e9 a++e9 b:=by simp[e9]
theorem a7P {es:List Ent} {i:Nat} (h:i < es.length):j0 true 4 ((e9 es).drop (i*4))=some (.agg es[i].row):=by rw[a2b,List.drop_eq_getElem_cons h];rfl
def EntsAt (v:AV) (es:List Ent) (st:St):Prop:=(v=.nils∧es=[])∨∃ o,v=.sl o 0 es.length 4∧st[o]?=some (.cells (e9 es))
theorem b76 (l:List Thg) (h:∀ x∈l,x.OK) (st:St):EvQ e8 11 [.list false (l.map Thg.row)] st (fun a st'=>st'=st∧∃ es:List Ent,a=.list false (es.map Ent.row)∧es.length≤12∧∀ e∈es,e.Good):=by
 refine wh (fn:=a11) rfl rfl rfl ?_;simp +contextual -implicitDefEqProofs only [K11,SS,rA,rS,rL,rE,reduceCtorEq];refine we (fun E fr st'=>st'=st∧∃ (i:Nat) (es:List Ent),i≤12∧E=12 - i∧es.length≤i∧(∀ e∈es,e.Good)∧fr=[.list false (l.map Thg.row),.list true [],.list true (es.map Ent.row),.int .i64 i]) (m:=12) ⟨rfl,0,[],by decide,rfl,by simp,by simp,rfl⟩ ?_;rintro E fr st' ⟨rfl,i,es,hi,rfl,J,hg,rfl⟩;simp +contextual -implicitDefEqProofs only [K11,SS,rA,rS,rL,rE,reduceCtorEq,List.length_map,ltN];rcases D8 (decide (i < l.length) && ltI (i:Int) 12)with hc|hc
 · have j:i < l.length:=by rw[Bool.and_eq_true]at hc;exact of_decide_eq_true hc.1
   have I:i < 12:=by rw[Bool.and_eq_true,ltI_eq]at hc;have:=of_decide_eq_true hc.2;omega
   have y:(l.map Thg.row)[i]?=some l[i].row:=by rw[List.getElem?_map,List.getElem?_eq_getElem j]; rfl
   have B:=h _ (List.getElem_mem j);revert y B;generalize l[i]=x;intro y B;have D:=a8F B st';have ex:x.row=[.int .u8 x.t,.int .u8 x.d,.int .i32 x.n,.str x.s,.list false (x.refs.map a0O),.int .u8 x.lack]:=rfl;rw[ex]at y D;simp +contextual -implicitDefEqProofs only [K11,SS,rA,rS,rL,rE,reduceCtorEq,hc,y];refine wa D rfl rfl ?_;rintro _ _ ⟨rfl,e,rfl,G,_⟩;have z:m4 4 (es.map Ent.row)=true:=a3b fun r M=>by obtain⟨v,_,rfl⟩:=List.mem_map.1 M;rfl
   have F:e.row=[.str e.t,.str e.id,.list false (e.ks.map m3),.list false (e.ls.map Val.row)]:=rfl;rw[F];simp +contextual -implicitDefEqProofs only [K11,SS,rA,rS,rL,rE,reduceCtorEq,z,List.length_map,a0X (show i+1 < 2 ^ 63 by omega),show(es.length+1)*80≤2 ^ 47 by omega];refine wc (m':=12 - (i+1)) (by omega) ⟨rfl,i+1,es++[e],by omega,rfl,by simp; omega,fun u hu=>?_,by rw[List.map_append]; rfl⟩
   rcases List.mem_append.1 hu with hu|hu
   · exact hg u hu
   · rw[List.mem_singleton.1 hu]; exact G
 · simp +contextual -implicitDefEqProofs only [K11,SS,rA,rS,rL,rE,reduceCtorEq,hc];refine wd ?_;simp +contextual -implicitDefEqProofs only [K11,SS,rA,rS,rL,rE,reduceCtorEq];exact wb ⟨_,_,rfl,rfl,es,rfl,by omega,hg⟩
end Go.Cb.CodeA
