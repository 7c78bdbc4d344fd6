import Derived.Test.YtbibkdncfclnbaaGreatDoorX1
set_option maxRecDepth 20000
set_option linter.unusedSimpArgs false
set_option linter.unusedVariables false
namespace Go.Cb.CodeA
open Go Go.Cb
open Nat renaming reduceAdd→rA,reduceSub→rS,reduceLeDiff→rL,reduceEqDiff→rE
attribute [local congr] j1 k8 l5 k9 k4 j9 m0 m2 V.runR_congr
theorem O9 (a b:List Nat):eqN a b=true ↔ a=b:=by rw [Y2]; simp
theorem M1 (a:List Nat):eqN a a=true:=(O9 a a).2 rfl
theorem O6:∀ a:List Nat,g8 a a=false
 | []=>rfl
 | a::x=>by
  have h:Nat.blt a a=false:=by
   rcases j5 (Nat.blt a a) with h|h
   · rw [Nat.blt_eq] at h; omega
   · exact h
  rw [g8,h,O6 x,Bool.and_false]
  rfl
theorem a0m:∀ a b:List Nat,g8 a b=false→g8 b a=false→a=b
 | [],[],_,_=>rfl
 | [],b::y,h,_=>by simp [g8] at h
 | a::x,[],_,h=>by simp [g8] at h
 | a::x,b::y,h1,h2=>by
  simp only [g8,Bool.or_eq_false_iff,Bool.and_eq_false_iff,Nat.blt_eq,Bool.not_eq_true] at h1 h2
  obtain ⟨h1,h3⟩:=h1
  obtain ⟨h2,h4⟩:=h2
  have e1:¬ a < b:=fun h=>by
   have:Nat.blt a b=true:=by simpa [Nat.blt_eq] using h
   rw [this] at h1; cases h1
  have e2:¬ b < a:=fun h=>by
   have:Nat.blt b a=true:=by simpa [Nat.blt_eq] using h
   rw [this] at h2; cases h2
  obtain rfl:a=b:=by omega
  have hb:Nat.beq a a=true:=by simp
  rw [hb] at h3 h4
  rcases h3 with h3|h3
  · cases h3
  rcases h4 with h4|h4
  · cases h4
  rw [a0m x y h3 h4]
theorem J6:∀ a b c:List Nat,g8 a b=true→g8 b c=true→g8 a c=true
 | _,[],_,h,_=>by simp [g8] at h
 | _,_::_,[],_,h=>by simp [g8] at h
 | [],_::_,_::_,_,_=>rfl
 | a::x,b::y,c::z,h1,h2=>by
  simp only [g8,Bool.or_eq_true,Bool.and_eq_true,Nat.blt_eq,Nat.beq_eq] at h1 h2 ⊢
  rcases h1 with h1|⟨h1,h3⟩
  · rcases h2 with h2|⟨h2,_⟩
    · left; omega
    · left; omega
  · rcases h2 with h2|⟨h2,h4⟩
    · left; omega
    · right; exact ⟨by omega,J6 x y z h3 h4⟩
def i6 (es:List Ent):List AV:=es.flatMap Ent.row
theorem P9 (es:List Ent):∀ i,(i6 es).drop (i*4)=i6 (es.drop i):=by
 induction es with
 | nil=>intro i; simp [i6]
 | cons e es ih =>
  intro i
  cases i with
  | zero=>rw [Nat.zero_mul,List.drop_zero,List.drop_zero]
  | succ i =>
   rw [List.drop_succ_cons,← ih i,show (i+1)*4=i*4+4 by omega,← List.drop_drop,show i6 (e::es)=e.row++i6 es from rfl]
   rw [List.drop_drop,show i*4+4=4+i*4 by omega,← List.drop_drop]
   rfl
theorem N9 (es:List Ent):(i6 es).length=es.length*4:=by
 induction es with
 | nil=>rfl
 | cons e es ih=>rw [show i6 (e::es)=e.row++i6 es from rfl,List.length_append,ih,List.length_cons]; simp [Ent.row]; omega
theorem a0r (a b:List Ent):i6 (a++b)=i6 a++i6 b:=by simp [i6]
theorem a5N {es:List Ent} {i:Nat} (h:i < es.length):g9 true 4 ((i6 es).drop (i*4))=some (.agg es[i].row):=by
 rw [P9,List.drop_eq_getElem_cons h]
 rfl
/-- entities as an object of the store -/
def EntsAt (v:AV) (es:List Ent) (st:St):Prop:=(v=.nils∧es=[])∨∃ o,v=.sl o 0 es.length 4∧st[o]?=some (.cells (i6 es))
theorem b4u (l:List Thg) (h:∀ x∈l,x.OK) (st:St):EvQ tbl 15 [.list false (l.map Thg.row)] st (fun a st'=>st'=st∧∃ es:List Ent,a=.list false (es.map Ent.row)∧es.length≤12∧∀ e∈es,e.Good):=by
 refine EvQ.body (fn:=a15) rfl rfl rfl ?_
 simp +contextual -implicitDefEqProofs only [K15,SS,rA,rS,rL,rE,reduceCtorEq]
 refine WC.loopR (fun mm fr st'=>st'=st∧∃ (i:Nat) (es:List Ent),i≤12∧mm=12 - i∧es.length≤i∧(∀ e∈es,e.Good)∧fr=[.list false (l.map Thg.row),.list true [],.list true (es.map Ent.row),.int .i64 i]) (m:=12) ⟨rfl,0,[],by decide,rfl,by simp,by simp,rfl⟩ ?_
 rintro mm fr st' ⟨rfl,i,es,hi,rfl,hle,hg,rfl⟩
 simp +contextual -implicitDefEqProofs only [K15,SS,rA,rS,rL,rE,reduceCtorEq,List.length_map,ltN]
 rcases j5 (decide (i < l.length) && ltI (i:Int) 12) with hc|hc
 · have hil:i < l.length:=by
    rw [Bool.and_eq_true] at hc
    exact of_decide_eq_true hc.1
   have hi6:i < 12:=by
    rw [Bool.and_eq_true,ltI_eq] at hc
    have:=of_decide_eq_true hc.2
    omega
   have e1:(l.map Thg.row)[i]?=some l[i].row:=by rw [List.getElem?_map,List.getElem?_eq_getElem hil]; rfl
   have hx:=h _ (List.getElem_mem hil)
   revert e1 hx
   generalize l[i]=x
   intro e1 hx
   have hq:=a8D hx st'
   have ex:x.row=[.int .u8 x.t,.int .u8 x.d,.int .i32 x.n,.str x.s,.list false (x.refs.map C9),.int .u8 x.lack]:=rfl
   rw [ex] at e1 hq
   simp +contextual -implicitDefEqProofs only [K15,SS,rA,rS,rL,rE,reduceCtorEq,hc,e1]
   refine WC.call hq rfl rfl ?_
   rintro _ _ ⟨rfl,e,rfl,he,_⟩
   have hro:l8 4 (es.map Ent.row)=true:=S8 fun r hr=>by
    obtain ⟨v,_,rfl⟩:=List.mem_map.1 hr
    rfl
   have ee:e.row=[.str e.t,.str e.id,.list false (e.ks.map j6),.list false (e.ls.map Val.row)]:=rfl
   rw [ee]
   simp +contextual -implicitDefEqProofs only [K15,SS,rA,rS,rL,rE,reduceCtorEq,hro,List.length_map,D7 (show i+1 < 2 ^ 63 by omega),show (es.length+1)*80≤2 ^ 47 by omega]
   refine WC.next (m':=12 - (i+1)) (by omega) ⟨rfl,i+1,es++[e],by omega,rfl,by simp; omega,fun u hu=>?_,by rw [List.map_append]; rfl⟩
   rcases List.mem_append.1 hu with hu|hu
   · exact hg u hu
   · rw [List.mem_singleton.1 hu]; exact he
 · simp +contextual -implicitDefEqProofs only [K15,SS,rA,rS,rL,rE,reduceCtorEq,hc]
   refine WC.leave ?_
   simp +contextual -implicitDefEqProofs only [K15,SS,rA,rS,rL,rE,reduceCtorEq]
   exact WC.ret ⟨_,_,rfl,rfl,es,rfl,by omega,hg⟩
end Go.Cb.CodeA
