import Derived.Test.YtcmfklfjebaeoaaGreatDoorBaseW
set_option maxRecDepth 20000
set_option linter.unusedSimpArgs false
set_option linter.unusedVariables false
namespace Go.Cb.CodeA
open Go Go.Cb
open Nat renaming reduceAdd→rA,reduceSub→rS,reduceLeDiff→rL,reduceEqDiff→rE
attribute [local congr] p6 s8 t8 u9 r8 r9 B2 B3 V.runR_congr
/-- an entity -/
structure Ent where
 t:List Nat
 id:List Nat
 ks:List (List Nat)
 ls:List Val
def Ent.row (e:Ent):List AV:=[.str e.t,.str e.id,.list false (e.ks.map v7),.list false (e.ls.map Val.row)]
theorem b4j {ls:List Val} {i:Nat} (h:i < ls.length):(ls.map Val.row)[i]?=some (ls[i]).row:=by
 rw [List.getElem?_map,List.getElem?_eq_getElem h]; rfl
theorem a8F {ks:List (List Nat)} {i:Nat} (h:i < ks.length):(ks.map v7)[i]?=some [.str ks[i]]:=by
 rw [List.getElem?_map,List.getElem?_eq_getElem h]; rfl
theorem c5p (ks:List (List Nat)):g8 1 (ks.map v7)=true:=a0p fun r hr=>by
 obtain ⟨x,_,rfl⟩:=List.mem_map.1 hr
 rfl
theorem b0t (a b:List Nat):eqN a b=true ↔ a=b:=by rw [a2s]; simp
theorem a0P (a:List Nat):eqN a a=true:=(b0t a a).2 rfl
theorem a7H:∀ a:List Nat,l8 a a=false
 | []=>rfl
 | a::x=>by
  have h:Nat.blt a a=false:=by
   rcases U3 (Nat.blt a a) with h|h
   · rw [Nat.blt_eq] at h; omega
   · exact h
  rw [l8,h,a7H x,Bool.and_false]
  rfl
theorem a7f:∀ a b:List Nat,l8 a b=false→l8 b a=false→a=b
 | [],[],_,_=>rfl
 | [],b::y,h,_=>by simp [l8] at h
 | a::x,[],_,h=>by simp [l8] at h
 | a::x,b::y,h1,h2=>by
  simp only [l8,Bool.or_eq_false_iff,Bool.and_eq_false_iff,Nat.blt_eq,Bool.not_eq_true] at h1 h2
  obtain ⟨h1,h3⟩:=h1
  obtain ⟨h2,h4⟩:=h2
  have e1:¬ a < b:=fun h=>by
   have:Nat.blt a b=true:=by simpa [Nat.blt_eq] using h
   rw [this] at h1; cases h1
  have e2:¬ b < a:=fun h=>by
   have:Nat.blt b a=true:=by simpa [Nat.blt_eq] using h
   rw [this] at h2; cases h2
  obtain rfl:a=b:=by omega
  have hb:Nat.beq a a=true:=by simp
  rw [hb] at h3 h4
  rcases h3 with h3|h3
  · cases h3
  rcases h4 with h4|h4
  · cases h4
  rw [a7f x y h3 h4]
theorem a0l:∀ a b c:List Nat,l8 a b=true→l8 b c=true→l8 a c=true
 | _,[],_,h,_=>by simp [l8] at h
 | _,_::_,[],_,h=>by simp [l8] at h
 | [],_::_,_::_,_,_=>rfl
 | a::x,b::y,c::z,h1,h2=>by
  simp only [l8,Bool.or_eq_true,Bool.and_eq_true,Nat.blt_eq,Nat.beq_eq] at h1 h2 ⊢
  rcases h1 with h1|⟨h1,h3⟩
  · rcases h2 with h2|⟨h2,_⟩
    · left; omega
    · left; omega
  · rcases h2 with h2|⟨h2,h4⟩
    · left; omega
    · right; exact ⟨by omega,a0l x y z h3 h4⟩
def i8 (es:List Ent):List AV:=es.flatMap Ent.row
theorem a1o (es:List Ent):∀ i,(i8 es).drop (i*4)=i8 (es.drop i):=by
 induction es with
 | nil=>intro i; simp [i8]
 | cons e es ih =>
  intro i
  cases i with
  | zero=>rw [Nat.zero_mul,List.drop_zero,List.drop_zero]
  | succ i =>
   rw [List.drop_succ_cons,← ih i,show (i+1)*4=i*4+4 by omega,← List.drop_drop,show i8 (e::es)=e.row++i8 es from rfl]
   rw [List.drop_drop,show i*4+4=4+i*4 by omega,← List.drop_drop]
   rfl
theorem a0s (es:List Ent):(i8 es).length=es.length*4:=by
 induction es with
 | nil=>rfl
 | cons e es ih=>rw [show i8 (e::es)=e.row++i8 es from rfl,List.length_append,ih,List.length_cons]; simp [Ent.row]; omega
theorem a5g (a b:List Ent):i8 (a++b)=i8 a++i8 b:=by simp [i8]
theorem a6m {es:List Ent} {i:Nat} (h:i < es.length):d9 true 4 ((i8 es).drop (i*4))=some (.agg es[i].row):=by
 rw [a1o,List.drop_eq_getElem_cons h]
 rfl
/-- entities as an object of the store -/
def EntsAt (v:AV) (es:List Ent) (st:St):Prop:=(v=.nils∧es=[])∨∃ o,v=.sl o 0 es.length 4∧st[o]?=some (.cells (i8 es))
theorem c4p (a b:List Nat):i7 .gtr (.str a) (.str b)=some (.bool !(l8 a b || eqN a b)):=b5 rfl
theorem Ent.row_w (e:Ent):List.map AV.weak1 e.row=e.row:=rfl
def a4u (a b:List Nat):Int:=if l8 a b then -1 else if eqN a b then 0 else 1
theorem b7Z (e:Ent) (id:List Nat) (st:St):EvQ tbl 101 [.agg e.row,.str id] st (fun a st'=>st'=st∧a=.int .i64 (a4u e.id id)):=by
 have ee:e.row=[.str e.t,.str e.id,.list false (e.ks.map v7),.list false (e.ls.map Val.row)]:=rfl
 rw [ee]
 refine EvQ.body (fn:=a101) rfl rfl rfl ?_
 simp +contextual -implicitDefEqProofs only [b08,SS,rA,rS,rL,rE,reduceCtorEq]
 rcases U3 (l8 e.id id) with h|h
 · simp +contextual -implicitDefEqProofs only [b08,SS,rA,rS,rL,rE,reduceCtorEq,h]
   exact WC.ret ⟨_,_,rfl,rfl,by rw [a4u,if_pos h]; rfl⟩
 rcases U3 (eqN e.id id) with h2|h2
 · simp +contextual -implicitDefEqProofs only [b08,SS,rA,rS,rL,rE,reduceCtorEq,h,h2,c4p,Bool.false_or,Bool.not_true,Bool.not_false]
   exact WC.ret ⟨_,_,rfl,rfl,by rw [a4u,h,if_neg (by decide),if_pos h2]; rfl⟩
 · simp +contextual -implicitDefEqProofs only [b08,SS,rA,rS,rL,rE,reduceCtorEq,h,h2,c4p,Bool.false_or,Bool.not_true,Bool.not_false]
   exact WC.ret ⟨_,_,rfl,rfl,by rw [a4u,h,if_neg (by decide),h2,if_neg (by decide)]; rfl⟩
abbrev U9 (es:List Ent):Prop:=es.Pairwise fun a b=>l8 a.id b.id=true
/-- where a name stands, or would stand -/
def K4 (id:List Nat):List Ent→Nat
 | []=>0
 | e::es=>if l8 e.id id then K4 id es+1 else 0
def T9 (id:List Nat) (es:List Ent):Bool:=match es[K4 id es]? with
 | some e=>eqN e.id id
 | none=>false
theorem a9N (id:List Nat):∀ es:List Ent,K4 id es≤es.length
 | []=>Nat.le_refl _
 | e::es=>by
  rw [K4]
  split
  · have:=a9N id es; rw [List.length_cons]; omega
  · omega
theorem a5p (id:List Nat):∀ (es:List Ent) (i:Nat),i≤es.length→(∀ k (h:k < es.length),k < i→l8 es[k].id id=true)→(∀ h:i < es.length,l8 es[i].id id=false)→K4 id es=i
 | [],i,h,_,_=>by simp at h; subst h; rfl
 | e::es,0,_,_,h2=>by rw [K4,show l8 e.id id=false from h2 (by simp)]; rfl
 | e::es,i+1,h,h1,h2=>by
  have h0:l8 e.id id=true:=h1 0 (by simp) (by omega)
  rw [K4,if_pos h0]
  rw [a5p id es i (by simpa using h) (fun k hk hki=>h1 (k+1) (by simpa using hk) (by omega)) (fun hi=>h2 (by simpa using hi))]
theorem a8J {es:List Ent} {o:Nat} {st:St} (h:st[o]?=some (.cells (i8 es))) {i:Nat} (hi:i < es.length) (call:b6) (bx:AV):C0 true 4 call [.ptr o (i*4)] bx st=some (.agg es[i].row,bx,st):=by
 rw [R.ldAn_ptr,h]
 dsimp only
 rw [a6m hi]
 rfl
theorem c5E {i j:Nat} (h:i+j < 2 ^ 62):l4 .i64 (Int.fdiv (l4 .u64 (l4 .i64 (a5t (i:Int) (j:Int)))) 2)=(((i+j) / 2:Nat):Int):=by
 have e1:l4 .i64 ((i:Int)+(j:Int))=(i:Int)+(j:Int):=O1 (by omega) (by omega)
 rw [addI_eq,e1]
 have:l4 .u64 ((i:Int)+(j:Int))=(i:Int)+(j:Int):=by
  rw [D7]
  simp only [IntKind.wrap,IntKind.signed,IntKind.bits,Bool.false_and,Bool.false_eq_true,if_false]
  omega
 rw [this]
 have e:Int.fdiv ((i:Int)+(j:Int)) 2=(((i+j) / 2:Nat):Int):=by
  rw [Int.fdiv_eq_ediv_of_nonneg _ (by omega)]
  omega
 rw [e,O1 (by omega) (by omega)]
theorem c86 (a:Int):i7 .shr (.int .u64 a) (.int .u64 1)=some (.int .u64 (Int.fdiv a 2)):=by
 have:(2:Int) ^ (min (1:Int).toNat IntKind.u64.bits)=2:=by decide
 simp only [i7]
 rw [this]
 rfl
theorem b6a {es:List Ent} {v:AV} {st:St} (h:EntsAt v es st) (hs:U9 es) (hl:es.length≤100000) (id:List Nat):EvQ tbl 100 [v,.str id,.func 101 [] []] st (fun a st'=>st'=st∧a=.tuple [.int .i64 (K4 id es),.bool (T9 id es)]):=by
 rcases h with ⟨rfl,rfl⟩|⟨o,rfl,ho⟩
 · refine EvQ.body (fn:=a100) rfl rfl rfl ?_
   simp +contextual -implicitDefEqProofs only [a0g,SS,rA,rS,rL,rE,reduceCtorEq]
   refine WC.loopR (fun mm fr st'=>st'=st∧fr=[.nils,.str id,.func 101 [] [],.int .i64 0,.bool false,.int .i64 0,.int .i64 0,.int .i64 0,.undef]) (m:=0) ⟨rfl,rfl⟩ ?_
   rintro mm fr st' ⟨rfl,rfl⟩
   simp +contextual -implicitDefEqProofs only [a0g,SS,rA,rS,rL,rE,reduceCtorEq,show ltI 0 0=false from rfl]
   refine WC.leave ?_
   simp +contextual -implicitDefEqProofs only [a0g,SS,rA,rS,rL,rE,reduceCtorEq,show ltI 0 0=false from rfl]
   exact WC.ret ⟨_,_,rfl,rfl,rfl⟩
 · refine EvQ.body (fn:=a100) rfl rfl rfl ?_
   simp +contextual -implicitDefEqProofs only [a0g,SS,rA,rS,rL,rE,reduceCtorEq]
   refine WC.loopR (fun mm fr st'=>st'=st∧∃ (i j:Nat) (v8:AV),i≤j∧j≤es.length∧mm=j - i∧(∀ k (h:k < es.length),k < i→l8 es[k].id id=true)∧(∀ k (h:k < es.length),j≤k→l8 es[k].id id=false)∧fr=[.sl o 0 es.length 4,.str id,.func 101 [] [],.int .i64 0,.bool false,.int .i64 es.length,.int .i64 i,.int .i64 j,v8]) (m:=es.length) ⟨rfl,0,es.length,_,Nat.zero_le _,Nat.le_refl _,by omega,fun k _ hk=>absurd hk (Nat.not_lt_zero _),fun k h1 h2=>by omega,rfl⟩ ?_
   rintro mm fr st' ⟨rfl,i,j,v8,hij,hj,rfl,h1,h2,rfl⟩
   simp +contextual -implicitDefEqProofs only [a0g,SS,rA,rS,rL,rE,reduceCtorEq,ltN]
   by_cases hlt:i < j
   · have hm:(i+j) / 2 < es.length:=by omega
     have hlo:i≤(i+j) / 2:=by omega
     have hhi:(i+j) / 2 < j:=by omega
     have hmid:=c5E (i:=i) (j:=j) (by omega)
     have hld:=fun call bx=>a8J ho hm call bx
     have hcq:=b7Z (es[(i+j) / 2]) id st'
     have hlow:l8 es[(i+j) / 2].id id=true→∀ k (h:k < es.length),k < (i+j) / 2+1→l8 es[k].id id=true:=fun hh k hk hki=>by
      by_cases e:k=(i+j) / 2
      · subst e; exact hh
      · exact a0l _ _ _ (List.pairwise_iff_getElem.1 hs k ((i+j) / 2) hk hm (by omega)) hh
     have hhigh:l8 es[(i+j) / 2].id id=false→∀ k (h:k < es.length),(i+j) / 2≤k→l8 es[k].id id=false:=fun hh k hk hki=>by
      by_cases e:k=(i+j) / 2
      · subst e; exact hh
      · rcases U3 (l8 es[k].id id) with h3|h3
        · have:=a0l _ _ _ (List.pairwise_iff_getElem.1 hs ((i+j) / 2) k hm hk (by omega)) h3
          rw [hh] at this; cases this
        · exact h3
     revert hld hcq hlow hhigh hmid
     generalize hmm:(i+j) / 2=m at *
     generalize es[m]=e
     intro hmid hld hcq hlow hhigh
     have hml:((m:Int) < (es.length:Int))=True:=by simp; omega
     simp +contextual -implicitDefEqProofs only [a0g,SS,rA,rS,rL,rE,reduceCtorEq,hlt,ltN,c86,hmid,hml,if_true,hld,Ent.row_w]
     refine WC.callV hcq rfl rfl ?_
     rintro _ _ ⟨rfl,rfl⟩
     unfold a4u
     rcases U3 (l8 e.id id) with hq|hq
     · simp +contextual -implicitDefEqProofs only [a0g,SS,rA,rS,rL,rE,reduceCtorEq,hq,if_true,show ltI (-1) 0=true from rfl,K9 (show m+1 < 2 ^ 63 by omega)]
       exact WC.next (m':=j - (m+1)) (by omega) ⟨rfl,m+1,j,_,by omega,hj,rfl,hlow hq,h2,rfl⟩
     · have:ltI (if eqN e.id id=true then 0 else 1) 0=false:=by split <;> rfl
       simp +contextual -implicitDefEqProofs only [a0g,SS,rA,rS,rL,rE,reduceCtorEq,hq,if_false,this,Bool.false_eq_true]
       exact WC.next (m':=m - i) (by omega) ⟨rfl,i,m,_,by omega,by omega,rfl,h1,hhigh hq,rfl⟩
   · simp +contextual -implicitDefEqProofs only [a0g,SS,rA,rS,rL,rE,reduceCtorEq,hlt,ltN]
     refine WC.leave ?_
     obtain rfl:i=j:=by omega
     have hpe:K4 id es=i:=a5p id es i hj h1 (fun h=>h2 i h (Nat.le_refl _))
     by_cases hil:i < es.length
     · have hld:=fun call bx=>a8J ho hil call bx
       have hcq:=b7Z (es[i]) id st'
       have hle:=h2 i hil (Nat.le_refl _)
       have hhe:T9 id es=eqN es[i].id id:=by rw [T9,hpe,List.getElem?_eq_getElem hil]
       have hml:((i:Int) < (es.length:Int))=True:=by simp; omega
       rw [hpe,hhe]
       revert hld hcq hle
       generalize es[i]=e
       intro hld hcq hle
       simp +contextual -implicitDefEqProofs only [a0g,SS,rA,rS,rL,rE,reduceCtorEq,hil,ltN,hml,if_true,hld,Ent.row_w]
       refine WC.callV hcq rfl rfl ?_
       rintro _ _ ⟨rfl,rfl⟩
       simp +contextual -implicitDefEqProofs only [a0g,SS,rA,rS,rL,rE,reduceCtorEq]
       refine WC.ret ⟨_,_,rfl,rfl,?_⟩
       have:eqI (a4u e.id id) 0=eqN e.id id:=by
        unfold a4u
        rw [hle,if_neg (by decide)]
        cases eqN e.id id <;> rfl
       rw [this]
       rfl
     · have hhe:T9 id es=false:=by rw [T9,hpe,List.getElem?_eq_none (by omega)]
       rw [hpe,hhe]
       simp +contextual -implicitDefEqProofs only [a0g,SS,rA,rS,rL,rE,reduceCtorEq,hil,ltN]
       exact WC.ret ⟨_,_,rfl,rfl,rfl⟩
theorem a4A (es:List Ent):(i8 es).map AV.weak1=i8 es:=by
 induction es with
 | nil=>rfl
 | cons e es ih=>rw [show i8 (e::es)=e.row++i8 es from rfl,List.map_append,ih]; rfl
theorem EntsAt.gr {v:AV} {es:List Ent} {st st':St} (h:EntsAt v es st) (hg:Gr st st'):EntsAt v es st':=by
 rcases h with h|⟨o,h1,h2⟩
 · exact .inl h
 · exact .inr ⟨o,h1,hg o _ h2⟩
theorem EntsAt.wk {v:AV} {es:List Ent} {st:St} (h:EntsAt v es st):v.weak=v∧v.weak1=v∧v.strip=v∧v.stripB=v∧v.plain=true∧v.cells=[v]∧v.cellsW=[v]:=by
 rcases h with ⟨rfl,_⟩|⟨o,rfl,_⟩ <;> exact ⟨rfl,rfl,rfl,rfl,rfl,rfl,rfl⟩
theorem a5N (st:St):EvQ tbl 57 [.nils] st (fun a st'=>a=.nils∧st'=st):=EvQ.of_ext (fn:=a57) rfl rfl (r:=(.nils,st)) rfl ⟨rfl,rfl⟩
theorem a6N {es:List Ent} {o:Nat} {st:St} (h:st[o]?=some (.cells (i8 es))) (hl:es.length≤100000):EvQ tbl 57 [.sl o 0 es.length 4] st (fun a st'=>a=.sl st.length 0 es.length 4∧st'=st++[.cells (i8 es)]):=by
 refine EvQ.of_ext (fn:=a57) (e:=R4 4 80) (r:=(.sl st.length 0 es.length 4,st++[.cells (i8 es)])) rfl rfl ?_ ⟨rfl,rfl⟩
 unfold R4
 dsimp only
 rw [h]
 dsimp only
 rw [if_pos ⟨rfl,by rw [a0s]; omega,by omega⟩,List.drop_zero,← a0s,List.take_length,a4A]
theorem b6r (x:Ent) (st:St):EvQ tbl 59 [.nils,.int .i64 0,.list false [x.row]] st (fun a st'=>a=.sl st.length 0 1 4∧st'=st++[.cells (i8 [x])]) :=
 EvQ.of_ext (fn:=a59) (e:=J1 4 80) (r:=(.sl st.length 0 1 4,st++[.cells (i8 [x])])) rfl rfl (by unfold J1; dsimp only; rw [if_pos ⟨rfl,rfl⟩]; rfl) ⟨rfl,rfl⟩
theorem a4a (es:List Ent):∀ i,(i8 es).take (i*4)=i8 (es.take i):=by
 induction es with
 | nil=>intro i; simp [i8]
 | cons e es ih =>
  intro i
  cases i with
  | zero=>rw [Nat.zero_mul,List.take_zero,List.take_zero]; rfl
  | succ i =>
   rw [List.take_succ_cons,show i8 (e::es)=e.row++i8 es from rfl,show i8 (e::es.take i)=e.row++i8 (es.take i) from rfl,← ih i,show (i+1)*4=i*4+4 by omega]
   rfl
theorem b8b {es:List Ent} {o:Nat} {st:St} (x:Ent) (h:st[o]?=some (.cells (i8 es))) (hl:es.length≤100000) {i:Nat} (hi:i≤es.length):EvQ tbl 59 [.sl o 0 es.length 4,.int .i64 i,.list false [x.row]] st (fun a st'=>a=.sl st.length 0 (es.length+1) 4∧st'=st.set o .dead++[.cells (i8 (es.take i++x::es.drop i))]):=by
 refine EvQ.of_ext (fn:=a59) (e:=J1 4 80) (r:=(.sl st.length 0 (es.length+1) 4,st.set o .dead++[.cells (i8 (es.take i++x::es.drop i))])) rfl rfl ?_ ⟨rfl,rfl⟩
 simp only [J1,h]
 rw [if_pos ⟨trivial,by omega,by omega,a0s es,rfl,by omega⟩,Int.toNat_natCast,G4,a4a,a1o,a5g]
 rw [show i8 (x::es.drop i)=x.row++i8 (es.drop i) from rfl,List.map_append,List.map_append,a4A,a4A,List.append_assoc]
 rfl
theorem b3H {es:List Ent} {v:AV} {st:St} (h:EntsAt v es st) (hs:U9 es) (hl:es.length≤100000) (id:List Nat):EvQ tbl 58 [.agg [v],.str id] st (fun a st'=>st'=st∧a=.tuple [.int .i64 (K4 id es),.bool (T9 id es)]):=by
 obtain ⟨w1,w2,w3,w4,w5,w6,w7⟩:=h.wk
 refine EvQ.body (fn:=a58) rfl rfl rfl ?_
 simp +contextual -implicitDefEqProofs only [K58,SS,rA,rS,rL,rE,reduceCtorEq,w1,w2,w3,w4,w5,w6,w7]
 refine WC.call (b6a h hs hl id) (by simp only [p5,w5]; rfl) (by simp only [List.map_cons,List.map_nil,w1]; rfl) ?_
 rintro _ _ ⟨rfl,rfl⟩
 simp +contextual -implicitDefEqProofs only [K58,SS,rA,rS,rL,rE,reduceCtorEq]
 exact WC.ret ⟨_,_,rfl,rfl,rfl⟩
/-- the entities with one more, or in the place of that of its name -/
def a0m (es:List Ent) (x:Ent):List Ent:=if T9 x.id es then es.set (K4 x.id es) x else es.take (K4 x.id es)++x::es.drop (K4 x.id es)
theorem b89 {id:List Nat} {es:List Ent} (h:T9 id es=true):K4 id es < es.length:=by
 unfold T9 at h
 cases hq:es[K4 id es]? with
 | none=>rw [hq] at h; cases h
 | some e=>exact (List.getElem?_eq_some_iff.1 hq).1
theorem c0K {es:List Ent} (x:Ent):∀ {i:Nat},i < es.length→j9 (i8 es) (i*4) x.row=i8 (es.set i x):=by
 intro i hi
 unfold j9
 rw [show x.row.length=4 from rfl,a4a,show i*4+4=(i+1)*4 by omega,a1o,List.set_eq_take_append_cons_drop,if_pos hi,a5g,List.append_assoc]
 rfl
def a5B (v:AV) (es:List Ent) (x:Ent):St:=match v with
 | .nils=>[]
 | _=>if T9 x.id es then [] else [.dead]
theorem b3J {o n:Nat} {es:List Ent} {x:Ent} (h:T9 x.id es=true):a5B (.sl o 0 n 4) es x=[]:=by unfold a5B; rw [h]; rfl
theorem b4m {o n:Nat} {es:List Ent} {x:Ent} (h:T9 x.id es=false):a5B (.sl o 0 n 4) es x=[.dead]:=by unfold a5B; rw [h]; rfl
theorem c1Z {es:List Ent} {v:AV} {st:St} (h:EntsAt v es st) (hs:U9 es) (hl:es.length≤100000) (x:Ent):EvQ tbl 20 [.agg [v],.agg x.row] st (fun a st'=>a=.agg [.sl (st.length+(a5B v es x).length) 0 (a0m es x).length 4]∧st'=st++(a5B v es x++[.cells (i8 (a0m es x))])):=by
 obtain ⟨w1,w2,w3,w4,w5,w6,w7⟩:=h.wk
 have ex:x.row=[.str x.t,.str x.id,.list false (x.ks.map v7),.list false (x.ls.map Val.row)]:=rfl
 rw [ex]
 refine EvQ.body (fn:=a20) rfl rfl rfl ?_
 simp +contextual -implicitDefEqProofs only [K20,SS,rA,rS,rL,rE,reduceCtorEq,w1,w2,w3,w4,w5,w6,w7]
 rcases h with ⟨rfl,rfl⟩|⟨o,rfl,ho⟩
 · refine WC.call (a5N st) rfl rfl ?_
   rintro _ _ ⟨rfl,rfl⟩
   simp +contextual -implicitDefEqProofs only [K20,SS,rA,rS,rL,rE,reduceCtorEq]
   refine WC.call (b3H (.inl ⟨rfl,rfl⟩) hs hl x.id) rfl rfl ?_
   rintro _ st ⟨rfl,rfl⟩
   simp +contextual -implicitDefEqProofs only [K20,SS,rA,rS,rL,rE,reduceCtorEq,show T9 x.id []=false from rfl,show K4 x.id []=0 from rfl]
   have hi:=b6r x st
   rw [ex] at hi
   refine WC.call hi rfl rfl ?_
   rintro _ _ ⟨rfl,rfl⟩
   simp +contextual -implicitDefEqProofs only [K20,SS,rA,rS,rL,rE,reduceCtorEq]
   exact WC.ret ⟨_,_,rfl,rfl,rfl⟩
 · refine WC.call (a6N ho hl) rfl rfl ?_
   rintro _ _ ⟨rfl,rfl⟩
   simp +contextual -implicitDefEqProofs only [K20,SS,rA,rS,rL,rE,reduceCtorEq]
   refine WC.call (b3H (.inr ⟨o,rfl,Gr.app st _ _ _ ho⟩) hs hl x.id) rfl rfl ?_
   rintro _ _ ⟨rfl,rfl⟩
   simp +contextual -implicitDefEqProofs only [K20,SS,rA,rS,rL,rE,reduceCtorEq]
   refine WC.br (fun hh=>?_) (fun hh=>?_)
   · have hlt:=b89 hh
     have hml:((K4 x.id es:Int) < (es.length:Int))=True:=by simp; omega
     have hnew:=M9 st (.cells (i8 es))
     have hseg:=c0K x hlt
     rw [ex] at hseg
     have hfit:K4 x.id es*4+4≤(i8 es).length:=by rw [a0s]; omega
     simp +contextual -implicitDefEqProofs only [K20,SS,rA,rS,rL,rE,reduceCtorEq,hml,if_true,hnew,hfit,hseg,a8H]
     refine WC.ret ⟨_,_,rfl,by rw [b3J hh,a0m,if_pos hh,List.length_set]; rfl,by rw [b3J hh,a0m,if_pos hh,← hseg]; rfl⟩
   · have hp:=a9N x.id es
     have hi:=b8b x (M9 st (.cells (i8 es))) hl hp
     rw [ex] at hi
     simp +contextual -implicitDefEqProofs only [K20,SS,rA,rS,rL,rE,reduceCtorEq]
     refine WC.call hi rfl rfl ?_
     rintro _ _ ⟨rfl,rfl⟩
     simp +contextual -implicitDefEqProofs only [K20,SS,rA,rS,rL,rE,reduceCtorEq,a8H]
     have hlen:(es.take (K4 x.id es)++x::es.drop (K4 x.id es)).length=es.length+1:=by simp; omega
     refine WC.ret ⟨_,_,rfl,?_,?_⟩
     · rw [b4m hh,a0m,if_neg (by rw [hh]; decide),hlen,List.length_append]; rfl
     · rw [b4m hh,a0m,if_neg (by rw [hh]; decide)]
       simp
theorem c2m {es:List Ent} {v:AV} {st:St} (h:EntsAt v es st) (hs:U9 es) (hl:es.length≤100000) (x:Ent):EvQ tbl 20 [.agg [v],.agg x.row] st (fun a st'=>∃ v',a=.agg [v']∧EntsAt v' (a0m es x) st'∧Gr st st') :=
 (c1Z h hs hl x).mono (by
  rintro _ _ ⟨rfl,rfl⟩
  refine ⟨_,rfl,.inr ⟨_,rfl,?_⟩,Gr.app _ _⟩
  rw [← List.append_assoc,← List.length_append]
  exact M9 _ _)
theorem c6i {es:List Ent} (hl:es.length≤100000) {v:AV} {st:St} (hv:EntsAt v es st):EvQ tbl 28 [.agg [v]] st (fun a st'=>EntsAt a es st'∧Gr st st'):=by
 rcases hv with ⟨rfl,rfl⟩|⟨o,rfl,ho⟩
 · refine EvQ.body (fn:=a28) rfl rfl rfl ?_
   simp +contextual -implicitDefEqProofs only [K28,SS,rA,rS,rL,rE,reduceCtorEq]
   refine WC.call (a5N st) rfl rfl ?_
   rintro _ _ ⟨rfl,rfl⟩
   simp +contextual -implicitDefEqProofs only [K28,SS,rA,rS,rL,rE,reduceCtorEq]
   exact WC.ret ⟨_,_,rfl,.inl ⟨rfl,rfl⟩,Gr.refl _⟩
 · refine EvQ.body (fn:=a28) rfl rfl rfl ?_
   simp +contextual -implicitDefEqProofs only [K28,SS,rA,rS,rL,rE,reduceCtorEq]
   refine WC.call (a6N ho hl) rfl rfl ?_
   rintro _ _ ⟨rfl,rfl⟩
   simp +contextual -implicitDefEqProofs only [K28,SS,rA,rS,rL,rE,reduceCtorEq]
   exact WC.ret ⟨_,_,rfl,.inr ⟨_,rfl,M9 st _⟩,Gr.app _ _⟩
theorem b71 {es:List Ent} {v:AV} {st:St} (hv:EntsAt v es st):EvQ tbl 19 [.agg [v]] st (fun a st'=>st'=st∧a=.int .i64 es.length):=by
 rcases hv with ⟨rfl,rfl⟩|⟨o,rfl,ho⟩
 · refine EvQ.body (fn:=a19) rfl rfl rfl ?_
   simp +contextual -implicitDefEqProofs only [K19,SS,rA,rS,rL,rE,reduceCtorEq]
   exact WC.ret ⟨_,_,rfl,rfl,rfl⟩
 · refine EvQ.body (fn:=a19) rfl rfl rfl ?_
   simp +contextual -implicitDefEqProofs only [K19,SS,rA,rS,rL,rE,reduceCtorEq]
   exact WC.ret ⟨_,_,rfl,rfl,rfl⟩
end Go.Cb.CodeA
