import Derived.Test.YtbibkdncfclnbaaGreatDoorC4
set_option maxRecDepth 20000
set_option linter.unusedSimpArgs false
set_option linter.unusedVariables false
namespace Go.Cb.CodeA
open Go Go.Cb
open Nat renaming reduceAdd→rA,reduceSub→rS,reduceLeDiff→rL,reduceEqDiff→rE
attribute [local congr] i7 j1 j2 j3 j0 i8 k6 j9 V.runR_congr
structure TD where
 k:Int
 n:List Nat
 fs:List (List AV)
 ns:List (List Nat)
def TD.row (t:TD):List AV:=[.int .u8 t.k,.str t.n,.list false t.fs,.list false (t.ns.map e8)]
def TD.OK (t:TD):Prop:=t.ns.length≤3001
def lk (l:List TD) (n:List Nat):Option TD:=l.find? (fun t=>eqN n t.n)
def lkI:List TD→List Nat→Nat→Option Nat
 | [],_,_=>none
 | t::ts,n,i=>if eqN n t.n then some i else lkI ts n (i+1)
def a2T:List TD→Nat→List (AV×AV)
 | [],_=>[]
 | t::ts,i=>(.str t.n,.int .i64 i)::a2T ts (i+1)
theorem a6G (n:List Nat):∀ (l:List TD) (i:Nat),H7 1 (.str n) (a2T l i) i=some ((lkI l n i).map fun j=>(j,.int .i64 (j:Int)))
 | [],i=>rfl
 | t::ts,i=>by
  have ih:=a6G n ts (i+1)
  simp only [a2T,H7,P7,if_true,lkI]
  cases h:eqN n t.n with
  | true=>simp
  | false=>simp [ih]
theorem b2k (n:List Nat):∀ (l:List TD) (i j:Nat),lkI l n i=some j→∃ m t,j=i+m∧l[m]?=some t∧lk l n=some t
 | [],i,j,h=>by simp [lkI] at h
 | t::ts,i,j,h=>by
  simp only [lkI] at h
  by_cases hx:eqN n t.n=true
  · simp [hx] at h
    exact ⟨0,t,by omega,rfl,by simp [lk,hx]⟩
  · simp [hx] at h
    obtain ⟨m,u,rfl,h1,h2⟩:=b2k n ts (i+1) j h
    refine ⟨m+1,u,by omega,by simpa using h1,?_⟩
    simp only [lk,List.find?_cons,hx] at h2 ⊢
    exact h2
theorem b1Y (n:List Nat):∀ (l:List TD) (i:Nat),lkI l n i=none→lk l n=none
 | [],i,h=>rfl
 | t::ts,i,h=>by
  simp only [lkI] at h
  by_cases hx:eqN n t.n=true
  · simp [hx] at h
  · simp [hx] at h
    have:=b1Y n ts (i+1) h
    simp only [lk,List.find?_cons,hx] at this ⊢
    exact this
structure Sch (l:List TD) (so:Nat) (st:St):Prop where
 len:l.length≤3001
 ok:∀ t∈l,t.OK
 ob:∃ w mo,st[so]?=some (.cells [.list w (l.map TD.row),.map mo])∧st[mo]?=some (.map (a2T l 0))
theorem Sch.gr {l:List TD} {so:Nat} {st st':St} (h:Sch l so st) (hg:Gr st st'):Sch l so st' :=
 ⟨h.len,h.ok,let ⟨w,mo,h1,h2⟩:=h.ob; ⟨w,mo,hg _ _ h1,hg _ _ h2⟩⟩
def TD.zero:TD:=⟨0,[],[],[]⟩
def S2 (o:Option TD):AV:=.tuple [.agg (o.getD TD.zero).row,.bool o.isSome]
theorem b7I (call:d8) (bx:AV) (st:St) (o:Nat) (n:List Nat):P1 1 [.int .i64 0] false true call [.map o,.str n] bx st =
 match st[o]? with
 | some (.map es)=>(match (match H7 1 (.str n) es 0 with
  | some r=>match (match r with|some (_,v)=>some v|none=>some (.int .i64 0)) with
   | some v=>some (.tuple [v,.bool r.isSome])
   | none=>none
  | none=>none) with
  | some v=>some (v,bx,st)
  | none=>none)
 | _=>none:=by
 unfold P1
 dsimp only
 cases st[o]? with
 | none=>rfl
 | some ob =>
  cases ob with
  | map es =>
   dsimp only
   cases H7 1 (.str n) es 0 with
   | none=>rfl
   | some r=>cases r <;> rfl
  | _=>rfl
theorem a3l {l:List TD} {so:Nat} {st:St} (h:Sch l so st) (n:List Nat):EvQ tbl 56 [.ptr so 0,.str n] st (fun a st'=>st'=st∧a=S2 (lk l n)):=by
 obtain ⟨w,mo,h1,h2⟩:=h.ob
 have hm:=a6G n l 0
 refine EvQ.body (fn:=a56) rfl rfl rfl ?_
 cases hj:lkI l n 0 with
 | none =>
  rw [hj] at hm
  rw [b1Y n l 0 hj]
  simp only [Option.map_none] at hm
  simp +contextual -implicitDefEqProofs only [K56,SS,rA,rS,rL,rE,reduceCtorEq,h1,b7I,h2,hm,Option.isSome_none]
  exact WC.ret ⟨_,_,rfl,rfl,rfl⟩
 | some j =>
  rw [hj] at hm
  obtain ⟨m,t,rfl,ht,hl⟩:=b2k n l 0 j hj
  rw [hl]
  simp only [AN,Nat.zero_add] at hm
  have e2:(l.map TD.row)[m]?=some t.row:=by rw [AQ,ht]; rfl
  simp +contextual -implicitDefEqProofs only [K56,SS,rA,rS,rL,rE,reduceCtorEq,h1,b7I,h2,hm,Option.isSome_some,e2,TD.row]
  exact WC.ret ⟨_,_,rfl,rfl,rfl⟩
theorem b54 {l:List TD} {so:Nat} {st:St} (h:Sch l so st) (n:List Nat):((lk l n).getD TD.zero).OK:=by
 cases hl:lk l n with
 | none=>simp [TD.OK,TD.zero]
 | some t=>exact h.ok t (List.mem_of_find?_eq_some hl)
def W3 (n:List Nat) (u:TD):Bool:=eqI u.k 1 && l6 u.ns n
def a4m (l:List TD) (n:List Nat):List (List Nat):=match lk l n with
 | none=>[]
 | some t=>if eqI t.k 1 then [n] else (if eqI t.k 3 then t.ns else (if !eqI t.k 2 then [] else (l.filter (W3 n)).map (fun u=>u.n)))
theorem b8v {l:List TD} {so:Nat} {st:St} (h:Sch l so st) (n:List Nat):EvQ tbl 42 [.ptr so 0,.str n] st (fun a st'=>st'=st∧a=.list false ((a4m l n).map e8)):=by
 have hlen:=h.len
 have hd:=b54 h n
 unfold a4m
 refine EvQ.body (fn:=a42) rfl rfl rfl ?_
 simp +contextual -implicitDefEqProofs only [K42,SS,rA,rS,rL,rE,reduceCtorEq]
 refine WC.call (a3l h n) rfl rfl ?_
 rintro _ st ⟨rfl,rfl⟩
 revert hd
 cases hl:lk l n with
 | none =>
  intro hd
  simp +contextual -implicitDefEqProofs only [K42,SS,rA,rS,rL,rE,reduceCtorEq,S2,Option.getD_none,TD.zero,TD.row,Option.isSome_none]
  exact WC.ret ⟨_,_,rfl,rfl,rfl⟩
 | some t =>
  rw [Option.getD_some]
  intro hd
  have hln:t.ns.length≤3001:=hd
  have ho:=h.ob
  obtain ⟨w,mo,h1,h2⟩:=ho
  simp +contextual -implicitDefEqProofs only [K42,SS,rA,rS,rL,rE,reduceCtorEq,S2,Option.getD_some,TD.row,Option.isSome_some]
  refine WC.br (fun hk=>?_) (fun hk=>?_)
  · rw [if_pos hk]
    simp +contextual -implicitDefEqProofs only [K42,SS,rA,rS,rL,rE,reduceCtorEq]
    exact WC.ret ⟨_,_,rfl,rfl,rfl⟩
  rw [if_neg (by rw [hk]; decide)]
  simp +contextual -implicitDefEqProofs only [K42,SS,rA,rS,rL,rE,reduceCtorEq]
  refine WC.br (fun hk=>?_) (fun hk=>?_)
  · rw [if_pos hk]
    have hclone:EvQ tbl 86 [.list false (t.ns.map e8)] st (fun a st'=>st'=st∧a=.list true (t.ns.map e8)):=by
     refine EvQ.of_ext (fn:=a86) (r:=(.list true (t.ns.map e8),st)) rfl rfl ?_ ⟨rfl,rfl⟩
     simp only [a0j,a2e,AF,Bool.true_and]
     rw [if_pos (by simp; omega)]
    simp +contextual -implicitDefEqProofs only [K42,SS,rA,rS,rL,rE,reduceCtorEq]
    refine WC.call hclone rfl rfl ?_
    rintro _ st ⟨rfl,rfl⟩
    simp +contextual -implicitDefEqProofs only [K42,SS,rA,rS,rL,rE,reduceCtorEq]
    exact WC.ret ⟨_,_,rfl,rfl,rfl⟩
  rw [if_neg (by rw [hk]; decide)]
  simp +contextual -implicitDefEqProofs only [K42,SS,rA,rS,rL,rE,reduceCtorEq]
  refine WC.br (fun hk=>?_) (fun hk=>?_)
  · rw [if_pos hk]
    simp +contextual -implicitDefEqProofs only [K42,SS,rA,rS,rL,rE,reduceCtorEq]
    exact WC.ret ⟨_,_,rfl,rfl,rfl⟩
  rw [if_neg (by rw [hk]; decide)]
  simp +contextual -implicitDefEqProofs only [K42,SS,rA,rS,rL,rE,reduceCtorEq,h1,AF]
  refine WC.loopR (fun mm fr st'=>st'=st∧∃ (i:Nat) (v6:AV),i≤l.length∧mm=l.length - i ∧
   fr=[.ptr so 0,.str n,.list true [],.box [.int .u8 t.k,.str t.n,.list false t.fs,.list false (t.ns.map e8)],.bool true,.list true ((((l.take i).filter (W3 n)).map (fun u=>u.n)).map e8),v6,.list false (l.map TD.row),.int .i64 l.length,.int .i64 i]) (m:=l.length) ⟨rfl,0,_,Nat.zero_le _,rfl,rfl⟩ ?_
  rintro mm fr st' ⟨rfl,i,v6,hi,rfl,rfl⟩
  simp +contextual -implicitDefEqProofs only [K42,SS,rA,rS,rL,rE,reduceCtorEq]
  by_cases hil:i < l.length
  · have e2:(l.map TD.row)[i]?=some (l[i]).row:=by rw [AQ,AD hil]; rfl
    have e3:l.take (i+1)=l.take i++[l[i]]:=by rw [List.take_add_one,AD hil]; rfl
    have hu:=h.ok _ (List.getElem_mem hil)
    revert e2 e3 hu
    generalize l[i]=u
    intro e2 e3 hu
    have hun:u.ns.length≤3001:=hu
    have i1:=s9 (show i+1 < 2 ^ 63 by omega)
    rw [TD.row] at e2
    have hf:∀ b,W3 n u=b→(l.take (i+1)).filter (W3 n)=(l.take i).filter (W3 n)++(if b then [u] else []):=by
     intro b hb
     rw [e3,List.filter_append]
     cases b <;> simp [hb]
    cases hk1:eqI u.k 1 with
    | false =>
     have hff:=hf false (by rw [W3,hk1]; rfl)
     simp +contextual -implicitDefEqProofs only [K42,SS,rA,rS,rL,rE,reduceCtorEq,hil,e2,hk1,i1]
     exact WC.next (m':=l.length - (i+1)) (by omega) ⟨rfl,i+1,_,hil,rfl,by rw [hff]; simp only [Bool.false_eq_true,if_false,List.append_nil]; rfl⟩
    | true =>
     simp +contextual -implicitDefEqProofs only [K42,SS,rA,rS,rL,rE,reduceCtorEq,hil,e2,hk1]
     refine WC.call (I0 u.ns (by omega) n _) rfl rfl ?_
     rintro _ st' ⟨rfl,rfl⟩
     cases hc:l6 u.ns n with
     | false =>
      have hff:=hf false (by rw [W3,hk1,hc]; rfl)
      simp +contextual -implicitDefEqProofs only [K42,SS,rA,rS,rL,rE,reduceCtorEq,i1]
      exact WC.next (m':=l.length - (i+1)) (by omega) ⟨rfl,i+1,_,hil,rfl,by rw [hff]; simp only [Bool.false_eq_true,if_false,List.append_nil]; rfl⟩
     | true =>
      have hff:=hf true (by rw [W3,hk1,hc]; rfl)
      have hcount:((((l.take i).filter (W3 n)).map (fun u=>u.n)).map e8).length≤3001:=by
       rw [AF,AF]
       have:=List.length_filter_le (W3 n) (l.take i)
       simp only [AO] at this
       omega
      simp +contextual -implicitDefEqProofs only [K42,SS,rA,rS,rL,rE,reduceCtorEq,i1,a2e,show (((((l.take i).filter (W3 n)).map (fun u=>u.n)).map e8).length+1)*16≤2 ^ 47 by omega]
      refine WC.next (m':=l.length - (i+1)) (by omega) ⟨rfl,i+1,.box [.int .u8 u.k,.str u.n,.list false u.fs,.list false (u.ns.map e8)],hil,rfl,?_⟩
      rw [hff]
      simp only [if_true,AU,AG,AL,e8]
  · simp +contextual -implicitDefEqProofs only [K42,SS,rA,rS,rL,rE,reduceCtorEq,hil]
    refine WC.leave ?_
    simp +contextual -implicitDefEqProofs only [K42,SS,rA,rS,rL,rE,reduceCtorEq]
    exact WC.ret ⟨_,_,rfl,rfl,by rw [List.take_of_length_le (by omega)]; rfl⟩
end Go.Cb.CodeA
