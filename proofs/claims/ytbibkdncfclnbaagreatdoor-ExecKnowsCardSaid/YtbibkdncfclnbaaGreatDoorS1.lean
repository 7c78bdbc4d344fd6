import Derived.Test.YtbibkdncfclnbaaGreatDoorC4
set_option maxRecDepth 20000
set_option linter.all false
namespace Go.Cb.CodeA
open Go Go.Cb
open Nat renaming reduceAdd→rA,reduceSub→rS,reduceLeDiff→rL,reduceEqDiff→rE
attribute [local congr] g9 j3 j4 j5 i8 j0 j8 j9 V.runR_congr
structure TD where
 k:Int
 n:List Nat
 fs:List (List AV)
 ns:List (List Nat)
def TD.row (t:TD):List AV:=[.int .u8 t.k,.str t.n,.list false t.fs,.list false (t.ns.map b9)]
def TD.OK (t:TD):Prop:=t.ns.length≤3001
def lk (l:List TD) (n:List Nat):Option TD:=l.find? (fun t=>eqN n t.n)
def lkI:List TD→List Nat→Nat→Option Nat
 | [],_,_=>none
 | t::ts,n,i=>if eqN n t.n then some i else lkI ts n (i+1)
def a4L:List TD→Nat→List (AV×AV)
 | [],_=>[]
 | t::ts,i=>(.str t.n,.int .i64 i)::a4L ts (i+1)
theorem a8d (n:List Nat):∀ (l:List TD) (i:Nat),K7 1 (.str n) (a4L l i) i=some ((lkI l n i).map fun j=>(j,.int .i64 (j:Int)))
 | [],i=>rfl
 | t::ts,i=>by
  have e:=a8d n ts (i+1);simp only[a4L,K7,T9,if_true,lkI];cases h:eqN n t.n with
  | true=>simp
  | false=>simp[e]
theorem b04 (n:List Nat):∀ (l:List TD) (i j:Nat),lkI l n i=some j→∃ m t,j=i+m∧l[m]?=some t∧lk l n=some t
 | [],i,j,h=>by simp[lkI]at h
 | t::ts,i,j,h=>by
  simp only[lkI]at h;by_cases e:eqN n t.n=true
  · simp[e]at h;exact⟨0,t,by omega,rfl,by simp[lk,e]⟩
  · simp[e]at h;obtain⟨m,u,rfl,x,v⟩:=b04 n ts (i+1) j h;refine⟨m+1,u,by omega,by simpa using x,?_⟩;simp only[lk,List.find?_cons,e]at v ⊢;exact v
theorem b1v (n:List Nat):∀ (l:List TD) (i:Nat),lkI l n i=none→lk l n=none
 | [],i,h=>rfl
 | t::ts,i,h=>by
  simp only[lkI]at h;by_cases e:eqN n t.n=true
  · simp[e]at h
  · simp[e]at h;have:=b1v n ts (i+1) h;simp only[lk,List.find?_cons,e]at this ⊢;exact this
structure Sch (l:List TD) (so:Nat) (st:St):Prop where
 len:l.length≤3001
 ok:∀ t∈l,t.OK
 ob:∃ w mo,st[so]?=some (.cells [.list w (l.map TD.row),.map mo])∧st[mo]?=some (.map (a4L l 0))
theorem Sch.gr {l:List TD} {so:Nat} {st st':St} (h:Sch l so st) (e:Gr st st'):Sch l so st' :=
 ⟨h.len,h.ok,let ⟨w,mo,h1,h2⟩:=h.ob; ⟨w,mo,e _ _ h1,e _ _ h2⟩⟩
def TD.zero:TD:=⟨0,[],[],[]⟩
def X0 (o:Option TD):AV:=.tuple [.agg (o.getD TD.zero).row,.bool o.isSome]
theorem b7Z (call:d8) (bx:AV) (st:St) (o:Nat) (n:List Nat):S6 1 [.int .i64 0] false true call [.map o,.str n] bx st =
 match st[o]? with
 | some (.map es)=>(match (match K7 1 (.str n) es 0 with
  | some r=>match (match r with|some (_,v)=>some v|none=>some (.int .i64 0))with
   | some v=>some (.tuple [v,.bool r.isSome])
   | none=>none
  | none=>none)with
  | some v=>some (v,bx,st)
  | none=>none)
 | _=>none:=by
 unfold S6;dsimp only;cases st[o]? with
 | none=>rfl
 | some ob =>
  cases ob with
  | map es =>
   dsimp only;cases K7 1 (.str n) es 0 with
   | none=>rfl
   | some r=>cases r<;>rfl
  | _=>rfl
theorem a5B {l:List TD} {so:Nat} {st:St} (h:Sch l so st) (n:List Nat):EvQ tbl 56 [.ptr so 0,.str n] st (fun a st'=>st'=st∧a=X0 (lk l n)):=by
 obtain⟨w,mo,v,x⟩:=h.ob;have e:=a8d n l 0;refine wj (fn:=a56) rfl rfl rfl ?_;cases u:lkI l n 0 with
 | none =>rw[u]at e;rw[b1v n l 0 u];simp only[Option.map_none]at e;simp only[K56,rA,rS,rE,v,b7Z,x,e,Option.isSome_none];exact wc ⟨_,_,rfl,rfl,rfl⟩
 | some j =>
  rw[u]at e;obtain⟨m,t,rfl,z,y⟩:=b04 n l 0 j u;rw[y];simp only[AO,Nat.zero_add]at e;have e2:(l.map TD.row)[m]?=some t.row:=by rw[AU,z]; rfl
  simp only[K56,rA,rS,rE,v,b7Z,x,e,Option.isSome_some,e2,TD.row];exact wc ⟨_,_,rfl,rfl,rfl⟩
theorem c3H {l:List TD} {so:Nat} {st:St} (h:Sch l so st) (n:List Nat):((lk l n).getD TD.zero).OK:=by
 cases e:lk l n with
 | none=>simp[TD.OK,TD.zero]
 | some t=>exact h.ok t (List.mem_of_find?_eq_some e)
def I7 (n:List Nat) (u:TD):Bool:=eqI u.k 1 && k9 u.ns n
def a0q (l:List TD) (n:List Nat):List (List Nat):=match lk l n with
 | none=>[]
 | some t=>if eqI t.k 1 then [n]else(if eqI t.k 3 then t.ns else(if !eqI t.k 2 then []else(l.filter (I7 n)).map (fun u=>u.n)))
theorem b1B {l:List TD} {so:Nat} {st:St} (h:Sch l so st) (n:List Nat):EvQ tbl 42 [.ptr so 0,.str n] st (fun a st'=>st'=st∧a=.list false ((a0q l n).map b9)):=by
 have N:=h.len;have I:=c3H h n;unfold a0q;refine wj (fn:=a42) rfl rfl rfl ?_;simp only[K42,rA,rS,rE];refine wa (a5B h n) rfl rfl ?_;rintro _ st ⟨rfl,rfl⟩;revert I;cases hl:lk l n with
 | none =>intro I;simp only[K42,rA,rE,X0,Option.getD_none,TD.zero,TD.row,Option.isSome_none];exact wc ⟨_,_,rfl,rfl,rfl⟩
 | some t =>
  rw[Option.getD_some];intro I;have W:t.ns.length≤3001:=I;have Y:=h.ob;obtain⟨w,mo,T,h2⟩:=Y;simp only[K42,rA,rE,X0,Option.getD_some,TD.row,Option.isSome_some];refine wi (fun x=>?_) (fun x=>?_)
  · rw[if_pos x];simp only[K42,rE];exact wc ⟨_,_,rfl,rfl,rfl⟩
  rw[if_neg (by rw[x]; decide)];simp only[K42,rE];refine wi (fun x=>?_) (fun x=>?_)
  · rw[if_pos x];have z:EvQ tbl 86 [.list false (t.ns.map b9)] st (fun a st'=>st'=st∧a=.list true (t.ns.map b9)):=by refine EvQ.of_ext (fn:=a86) (r:=(.list true (t.ns.map b9),st)) rfl rfl ?_ ⟨rfl,rfl⟩;simp only[a1B,X1,AG,Bool.true_and];rw[if_pos (by simp; omega)]
    simp only[K42,rE];refine wa z rfl rfl ?_;rintro _ st ⟨rfl,rfl⟩;simp only[SS];exact wc ⟨_,_,rfl,rfl,rfl⟩
  rw[if_neg (by rw[x]; decide)];simp only[K42,rE];refine wi (fun x=>?_) (fun x=>?_)
  · rw[if_pos x];simp only[K42];exact wc ⟨_,_,rfl,rfl,rfl⟩
  rw[if_neg (by rw[x]; decide)];simp only[K42,rE,T,AG];refine wg (fun O fr st'=>st'=st∧∃ (i:Nat) (v6:AV),i≤l.length∧O=l.length - i ∧
   fr=[.ptr so 0,.str n,.list true [],.box [.int .u8 t.k,.str t.n,.list false t.fs,.list false (t.ns.map b9)],.bool true,.list true ((((l.take i).filter (I7 n)).map (fun u=>u.n)).map b9),v6,.list false (l.map TD.row),.int .i64 l.length,.int .i64 i]) (m:=l.length) ⟨rfl,0,_,Aa _,rfl,rfl⟩ ?_
  rintro O fr st' ⟨rfl,i,v6,hi,rfl,rfl⟩;simp only[K42];by_cases e:i < l.length
  · have e2:(l.map TD.row)[i]?=some (l[i]).row:=by rw[AU,AE e]; rfl
    have J:l.take (i+1)=l.take i++[l[i]]:=by rw[List.take_add_one,AE e]; rfl
    have hu:=h.ok _ (List.getElem_mem e);revert e2 J hu;generalize l[i]=u;intro e2 J hu;have Z:u.ns.length≤3001:=hu;have i1:=k7 (show i+1 < 2 ^ 63 by omega);rw[TD.row]at e2;have L:∀ b,I7 n u=b→(l.take (i+1)).filter (I7 n)=(l.take i).filter (I7 n)++(if b then [u]else []):=by intro b U;rw[J,List.filter_append];cases b<;>simp[U]
    cases y:eqI u.k 1 with
    | false =>have v:=L false (by rw[I7,y]; rfl);simp only[K42,rA,rE,e,e2,y,i1];exact wd (m':=l.length - (i+1)) (by omega) ⟨rfl,i+1,_,e,rfl,by rw[v]; simp only[Bool.false_eq_true,if_false,List.append_nil]; rfl⟩
    | true =>
     simp only[K42,rA,rE,e,e2,y];refine wa (I4 u.ns (by omega) n _) rfl rfl ?_;rintro _ st' ⟨rfl,rfl⟩;cases M:k9 u.ns n with
     | false =>have v:=L false (by rw[I7,y,M]; rfl);simp only[K42,i1];exact wd (m':=l.length - (i+1)) (by omega) ⟨rfl,i+1,_,e,rfl,by rw[v]; simp only[Bool.false_eq_true,if_false,List.append_nil]; rfl⟩
     | true =>
      have v:=L true (by rw[I7,y,M]; rfl);have C:((((l.take i).filter (I7 n)).map (fun u=>u.n)).map b9).length≤3001:=by rw[AG,AG];have:=List.length_filter_le (I7 n) (l.take i);simp only[AP]at this;omega
      simp only[K42,rE,i1,X1,show(((((l.take i).filter (I7 n)).map (fun u=>u.n)).map b9).length+1)*16≤2 ^ 47 by omega];refine wd (m':=l.length - (i+1)) (by omega) ⟨rfl,i+1,.box [.int .u8 u.k,.str u.n,.list false u.fs,.list false (u.ns.map b9)],e,rfl,?_⟩
      rw[v];simp only[if_true,AW,AH,AM,b9]
  · simp only[SS,e];refine we ?_;simp only[K42];exact wc ⟨_,_,rfl,rfl,by rw[List.take_of_length_le (by omega)]; rfl⟩
end Go.Cb.CodeA
