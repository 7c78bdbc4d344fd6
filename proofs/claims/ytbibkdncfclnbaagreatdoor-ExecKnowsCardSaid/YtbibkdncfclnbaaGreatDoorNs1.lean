import Derived.Test.YtbibkdncfclnbaaGreatDoorC5
import Derived.Test.YtbibkdncfclnbaaGreatDoorC6
import Derived.Test.YtbibkdncfclnbaaGreatDoorS1
import Derived.Test.YtbibkdncfclnbaaGreatDoorZs1
import Derived.Test.YtbibkdncfclnbaaGreatDoorMS
import Derived.Test.YtbibkdncfclnbaaGreatDoorYs1
import Derived.Test.YtbibkdncfclnbaaGreatDoorSA
import Derived.Test.YtbibkdncfclnbaaGreatDoorMaw
import Derived.Test.YtbibkdncfclnbaaGreatDoorMbb
import Derived.Test.YtbibkdncfclnbaaGreatDoorXs1
set_option maxRecDepth 20000
set_option maxHeartbeats 4000000
set_option linter.all false
namespace Go.Cb.CodeA
open Go Go.Cb
mutual
def Val.w:Val→Nat
 | .mk _ _ _ _ ls=>1+Val.ws ls
def Val.ws:List Val→Nat
 | []=>0
 | v::l=>v.w+Val.ws l
end
theorem r6 (a b:List Val):Val.ws (a++b)=Val.ws a+Val.ws b:=by
 induction a with
 | nil=>rw[Val.ws,Nat.zero_add]; rfl
 | cons x a e=>rw[List.cons_append,Val.ws,Val.ws,e]; omega
theorem r5 (v:Val):Val.ws [v]=v.w:=by rw[Val.ws,Val.ws]; rfl
theorem D3 (k n:Int) (s:List Nat) (ks:List (List Nat)) (ls:List Val):(Val.mk k n s ks ls).w=1+Val.ws ls:=by rw[Val.w]
theorem n6 (k n:Int) (s:List Nat):(Val.mk k n s [] []).w=1:=by rw[Val.w,Val.ws]
def asW:List Arg→Nat
 | []=>0
 | a::l=>a.v.w+asW l
theorem n9 (a b:List Arg):asW (a++b)=asW a+asW b:=by
 induction a with
 | nil=>rw[asW,Nat.zero_add]; rfl
 | cons x a e=>rw[List.cons_append,asW,asW,e]; omega
def dsW:List Dir→Nat
 | []=>0
 | d::l=>asW d.as+dsW l
theorem n8 (a b:List Dir):dsW (a++b)=dsW a+dsW b:=by
 induction a with
 | nil=>rw[dsW,Nat.zero_add]; rfl
 | cons x a e=>rw[List.cons_append,dsW,dsW,e]; omega
mutual
def Sel.w:Sel→Nat
 | .mk _ _ _ _ as ds sub=>1+asW as+dsW ds+Sel.ws sub
def Sel.ws:List Sel→Nat
 | []=>0
 | s::l=>s.w+Sel.ws l
end
theorem q9 (k:Int) (al nm on:List Nat) (as:List Arg) (ds:List Dir) (sub:List Sel):(Sel.mk k al nm on as ds sub).w=1+asW as+dsW ds+Sel.ws sub:=by rw[Sel.w]
theorem m6:Sel.ws []=0:=by rw[Sel.ws]
theorem a06 (s:Sel) (l:List Sel):Sel.ws (s::l)=s.w+Sel.ws l:=by rw[Sel.ws]
theorem m7 (s:Sel):Sel.ws [s]=s.w:=by rw[a06,m6]; rfl
theorem m8 (a b:List Sel):Sel.ws (a++b)=Sel.ws a+Sel.ws b:=by
 induction a with
 | nil=>rw[m6,Nat.zero_add]; rfl
 | cons x a e=>rw[List.cons_append,a06,a06,e]; omega
theorem b2L (L:List Tok) (I:Bool):∀ f,T5 L.length (B7 L I f) Val.w
 | 0=>by intro i x j _ h; rw[B7]at h; cases h
 | f+1=>by
  have J:=b2L L I f;intro i x j hi h;rw[B7,value1P]at h;cases hL:L[i]? with
  | none=>rw[hL]at h; cases h
  | some t =>
   have e:=(List.getElem?_eq_some_iff.1 hL).1;rw[hL]at h;dsimp only at h;split at h; · cases h; rw[n6]; ((try dsimp only at *); (try simp only[n6,D3,r6,r5,Val.ws,n9,asW,n8,dsW,q9,m8,m7,m6]at *); omega)
   split at h; · cases h; rw[n6]; ((try dsimp only at *); (try simp only[n6,D3,r6,r5,Val.ws,n9,asW,n8,dsW,q9,m8,m7,m6]at *); omega)
   split at h; · cases h; rw[n6]; ((try dsimp only at *); (try simp only[n6,D3,r6,r5,Val.ws,n9,asW,n8,dsW,q9,m8,m7,m6]at *); omega)
   split at h; · cases h; rw[n6]; ((try dsimp only at *); (try simp only[n6,D3,r6,r5,Val.ws,n9,asW,n8,dsW,q9,m8,m7,m6]at *); omega)
   split at h; · cases h; rw[n6]; ((try dsimp only at *); (try simp only[n6,D3,r6,r5,Val.ws,n9,asW,n8,dsW,q9,m8,m7,m6]at *); omega)
   split at h; · cases h; rw[n6]; ((try dsimp only at *); (try simp only[n6,D3,r6,r5,Val.ws,n9,asW,n8,dsW,q9,m8,m7,m6]at *); omega)
   split at h
   · unfold b6a at h;split at h
     · cases h
     · rename_i n M z;have:=s6 L _ _ _ e z;cases h
       ((try dsimp only at *); (try simp only[n6,D3,r6,r5,Val.ws,n9,asW,n8,dsW,q9,m8,m7,m6]at *); omega)
   split at h
   · unfold b0L at h;split at h
     · cases h
     · rename_i l M y;have:=I0 (N:=L.length) (μ:=Val.ws) (fun i a b j O hi h=>by
        unfold a2Q at h;split at h
        · rename_i u; have:=s8 u; cases h; ((try dsimp only at *); (try simp only[n6,D3,r6,r5,Val.ws,n9,asW,n8,dsW,q9,m8,m7,m6]at *); omega)
        · split at h
          · cases h
          · rename_i v U C;have:=J _ _ _ hi C;cases h; ((try dsimp only at *); (try simp only[n6,D3,r6,r5,Val.ws,n9,asW,n8,dsW,q9,m8,m7,m6]at *); omega)) _ _ _ _ _ e y
       cases h
       ((try dsimp only at *); (try simp only[n6,D3,r6,r5,Val.ws,n9,asW,n8,dsW,q9,m8,m7,m6]at *); omega)
   split at h
   · unfold b4V at h;split at h
     · cases h
     · rename_i l M y;have:=I0 (N:=L.length) (μ:=fun x:List (List Nat)×List Val=>Val.ws x.2) (fun i a b j O hi h=>by
        unfold a2P at h;split at h
        · rename_i u; have:=s8 u; cases h; ((try dsimp only at *); (try simp only[n6,D3,r6,r5,Val.ws,n9,asW,n8,dsW,q9,m8,m7,m6]at *); omega)
        · split at h
          · cases h
          · rename_i n i2 z;have a1:=s6 L _ _ _ hi z;split at h
            · cases h
            · rename_i i3 T;have a2:=K2 T;split at h
              · cases h
              · rename_i v U C;have:=J _ _ _ (by((try dsimp only at *); (try simp only[n6,D3,r6,r5,Val.ws,n9,asW,n8,dsW,q9,m8,m7,m6]at *); omega)) C;cases h; ((try dsimp only at *); (try simp only[n6,D3,r6,r5,Val.ws,n9,asW,n8,dsW,q9,m8,m7,m6]at *); omega)) _ _ _ _ _ e y
       cases h
       ((try dsimp only at *); (try simp only[n6,D3,r6,r5,Val.ws,n9,asW,n8,dsW,q9,m8,m7,m6]at *); omega)
   · cases h
theorem b4C (L:List Tok) (f:Nat):T5 L.length (R6 L f) asW:=by
 intro i x j hi h;unfold R6 at h;split at h
 · rename_i e;have l:=s8 e;obtain⟨y,k,t,u⟩:=bind_some h;have:=I0 (N:=L.length) (μ:=fun x:Bool×List Arg=>asW x.2) (fun i a b j z hi h=>by
    unfold Y1 at h;split at h
    · rename_i e; simp at e; have:=s8 e.2; cases h; ((try dsimp only at *); (try simp only[n6,D3,r6,r5,Val.ws,n9,asW,n8,dsW,q9,m8,m7,m6]at *); omega)
    · obtain⟨n,i2,g1,h⟩:=bind_some h;have a1:=s6 L _ _ _ hi g1;obtain⟨i3,g2,h⟩:=D0 h;have a2:=K2 g2;obtain⟨v,i4,g3,h⟩:=bind_some h;have a3:=b2L L false f _ _ _ a2.2 g3;cases h; ((try dsimp only at *); (try simp only[n6,D3,r6,r5,Val.ws,n9,asW,n8,dsW,q9,m8,m7,m6]at *); omega)) _ _ _ _ _ l t
   cases u
   ((try dsimp only at *); (try simp only[n6,D3,r6,r5,Val.ws,n9,asW,n8,dsW,q9,m8,m7,m6]at *); omega)
 · cases h; ((try dsimp only at *); (try simp only[n6,D3,r6,r5,Val.ws,n9,asW,n8,dsW,q9,m8,m7,m6]at *); omega)
theorem a8K (L:List Tok) (f:Nat):T5 L.length (a1W L f) dsW:=by
 intro i x j hi h;have:=I0 (N:=L.length) (μ:=dsW) (fun i a b j t hi h=>by
  unfold a0g at h;split at h
  · rename_i l;have e:=s8 l;obtain⟨n,i2,g1,h⟩:=bind_some h;have a1:=s6 L _ _ _ e g1;obtain⟨v,i4,g3,h⟩:=bind_some h;have a3:=b4C L f _ _ _ a1.2 g3;cases h; ((try dsimp only at *); (try simp only[n6,D3,r6,r5,Val.ws,n9,asW,n8,dsW,q9,m8,m7,m6]at *); omega)
  · cases h; ((try dsimp only at *); (try simp only[n6,D3,r6,r5,Val.ws,n9,asW,n8,dsW,q9,m8,m7,m6]at *); omega)) _ _ _ _ _ hi h
 ((try dsimp only at *); (try simp only[n6,D3,r6,r5,Val.ws,n9,asW,n8,dsW,q9,m8,m7,m6]at *); omega)
theorem c9e (L:List Tok) (f:Nat) {v:Nat→Option (List Sel×Nat)} (z:T5 L.length v Sel.ws):T5 L.length (O8 L f v) Sel.w:=by
 have inl:∀ on,T5 L.length (a2D L f v on) (fun x=>x.w - 1):=by
  intro on i x j hi h;unfold a2D at h;obtain⟨ds,i2,g1,h⟩:=bind_some h;have a1:=a8K L f _ _ _ hi g1;obtain⟨sub,i3,g2,h⟩:=bind_some h;have a2:=z _ _ _ a1.2 g2;cases h;simp only[q9]
  ((try dsimp only at *); (try simp only[n6,D3,r6,r5,Val.ws,n9,asW,n8,dsW,q9,m8,m7,m6]at *); omega)
 intro i x j hi h;have pos:1≤x.w:=by cases x; rw[q9]; ((try dsimp only at *); (try simp only[n6,D3,r6,r5,Val.ws,n9,asW,n8,dsW,q9,m8,m7,m6]at *); omega)
 unfold O8 at h;split at h
 · rename_i t;have e:=s8 t;split at h
   · rename_i u;have l:=s8 u;obtain⟨on,i2,g1,h⟩:=bind_some h;have a1:=s6 L _ _ _ l g1;have a2:=inl _ _ _ _ a1.2 h
     ((try dsimp only at *); (try simp only[n6,D3,r6,r5,Val.ws,n9,asW,n8,dsW,q9,m8,m7,m6]at *); omega)
   · split at h
     · obtain⟨n,i2,g1,h⟩:=bind_some h;have a1:=s6 L _ _ _ e g1;obtain⟨ds,i3,g2,h⟩:=bind_some h;have a2:=a8K L f _ _ _ a1.2 g2;cases h;simp only[q9,Sel.ws]
       ((try dsimp only at *); (try simp only[n6,D3,r6,r5,Val.ws,n9,asW,n8,dsW,q9,m8,m7,m6]at *); omega)
     · have a2:=inl _ _ _ _ e h
       ((try dsimp only at *); (try simp only[n6,D3,r6,r5,Val.ws,n9,asW,n8,dsW,q9,m8,m7,m6]at *); omega)
 · unfold a3T at h;obtain⟨n,i2,g1,h⟩:=bind_some h;have a1:=s6 L _ _ _ hi g1;obtain⟨y,i3,g2,h⟩:=bind_some h;have a2:i2≤i3∧i3≤L.length:=by
    unfold a1l at g2;split at g2
    · rename_i t;have e:=s8 t;obtain⟨m,i4,g3,g2⟩:=bind_some g2;have:=s6 L _ _ _ e g3;cases g2
      ((try dsimp only at *); (try simp only[n6,D3,r6,r5,Val.ws,n9,asW,n8,dsW,q9,m8,m7,m6]at *); omega)
    · cases g2; ((try dsimp only at *); (try simp only[n6,D3,r6,r5,Val.ws,n9,asW,n8,dsW,q9,m8,m7,m6]at *); omega)
   obtain⟨as,i4,g3,h⟩:=bind_some h;have a3:=b4C L f _ _ _ a2.2 g3;obtain⟨ds,i5,g4,h⟩:=bind_some h;have a4:=a8K L f _ _ _ a3.2 g4;split at h
   · obtain⟨sub,i6,g5,h⟩:=bind_some h;have a5:=z _ _ _ a4.2 g5;cases h;simp only[q9]
     ((try dsimp only at *); (try simp only[n6,D3,r6,r5,Val.ws,n9,asW,n8,dsW,q9,m8,m7,m6]at *); omega)
   · cases h;simp only[q9,Sel.ws]
     ((try dsimp only at *); (try simp only[n6,D3,r6,r5,Val.ws,n9,asW,n8,dsW,q9,m8,m7,m6]at *); omega)
theorem a5C (L:List Tok):∀ f,T5 L.length (t6 L f) Sel.ws
 | 0=>by intro i x j _ h; rw[t6]at h; cases h
 | f+1=>by
  have l:=c9e L f (a5C L f);intro i x j hi h;rw[t6]at h;obtain⟨i2,g1,h⟩:=D0 h;have a1:=K2 g1;have:=I0 (N:=L.length) (μ:=Sel.ws) (fun i a b j t hi h=>by
   unfold W9 at h;obtain⟨y,i3,g2,h⟩:=bind_some h;have a2:=l _ _ _ hi g2;split at h
   · rename_i e; have:=s8 e; cases h; rw[m8,m7]; ((try dsimp only at *); (try simp only[n6,D3,r6,r5,Val.ws,n9,asW,n8,dsW,q9,m8,m7,m6]at *); omega)
   · cases h; rw[m8,m7]; ((try dsimp only at *); (try simp only[n6,D3,r6,r5,Val.ws,n9,asW,n8,dsW,q9,m8,m7,m6]at *); omega)) _ _ _ _ _ a1.2 h
  simp only[Sel.ws]at this
  ((try dsimp only at *); (try simp only[n6,D3,r6,r5,Val.ws,n9,asW,n8,dsW,q9,m8,m7,m6]at *); omega)
end Go.Cb.CodeA
namespace Go.Cb.CodeA
open Go Go.Cb
open Nat renaming reduceAdd→rA,reduceSub→rS,reduceLeDiff→rL,reduceEqDiff→rE
attribute [local congr] g9 j3 j4 j5 i8 j0 j8 j9 V.runR_congr
theorem a7d (a b:List Nat):eqN a b=eqN b a:=by
 rcases e8 (eqN a b)with h|h
 · have e:=(t7 _ _).1 h; subst e; rfl
 · rcases e8 (eqN b a)with g|g
   · have e:=(t7 _ _).1 g; subst e; rfl
   · rw[h,g]
theorem Z5 (l:List (List Nat)) (z:l.length≤1000000000) (n:List Nat) (st:St):EvQ tbl 16 [.list false (l.map b9),.str n] st (fun a st'=>st'=st∧a=.bool (k9 l n)):=by
 refine wj (fn:=a16) rfl rfl rfl ?_;simp only[K16,rS];refine wg (fun y fr st'=>st'=st∧∃ (i:Nat),i≤l.length∧y=l.length - i∧k9 l n=k9 (l.drop i) n∧fr=[.list false (l.map b9),.str n,.bool false,.int .i64 i]) (m:=l.length) ⟨rfl,0,Nat.zero_le _,rfl,rfl,rfl⟩ ?_;rintro y fr st' ⟨rfl,i,hi,rfl,e,rfl⟩;simp only[K16,rE,List.length_map];by_cases t:i < l.length
 · have e2:(l.map b9)[i]?=some (b9 l[i]):=by rw[List.getElem?_map,List.getElem?_eq_getElem t]; rfl
   have u:eqN l[i] n=eqN n l[i]:=a7d _ _;rw[List.drop_eq_getElem_cons t]at e;revert e2 u e;generalize l[i]=x;intro e e2 u;have e:k9 l n=(eqN n x || k9 (l.drop (i+1)) n):=by rw[e]; rfl
   simp only[K16,rE,t,e2,b9,u];refine wi (fun v=>?_) (fun v=>?_)
   · simp only[K16];refine wh ?_;simp only[SS];exact wc ⟨_,_,rfl,rfl,by rw[e,v]; rfl⟩
   · simp only[K16,rE,k7 (show i+1 < 2 ^ 63 by omega)];exact wd (m':=l.length - (i+1)) (by omega) ⟨rfl,i+1,t,rfl,by rw[e,v]; rfl,rfl⟩
 · simp only[SS,t];refine we ?_;simp only[K16];refine wc ⟨_,_,rfl,rfl,?_⟩;rw[e,List.drop_of_length_le (by omega)];rfl
theorem a5n (l:List (List Nat)):(l.map b9).flatten=l.map AV.str:=by
 induction l with
 | nil=>rfl
 | cons x l e=>rw[List.map_cons,List.flatten_cons,e]; rfl
theorem d0j (l:List (List Nat)) (I:l.length≤1000000000) (n:List Nat) (o:Nat) (st:St) (z:st[o]?=some (.cells (l.map b9).flatten)):EvQ tbl 16 [.sl o 0 l.length 1,.str n] st (fun a st'=>st'=st∧a=.bool (k9 l n)):=by
 rw[a5n]at z;refine wj (fn:=a16) rfl rfl rfl ?_;simp only[K16,rS];refine wg (fun C fr st'=>st'=st∧∃ (i:Nat),i≤l.length∧C=l.length - i∧k9 l n=k9 (l.drop i) n∧fr=[.sl o 0 l.length 1,.str n,.bool false,.int .i64 i]) (m:=l.length) ⟨rfl,0,Nat.zero_le _,rfl,rfl,rfl⟩ ?_;rintro C fr st' ⟨rfl,i,hi,rfl,e,rfl⟩;simp only[K16,rE];by_cases t:i < l.length
 · have e2:(l.map AV.str).drop i=.str l[i]::(l.map AV.str).drop (i+1):=by rw[List.drop_eq_getElem_cons (by simpa using t),List.getElem_map]
   have v:(i:Int) < (l.length:Int):=by omega
   have u:eqN l[i] n=eqN n l[i]:=a7d _ _;rw[List.drop_eq_getElem_cons t]at e;revert e2 u e;generalize l[i]=x;intro e e2 u;have e:k9 l n=(eqN n x || k9 (l.drop (i+1)) n):=by rw[e]; rfl
   simp only[K16,rE,t,v,z,Nat.mul_one,e2,u];refine wi (fun y=>?_) (fun y=>?_)
   · simp only[K16];refine wh ?_;simp only[SS];exact wc ⟨_,_,rfl,rfl,by rw[e,y]; rfl⟩
   · simp only[K16,rE,k7 (show i+1 < 2 ^ 63 by omega)];exact wd (m':=l.length - (i+1)) (by omega) ⟨rfl,i+1,t,rfl,by rw[e,y]; rfl,rfl⟩
 · simp only[SS,t];refine we ?_;simp only[K16];refine wc ⟨_,_,rfl,rfl,?_⟩;rw[e,List.drop_of_length_le (by omega)];rfl
theorem c6S (n:List Nat) (st:St):EvQ tbl 16 [.nils,.str n] st (fun a st'=>st'=st∧a=.bool false):=by refine wj (fn:=a16) rfl rfl rfl ?_;simp only[K16,rS];refine wg (fun e fr st'=>st'=st∧e=0∧fr=[.nils,.str n,.bool false,.int .i64 0]) (m:=0) ⟨rfl,rfl,rfl⟩ ?_;rintro e fr st' ⟨rfl,rfl,rfl⟩;simp only[K16,rE,show ltI 0 0=false from rfl];refine we ?_;simp only[K16];exact wc ⟨_,_,rfl,rfl,rfl⟩
structure Sch9 (l:List TD) (mo:Nat) (st:St):Prop where
 len:l.length≤3001
 ok:∀ t∈l,t.OK
 ob:∃ w,st[mo]?=some (.cells [.list w (l.map TD.row)])
theorem Sch9.gr {l:List TD} {mo:Nat} {st st':St} (h:Sch9 l mo st) (e:∀ x,st[mo]?=some x→st'[mo]?=some x):Sch9 l mo st' :=
 ⟨h.len,h.ok,let ⟨w,h1⟩:=h.ob; ⟨w,e _ h1⟩⟩
theorem c5F (t:TD) (l:List TD) (n:List Nat):lk (t::l) n=if eqN n t.n then some t else lk l n:=by unfold lk;rw[List.find?_cons];cases eqN n t.n<;>rfl
theorem b36 {l:List TD} {mo:Nat} {st:St} (h:Sch9 l mo st) (n:List Nat):EvQ tbl 61 [.ptr mo 0,.str n] st (fun a st'=>st'=st∧a=.agg ((lk l n).getD TD.zero).row):=by
 obtain⟨w,v⟩:=h.ob;have z:=h.len;refine wj (fn:=a61) rfl rfl rfl ?_;simp only[K61,rS];refine wg (fun C fr st'=>st'=st∧∃ (i:Nat),i≤l.length∧C=l.length - i∧lk l n=lk (l.drop i) n∧fr=[.ptr mo 0,.str n,.box [.int .u8 0,.str [],.list true [],.list true []],.int .i64 i]) (m:=l.length) ⟨rfl,0,Nat.zero_le _,rfl,rfl,rfl⟩ ?_;rintro C fr st' ⟨rfl,i,hi,rfl,e,rfl⟩;simp only[K61,rE,v,List.length_map];by_cases t:i < l.length
 · have e2:(l.map TD.row)[i]?=some (l[i]).row:=by rw[List.getElem?_map,List.getElem?_eq_getElem t]; rfl
   rw[List.drop_eq_getElem_cons t,c5F]at e;revert e e2;generalize l[i]=u;intro e e2;have x:=a7d u.n n;have e2:(l.map TD.row)[i]?=some [.int .u8 u.k,.str u.n,.list false u.fs,.list false (u.ns.map b9)]:=e2;simp only[K61,rA,rE,t,e2,v,x];refine wi (fun y=>?_) (fun y=>?_)
   · rw[if_pos y]at e;simp only[K61,rA,rE,v,e2];refine wh ?_;simp only[SS];exact wc ⟨_,_,rfl,rfl,by rw[e]; rfl⟩
   · rw[if_neg (by rw[y]; decide)]at e;simp only[K61,rE,k7 (show i+1 < 2 ^ 63 by omega)];exact wd (m':=l.length - (i+1)) (by omega) ⟨rfl,i+1,t,rfl,e,rfl⟩
 · simp only[SS,t];refine we ?_;simp only[K61,rA];refine wc ⟨_,_,rfl,rfl,?_⟩;rw[e,List.drop_of_length_le (by omega)];rfl
theorem b3T {l:List TD} {mo:Nat} {st:St} (h:Sch9 l mo st) (n:List Nat):EvQ tbl 165 [.ptr mo 0,.str n] st (fun a st'=>st'=st∧a=.list false ((a0q l n).map b9)):=by
 have M:=h.len;obtain⟨w,z⟩:=h.ob;unfold a0q;refine wj (fn:=a165) rfl rfl rfl ?_;simp only[a0c,rA,rS,rE];refine wa (b36 h n) rfl rfl ?_;rintro _ st ⟨rfl,rfl⟩;cases U:lk l n with
 | none =>simp only[a0c,rA,rE,Option.getD_none,TD.zero,TD.row,show eqI 0 1=false from rfl,show eqI 0 2=false from rfl,show eqI 0 3=false from rfl];exact wc ⟨_,_,rfl,rfl,rfl⟩
 | some t =>
  simp only[a0c,rA,rE,Option.getD_some,TD.row];refine wi (fun x=>?_) (fun x=>?_)
  · rw[if_pos x];simp only[a0c,rE];exact wc ⟨_,_,rfl,rfl,rfl⟩
  rw[if_neg (by rw[x]; decide)];simp only[a0c,rE];refine wi (fun x=>?_) (fun x=>?_)
  · rw[if_pos x];simp only[a0c,rE];exact wc ⟨_,_,rfl,rfl,rfl⟩
  rw[if_neg (by rw[x]; decide)];simp only[a0c,rE];refine wi (fun x=>?_) (fun x=>?_)
  rotate_left
  · rw[if_pos (by rw[x]; rfl)];simp only[a0c];exact wc ⟨_,_,rfl,rfl,rfl⟩
  rw[if_neg (by rw[x]; decide)];simp only[a0c];refine wg (fun N fr st'=>st'=st∧∃ (i:Nat),i≤l.length∧N=l.length - i ∧
   fr=[.ptr mo 0,.str n,.list true [],.box [.int .u8 t.k,.str t.n,.list false t.fs,.list false (t.ns.map b9)],.list true ((((l.take i).filter (I7 n)).map (fun u=>u.n)).map b9),.int .i64 i,.int .u8 t.k]) (m:=l.length) ⟨rfl,0,Nat.zero_le _,rfl,rfl⟩ ?_
  rintro N fr st' ⟨rfl,i,hi,rfl,rfl⟩;simp only[a0c,rE,z,List.length_map];by_cases e:i < l.length
  · have e2:(l.map TD.row)[i]?=some (l[i]).row:=by rw[List.getElem?_map,List.getElem?_eq_getElem e]; rfl
    have I:l.take (i+1)=l.take i++[l[i]]:=by rw[List.take_add_one,List.getElem?_eq_getElem e]; rfl
    have hu:=h.ok _ (List.getElem_mem e);revert e2 I hu;generalize l[i]=u;intro e2 I hu;have T:u.ns.length≤3001:=hu;have i1:=k7 (show i+1 < 2 ^ 63 by omega);rw[TD.row]at e2;have J:∀ b,I7 n u=b→(l.take (i+1)).filter (I7 n)=(l.take i).filter (I7 n)++(if b then [u]else []):=by intro b O;rw[I,List.filter_append];cases b<;>simp[O]
    cases y:eqI u.k 1 with
    | false =>have v:=J false (by rw[I7,y]; rfl);simp only[a0c,rA,rE,e,e2,y,i1,z];exact wd (m':=l.length - (i+1)) (by omega) ⟨rfl,i+1,e,rfl,by rw[v]; simp only[Bool.false_eq_true,if_false,List.append_nil]⟩
    | true =>
     simp only[a0c,rA,rE,e,e2,y,z];refine wa (Z5 u.ns (by omega) n _) rfl rfl ?_;rintro _ st' ⟨rfl,rfl⟩;cases L:k9 u.ns n with
     | false =>have v:=J false (by rw[I7,y,L]; rfl);simp only[a0c,rE,i1];exact wd (m':=l.length - (i+1)) (by omega) ⟨rfl,i+1,e,rfl,by rw[v]; simp only[Bool.false_eq_true,if_false,List.append_nil]⟩
     | true =>
      have v:=J true (by rw[I7,y,L]; rfl);have C:((((l.take i).filter (I7 n)).map (fun u=>u.n)).map b9).length≤3001:=by rw[List.length_map,List.length_map];have:=List.length_filter_le (I7 n) (l.take i);simp only[List.length_take]at this;omega
      simp only[a0c,rA,rE,i1,z,e2,X1,show(((((l.take i).filter (I7 n)).map (fun u=>u.n)).map b9).length+1)*16≤2 ^ 47 by omega];refine wd (m':=l.length - (i+1)) (by omega) ⟨rfl,i+1,e,rfl,?_⟩
      rw[v];simp only[if_true,List.map_append,List.map_cons,List.map_nil];rfl
  · simp only[SS,e];refine we ?_;simp only[a0c];refine wc ⟨_,_,rfl,rfl,?_⟩;rw[List.take_of_length_le (by omega)];rfl
structure Pln (a:AV):Prop where
 st:a.strip=a
 sb:a.stripB=a
 wk:a.weak=a
 pl:a.plain=true
def Handed (n0:Nat) (rows:List (List AV)) (sz:Nat) (a:AV) (st:St):Prop :=
 (rows=[]∧a=.nils)∨(rows≠[]∧∃ o,n0≤o∧a=.sl o 0 rows.length sz∧st[o]?=some (Cb.Obj.cells rows.flatten))
theorem Handed.pln {n0:Nat} {rows:List (List AV)} {sz:Nat} {a:AV} {st:St} (h:Handed n0 rows sz a st):Pln a:=by rcases h with⟨_,rfl⟩|⟨_,o,_,rfl,_⟩<;>exact⟨rfl,rfl,rfl,rfl⟩
def Pres (n0:Nat) (st st':St):Prop:=n0≤st'.length∧∀ i x,i < n0→st[i]?=some x→st'[i]?=some x
theorem Pres.trans {n0:Nat} {a b c:St} (h:Pres n0 a b) (e:Pres n0 b c):Pres n0 a c:=⟨e.1,fun i x hi l=>e.2 i x hi (h.2 i x hi l)⟩
theorem b0O {sz:Nat} {rows:List (List AV)} (h:∀ r∈rows,r.length=sz):rows.flatten.length=rows.length*sz:=by
 induction rows with
 | nil=>simp
 | cons r rows l =>rw[List.flatten_cons,List.length_append,l (fun x e=>h x (by simp[e])),h r (by simp),List.length_cons,Nat.succ_mul];omega
theorem Handed.push {n0:Nat} {rows:List (List AV)} {sz:Nat} {a:AV} {st:St} (h:Handed n0 rows sz a st) (L:∀ x∈rows,x.length=sz) {r:List AV} (I:r.length=sz) (bytes:Nat) (C:(rows.length+1)*bytes≤2 ^ 47) (J:n0≤st.length) :
 ∃ v st',(∀ call bx,F9 sz bytes call [a,.fresh [r]] bx st=some (v,bx,st'))∧Handed n0 (rows++[r]) sz v st'∧Pln v∧Pres n0 st st'∧∀ (i:Nat) (x:Cb.Obj),st[i]?=some x→(rows≠[]→x≠Cb.Obj.cells rows.flatten)→st'[i]?=some x:=by
 rcases h with⟨rfl,rfl⟩|⟨y,o,M,rfl,u⟩
 · refine⟨.sl st.length 0 1 sz,st++[Cb.Obj.cells [r].flatten],fun call bx=>?_,Or.inr ⟨by simp,st.length,J,rfl,?_⟩,⟨rfl,rfl,rfl,rfl⟩,⟨by simp; omega,fun i x hi l=>?_⟩,fun i x l _=>?_⟩
   · rw[R.appM_nils,if_pos]
     · rfl
     · exact⟨rfl,by simp[l5,I],by simpa using C,rfl⟩
   · rw[List.getElem?_append_right (Nat.le_refl _)]; simp
   · rw[List.getElem?_append_left (List.getElem?_eq_some_iff.1 l).1]; exact l
   · rw[List.getElem?_append_left (List.getElem?_eq_some_iff.1 l).1]; exact l
 · refine⟨.sl st.length 0 (rows.length+1) sz,st.set o Cb.Obj.dead++[Cb.Obj.cells (rows.flatten++[r].flatten)],fun call bx=>?_,Or.inr ⟨by simp,st.length,J,by simp,?_⟩,⟨rfl,rfl,rfl,rfl⟩,⟨by simp; omega,fun i x hi l=>?_⟩,fun i x l z=>?_⟩
   · rw[R.appM_sl,u];dsimp only;rw[if_pos]
     · rfl
     · exact⟨rfl,rfl,by simp[l5,I],b0O L,by simpa using C,rfl⟩
   · rw[List.getElem?_append_right (by simp)]; simp
   · have t:=(List.getElem?_eq_some_iff.1 l).1;rw[List.getElem?_append_left (by simpa using t),List.getElem?_set_ne (by omega)];exact l
   · have t:=(List.getElem?_eq_some_iff.1 l).1;rw[List.getElem?_append_left (by simpa using t),List.getElem?_set_ne]
     · exact l
     · intro e;subst e;rw[u]at l;exact z y (Option.some.inj l).symm
abbrev OutH (n0:Nat) (F:List Sel) (a:AV) (st:St):Prop:=Handed n0 (F.map Sel.row) 7 a st
abbrev SeenH (n0:Nat) (s:List (List Nat)) (a:AV) (st:St):Prop:=Handed n0 (s.map b9) 1 a st
theorem b1L {F:List Sel} {s:List (List Nat)} (h:F.map Sel.row≠[]) (e:s.map b9≠[]):(F.map Sel.row).flatten≠(s.map b9).flatten:=by
 cases F with
 | nil=>exact absurd rfl h
 | cons x F =>
  cases s with
  | nil=>exact absurd rfl e
  | cons y s =>obtain⟨k,al,nm,on,as,ds,sub⟩:=x;rw[List.map_cons,List.map_cons,Sel.row_eq];simp[b9]
theorem OutH.push {n0:Nat} {F:List Sel} {s:List (List Nat)} {a b:AV} {st:St} (h:OutH n0 F a st) (y:SeenH n0 s b st) (x:Sel) (U:F.length≤1000000) (M:n0≤st.length) :
 ∃ l st',(∀ call bx,F9 7 128 call [a,.fresh [x.row]] bx st=some (l,bx,st'))∧OutH n0 (F++[x]) l st'∧SeenH n0 s b st'∧Pln l∧Pres n0 st st':=by
 obtain⟨l,st',z,C,I,J,L⟩:=Handed.push h (by intro r O; obtain⟨v,_,rfl⟩:=List.mem_map.1 O; exact v.row_len) x.row_len 128 (by rw[List.length_map]; omega) M;refine⟨l,st',z,by rw[OutH,List.map_append]; exact C,?_,I,J⟩;rcases y with y|⟨t,o,N,e,u⟩
 · exact Or.inl y
 · exact Or.inr ⟨t,o,N,e,L _ _ u (fun T e=>b1L T t (by simpa using e.symm))⟩
theorem SeenH.push {n0:Nat} {F:List Sel} {s:List (List Nat)} {a b:AV} {st:St} (h:OutH n0 F a st) (M:SeenH n0 s b st) (nm:List Nat) (O:s.length≤1000000) (I:n0≤st.length) :
 ∃ b' st',(∀ call bx,F9 1 16 call [b,.fresh [[.str nm]]] bx st=some (b',bx,st'))∧OutH n0 F a st'∧SeenH n0 (s++[nm]) b' st'∧Pln b'∧Pres n0 st st':=by
 obtain⟨b',st',u,x,y,z,C⟩:=Handed.push M (by intro r L; obtain⟨v,_,rfl⟩:=List.mem_map.1 L; rfl) (r:=[.str nm]) rfl 16 (by rw[List.length_map]; omega) I;refine⟨b',st',u,?_,by rw[SeenH,List.map_append]; exact x,y,z⟩;rcases h with h|⟨l,o,J,e,t⟩
 · exact Or.inl h
 · exact Or.inr ⟨l,o,J,e,C _ _ t (fun N e=>b1L l N (by simpa using e))⟩
theorem a5u {n0:Nat} {s:List (List Nat)} {b:AV} {st:St} (h:SeenH n0 s b st) (v:s.length≤1000000000) (n:List Nat):EvQ tbl 16 [b,.str n] st (fun a st'=>st'=st∧a=.bool (k9 s n)):=by
 rcases h with⟨t,rfl⟩|⟨u,o,x,rfl,l⟩
 · have e:s=[]:=by simpa using t
   subst e;exact c6S n st
 · rw[List.length_map];exact d0j s v n o st l
abbrev a0a (st:St) (a:AV) (st':St):Prop:=st'=st∧∃ b,a=.bool b
abbrev Sc9 (T:List SD) (mo:Nat) (st:St):Prop:=Sch9 (T.map SD.td) mo st∧∀ t∈T,t.fs.length≤3000
theorem Sc9.gr {T:List SD} {mo:Nat} {st st':St} (h:Sc9 T mo st) (e:∀ x,st[mo]?=some x→st'[mo]?=some x):Sc9 T mo st':=⟨h.1.gr e,h.2⟩
def SD.none:SD:=⟨0,[],[],[]⟩
theorem a1A {T:List SD} {mo:Nat} {st:St} (h:Sc9 T mo st) (n:List Nat):EvQ tbl 61 [.ptr mo 0,.str n] st (fun a st'=>st'=st∧∃ t:SD,a=.agg [.int .u8 t.k,.str t.n,.list false (t.fs.map FDef.row),.list false (t.ns.map b9)]∧t.fs.length≤3000∧t.ns.length≤3001∧(t∈T∨t=SD.none)):=by
 refine(b36 h.1 n).mono ?_;rintro _ st' ⟨rfl,rfl⟩;rw[a8r];cases l:lkD T n with
 | none=>exact⟨rfl,SD.none,rfl,by decide,by decide,.inr rfl⟩
 | some t =>have e:=List.mem_of_find?_eq_some l;exact⟨rfl,t,rfl,h.2 t e,h.1.ok _ (List.mem_map_of_mem e),.inl e⟩
theorem b0g {l:List TD} {mo:Nat} {st:St} (h:Sch9 l mo st) (n:List Nat):(a0q l n).length≤3001:=by
 have e:=h.len;unfold a0q;cases u:lk l n with
 | none=>exact Nat.zero_le _
 | some t =>
  have v:t.ns.length≤3001:=h.ok t (List.mem_of_find?_eq_some u);dsimp only
  repeat' split
  · exact Nat.le_add_left 1 3000
  · exact v
  · exact Nat.zero_le _
  · rw[List.length_map]; exact Nat.le_trans (List.length_filter_le _ _) e
theorem b9e (n:List Nat) (st:St):EvQ tbl 58 [.str n] st (a0a st):=by refine wj (fn:=a58) rfl rfl rfl ?_;simp +contextual only [K58,rS,rE];exact wc ⟨_,_,rfl,rfl,_,rfl⟩
theorem b4a (n:List Nat) (st:St):EvQ tbl 110 [.str n] st (a0a st):=by refine wj (fn:=a110) rfl rfl rfl ?_;simp +contextual only [d4C,rS,rE];exact wc ⟨_,_,rfl,rfl,_,rfl⟩
theorem c6c {T:List SD} {mo:Nat} {st:St} (h:Sc9 T mo st) (n:List Nat):EvQ tbl 114 [.ptr mo 0,.str n] st (a0a st):=by refine wj (fn:=a114) rfl rfl rfl ?_;simp only[c8r,rS,rE];refine wa (a1A h n) rfl rfl ?_;rintro _ st ⟨rfl,t,rfl,_⟩;simp only[c8r,rA,rL,rE];refine wa (b4a n _) rfl rfl ?_;rintro _ st ⟨rfl,b,rfl⟩;simp +contextual only [SS];exact wc ⟨_,_,rfl,rfl,_,rfl⟩
theorem b3H {T:List SD} {mo:Nat} {st:St} (h:Sc9 T mo st) (n:List Nat):EvQ tbl 122 [.ptr mo 0,.str n] st (a0a st):=by
 refine wj (fn:=a122) rfl rfl rfl ?_;simp only[d3s,rS,rE];refine wa (b9e n st) rfl rfl ?_;rintro _ st ⟨rfl,b,rfl⟩;cases b
 · simp only[SS];refine wa (a1A h n) rfl rfl ?_;rintro _ st ⟨rfl,t,rfl,_⟩;simp only[SS,rA,rL];exact wc ⟨_,_,rfl,rfl,_,rfl⟩
 · simp only[SS];exact wc ⟨_,_,rfl,rfl,_,rfl⟩
theorem a8D (t:TRef) (st:St):EvQ tbl 113 [.agg t.row] st (fun a st'=>st'=st∧∃ n,a=.str n):=by
 induction t with
 | base n b =>refine wj (fn:=a113) rfl rfl rfl ?_;simp only[c7U,rS,rE,TRef.row,show ltI 0 ((0:Nat):Int)=false from rfl];exact wc ⟨_,_,rfl,rfl,_,rfl⟩
 | wrap t b e =>refine wj (fn:=a113) rfl rfl rfl ?_;rw[t.row_eta]at e;simp only[c7U,rA,rS,rE,TRef.row,t.row_eta,show ltI 0 (((0+1:Nat)):Int)=true from rfl];refine wa e rfl rfl ?_;rintro _ st ⟨rfl,n,rfl⟩;simp only[SS];exact wc ⟨_,_,rfl,rfl,_,rfl⟩
theorem b2C (F:List FDef) (u:F.length≤3000) (n:List Nat) (st:St):EvQ tbl 111 [.list false (F.map FDef.row),.str n] st (fun a st'=>st'=st∧∃ i:Int,a=.int .i64 i∧(0≤i→i < F.length)):=by
 refine wj (fn:=a111) rfl rfl rfl ?_;simp only[a9m,rS];refine wg (fun l fr st'=>st'=st∧∃ (i:Nat),i≤F.length∧l=F.length - i∧fr=[.list false (F.map FDef.row),.str n,.int .i64 0,.int .i64 i]) (m:=F.length) ⟨rfl,0,Nat.zero_le _,rfl,rfl⟩ ?_;rintro l fr st' ⟨rfl,i,hi,rfl,rfl⟩;simp only[a9m,rE,List.length_map];by_cases e:i < F.length
 · have e2:(F.map FDef.row)[i]?=some (F[i]).row:=by rw[List.getElem?_map,List.getElem?_eq_getElem e]; rfl
   rw[FDef.row]at e2;simp only[a9m,rA,rE,e,e2];refine wi (fun t=>?_) (fun t=>?_)
   · simp only[a9m];refine wh ?_;simp only[SS];exact wc ⟨_,_,rfl,rfl,_,rfl,fun _=>by omega⟩
   · simp only[a9m,rE,k7 (show i+1 < 2 ^ 63 by omega)];exact wd (m':=F.length - (i+1)) (by omega) ⟨rfl,i+1,e,rfl,rfl⟩
 · simp only[SS,e];refine we ?_;simp only[a9m];exact wc ⟨_,_,rfl,rfl,_,rfl,fun h=>absurd h (by decide)⟩
def a5R (T:List SD) (f:FDef):Prop:=(∃ t∈T,f∈t.fs)∨f.ar=[]
theorem b15 {T:List SD} {mo:Nat} {st:St} (h:Sc9 T mo st) (n m:List Nat):EvQ tbl 160 [.ptr mo 0,.str n,.str m] st (fun a st'=>st'=st∧∃ (f:FDef) (b:Bool),a=.tuple [.agg f.row,.bool b]∧a5R T f):=by
 have z:a5R T FDef.none:=.inr rfl;have y:a5R T ⟨m,[],.base [83,116,114,105,110,103] true,false,Val.none⟩:=.inr rfl;refine wj (fn:=a160) rfl rfl rfl ?_;simp only[a4g,rA,rS,rE];refine wa (a1A h n) rfl rfl ?_;rintro _ st ⟨rfl,t,rfl,I,_,u⟩;simp only[a4g,rA,rE];refine wi (fun C=>?_) (fun C=>?_)
 · simp only[a4g,rA];exact wc ⟨_,_,rfl,rfl,FDef.none,_,rfl,z⟩
 simp only[a4g,rE];have rest:WC (fun k=>j1 (k8 tbl k) k a9z [.ptr mo 0,.str n,.str m,.box [.str [],.list true [],.str [],.list true [],.bool false,.bool false,.int .u8 0,.int .i64 0,.str [],.list true [],.list true []],.bool false,.box [.int .u8 t.k,.str t.n,.list false (t.fs.map FDef.row),.list false (t.ns.map b9)],.undef] st) (fun o=>∃ r st',Go.Cb.finK [.bx 3 true 11,.v 4] (some o)=some (r,st')∧st'=st∧∃ (f:FDef) (b:Bool),r=.tuple [.agg f.row,.bool b]∧a5R T f):=by
  simp only[b61,rE];refine wa (b2C t.fs I m _) rfl rfl ?_;rintro _ st ⟨rfl,i,rfl,hi⟩;simp +contextual only [b61,rE];refine wi (fun e=>?_) (fun e=>?_)
  · simp only[b61,rA];exact wc ⟨_,_,rfl,rfl,FDef.none,_,rfl,z⟩
  · have l:0≤i:=by simp only[ltI_eq,eqI_eq]at e;simp at e;exact e.1
    obtain⟨j,rfl⟩:∃ j:Nat,i=(j:Int):=⟨i.toNat,by omega⟩
    have x:j < t.fs.length:=by have:=hi l; omega
    have e2:(t.fs.map FDef.row)[j]?=some (t.fs[j]).row:=by rw[List.getElem?_map,List.getElem?_eq_getElem x]; rfl
    have hm:=List.getElem_mem x;revert e2 hm;generalize t.fs[j]=f;intro e2 hm;rw[FDef.row]at e2;simp only[b61,rA,rE,e2];refine wc ⟨_,_,rfl,rfl,f,_,rfl,?_⟩;rcases u with u|rfl
    · exact .inl ⟨t,u,hm⟩
    · cases hm
 rcases e8 (eqN m [95,95,116,121,112,101,110,97,109,101])with hm|hm
 rotate_left
 · simp only[SS,hm];exact rest
 simp only[SS,hm];refine wa (c6c h n) rfl rfl ?_;rintro _ st ⟨rfl,b,rfl⟩;cases b with
 | true =>simp only[a4g,rA,rL,rE];exact wc ⟨_,_,rfl,rfl,_,_,rfl,y⟩
 | false =>
  simp only[SS];refine wa (b4a n _) rfl rfl ?_;rintro _ st ⟨rfl,b,rfl⟩;cases b with
  | true =>simp only[a4g,rA,rL,rE];exact wc ⟨_,_,rfl,rfl,_,_,rfl,y⟩
  | false =>simp only[SS];exact rest
theorem a5b:ltI 0 (((0+1:Nat)):Int)=true:=rfl
theorem a9e:ltI 0 ((0:Nat):Int)=false:=rfl
theorem b4g {T:List SD} {mo:Nat} (fr:Bool) {v:Val} (hv:v.OK):∀ (t:TRef) (st:St),Sc9 T mo st→EvQ tbl 123 [.ptr mo 0,.agg t.row,.agg v.row,.bool fr] st (a0a st):=by
 induction hv with
 | mk k n s ks ls h6 hk hl a1 ih =>
 intro t;induction t with
 | wrap t b J =>
  intro st C;have J:=J st C;rw[t.row_eta]at J;rw[Val.row_eq]at J ⊢;refine wj (fn:=a123) rfl rfl rfl ?_;simp only[s9,rS,rE,TRef.row,t.row_eta];refine wi (fun h0=>?_) (fun h0=>?_)
  · simp only[s9];exact wc ⟨_,_,rfl,rfl,_,rfl⟩
  simp only[s9,rE];refine wi (fun h1=>?_) (fun h1=>?_)
  · simp only[s9,rE];exact wc ⟨_,_,rfl,rfl,_,rfl⟩
  simp only[s9,rE,a5b];refine wi (fun h5=>?_) (fun h5=>?_)
  · simp only[s9,rA,rE];refine wa J rfl rfl ?_;rintro _ st ⟨rfl,b,rfl⟩;simp only[SS];exact wc ⟨_,_,rfl,rfl,_,rfl⟩
  simp only[s9];refine wg (fun O l st'=>st'=st∧∃ (i:Nat),i≤ls.length∧O=ls.length - i∧l=[.ptr mo 0,.agg [.str [],.list false [[.str t.nm,.list false t.of,.bool t.bang]],.bool b],.agg [.int .u8 k,.int .i64 n,.str s,.list false (ks.map b9),.list false (ls.map Val.row)],.bool fr,.box [.str [],.list false [[.str t.nm,.list false t.of,.bool t.bang]],.bool b],.box [.int .u8 k,.int .i64 n,.str s,.list false (ks.map b9),.list false (ls.map Val.row)],.bool false,.int .i64 i,.undef,.undef,.undef,.undef,.undef]) (m:=ls.length) ⟨rfl,0,Nat.zero_le _,rfl,rfl⟩ ?_;rintro O l st' ⟨rfl,i,hi,rfl,rfl⟩;simp only[s9,rE,List.length_map];by_cases e:i < ls.length
  rotate_left
  · simp only[SS,e];refine we ?_;simp only[s9];exact wc ⟨_,_,rfl,rfl,_,rfl⟩
  have e2:=a0U e;have I:=ih _ (List.getElem_mem e) t _ C;revert e2 I;generalize ls[i]=x;intro e2 I;rw[t.row_eta,x.row_eta]at I;rw[x.row_eta]at e2;simp only[s9,rA,rE,e,e2];refine wa I rfl rfl ?_;rintro _ _ ⟨rfl,c,rfl⟩;cases c
  · simp only[s9];refine wh ?_;simp only[SS];exact wc ⟨_,_,rfl,rfl,_,rfl⟩
  · simp only[s9,rE,k7 (show i+1 < 2 ^ 63 by omega)];exact wd (m':=ls.length - (i+1)) (by omega) ⟨rfl,i+1,e,rfl,rfl⟩
 | base nm b =>
  intro st C;rw[Val.row_eq];refine wj (fn:=a123) rfl rfl rfl ?_;simp only[s9,rS,rE,TRef.row];refine wi (fun h0=>?_) (fun h0=>?_)
  · simp only[s9];exact wc ⟨_,_,rfl,rfl,_,rfl⟩
  simp only[s9,rE];refine wi (fun h1=>?_) (fun h1=>?_)
  · simp only[s9,rE];exact wc ⟨_,_,rfl,rfl,_,rfl⟩
  simp only[s9,rE,a9e];refine wi (fun W=>?_) (fun W=>?_)
  · simp +contextual only [s9,rE];exact wc ⟨_,_,rfl,rfl,_,rfl⟩
  simp only[s9,rE];refine wi (fun W=>?_) (fun W=>?_)
  · simp only[s9,rE];exact wc ⟨_,_,rfl,rfl,_,rfl⟩
  simp only[s9,rE];refine wi (fun W=>?_) (fun W=>?_)
  · simp only[s9,rE];exact wc ⟨_,_,rfl,rfl,_,rfl⟩
  simp only[s9,rE];refine wi (fun W=>?_) (fun W=>?_)
  · simp +contextual only [s9,rE];exact wc ⟨_,_,rfl,rfl,_,rfl⟩
  simp only[s9,rA,rE];refine wa (a1A C nm) rfl rfl ?_;rintro _ st ⟨rfl,d,rfl,a0,a4,-⟩;simp only[s9,rA,rE];refine wi (fun h4=>?_) (fun h4=>?_)
  · rcases e8 (eqI k 4)with c4|c4
    · simp only[s9,rE,c4];refine wa (Z5 d.ns (by omega) s _) rfl rfl ?_;rintro _ st ⟨rfl,rfl⟩;simp only[SS];exact wc ⟨_,_,rfl,rfl,_,rfl⟩
    · simp only[s9,rE,c4];exact wc ⟨_,_,rfl,rfl,_,rfl⟩
  simp +contextual only [s9,rE];refine wi (fun Z=>?_) (fun Z=>?_)
  · simp only[s9];exact wc ⟨_,_,rfl,rfl,_,rfl⟩
  have k6:k=6:=by simp only[eqI_eq]at Z;simp at Z;exact Z.2
  have a2:=h6 k6;simp only[s9];refine wg (fun O l st'=>st'=st∧∃ (i:Nat) (w:AV),i≤ks.length∧O=ks.length - i∧l=[.ptr mo 0,.agg [.str nm,.list false [],.bool b],.agg [.int .u8 k,.int .i64 n,.str s,.list false (ks.map b9),.list false (ls.map Val.row)],.bool fr,.box [.str nm,.list false [],.bool b],.box [.int .u8 k,.int .i64 n,.str s,.list false (ks.map b9),.list false (ls.map Val.row)],.bool false,.undef,.box [.int .u8 d.k,.str d.n,.list false (d.fs.map FDef.row),.list false (d.ns.map b9)],.int .i64 i,w,.undef,.str nm]) (m:=ks.length) ⟨rfl,0,_,Nat.zero_le _,rfl,rfl⟩ ?_;rintro O l st' ⟨rfl,i,w,hi,rfl,rfl⟩;simp only[s9,rE,List.length_map];by_cases e:i < ks.length
  rotate_left
  · simp only[SS,e];refine we ?_;simp only[s9];refine wg (fun O l U=>U=st'∧∃ (j:Nat),j≤d.fs.length∧O=d.fs.length - j∧l=[.ptr mo 0,.agg [.str nm,.list false [],.bool b],.agg [.int .u8 k,.int .i64 n,.str s,.list false (ks.map b9),.list false (ls.map Val.row)],.bool fr,.box [.str nm,.list false [],.bool b],.box [.int .u8 k,.int .i64 n,.str s,.list false (ks.map b9),.list false (ls.map Val.row)],.bool false,.undef,.box [.int .u8 d.k,.str d.n,.list false (d.fs.map FDef.row),.list false (d.ns.map b9)],.int .i64 i,w,.int .i64 j,.str nm]) (m:=d.fs.length) ⟨rfl,0,Nat.zero_le _,rfl,rfl⟩ ?_;rintro O l U ⟨rfl,j,hj,rfl,rfl⟩;simp only[s9,rE,List.length_map];by_cases u:j < d.fs.length
    rotate_left
    · simp only[SS,u];refine we ?_;simp only[s9];exact wc ⟨_,_,rfl,rfl,_,rfl⟩
    have L:(d.fs.map FDef.row)[j]?=some (d.fs[j]).row:=by rw[List.getElem?_map,List.getElem?_eq_getElem u]; rfl
    revert L;generalize d.fs[j]=f;intro L;rw[FDef.row]at L;simp (maxSteps:=1000000) (contextual:=true) (implicitDefEqProofs:=false) only [s9,rA,rE,u,L];rcases e8 (f.t.bang && !f.has)with c1|c1
    · simp only[SS,c1];refine wa (Z5 ks (by omega) f.n _) rfl rfl ?_;rintro _ _ ⟨rfl,rfl⟩;rcases e8 (k9 ks f.n)with c2|c2
      · simp only[s9,rE,c2,k7 (show j+1 < 2 ^ 63 by omega)];exact wd (m':=d.fs.length - (j+1)) (by omega) ⟨rfl,j+1,u,rfl,rfl⟩
      · simp only[s9,c2];refine wh ?_;simp only[SS];exact wc ⟨_,_,rfl,rfl,_,rfl⟩
    · simp only[s9,rE,c1,k7 (show j+1 < 2 ^ 63 by omega)];exact wd (m':=d.fs.length - (j+1)) (by omega) ⟨rfl,j+1,u,rfl,rfl⟩
  have N:i < ls.length:=by omega
  have Y:=a0A e;have e2:=a0U N;have I:=ih _ (List.getElem_mem N);have M:=Z5 (ks.take i) (by rw[List.length_take]; omega) ks[i] st';rw[List.map_take]at M;revert Y e2 I M;generalize ls[i]=x;generalize ks[i]=y;intro Y e2 I M;rw[x.row_eta]at e2;simp only[s9,rE,e,Y];refine wa (b2C d.fs a0 y _) rfl rfl ?_;rintro _ _ ⟨rfl,z,rfl,hz⟩;rcases e8 (ltI z 0)with c0|c0
  · simp only[s9,rE,c0];refine wh ?_;simp only[SS];exact wc ⟨_,_,rfl,rfl,_,rfl⟩
  obtain⟨j,rfl⟩:∃ j:Nat,z=(j:Int):=⟨z.toNat,by rw[ltI_eq]at c0; simp at c0; omega⟩
  have hj:j < d.fs.length:=by have:=hz (by omega); omega
  have L:(d.fs.map FDef.row)[j]?=some (d.fs[j]).row:=by rw[List.getElem?_map,List.getElem?_eq_getElem hj]; rfl
  revert L;generalize d.fs[j]=f;intro L;rw[FDef.row]at L;have I:=I f.t _ C;rw[f.t.row_eta,x.row_eta]at I;simp (maxSteps:=1000000) (contextual:=true) (implicitDefEqProofs:=false) only [s9,rE,c0,Y,hi,List.length_map,a4t];refine wa M rfl rfl ?_;rintro _ _ ⟨rfl,rfl⟩;rcases e8 (k9 (ks.take i) y)with c1|c1
  · simp only[s9,c1];refine wh ?_;simp only[SS];exact wc ⟨_,_,rfl,rfl,_,rfl⟩
  simp only[SS,rA,rL,c1,e2,L];refine wa I rfl rfl ?_;rintro _ _ ⟨rfl,c,rfl⟩;cases c
  · simp only[s9];refine wh ?_;simp only[SS];exact wc ⟨_,_,rfl,rfl,_,rfl⟩
  · simp only[s9,rE,k7 (show i+1 < 2 ^ 63 by omega)];exact wd (m':=ks.length - (i+1)) (by omega) ⟨rfl,i+1,_,e,rfl,rfl⟩
structure DX where
 T:List SD
 mo:Nat
 ops:List (List AV)
 frs:List Frag
def isR (p:Int×List Nat):List AV:=[.int .i64 p.1,.str p.2]
def DX.cells (X:DX) (w:Bool) (L:List (Int×List Nat)):List AV:=[.ptr X.mo 0,.list false X.ops,.list false (X.frs.map Frag.row),.list w (L.map isR)]
structure Dc (X:DX) (o N:Nat) (st:St):Prop where
 ob:∃ w L,st[o]?=some (.cells (X.cells w L))∧L.length≤N
 sc:Sc9 X.T X.mo st
 ne:X.mo < o
 fl:X.frs.length≤3000
theorem Dc.le {X:DX} {o N M:Nat} {st:St} (h:Dc X o N st) (e:N≤M):Dc X o M st:=⟨let ⟨w,L,h1,h2⟩:=h.ob; ⟨w,L,h1,Nat.le_trans h2 e⟩,h.sc,h.ne,h.fl⟩
structure UpO (o:Nat) (st st':St):Prop where
 len:st.length≤st'.length
 old:∀ i x,i≠o→st[i]?=some x→st'[i]?=some x
theorem UpO.refl (o:Nat) (st:St):UpO o st st:=⟨Nat.le_refl _,fun _ _ _ h=>h⟩
theorem UpO.trans {o:Nat} {a b c:St} (h:UpO o a b) (e:UpO o b c):UpO o a c:=⟨Nat.le_trans h.len e.len,fun i x hi l=>e.old i x hi (h.old i x hi l)⟩
theorem a4A (L:List (Int×List Nat)):l5 2 (L.map isR)=true:=B3 fun r e=>by obtain⟨x,_,rfl⟩:=List.mem_map.1 e;rfl
theorem a6V (L:List (Int×List Nat)) (r:Int) (n:List Nat):L.map isR++[[.int .i64 r,.str n]]=(L++[(r,n)]).map isR:=by rw[List.map_append]; rfl
def BN:Nat:=5000000000000
theorem D6 {X:DX} {o N:Nat} {st:St} (h:Dc X o N st) (M:N≤BN) (r:Int) (n:List Nat):EvQ tbl 72 [.ptr o 0,.int .i64 r,.str n] st (fun a st'=>Dc X o (N+1) st'∧UpO o st st'∧a=.tuple []):=by
 obtain⟨w,L,l,hL⟩:=h.ob;unfold BN at M;have fin:∀ (e:List (Int×List Nat)),e.length≤N+1→Dc X o (N+1) (st.set o (.cells (X.cells false e)))∧UpO o st (st.set o (.cells (X.cells false e))):=fun e T=>by
  have C:=(List.getElem?_eq_some_iff.1 l).1;refine⟨⟨⟨false,e,List.getElem?_set_self C,T⟩,h.sc.gr fun x y=>?_,h.ne,h.fl⟩,by simp,fun i x hi y=>?_⟩
  · rw[List.getElem?_set_ne (by have:=h.ne; omega)]; exact y
  · rw[List.getElem?_set_ne (by omega)]; exact y
 have z:∀ w L,X.cells w L=[.ptr X.mo 0,.list false X.ops,.list false (X.frs.map Frag.row),.list w (L.map isR)]:=fun _ _=>rfl
 rw[z]at l;refine wj (fn:=a72) rfl rfl rfl ?_;simp only[K72,rS];refine wg (fun J fr st'=>st'=st∧∃ (i:Nat) (d:Bool) (e:List (Int×List Nat)) (I:AV),i≤L.length∧J=L.length - i∧e.length≤i+(if d then 1 else 0)∧fr=[.ptr o 0,.int .i64 r,.str n,.list true (e.map isR),.bool d,.int .i64 i,I]) (m:=L.length) ⟨rfl,0,false,[],_,Nat.zero_le _,rfl,by simp,rfl⟩ ?_;rintro J fr st' ⟨rfl,i,d,e,I,hi,rfl,u,rfl⟩;simp only[K72,rE,l,List.length_map];by_cases t:i < L.length
 rotate_left
 · simp only[SS,t];refine we ?_;cases d with
   | true =>simp only[K72,rA,rE,l];obtain⟨f1,f2⟩:=fin e (by simp at u; omega);rw[z]at f1 f2;exact wc ⟨_,_,rfl,f1,f2,rfl⟩
   | false =>simp at u;simp only[K72,rA,rL,rE,l,a4A,List.length_map,show(e.length+1)*24≤2 ^ 47 by omega,a6V];obtain⟨f1,f2⟩:=fin (e++[(r,n)]) (by simp; omega);rw[z]at f1 f2;exact wc ⟨_,_,rfl,f1,f2,rfl⟩
 have e2:(L.map isR)[i]?=some (isR L[i]):=by rw[List.getElem?_map,List.getElem?_eq_getElem t]; rfl
 revert e2;generalize L[i]=x;intro e2;rw[isR]at e2;simp +contextual only [K72,rA,rE,t,l,e2];refine wi (fun y=>?_) (fun y=>?_)
 · simp only[SS];refine wh ?_;simp only[SS];exact wc ⟨_,_,rfl,h.le (Nat.le_succ _),UpO.refl _ _,rfl⟩
 simp +contextual only [K72,rE,b96];have v:(e.length+1)*24≤2 ^ 47∧(e.length+1+1)*24≤2 ^ 47:=by cases d<;>simp at u<;>omega
 refine wi (fun U=>?_) (fun U=>?_)
 · have O:d=false:=by cases d<;>simp_all
   subst O;simp at u;simp only[K72,rA,rL,rE,a4A,List.length_map,v.1,v.2,a6V,List.length_append,k7 (show i+1 < 2 ^ 63 by omega)];exact wd (m':=L.length - (i+1)) (by omega) ⟨rfl,i+1,true,e++[(r,n)]++[x],_,t,rfl,by simp; omega,rfl⟩
 · simp only[K72,rA,rE,a4A,List.length_map,v.1,a6V,k7 (show i+1 < 2 ^ 63 by omega)];exact wd (m':=L.length - (i+1)) (by omega) ⟨rfl,i+1,d,e++[x],_,t,rfl,by simp; omega,rfl⟩
def fgI (F:List Frag) (n:List Nat):Option Nat:=pI (fun f:Frag=>eqN f.n n) F
theorem a8e {X:DX} {o N:Nat} {st:St} (h:Dc X o N st) (n:List Nat):EvQ tbl 120 [.ptr o 0,.str n] st (fun a st'=>st'=st∧a=.int .i64 (nI (fgI X.frs n))):=by
 obtain⟨w,L,t,hL⟩:=h.ob;have x:=h.fl;unfold DX.cells at t;refine wj (fn:=a120) rfl rfl rfl ?_;simp only[a8J,rS];refine wg (fun v fr st'=>st'=st∧∃ (i:Nat),i≤X.frs.length∧v=X.frs.length - i∧fgI X.frs n=(fgI (X.frs.drop i) n).map (·+i)∧fr=[.ptr o 0,.str n,.int .i64 0,.int .i64 i]) (m:=X.frs.length) ⟨rfl,0,Nat.zero_le _,rfl,by simp,rfl⟩ ?_;rintro v fr st' ⟨rfl,i,hi,rfl,l,rfl⟩;simp only[a8J,rA,rE,t,List.length_map];by_cases e:i < X.frs.length
 rotate_left
 · rw[List.drop_of_length_le (by omega)]at l;rw[l];simp only[SS,e];refine we ?_;simp only[a8J];exact wc ⟨_,_,rfl,rfl,rfl⟩
 have e2:(X.frs.map Frag.row)[i]?=some (X.frs[i]).row:=by rw[List.getElem?_map,List.getElem?_eq_getElem e]; rfl
 rw[List.drop_eq_getElem_cons e,fgI,fgI,X7]at l;revert e2 l;generalize X.frs[i]=f;intro l e2;rw[Frag.row]at e2;simp only[a8J,rA,rE,e,t,e2];refine wi (fun u=>?_) (fun u=>?_)
 · rw[if_pos u]at l;simp only[a8J];refine wh ?_;simp only[SS];refine wc ⟨_,_,rfl,rfl,?_⟩;rw[fgI,l];simp[nI];rfl
 · rw[if_neg (by rw[u]; decide)]at l;simp only[a8J,rE,k7 (show i+1 < 2 ^ 63 by omega)];refine wd (m':=X.frs.length - (i+1)) (by omega) ⟨rfl,i+1,e,rfl,?_,rfl⟩
   rw[fgI,fgI,l,Option.map_map];congr 1;funext j;show j+1+i=j+(i+1);omega
theorem a3F {X:DX} {o N:Nat} {st:St} (h:Dc X o N st) (n:List Nat):EvQ tbl 75 [.ptr o 0,.str n] st (a0a st):=by obtain⟨w,L,e,hL⟩:=h.ob;unfold DX.cells at e;refine wj (fn:=a75) rfl rfl rfl ?_;simp only[K75,rS,rE,e];refine wa (a1A h.sc n) rfl rfl ?_;rintro _ st ⟨rfl,t,rfl,_⟩;simp +contextual only [K75,rA,rL,rE];exact wc ⟨_,_,rfl,rfl,_,rfl⟩
theorem b9k {X:DX} {o N:Nat} {st:St} (h:Dc X o N st) (a b:List Nat):EvQ tbl 129 [.ptr o 0,.str a,.str b] st (a0a st):=by
 obtain⟨w,L,l,hL⟩:=h.ob;unfold DX.cells at l;have v:∀ n,(a0q (X.T.map SD.td) n).length≤3001:=b0g h.sc.1
 refine wj (fn:=a129) rfl rfl rfl ?_;simp only[a2J,rS,rE];refine wa (a3F h a) rfl rfl ?_;rintro _ st ⟨rfl,c,rfl⟩;cases c
 · simp only[a2J];exact wc ⟨_,_,rfl,rfl,_,rfl⟩
 simp only[SS];refine wa (a3F h b) rfl rfl ?_;rintro _ st ⟨rfl,c,rfl⟩;cases c
 · simp only[a2J];exact wc ⟨_,_,rfl,rfl,_,rfl⟩
 simp only[a2J,rE,l];refine wa (b3T h.sc.1 a) rfl rfl ?_;rintro _ st ⟨rfl,rfl⟩;simp only[a2J,rE,l];refine wa (b3T h.sc.1 b) rfl rfl ?_;rintro _ st ⟨rfl,rfl⟩;have t:=v a;have u:=v b;revert t u;generalize a0q (X.T.map SD.td) a=p;generalize a0q (X.T.map SD.td) b=q;intro t u;simp only[a2J];refine wg (fun x fr st'=>st'=st∧∃ (i:Nat),i≤p.length∧x=p.length - i∧fr=[.ptr o 0,.str a,.str b,.bool false,.list false (p.map b9),.list false (q.map b9),.int .i64 i]) (m:=p.length) ⟨rfl,0,Nat.zero_le _,rfl,rfl⟩ ?_;rintro x fr st' ⟨rfl,i,hi,rfl,rfl⟩;simp only[a2J,rE,List.length_map];by_cases e:i < p.length
 rotate_left
 · simp only[SS,e];refine we ?_;simp only[a2J];exact wc ⟨_,_,rfl,rfl,_,rfl⟩
 have y:=a0A e;simp only[a2J,rE,e,y];refine wa (Z5 q (by omega) _ _) rfl rfl ?_;rintro _ _ ⟨rfl,rfl⟩;simp only[SS];refine wi (fun z=>?_) (fun z=>?_)
 · simp only[a2J];refine wh ?_;simp only[SS];exact wc ⟨_,_,rfl,rfl,_,rfl⟩
 · simp only[a2J,rE,k7 (show i+1 < 2 ^ 63 by omega)];exact wd (m':=p.length - (i+1)) (by omega) ⟨rfl,i+1,e,rfl,rfl⟩
theorem b76 (o:Op) (st:St):EvQ tbl 121 [.agg o.row] st (fun a st'=>st'=st∧∃ n,a=.str n):=by
 unfold Op.row;refine wj (fn:=a121) rfl rfl rfl ?_;simp only[c1w,rS,rE];refine wi (fun e=>?_) (fun e=>?_)
 · simp only[c1w];exact wc ⟨_,_,rfl,rfl,_,rfl⟩
 · simp only[c1w];exact wc ⟨_,_,rfl,rfl,_,rfl⟩
theorem c3g (x:Sel) (st:St):EvQ tbl 162 [.agg x.row] st (fun a st'=>st'=st∧∃ n,a=.str n):=by
 obtain⟨k,al,nm,on,as,ds,sub⟩:=x;rw[Sel.row_eq];refine wj (fn:=a162) rfl rfl rfl ?_;simp only[b9z,rS,rE];refine wi (fun e=>?_) (fun e=>?_)
 · simp only[b9z,rE];exact wc ⟨_,_,rfl,rfl,_,rfl⟩
 · simp only[b9z,rE];exact wc ⟨_,_,rfl,rfl,_,rfl⟩
theorem c2x (F:List FDef) (u:F.length≤3000) (n:List Nat) (st:St):EvQ tbl 164 [.list false (F.map FDef.row),.str n] st (fun a st'=>st'=st∧∃ i:Int,a=.int .i64 i∧(0≤i→i < F.length)):=by
 refine wj (fn:=a164) rfl rfl rfl ?_;simp only[a8V,rS];refine wg (fun l fr st'=>st'=st∧∃ (i:Nat),i≤F.length∧l=F.length - i∧fr=[.list false (F.map FDef.row),.str n,.int .i64 0,.int .i64 i]) (m:=F.length) ⟨rfl,0,Nat.zero_le _,rfl,rfl⟩ ?_;rintro l fr st' ⟨rfl,i,hi,rfl,rfl⟩;simp only[a8V,rE,List.length_map];by_cases e:i < F.length
 · have e2:(F.map FDef.row)[i]?=some (F[i]).row:=by rw[List.getElem?_map,List.getElem?_eq_getElem e]; rfl
   rw[FDef.row]at e2;simp only[a8V,rA,rE,e,e2];refine wi (fun t=>?_) (fun t=>?_)
   · simp only[a8V];refine wh ?_;simp only[SS];exact wc ⟨_,_,rfl,rfl,_,rfl,fun _=>by omega⟩
   · simp only[a8V,rE,k7 (show i+1 < 2 ^ 63 by omega)];exact wd (m':=F.length - (i+1)) (by omega) ⟨rfl,i+1,e,rfl,rfl⟩
 · simp only[SS,e];refine we ?_;simp only[a8V];exact wc ⟨_,_,rfl,rfl,_,rfl,fun h=>absurd h (by decide)⟩
theorem nl0:eqI ((0:Nat):Int) 0=true:=rfl
theorem nl1:eqI (((0+1:Nat)):Int) 0=false:=rfl
theorem c9D (a:TRef):∀ (b:TRef) (st:St),EvQ tbl 204 [.agg a.row,.agg b.row] st (a0a st):=by
 induction a with
 | base n c =>
  intro b st;rw[b.row_eta];refine wj (fn:=a204) rfl rfl rfl ?_;simp +contextual only [a3j,rS,rE,TRef.row];refine wi (fun l=>?_) (fun l=>?_)
  · simp only[a3j];exact wc ⟨_,_,rfl,rfl,_,rfl⟩
  simp only[a3j,rE];cases b with
  | base m d =>simp only[a3j,rE,TRef.of,TRef.nm,nl0];exact wc ⟨_,_,rfl,rfl,_,rfl⟩
  | wrap u d =>simp only[a3j,rE,TRef.of,TRef.nm,a9e,nl0,nl1];exact wc ⟨_,_,rfl,rfl,_,rfl⟩
 | wrap t c v =>
  intro b st;rw[b.row_eta];refine wj (fn:=a204) rfl rfl rfl ?_;simp +contextual only [a3j,rS,rE,TRef.row,t.row_eta];refine wi (fun l=>?_) (fun l=>?_)
  · simp only[a3j];exact wc ⟨_,_,rfl,rfl,_,rfl⟩
  simp only[a3j,rE];cases b with
  | base m d =>simp only[a3j,rE,TRef.of,TRef.nm,a9e,nl1,a5b];exact wc ⟨_,_,rfl,rfl,_,rfl⟩
  | wrap u d =>have hu:=v u st;rw[t.row_eta,u.row_eta]at hu;simp only[a3j,rA,rE,TRef.of,TRef.nm,nl1,a5b,u.row_eta];refine wa hu rfl rfl ?_;rintro _ st ⟨rfl,e,rfl⟩;simp only[SS];exact wc ⟨_,_,rfl,rfl,_,rfl⟩
theorem c6n {v:Val} (W:v.OK):∀ (u:Val) (st:St),EvQ tbl 21 [.agg v.row,.agg u.row] st (a0a st):=by
 induction W with
 | mk k n s ks ls Z hk hl N Y =>
 intro u st;obtain⟨L,M,s',l,e⟩:=u;rw[Val.row_eq,Val.row_eq];refine wj (fn:=a21) rfl rfl rfl ?_;simp (maxSteps:=1000000) (contextual:=true) (implicitDefEqProofs:=false) only [K21,rS,rE,List.length_map];refine wi (fun I=>?_) (fun I=>?_)
 · simp only[K21];exact wc ⟨_,_,rfl,rfl,_,rfl⟩
 simp only[eqI_eq]at I;simp at I;have T:ks.length=l.length:=by omega
 have U:ls.length=e.length:=by omega
 clear I;simp only[K21];refine wg (fun J fr st'=>st'=st∧∃ (i:Nat),i≤ks.length∧J=ks.length - i∧fr=[.agg [.int .u8 k,.int .i64 n,.str s,.list false (ks.map b9),.list false (ls.map Val.row)],.agg [.int .u8 L,.int .i64 M,.str s',.list false (l.map b9),.list false (e.map Val.row)],.box [.int .u8 k,.int .i64 n,.str s,.list false (ks.map b9),.list false (ls.map Val.row)],.box [.int .u8 L,.int .i64 M,.str s',.list false (l.map b9),.list false (e.map Val.row)],.bool false,.int .i64 i,.undef]) (m:=ks.length) ⟨rfl,0,Nat.zero_le _,rfl,rfl⟩ ?_;rintro J fr st' ⟨rfl,i,hi,rfl,rfl⟩;by_cases y:i < ks.length
 · have e2:=a0A y;have C:=a0A (show i < l.length by omega);simp only[K21,rE,List.length_map,y,e2,C];refine wi (fun I=>?_) (fun I=>?_)
   · simp only[K21];refine wh ?_;simp only[SS];exact wc ⟨_,_,rfl,rfl,_,rfl⟩
   simp only[K21,rE,k7 (show i+1 < 2 ^ 63 by omega)];exact wd (m':=ks.length - (i+1)) (by omega) ⟨rfl,i+1,y,rfl,rfl⟩
 simp only[K21,rE,List.length_map,y];refine we ?_;simp only[K21];refine wg (fun J fr x=>x=st'∧∃ (j:Nat),j≤ls.length∧J=ls.length - j∧fr=[.agg [.int .u8 k,.int .i64 n,.str s,.list false (ks.map b9),.list false (ls.map Val.row)],.agg [.int .u8 L,.int .i64 M,.str s',.list false (l.map b9),.list false (e.map Val.row)],.box [.int .u8 k,.int .i64 n,.str s,.list false (ks.map b9),.list false (ls.map Val.row)],.box [.int .u8 L,.int .i64 M,.str s',.list false (l.map b9),.list false (e.map Val.row)],.bool false,.int .i64 i,.int .i64 j]) (m:=ls.length) ⟨rfl,0,Nat.zero_le _,rfl,rfl⟩ ?_;rintro J fr x ⟨rfl,j,hj,rfl,rfl⟩;by_cases t:j < ls.length
 · have e2:=a0U t;have C:=a0U (show j < e.length by omega);have z:=Y _ (List.getElem_mem t) e[j] x;revert e2 C z;generalize ls[j]=u;generalize e[j]'_=O;intro e2 C z;rw[u.row_eta,O.row_eta]at z;rw[u.row_eta]at e2;rw[O.row_eta]at C;simp only[K21,rA,rE,List.length_map,t,e2,C];refine wa z rfl rfl ?_;rintro _ _ ⟨rfl,c,rfl⟩;cases c
   · simp only[K21];refine wh ?_;simp only[SS];exact wc ⟨_,_,rfl,rfl,_,rfl⟩
   · simp only[K21,rE,k7 (show j+1 < 2 ^ 63 by omega)];exact wd (m':=ls.length - (j+1)) (by omega) ⟨rfl,j+1,t,rfl,rfl⟩
 · simp only[K21,rE,List.length_map,t];refine we ?_;simp only[K21];exact wc ⟨_,_,rfl,rfl,_,rfl⟩
theorem a8t {as:List Arg} {i:Nat} (h:i < as.length):(as.map Arg.row)[i]?=some [.str as[i].n,.int .u8 as[i].v.kind,.int .i64 as[i].v.num,.str as[i].v.text,.list false (as[i].v.names.map b9),.list false (as[i].v.vals.map Val.row)]:=by rw[List.getElem?_map,List.getElem?_eq_getElem h,Option.map_some,Arg.row,Val.row_eta]
theorem b3P {a b:List Arg} (M:ArgsOK a) (W:b.length≤3000) (st:St):EvQ tbl 184 [.list false (a.map Arg.row),.list false (b.map Arg.row)] st (a0a st):=by
 have T:=M.1;refine wj (fn:=a184) rfl rfl rfl ?_;simp only[a0H,rS,rE,List.length_map];refine wi (fun U=>?_) (fun U=>?_)
 · simp only[a0H];exact wc ⟨_,_,rfl,rfl,_,rfl⟩
 simp only[a0H];refine wg (fun z fr st'=>st'=st∧∃ (i:Nat) (N O:AV),i≤a.length∧z=a.length - i∧fr=[.list false (a.map Arg.row),.list false (b.map Arg.row),.bool false,.int .i64 i,N,O]) (m:=a.length) ⟨rfl,0,_,_,Nat.zero_le _,rfl,rfl⟩ ?_;rintro z fr st' ⟨rfl,i,N,O,hi,rfl,rfl⟩;by_cases l:i < a.length
 rotate_left
 · simp only[a0H,rE,List.length_map,l];refine we ?_;simp only[a0H];exact wc ⟨_,_,rfl,rfl,_,rfl⟩
 have C:=a8t l;have u:=c6n (M.2 _ (List.getElem_mem l));revert C u;generalize a[i]=x;intro C u;simp only[a0H,rE,List.length_map,l];refine wg (fun z fr t=>t=st'∧∃ (j:Nat) (c:Bool),j≤b.length∧z=b.length - j∧fr=[.list false (a.map Arg.row),.list false (b.map Arg.row),.bool false,.int .i64 i,.bool c,.int .i64 j]) (m:=b.length) ⟨rfl,0,_,Nat.zero_le _,rfl,rfl⟩ ?_;rintro z fr t ⟨rfl,j,c,Y,rfl,rfl⟩;by_cases e:j < b.length
 rotate_left
 · simp only[a0H,rE,List.length_map,e];refine we ?_;simp only[a0H,rE];cases c
   · simp only[a0H];refine wh ?_;simp only[SS];exact wc ⟨_,_,rfl,rfl,_,rfl⟩
   · simp only[a0H,rE,k7 (show i+1 < 2 ^ 63 by omega)];exact wd (m':=a.length - (i+1)) (by omega) ⟨rfl,i+1,_,_,l,rfl,rfl⟩
 have L:∀ I,(∃ (J:Nat) (c:Bool),J≤b.length∧b.length - (j+1)=b.length - J∧([.list false (a.map Arg.row),.list false (b.map Arg.row),.bool false,.int .i64 i,.bool I,.int .i64 ((j+1:Nat):Int)]:List AV)=[.list false (a.map Arg.row),.list false (b.map Arg.row),.bool false,.int .i64 i,.bool c,.int .i64 J]):=fun I=>⟨j+1,I,e,rfl,rfl⟩
 have e2:=a8t e;have u:=u b[j].v t;revert e2 u;generalize b[j]=y;intro e2 u;rw[x.v.row_eta,y.v.row_eta]at u;cases c with
 | true =>simp only[a0H,rE,List.length_map,e,k7 (show j+1 < 2 ^ 63 by omega)];exact wd (m':=b.length - (j+1)) (by omega) ⟨rfl,L _⟩
 | false =>
  rcases e8 (eqN x.n y.n)with c1|c1
  · simp only[a0H,rA,rE,List.length_map,e,C,e2,c1];refine wa u rfl rfl ?_;rintro _ _ ⟨rfl,d,rfl⟩;simp only[a0H,rE,k7 (show j+1 < 2 ^ 63 by omega)];exact wd (m':=b.length - (j+1)) (by omega) ⟨rfl,L _⟩
  · simp only[a0H,rA,rE,List.length_map,e,C,e2,c1,k7 (show j+1 < 2 ^ 63 by omega)];exact wd (m':=b.length - (j+1)) (by omega) ⟨rfl,L _⟩
theorem a3K {l:List Sel} {i:Nat} (h:i < l.length):(l.map Sel.row)[i]?=some (l[i]).row:=by rw[List.getElem?_map,List.getElem?_eq_getElem h]; rfl
theorem a5K {l:List Dir} {i:Nat} (h:i < l.length):(l.map Dir.row)[i]?=some [.str l[i].n,.list false (l[i].as.map Arg.row)]:=by rw[List.getElem?_map,List.getElem?_eq_getElem h]; rfl
theorem c4i {x:Sel} (hx:x.OK):∀ (y:Sel),y.OK→∀ st:St,EvQ tbl 163 [.agg x.row,.agg y.row] st (a0a st):=by
 induction hx with
 | mk k al nm on as ds sub ha hd hl hs ih =>
 intro y hy st;cases hy with
 | mk k' L C T M N e a9 b5 b8 Z =>
 have R0:=b3P ha a9.1 st;rw[Sel.row_eq,Sel.row_eq];refine wj (fn:=a163) rfl rfl rfl ?_;rcases e8 (eqN nm C)with c1|c1
 rotate_left
 · simp only[P2,rS,rE,c1];exact wc ⟨_,_,rfl,rfl,_,rfl⟩
 simp only[P2,rS,rE,c1];refine wa R0 rfl rfl ?_;rintro _ st ⟨rfl,d,rfl⟩;cases d with
 | false =>simp only[P2];exact wc ⟨_,_,rfl,rfl,_,rfl⟩
 | true =>
 simp only[SS,List.length_map];refine wi (fun hx=>?_) (fun hx=>?_)
 · simp only[P2];exact wc ⟨_,_,rfl,rfl,_,rfl⟩
 have c0:sub.length=e.length:=by simpa using hx
 clear hx;simp only[P2];refine wg (fun mm fr st'=>st'=st∧∃ (i:Nat) (w6 w7 w8:AV),i≤sub.length∧mm=sub.length - i∧fr=[.agg [.int .u8 k,.str al,.str nm,.str on,.list false (as.map Arg.row),.list false (ds.map Dir.row),.list false (sub.map Sel.row)],.agg [.int .u8 k',.str L,.str C,.str T,.list false (M.map Arg.row),.list false (N.map Dir.row),.list false (e.map Sel.row)],.box [.int .u8 k,.str al,.str nm,.str on,.list false (as.map Arg.row),.list false (ds.map Dir.row),.list false (sub.map Sel.row)],.box [.int .u8 k',.str L,.str C,.str T,.list false (M.map Arg.row),.list false (N.map Dir.row),.list false (e.map Sel.row)],.bool false,.int .i64 i,w6,w7,w8]) (m:=sub.length) ⟨rfl,0,_,_,_,Nat.zero_le _,rfl,rfl⟩ ?_;rintro mm fr st' ⟨rfl,i,w6,w7,w8,hi,rfl,rfl⟩;by_cases l:i < sub.length
 rotate_left
 · simp only[P2,rE,List.length_map,l];refine we ?_;simp only[P2];exact wc ⟨_,_,rfl,rfl,_,rfl⟩
 have z:i < e.length:=by omega
 have U:=a3K l;have e2:=a3K z;have O:=ih _ (List.getElem_mem l) _ (Z _ (List.getElem_mem z)) st';have g1:=hs _ (List.getElem_mem l);have g2:=Z _ (List.getElem_mem z);revert U e2 O g1 g2;generalize sub[i]=x;generalize e[i]=y;intro U e2 O g1 g2;cases g1 with
 | mk xk a1 b2 a2 b1 t a4 c2 a0 c3 c4 =>
 cases g2 with
 | mk yk a5 b4 a6 b3 J a7 c6 b0 c7 c8 =>
 rw[Sel.row_eq]at U e2;rw[Sel.row_eq,Sel.row_eq]at O;rcases e8 (eqI xk yk)with q1|q1
 rotate_left
 · simp only[P2,rA,rE,List.length_map,l,U,e2,q1];refine wh ?_;simp only[SS];exact wc ⟨_,_,rfl,rfl,_,rfl⟩
 rcases e8 (eqN a1 a5)with q2|q2
 rotate_left
 · simp only[P2,rA,rE,List.length_map,l,U,e2,q1,q2];refine wh ?_;simp only[SS];exact wc ⟨_,_,rfl,rfl,_,rfl⟩
 rcases e8 (eqN a2 a6)with q3|q3
 rotate_left
 · simp only[P2,rA,rE,List.length_map,l,U,e2,q1,q2,q3];refine wh ?_;simp only[SS];exact wc ⟨_,_,rfl,rfl,_,rfl⟩
 rcases e8 (decide (t.length=J.length))with q4|q4
 rotate_left
 · simp only[P2,rA,rE,List.length_map,l,U,e2,q1,q2,q3,q4];refine wh ?_;simp only[SS];exact wc ⟨_,_,rfl,rfl,_,rfl⟩
 simp (maxSteps:=1000000) (contextual:=true) (implicitDefEqProofs:=false) only [P2,rA,rE,List.length_map,l,U,e2,q1,q2,q3,q4];refine wa O rfl rfl ?_;rintro _ st' ⟨rfl,d,rfl⟩;cases d with
 | false =>simp only[P2];refine wh ?_;simp only[SS];exact wc ⟨_,_,rfl,rfl,_,rfl⟩
 | true =>
 have b7:t.length=J.length:=of_decide_eq_true q4;have b6:=a0.1;simp (maxSteps:=1000000) (contextual:=true) (implicitDefEqProofs:=false) only [P2];refine wg (fun mm fr I=>I=st'∧∃ (j:Nat),j≤t.length∧mm=t.length - j∧fr=[.agg [.int .u8 k,.str al,.str nm,.str on,.list false (as.map Arg.row),.list false (ds.map Dir.row),.list false (sub.map Sel.row)],.agg [.int .u8 k',.str L,.str C,.str T,.list false (M.map Arg.row),.list false (N.map Dir.row),.list false (e.map Sel.row)],.box [.int .u8 k,.str al,.str nm,.str on,.list false (as.map Arg.row),.list false (ds.map Dir.row),.list false (sub.map Sel.row)],.box [.int .u8 k',.str L,.str C,.str T,.list false (M.map Arg.row),.list false (N.map Dir.row),.list false (e.map Sel.row)],.bool false,.int .i64 i,.box [.int .u8 xk,.str a1,.str b2,.str a2,.list false (b1.map Arg.row),.list false (t.map Dir.row),.list false (a4.map Sel.row)],.box [.int .u8 yk,.str a5,.str b4,.str a6,.list false (b3.map Arg.row),.list false (J.map Dir.row),.list false (a7.map Sel.row)],.int .i64 j]) (m:=t.length) ⟨rfl,0,Nat.zero_le _,rfl,rfl⟩ ?_;rintro mm fr I ⟨rfl,j,hj,rfl,rfl⟩;by_cases v:j < t.length
 rotate_left
 · simp only[P2,rE,List.length_map,v];refine we ?_;simp only[P2,rE,k7 (show i+1 < 2 ^ 63 by omega)];exact wd (m':=sub.length - (i+1)) (by omega) ⟨rfl,i+1,_,_,_,l,rfl,rfl⟩
 have Y:j < J.length:=by omega
 have f1:=a5K v;have f2:=a5K Y;have W:=b3P (a0.2 _ (List.getElem_mem v)) (b0.2 _ (List.getElem_mem Y)).1 I;revert f1 f2 W;generalize t[j]=u;generalize J[j]=w;intro f1 f2 W;rcases e8 (eqN u.n w.n)with p1|p1
 rotate_left
 · simp only[P2,rA,rE,List.length_map,v,f1,f2,p1];refine wh ?_;simp only[SS];refine wh ?_;simp only[SS];exact wc ⟨_,_,rfl,rfl,_,rfl⟩
 simp only[P2,rA,rE,List.length_map,v,f1,f2,p1];refine wa W rfl rfl ?_;rintro _ _ ⟨rfl,d,rfl⟩;cases d with
 | false =>simp only[P2];refine wh ?_;simp only[SS];refine wh ?_;simp only[SS];exact wc ⟨_,_,rfl,rfl,_,rfl⟩
 | true =>
 simp only[P2,rE,k7 (show j+1 < 2 ^ 63 by omega)];exact wd (m':=t.length - (j+1)) (by omega) ⟨rfl,j+1,v,rfl,rfl⟩
def a1f (l:List Sel):Prop:=l.length≤3000∧∀ x∈l,x.OK
def DX.OK (X:DX):Prop:=∀ f∈X.frs,a1f f.sub
theorem Dc.pres {X:DX} {o N n0:Nat} {st st':St} (h:Dc X o N st) (e:o < n0) (l:Pres n0 st st'):Dc X o N st' :=
 ⟨let ⟨w,L,h1,h2⟩:=h.ob; ⟨w,L,l.2 _ _ e h1,h2⟩,h.sc.gr fun x t=>l.2 _ _ (Nat.lt_trans h.ne e) t,h.ne,h.fl⟩
def a8b (X:DX) (s:List (List Nat)):Prop:=∀ n∈s,(fgI X.frs n).isSome
structure ComR (X:DX) (n0:Nat) (s:List (List Nat)) (st:St) (s':List (List Nat)) (a':AV) (st':St):Prop where
 sn:SeenH n0 s' a' st'
 pr:Pres n0 st st'
 un:j7 X.frs s'≤j7 X.frs s
 ln:s'.length+j7 X.frs s'≤s.length+j7 X.frs s
 kn:a8b X s'
theorem a9I {X:DX} (hX:X.OK) {o n0 N:Nat} (ho:o < n0):∀ (M:Nat) (l:List Sel) (s:List (List Nat)) (a:AV) (st:St),Dc X o N st→n0≤st.length→sizes l+j7 X.frs s≤M→a1f l→SeenH n0 s a st→s.length+j7 X.frs s≤9000→a8b X s →
 EvQ tbl 73 [.ptr o 0,.list false (l.map Sel.row),a] st (fun r st'=>∃ s',ComR X n0 s st s' r st'):=by
 intro M;induction M using Nat.strongRecOn with
 | ind M IH =>
 intro l s a st y hn W hl T hs a4;have b8:=hl.1;have pa:=T.pln;refine wj (fn:=a73) rfl rfl rfl ?_;simp only[K73,rS];refine wg (fun mm fr st'=>∃ (i:Nat) (a' w5:AV) (s':List (List Nat)),ComR X n0 s st s' a' st'∧sizes (l.drop i)+j7 X.frs s'≤M∧i≤l.length∧mm=l.length - i∧fr=[.ptr o 0,.list false (l.map Sel.row),a',.list true [],.int .i64 i,w5]) (m:=l.length) ⟨0,a,_,s,⟨T,⟨hn,fun _ _ _ h=>h⟩,Nat.le_refl _,Nat.le_refl _,a4⟩,by rw[List.drop_zero]; exact W,Nat.zero_le _,rfl,rfl⟩ ?_;clear pa T a4 W;rintro mm fr st' ⟨i,a,w5,s',e,W,hi,rfl,rfl⟩;have pa:=e.sn.pln;have a0:=y;have y:=y.pres ho e.pr;simp only[K73,rE,List.length_map];by_cases t:i < l.length
 rotate_left
 · simp only[SS,t];refine we ?_;simp only[K73,pa.st,pa.sb,pa.wk];refine wc ⟨_,_,rfl,s',?_⟩;show ComR X n0 s st s' a.weak st';rw[pa.wk];exact e
 have e2:=a3K t;have O:=hl.2 _ (List.getElem_mem t);have I:=k7 (show i+1 < 2 ^ 63 by omega);rw[List.drop_eq_getElem_cons t,m0]at W;have c1:s'.length+j7 X.frs s'≤9000:=Nat.le_trans e.ln hs;have J:∀ {a2 v5:AV} {Y:List (List Nat)} {st2:St},ComR X n0 s st Y a2 st2→j7 X.frs Y≤j7 X.frs s'→∃ (i':Nat) (a' w5:AV) (s':List (List Nat)),ComR X n0 s st s' a' st2∧sizes (l.drop i')+j7 X.frs s'≤M∧i'≤l.length∧l.length - (i+1)=l.length - i'∧[.ptr o 0,.list false (l.map Sel.row),a2,.list true [],.int .i64 ((i+1:Nat):Int),v5]=[.ptr o 0,.list false (l.map Sel.row),a',.list true [],.int .i64 i',w5]:=fun h C=>⟨i+1,_,_,_,h,by omega,t,rfl,rfl⟩
 revert e2 O;generalize l[i]=x at W;intro e2 O;cases O with
 | mk k al nm on as ds sub b5 b6 b4 a7 =>
 rw[Sel.row_eq]at e2;rw[I1]at W;have go:∀ {h:List Sel} {Y:List (List Nat)} {a2:AV} {st2:St},a1f h→ComR X n0 s st Y a2 st2→j7 X.frs Y≤j7 X.frs s'→sizes h+j7 X.frs Y < M→EvQ tbl 73 [.ptr o 0,.list false (h.map Sel.row),a2] st2 (fun r U=>∃ Z,ComR X n0 s st Z r U∧j7 X.frs Z≤j7 X.frs s'):=fun hk C hu hm =>(IH _ hm _ _ _ _ (a0.pres ho C.pr) C.pr.1 (Nat.le_refl _) hk C.sn (Nat.le_trans C.ln hs) C.kn).mono fun r U ⟨Z,u⟩=>⟨Z,⟨u.sn,C.pr.trans u.pr,Nat.le_trans u.un C.un,Nat.le_trans u.ln C.ln,u.kn⟩,Nat.le_trans u.un hu⟩
 simp only[K73,rA,rE,t,e2];rcases e8 (eqI k 2)with hk|hk
 rotate_left
 · simp only[K73,rA,rE,e2,hk,pa.sb,pa.wk];refine wa (go ⟨b4,a7⟩ e (Nat.le_refl _) (by omega)) (by simp only[R.allPlain_c,R.allPlain_n,pa.pl]; rfl) (by simp only[List.map_cons,List.map_nil,pa.wk]; rfl) ?_;rintro a2 st2 ⟨Z,u,h4⟩;have p2:=u.sn.pln;simp only[K73,rE,p2.st,p2.sb,I];exact wd (m':=l.length - (i+1)) (by omega) (J u h4)
 simp only[K73,rA,rE,e2,hk];refine wa (a8e y nm) rfl rfl ?_;rintro _ st' ⟨rfl,rfl⟩;cases hf:fgI X.frs nm with
 | none =>simp only[K73,rE,nI,show(!ltI (-1) 0)=false from rfl,I];exact wd (m':=l.length - (i+1)) (by omega) (J e (Nat.le_refl _))
 | some j =>
 obtain⟨f,hj,b0,b7⟩:=G6 hf;have b1:(!ltI (j:Int) 0)=true:=by rw[ltI_eq]; simp
 simp only[K73,rA,rE,nI,b1,e2,pa.sb,pa.wk];refine wa (a5u e.sn (by omega) nm) (by simp only[R.allPlain_c,R.allPlain_n,pa.pl,R.plain_str]; rfl) (by simp only[List.map_cons,List.map_nil,pa.wk]; rfl) ?_;rintro _ st' ⟨rfl,rfl⟩;rcases e8 (k9 s' nm)with hh|hh
 · simp only[K73,rE,hh,I];exact wd (m':=l.length - (i+1)) (by omega) (J e (Nat.le_refl _))
 have c2:=N3 s' nm hh X.frs j f hj b0;obtain⟨a2,st2,b2,b3,z,a6,c0⟩:=Handed.push e.sn (by intro r hr; obtain⟨v,_,rfl⟩:=List.mem_map.1 hr; rfl) (r:=[.str nm]) rfl 16 (by rw[List.length_map]; omega) e.pr.1;have a9:ComR X n0 s st (s'++[nm]) a2 st2:=⟨by rw[SeenH,List.map_append]; exact b3,e.pr.trans a6,by have:=e.un; omega,by have:=e.ln; rw[List.length_append,List.length_singleton]; omega,fun n hn=>by
  rcases List.mem_append.1 hn with hn|hn
  · exact e.kn n hn
  · rw[List.mem_singleton.1 hn,hf]; rfl⟩
 have a1:=y.pres ho a6;obtain⟨w,L,a5,-⟩:=a1.ob;unfold DX.cells at a5;have e3:(X.frs.map Frag.row)[j]?=some [.str f.n,.str f.on,.list false (f.sub.map Sel.row)]:=by rw[List.getElem?_map,hj]; rfl
 simp only[K73,rA,rE,hh,e2,b2,a5,e3,z.st,z.sb,z.wk,pa.sb,pa.wk];refine wa (go (hX f (List.mem_of_getElem? hj)) a9 (by omega) (by omega)) (by simp only[R.allPlain_c,R.allPlain_n,z.pl]; rfl) (by simp only[List.map_cons,List.map_nil,z.wk]; rfl) ?_;rintro a3 U ⟨Z,u,h4⟩;have p2:=u.sn.pln;simp only[K73,rE,p2.st,p2.sb,I];exact wd (m':=l.length - (i+1)) (by omega) (J u h4)
structure FltR (X:DX) (n0 m:Nat) (s:List (List Nat)) (st:St) (F':List Sel) (s':List (List Nat)) (a' b':AV) (st':St):Prop where
 out:OutH n0 F' a' st'
 sn:SeenH n0 s' b' st'
 pr:Pres n0 st st'
 un:j7 X.frs s'≤j7 X.frs s
 ln:s'.length+j7 X.frs s'≤s.length+j7 X.frs s
 fl:F'.length+j7 X.frs s'≤m
 ok:∀ x∈F',x.OK
theorem c5J {X:DX} (hX:X.OK) {o n0 N:Nat} (ho:o < n0):∀ (M:Nat) (l:List Sel) (F:List Sel) (s:List (List Nat)) (a b:AV) (st:St),Dc X o N st→n0≤st.length→sizes l+j7 X.frs s≤M→a1f l→OutH n0 F a st→SeenH n0 s b st→F.length+sizes l+j7 X.frs s≤9000→s.length+j7 X.frs s≤9000→(∀ x∈F,x.OK) →
 EvQ tbl 161 [.ptr o 0,.list false (l.map Sel.row),a,b] st (fun r st'=>∃ v s' Z b',r=.tuple [Z,b']∧FltR X n0 (F.length+sizes l+j7 X.frs s) s st v s' Z b' st'):=by
 intro M;induction M using Nat.strongRecOn with
 | ind M IH =>
 intro l F s a b st O hn hM hl U a4 hF hs a0;have c4:=hl.1;have pa:=U.pln;have z:=a4.pln;refine wj (fn:=a161) rfl rfl rfl ?_;simp only[a0w,rS];refine wg (fun mm fr st'=>∃ (i:Nat) (Z b' w7 w8:AV) (v:List Sel) (s':List (List Nat)),FltR X n0 (F.length+sizes l+j7 X.frs s - sizes (l.drop i)) s st v s' Z b' st'∧v.length+sizes (l.drop i)+j7 X.frs s'≤F.length+sizes l+j7 X.frs s∧sizes (l.drop i)+j7 X.frs s'≤M∧i≤l.length∧mm=l.length - i∧fr=[.ptr o 0,.list false (l.map Sel.row),Z,b',.list true [],.list true [],.int .i64 i,w7,w8]) (m:=l.length) ⟨0,a,b,_,_,F,s,⟨U,a4,⟨hn,fun _ _ _ h=>h⟩,Nat.le_refl _,Nat.le_refl _,by rw[List.drop_zero]; omega,a0⟩,by rw[List.drop_zero]; exact Nat.le_refl _,by rw[List.drop_zero]; exact hM,Nat.zero_le _,rfl,rfl⟩ ?_;clear pa z U a4 hM a0;rintro mm fr st' ⟨i,a,b,w7,w8,v,s',t,a1,hM,hi,rfl,rfl⟩;have pa:=t.out.pln;have z:=t.sn.pln;have a6:=O;have O:=O.pres ho t.pr;simp only[a0w,rE,List.length_map];by_cases J:i < l.length
 rotate_left
 · simp only[SS,J];refine we ?_;simp only[a0w,rE,pa.st,pa.sb,pa.wk,z.st,z.sb,z.wk];refine wc ⟨_,_,rfl,v,s',a,b,?_,⟨t.out,t.sn,t.pr,t.un,t.ln,by have:=t.fl; omega,t.ok⟩⟩;show AV.tuple [a.weak,b.weak]=_;rw[pa.wk,z.wk]
 have e2:=a3K J;have W:=hl.2 _ (List.getElem_mem J);have T:=k7 (show i+1 < 2 ^ 63 by omega);rw[List.drop_eq_getElem_cons J,m0]at hM a1;have c6:s'.length+j7 X.frs s'≤9000:=Nat.le_trans t.ln hs;have y:∀ {a2 b2 v7 v8:AV} {F2:List Sel} {Y:List (List Nat)} {st2:St} {m:Nat},FltR X n0 m s st F2 Y a2 b2 st2→F2.length+j7 X.frs Y≤v.length+l[i].size+j7 X.frs s'→j7 X.frs Y≤j7 X.frs s'→∃ (i':Nat) (Z b' w7 w8:AV) (v:List Sel) (s':List (List Nat)),FltR X n0 (F.length+sizes l+j7 X.frs s - sizes (l.drop i')) s st v s' Z b' st2∧v.length+sizes (l.drop i')+j7 X.frs s'≤F.length+sizes l+j7 X.frs s∧sizes (l.drop i')+j7 X.frs s'≤M∧i'≤l.length∧l.length - (i+1)=l.length - i'∧[.ptr o 0,.list false (l.map Sel.row),a2,b2,.list true [],.list true [],.int .i64 ((i+1:Nat):Int),v7,v8]=[.ptr o 0,.list false (l.map Sel.row),Z,b',.list true [],.list true [],.int .i64 i',w7,w8]:=fun h C u=>⟨i+1,_,_,_,_,_,_,⟨h.out,h.sn,h.pr,h.un,h.ln,by omega,h.ok⟩,by omega,by omega,J,rfl,rfl⟩
 revert e2 W y;generalize l[i]=x at hM a1;intro e2 W y;have b0:=W;cases W with
 | mk k al nm on as ds sub c1 c2 c0 b1 =>
 rw[Sel.row_eq]at e2;rw[I1]at hM a1 y;have go:∀ {h:List Sel} {Y:List (List Nat)} {b2:AV} {st2:St} {m:Nat},a1f h→FltR X n0 m s st v Y a b2 st2→j7 X.frs Y≤j7 X.frs s'→sizes h+j7 X.frs Y < M→sizes h+j7 X.frs Y≤sizes sub+j7 X.frs s'→EvQ tbl 161 [.ptr o 0,.list false (h.map Sel.row),a,b2] st2 (fun r a5=>∃ F3 s3 a3 b3,r=.tuple [a3,b3]∧FltR X n0 (v.length+sizes h+j7 X.frs Y) s st F3 s3 a3 b3 a5∧F3.length+j7 X.frs s3≤v.length+(1+sizes sub)+j7 X.frs s'∧j7 X.frs s3≤j7 X.frs s'):=fun hk C hu hm hb =>(IH _ hm _ _ _ _ _ _ (a6.pres ho C.pr) C.pr.1 (Nat.le_refl _) hk C.out C.sn (by omega) (Nat.le_trans C.ln hs) C.ok).mono fun r a5 ⟨F3,s3,a3,b3,e,u⟩=>⟨F3,s3,a3,b3,e,⟨u.out,u.sn,C.pr.trans u.pr,Nat.le_trans u.un C.un,Nat.le_trans u.ln C.ln,u.fl,u.ok⟩,by have:=u.fl; omega,Nat.le_trans u.un hu⟩
 simp only[a0w,rA,rE,J,e2];refine wi (fun b7=>?_) (fun b7=>?_)
 · obtain⟨a2,st2,h1,C,u,I,h5⟩:=OutH.push t.out t.sn (.mk k al nm on as ds sub) (by omega) t.pr.1;simp only[Sel.row_eq]at h1;simp only[a0w,rA,rE,e2,h1,pa.sb,pa.wk,I.st,I.sb,I.wk,T];refine wd (m':=l.length - (i+1)) (by omega) (y (F2:=v++[.mk k al nm on as ds sub]) (m:=v.length+1+j7 X.frs s') ⟨C,u,t.pr.trans h5,t.un,t.ln,by simp,fun x hx=>?_⟩ (by rw[List.length_append,List.length_singleton]; omega) (Nat.le_refl _))
   rcases List.mem_append.1 hx with hx|hx
   · exact t.ok x hx
   · rw[List.mem_singleton.1 hx]; exact b0
 simp only[a0w,rE];refine wi (fun b8=>?_) (fun b8=>?_)
 rotate_left
 · simp only[a0w,rA,rE,e2,pa.sb,pa.wk,z.sb,z.wk];refine wa (go ⟨c0,b1⟩ t (Nat.le_refl _) (by omega) (by omega)) (by simp only[R.allPlain_c,R.allPlain_n,pa.pl,z.pl]; rfl) (by simp only[List.map_cons,List.map_nil,pa.wk,z.wk]; rfl) ?_;rintro _ st2 ⟨F3,s3,a3,b3,rfl,u,I,h5⟩;have p2:=u.out.pln;have p3:=u.sn.pln;simp only[a0w,rE,p2.st,p2.sb,p2.wk,p3.st,p3.sb,p3.wk,T];exact wd (m':=l.length - (i+1)) (by omega) (y u I h5)
 simp only[a0w,rA,rE,e2];refine wa (a8e O nm) rfl rfl ?_;rintro _ st' ⟨rfl,rfl⟩;cases hf:fgI X.frs nm with
 | none =>simp only[a0w,rE,nI,show(!ltI (-1) 0)=false from rfl,T];exact wd (m':=l.length - (i+1)) (by omega) (y t (by omega) (Nat.le_refl _))
 | some j =>
 obtain⟨f,hj,b5,c3⟩:=G6 hf;have b6:(!ltI (j:Int) 0)=true:=by rw[ltI_eq]; simp
 simp only[a0w,rA,rE,nI,b6,e2,z.sb,z.wk];refine wa (a5u t.sn (by omega) nm) (by simp only[R.allPlain_c,R.allPlain_n,z.pl,R.plain_str]; rfl) (by simp only[List.map_cons,List.map_nil,z.wk]; rfl) ?_;rintro _ st' ⟨rfl,rfl⟩;rcases e8 (k9 s' nm)with hh|hh
 · simp only[a0w,rE,hh,T];exact wd (m':=l.length - (i+1)) (by omega) (y t (by omega) (Nat.le_refl _))
 have c7:=N3 s' nm hh X.frs j f hj b5;obtain⟨b2,st2,h1,C,u,I,h5⟩:=SeenH.push t.out t.sn nm (by omega) t.pr.1;have b4:FltR X n0 (v.length+j7 X.frs s') s st v (s'++[nm]) a b2 st2:=⟨C,u,t.pr.trans h5,by have:=t.un; omega,by have:=t.ln; rw[List.length_append,List.length_singleton]; omega,by omega,t.ok⟩;have a7:=O.pres ho h5;obtain⟨w,L,a9,-⟩:=a7.ob;unfold DX.cells at a9;have e3:(X.frs.map Frag.row)[j]?=some [.str f.n,.str f.on,.list false (f.sub.map Sel.row)]:=by rw[List.getElem?_map,hj]; rfl
 simp only[a0w,rA,rE,hh,e2,h1,a9,e3,I.st,I.sb,I.wk,pa.sb,pa.wk,z.sb,z.wk];refine wa (go (hX f (List.mem_of_getElem? hj)) b4 (by omega) (by omega) (by omega)) (by simp only[R.allPlain_c,R.allPlain_n,pa.pl,I.pl]; rfl) (by simp only[List.map_cons,List.map_nil,pa.wk,I.wk]; rfl) ?_;rintro _ a5 ⟨F3,s3,a3,b3,rfl,u,I,h5⟩;have p2:=u.out.pln;have p3:=u.sn.pln;simp only[a0w,rE,p2.st,p2.sb,p2.wk,p3.st,p3.sb,p3.wk,T];exact wd (m':=l.length - (i+1)) (by omega) (y u I h5)
theorem a5L:∀ {F:List Sel} {i:Nat} (h:i < F.length),l8 true 7 ((F.map Sel.row).flatten.drop (i*7))=some (.agg F[i].row)
 | x::F,0,_=>by cases x;rw[List.map_cons,List.flatten_cons,Nat.zero_mul,List.drop_zero,List.getElem_cons_zero,Sel.row_eq];rfl
 | x::F,i+1,h=>by have e:=a5L (F:=F) (i:=i) (by simpa using h);rw[List.map_cons,List.flatten_cons,show(i+1)*7=x.row.length+i*7 by rw[Sel.row_len]; omega,← List.drop_drop,List.drop_left];exact e
def OC:Nat:=100000000
theorem b0y (ks:List (List Nat)) (n:List Nat):ks.map b9++[[.str n]]=(ks++[n]).map b9:=by rw[List.map_append]; rfl
theorem c38 {X:DX} (hX:X.OK) {o N:Nat} {st:St} (hd:Dc X o N st) (ho:o < st.length) {l:List Sel} (hl:a1f l) (hz:sizes l+j7 X.frs []≤9000) (hN:N+OC≤BN) :
 EvQ tbl 125 [.ptr o 0,.list false (l.map Sel.row)] st (fun a st'=>Dc X o (N+OC) st'∧UpO o st st'∧a=.tuple []):=by
 unfold OC at *
 unfold BN at hN;have a7:=c5J hX ho _ l [] [] .nils .nils st hd (Nat.le_refl _) (Nat.le_refl _) hl (.inl ⟨rfl,rfl⟩) (.inl ⟨rfl,rfl⟩) (by simpa using hz) (by simp; omega) (by simp);refine wj (fn:=a125) rfl rfl rfl ?_;simp only[Y8,rS,rE];refine wa a7 rfl rfl ?_;rintro _ st1 ⟨F,s',a,b,rfl,U⟩;have b2:F.length≤9000:=by have:=U.fl; simp at this; omega
 have a0:=hd.pres ho U.pr;have a5:UpO o st st1:=⟨U.pr.1,fun i x _ hx=>U.pr.2 i x (List.getElem?_eq_some_iff.1 hx).1 hx⟩;have O:=U.ok;have pb:=U.sn.pln;rcases U.out with⟨he,rfl⟩|⟨b4,q,hq,rfl,a4⟩
 · simp only[Y8,pb.wk];refine wg (fun T fr st'=>st'=st1∧T=0∧∃ w5 w6:AV,fr=[.ptr o 0,.list false (l.map Sel.row),.nils,.list true [],.int .i64 0,w5,w6]) (m:=0) ⟨rfl,rfl,_,_,rfl⟩ ?_;rintro T fr st' ⟨rfl,rfl,w5,w6,rfl⟩;simp only[Y8,rE,show ltI 0 0=false from rfl];refine we ?_;simp only[SS];exact wc ⟨_,_,rfl,a0.le (by omega),a5,rfl⟩
 rw[List.length_map];simp only[Y8,pb.wk];refine wg (fun T fr st'=>∃ (i:Nat) (w5 w6:AV) (ks:List (List Nat)),Dc X o (N+i*9000) st'∧UpO o st1 st'∧i≤F.length∧T=F.length - i∧ks.length≤i∧fr=[.ptr o 0,.list false (l.map Sel.row),.sl q 0 F.length 7,.list true (ks.map b9),.int .i64 i,w5,w6]) (m:=F.length) ⟨0,_,_,[],a0.le (by omega),UpO.refl _ _,Nat.zero_le _,rfl,Nat.le_refl _,rfl⟩ ?_;rintro T fr st' ⟨i,w5,w6,ks,J,C,hi,rfl,b3,rfl⟩;simp only[Y8,rE];by_cases v:i < F.length
 rotate_left
 · simp only[SS,v];refine we ?_;simp only[SS];exact wc ⟨_,_,rfl,J.le (by omega),a5.trans C,rfl⟩
 have u:=C.old q _ (by omega) a4;have e2:=a5L v;have a2:((i:Int) < (F.length:Int))=True:=by simp; omega
 have W:=k7 (show i+1 < 2 ^ 63 by omega);have t:=c3g F[i] st';have gx:=O _ (List.getElem_mem v);revert e2 t gx;generalize F[i]=x;intro e2 t gx;obtain⟨xk,b5,b8,c0,b6,b7,b0⟩:=x;simp only[Sel.row_eq]at e2 t;simp only[Y8,rE,v,a2,u,e2];refine wa t rfl rfl ?_;rintro _ st' ⟨rfl,n,rfl⟩;simp only[Y8,rE];refine wa (Z5 ks (by omega) n _) rfl rfl ?_;rintro _ st' ⟨rfl,rfl⟩;rcases e8 (k9 ks n)with hh|hh
 · simp only[Y8,rE,hh,W];exact wd (m':=F.length - (i+1)) (by omega) ⟨i+1,_,_,ks,J.le (by omega),C,v,rfl,by omega,rfl⟩
 simp only[Y8,rE,hh,W,X1,List.length_map,show(ks.length+1)*16≤2 ^ 47 by omega,b0y];refine wg (fun T fr e=>∃ (j:Nat),Dc X o (N+i*9000+j) e∧UpO o st1 e∧j≤F.length∧T=F.length - j∧fr=[.ptr o 0,.list false (l.map Sel.row),.sl q 0 F.length 7,.list true ((ks++[n]).map b9),.int .i64 i,.str n,.int .i64 j]) (m:=F.length - (i+1)) ⟨i+1,J.le (by omega),C,v,rfl,rfl⟩ ?_;clear J C u;rintro T fr e ⟨j,L,I,hj,rfl,rfl⟩;simp only[Y8,rE];by_cases z:j < F.length
 rotate_left
 · simp only[SS,z];refine we ?_;simp only[Y8,rE,W];exact wd (m':=F.length - (i+1)) (by omega) ⟨i+1,_,_,ks++[n],L.le (by omega),I,v,rfl,by rw[List.length_append,List.length_singleton]; omega,rfl⟩
 have u:=I.old q _ (by omega) a4;have Z:=a5L z;have a1:((j:Int) < (F.length:Int))=True:=by simp; omega
 have Y:=k7 (show j+1 < 2 ^ 63 by omega);have t:=c3g F[j] e;have M:=c4i (O _ (List.getElem_mem z)) _ gx e;revert Z t M;generalize F[j]=y;intro Z t M;obtain⟨yk,c1,c4,c6,c2,c3,b1⟩:=y;simp only[Sel.row_eq]at Z t M;simp only[Y8,rE,z,a1,u,Z];refine wa t rfl rfl ?_;rintro _ e ⟨rfl,m,rfl⟩;rcases e8 (eqN m n)with hm|hm
 rotate_left
 · simp only[Y8,rE,hm,Y];exact wd (m':=F.length - (j+1)) (by omega) ⟨j+1,L.le (by omega),I,z,rfl,rfl⟩
 simp only[SS,hm,a2,a1,u,e2,Z];refine wa M rfl rfl ?_;rintro _ e ⟨rfl,d,rfl⟩;cases d with
 | true =>simp only[Y8,rE,Y];exact wd (m':=F.length - (j+1)) (by omega) ⟨j+1,L.le (by omega),I,z,rfl,rfl⟩
 | false =>simp only[Y8,rE];refine wa (D6 L (by unfold BN; omega) 21 n) rfl rfl ?_;rintro _ st2 ⟨a6,a9,rfl⟩;simp only[Y8,rE,Y];exact wd (m':=F.length - (j+1)) (by omega) ⟨j+1,a6.le (by omega),I.trans a9,z,rfl,rfl⟩
def ifF:FDef:=⟨[105,102],[],.base [66,111,111,108,101,97,110] true,false,Val.none⟩
theorem a6H (st:St):EvQ tbl 127 [] st (fun a st'=>st'=st∧a=.list false ([ifF].map FDef.row)):=by refine wj (fn:=a127) rfl rfl rfl ?_;simp only[d3p,rA,rS,rL,rE];exact wc ⟨_,_,rfl,rfl,rfl⟩
theorem a5M {F:List FDef} {i:Nat} (h:i < F.length):(F.map FDef.row)[i]?=some [.str F[i].n,.list false F[i].ar,.str F[i].t.nm,.list false F[i].t.of,.bool F[i].t.bang,.bool F[i].has,.int .u8 F[i].v.kind,.int .i64 F[i].v.num,.str F[i].v.text,.list false (F[i].v.names.map b9),.list false (F[i].v.vals.map Val.row)]:=by rw[List.getElem?_map,List.getElem?_eq_getElem h]; rfl
def AC:Nat:=10000
theorem b4u {X:DX} {o N:Nat} {st:St} (hd:Dc X o N st) {F:List FDef} (hF:F.length≤3000) {as:List Arg} (ha:ArgsOK as) (hN:N+AC≤BN) :
 EvQ tbl 126 [.ptr o 0,.list false (F.map FDef.row),.list false (as.map Arg.row)] st (fun a st'=>Dc X o (N+AC) st'∧UpO o st st'∧a=.tuple []):=by
 unfold AC at *
 unfold BN at hN;have b0:=ha.1;refine wj (fn:=a126) rfl rfl rfl ?_;simp +contextual only [T6,rS];refine wg (fun mm fr st'=>∃ (i:Nat) (w5 w6:AV) (ks:List (List Nat)),Dc X o (N+2*i) st'∧UpO o st st'∧i≤as.length∧mm=as.length - i∧ks.length=i∧fr=[.ptr o 0,.list false (F.map FDef.row),.list false (as.map Arg.row),.list true (ks.map b9),.int .i64 i,w5,w6]) (m:=as.length) ⟨0,_,_,[],hd,UpO.refl _ _,Nat.zero_le _,rfl,rfl,rfl⟩ ?_;rintro mm fr st' ⟨i,w5,w6,ks,J,O,hi,rfl,a7,rfl⟩;simp +contextual only [T6,rE,List.length_map];by_cases y:i < as.length
 rotate_left
 · simp +contextual only [SS,y];refine we ?_;simp +contextual only [T6];generalize AV.int .i64 (i:Int)=w4;clear y;refine wg (fun mm fr e=>∃ (j:Nat),Dc X o (N+6000+j) e∧UpO o st e∧j≤F.length∧mm=F.length - j∧fr=[.ptr o 0,.list false (F.map FDef.row),.list false (as.map Arg.row),.list true (ks.map b9),w4,w5,.int .i64 j]) (m:=F.length) ⟨0,J.le (by omega),O,Nat.zero_le _,rfl,rfl⟩ ?_;clear J O;rintro mm fr e ⟨j,T,a5,hj,rfl,rfl⟩;simp +contextual only [T6,rE,List.length_map];by_cases U:j < F.length
   rotate_left
   · simp +contextual only [SS,U];refine we ?_;simp +contextual only [SS];exact wc ⟨_,_,rfl,T.le (by omega),a5,rfl⟩
   have Y:=a5M U;have a0:=k7 (show j+1 < 2 ^ 63 by omega);revert Y;generalize F[j]=f;intro Y;have l:∀ {st2:St},Dc X o (N+6000+j+1) st2→UpO o e st2→∃ (j':Nat),Dc X o (N+6000+j') st2∧UpO o st st2∧j'≤F.length∧F.length - (j+1)=F.length - j'∧([.ptr o 0,.list false (F.map FDef.row),.list false (as.map Arg.row),.list true (ks.map b9),w4,w5,.int .i64 ((j+1:Nat):Int)]:List AV)=[.ptr o 0,.list false (F.map FDef.row),.list false (as.map Arg.row),.list true (ks.map b9),w4,w5,.int .i64 j']:=fun h h2=>⟨j+1,h,a5.trans h2,U,rfl,rfl⟩
   simp +contextual only [T6,rA,rE,U,Y];rcases e8 (f.t.bang && !f.has)with c1|c1
   rotate_left
   · simp +contextual -implicitDefEqProofs only [T6,rE,c1,a0];exact wd (m':=F.length - (j+1)) (by omega) (l (T.le (Nat.le_succ _)) (UpO.refl _ _))
   simp +contextual -implicitDefEqProofs only [SS,c1];refine wa (Z5 ks (by omega) f.n _) rfl rfl ?_;rintro _ e ⟨rfl,rfl⟩;rcases e8 (k9 ks f.n)with c2|c2
   · simp +contextual only [T6,rE,c2,a0];exact wd (m':=F.length - (j+1)) (by omega) (l (T.le (Nat.le_succ _)) (UpO.refl _ _))
   simp +contextual only [T6,rA,rE,c2,Y];refine wa (D6 T (by unfold BN; omega) 12 f.n) rfl rfl ?_;rintro _ st2 ⟨I,M,rfl⟩;simp +contextual only [T6,rE,a0];exact wd (m':=F.length - (j+1)) (by omega) (l I M)
 have W:=a8t y;have a1:=ha.2 _ (List.getElem_mem y);have Z:=k7 (show i+1 < 2 ^ 63 by omega);revert W a1;generalize as[i]=x;intro W a1;simp +contextual only [T6,rA,rE,y,W];refine wa (Z5 ks (by omega) x.n _) rfl rfl ?_;rintro _ st' ⟨rfl,rfl⟩;have l:∀ {v5:AV} {st2:St},Dc X o (N+2*i+2) st2→UpO o st st2→∃ (i':Nat) (w5 a9:AV) (a6:List (List Nat)),Dc X o (N+2*i') st2∧UpO o st st2∧i'≤as.length∧as.length - (i+1)=as.length - i'∧a6.length=i'∧([.ptr o 0,.list false (F.map FDef.row),.list false (as.map Arg.row),.list true ((ks++[x.n]).map b9),.int .i64 ((i+1:Nat):Int),v5,w6]:List AV)=[.ptr o 0,.list false (F.map FDef.row),.list false (as.map Arg.row),.list true (a6.map b9),.int .i64 i',w5,a9]:=fun h h2=>⟨i+1,_,_,ks++[x.n],h,h2,y,rfl,by rw[List.length_append,a7]; rfl,rfl⟩
 simp +contextual only [SS];refine wi (fun hx=>?_) (fun hx=>?_);simp +contextual only [T6,rA,rE,W];refine wa (D6 J (by unfold BN; omega) 11 x.n) rfl rfl ?_;rintro _ st1 ⟨u,C,rfl⟩;have C:=O.trans C
 rotate_left
 have u:=J.le (Nat.le_succ _);have C:=O;all_goals
  clear J O;simp +contextual only [T6,rA,rE,W,X1,List.length_map,show(ks.length+1)*16≤2 ^ 47 by omega,b0y];refine wa (c2x F hF x.n _) rfl rfl ?_;rintro _ st1 ⟨rfl,z,rfl,hz⟩;rcases e8 (ltI z 0)with c0|c0
  · simp +contextual only [T6,rA,rE,c0,W];refine wa (D6 u (by unfold BN; omega) 10 x.n) rfl rfl ?_;rintro _ st2 ⟨I,M,rfl⟩;simp +contextual only [T6,rE,Z];exact wd (m':=as.length - (i+1)) (by omega) (l I (C.trans M))
  obtain⟨j,rfl⟩:∃ j:Nat,z=(j:Int):=⟨z.toNat,by rw[ltI_eq]at c0; simp at c0; omega⟩
  have hj:j < F.length:=by have:=hz (by omega); omega
  have Y:=a5M hj;revert Y;generalize F[j]=f;intro Y;obtain⟨w,L,a4,-⟩:=u.ob;unfold DX.cells at a4;have a2:=b4g true a1 f.t _ u.sc;rw[f.t.row_eta,x.v.row_eta]at a2;simp +contextual only [T6,rA,rL,rE,c0,W,Y,a4];refine wa a2 rfl rfl ?_;rintro _ st1 ⟨rfl,d,rfl⟩;cases d with
  | true =>simp +contextual only [T6,rE,Z];exact wd (m':=as.length - (i+1)) (by omega) (l (u.le (Nat.le_succ _)) C)
  | false =>simp +contextual only [T6,rA,rE,W];refine wa (D6 u (by unfold BN; omega) 13 x.n) rfl rfl ?_;rintro _ st2 ⟨I,M,rfl⟩;simp +contextual only [T6,rE,Z];exact wd (m':=as.length - (i+1)) (by omega) (l I (C.trans M))
structure DX.Fin (X:DX):Prop where
 ok:X.OK
 un:j7 X.frs []≤2001
 ar:∀ f,a5R X.T f→∃ A:List FDef,f.ar=A.map FDef.row∧A.length≤3000
def cS (l:List Sel):Nat:=100000000+200000000*sizes l
def b9l (X:DX) (o:Nat) (l:List Sel):Prop:=∀ (n:List Nat) (N:Nat) (st:St),Dc X o N st→o < st.length→N+cS l≤BN→EvQ tbl 76 [.ptr o 0,.str n,.list false (l.map Sel.row)] st (fun a st'=>Dc X o (N+cS l) st'∧UpO o st st'∧a=.tuple [])
theorem UpO.lt {o:Nat} {st st':St} (h:UpO o st st') (e:o < st.length):o < st'.length:=Nat.lt_of_lt_of_le e h.len
theorem b9v {X:DX} (hX:X.Fin) {o N:Nat} {st:St} (u:Dc X o N st) (W:o < st.length) (n:List Nat) (k:Int) (al nm on:List Nat) {as:List Arg} (ds:List Dir) {sub:List Sel} (ha:ArgsOK as) (Y:b9l X o sub) (T:N+AC+2+cS sub≤BN) :
 EvQ tbl 128 [.ptr o 0,.str n,.agg [.int .u8 k,.str al,.str nm,.str on,.list false (as.map Arg.row),.list false (ds.map Dir.row),.list false (sub.map Sel.row)]] st (fun a st'=>Dc X o (N+AC+2+cS sub) st'∧UpO o st st'∧a=.tuple []):=by
 unfold AC at T;unfold BN at T;obtain⟨w,L,z,-⟩:=u.ob;unfold DX.cells at z;refine wj (fn:=a128) rfl rfl rfl ?_;simp only[a1T,rA,rS,rE,z];refine wa (b15 u.sc n nm) rfl rfl ?_;rintro _ st ⟨rfl,f,b,rfl,hf⟩;obtain⟨A,hA,I⟩:=hX.ar f hf;unfold FDef.row;cases b with
 | false =>
  simp only[a1T,rA,rE];refine wa (a3F u n) rfl rfl ?_;rintro _ st ⟨rfl,c,rfl⟩;simp only[SS];refine wi (fun O=>?_) (fun O=>?_);simp only[a1T,rE];refine wa (D6 u (by unfold BN; omega) 8 nm) rfl rfl ?_;rintro _ st1 ⟨l,e,rfl⟩
  rotate_left
  have l:=u.le (Nat.le_succ _);have e:=UpO.refl o st;all_goals
   simp only[a1T,rE];refine wa (Y [] _ _ l (e.lt W) (by unfold BN; omega)) rfl rfl ?_;rintro _ st2 ⟨y,x,rfl⟩;simp only[SS];exact wc ⟨_,_,rfl,y.le (by unfold AC; omega),e.trans x,rfl⟩
 | true =>
  have U:=a8D f.t st;rw[f.t.row_eta]at U;simp only[a1T,rA,rL,rE];refine wa U rfl rfl ?_;rintro _ st ⟨rfl,C,rfl⟩;simp only[a1T,rE,z];refine wa (b3H u.sc C) rfl rfl ?_;rintro _ st ⟨rfl,d,rfl⟩;have a0:=u;have fin:∀ {st1:St},Dc X o (N+1) st1→UpO o st st1→WC (fun Z=>j1 (k8 tbl Z) Z a8G [.ptr o 0,.str n,.agg [.int .u8 k,.str al,.str nm,.str on,.list false (as.map Arg.row),.list false (ds.map Dir.row),.list false (sub.map Sel.row)],.box [.int .u8 k,.str al,.str nm,.str on,.list false (as.map Arg.row),.list false (ds.map Dir.row),.list false (sub.map Sel.row)],.box [.str f.n,.list false f.ar,.str f.t.nm,.list false f.t.of,.bool f.t.bang,.bool f.has,.int .u8 f.v.kind,.int .i64 f.v.num,.str f.v.text,.list false (f.v.names.map b9),.list false (f.v.vals.map Val.row)],.bool true,.str C,.bool d] st1) (fun r=>∃ r' st',Go.Cb.finK [] (some r)=some (r',st')∧Dc X o (N+AC+2+cS sub) st'∧UpO o st st'∧r'=.tuple []):=fun {st1} l e=>by rw[hA];simp only[c65,rE];refine wa (b4u l I ha (by unfold AC BN; omega)) rfl rfl ?_;rintro _ st2 ⟨y,x,rfl⟩;simp only[c65,rE];refine wa (Y C _ _ y (x.lt (e.lt W)) (by unfold AC BN; omega)) rfl rfl ?_;rintro _ a1 ⟨J,M,rfl⟩;simp only[];exact wc ⟨_,_,rfl,J.le (by omega),(e.trans x).trans M,rfl⟩
  cases d;all_goals
   simp +contextual only [a1T,rE,List.length_map];refine wi (fun O=>?_) (fun O=>?_)
   · simp only[a1T,rE];refine wa (D6 u (by unfold BN; omega) 9 nm) rfl rfl ?_;rintro _ st1 ⟨l,e,rfl⟩;simp only[SS];exact fin l e
   · simp only[SS];exact fin (u.le (Nat.le_succ _)) (UpO.refl o _)
theorem b5F (l:List Sel) (i:Nat):sizes (l.drop i)≤sizes l:=by
 induction l generalizing i with
 | nil=>rw[List.drop_nil]; exact Nat.le_refl _
 | cons x l e =>
  cases i with
  | zero=>exact Nat.le_refl _
  | succ i=>rw[List.drop_succ_cons,m0]; exact Nat.le_trans (e i) (Nat.le_add_left _ _)
theorem b7f {X:DX} (hX:X.Fin) {o:Nat}:∀ (M:Nat) (l:List Sel),sizes l≤M→a1f l→sizes l≤2001→b9l X o l:=by
 intro M;induction M using Nat.strongRecOn with
 | ind M IH =>
 intro l hM hl hz n N st hd ho hN;have d7:=hl.1;unfold cS at hN ⊢;unfold BN at hN;have h1:=c38 hX.ok hd ho hl (by have:=hX.un; omega) (by unfold OC BN; omega);refine wj (fn:=a76) rfl rfl rfl ?_;simp only[K76,rS,rE];refine wa h1 rfl rfl ?_;unfold OC;clear h1;rintro _ st1 ⟨O,z,rfl⟩;simp only[K76];refine wg (fun mm fr st'=>∃ (i:Nat) (w4 w5 w6 w7 w8 w9 I:AV),Dc X o (N+100000000+200000000*(sizes l - sizes (l.drop i))) st'∧UpO o st st'∧i≤l.length∧mm=l.length - i∧fr=[.ptr o 0,.str n,.list false (l.map Sel.row),.int .i64 i,w4,w5,w6,w7,w8,w9,I]) (m:=l.length) ⟨0,_,_,_,_,_,_,_,O.le (by omega),z,Nat.zero_le _,rfl,rfl⟩ ?_;clear O z;rintro mm fr st' ⟨i,w4,w5,w6,w7,w8,w9,I,W,b1,hi,rfl,rfl⟩;simp only[K76,rE,List.length_map];by_cases T:i < l.length
 rotate_left
 · rw[List.drop_of_length_le (by omega)]at W;simp only[SS,T];refine we ?_;simp only[SS];exact wc ⟨_,_,rfl,W.le (by omega),b1,rfl⟩
 have e2:=a3K T;have b0:=hl.2 _ (List.getElem_mem T);have Y:=k7 (show i+1 < 2 ^ 63 by omega);have b7:=b5F l i;rw[List.drop_eq_getElem_cons T,m0]at W b7;have C:∀ {st2:St} {m:Nat} {w4 w5 w6 w7 w8 w9 I:AV},Dc X o m st2→UpO o st st2→m≤N+100000000+200000000*(sizes l - (l[i].size+sizes (l.drop (i+1))))+200000000*l[i].size→∃ (i':Nat) (c8 d0 d1 d2 d3 d4 c0:AV),Dc X o (N+100000000+200000000*(sizes l - sizes (l.drop i'))) st2∧UpO o st st2∧i'≤l.length∧l.length - (i+1)=l.length - i'∧([.ptr o 0,.str n,.list false (l.map Sel.row),.int .i64 ((i+1:Nat):Int),w4,w5,w6,w7,w8,w9,I]:List AV)=[.ptr o 0,.str n,.list false (l.map Sel.row),.int .i64 i',c8,d0,d1,d2,d3,d4,c0]:=fun h h2 h3=>⟨i+1,_,_,_,_,_,_,_,h.le (by omega),h2,T,rfl,rfl⟩
 have a7:N+100000000+200000000*(sizes l - (l[i].size+sizes (l.drop (i+1))))+200000000*l[i].size≤5000000000000:=by omega
 generalize N+100000000+200000000*(sizes l - (l[i].size+sizes (l.drop (i+1))))=Ni at *
 have b2:l[i].size≤M∧l[i].size≤2001:=by omega
 clear b7;revert e2 b0 C a7 b2;generalize l[i]=x;intro e2 b0 C a7 b2;cases b0 with
 | mk k al nm on as ds sub c3 b4 c7 b8 =>
 rw[I1]at C a7 b2;rw[Sel.row_eq]at e2;have hS:b9l X o sub:=IH (sizes sub) (by omega) sub (Nat.le_refl _) ⟨c7,b8⟩ (by omega);have d5:=b4.1;simp only[K76,rA,rE,T,e2];refine wg (fun mm fr st2=>∃ (j:Nat) (w6 w7:AV),Dc X o (Ni+13001*j) st2∧UpO o st st2∧j≤ds.length∧mm=ds.length - j∧fr=[.ptr o 0,.str n,.list false (l.map Sel.row),.int .i64 i,.box [.int .u8 k,.str al,.str nm,.str on,.list false (as.map Arg.row),.list false (ds.map Dir.row),.list false (sub.map Sel.row)],.int .i64 j,w6,w7,w8,w9,I]) (m:=ds.length) ⟨0,_,_,W.le (by omega),b1,Nat.zero_le _,rfl,rfl⟩ ?_;clear W b1;rintro mm fr st2 ⟨j,w6,w7,e,y,hj,rfl,rfl⟩;simp only[K76,rE,List.length_map];by_cases Z:j < ds.length
 · have f1:=a5K Z;have a1:=b4.2 _ (List.getElem_mem Z);have b5:=k7 (show j+1 < 2 ^ 63 by omega);revert f1 a1;generalize ds[j]=d;intro f1 a1;obtain⟨dn,c1⟩:=d;dsimp only at f1 a1;have a6:∀ {t:St} {v6 v7:AV},Dc X o (Ni+13001*j+13001) t→UpO o st t→∃ (j':Nat) (w6 w7:AV),Dc X o (Ni+13001*j') t∧UpO o st t∧j'≤ds.length∧ds.length - (j+1)=ds.length - j'∧([.ptr o 0,.str n,.list false (l.map Sel.row),.int .i64 i,.box [.int .u8 k,.str al,.str nm,.str on,.list false (as.map Arg.row),.list false (ds.map Dir.row),.list false (sub.map Sel.row)],.int .i64 ((j+1:Nat):Int),v6,v7,w8,w9,I]:List AV)=[.ptr o 0,.str n,.list false (l.map Sel.row),.int .i64 i,.box [.int .u8 k,.str al,.str nm,.str on,.list false (as.map Arg.row),.list false (ds.map Dir.row),.list false (sub.map Sel.row)],.int .i64 j',w6,w7,w8,w9,I]:=fun h h2=>⟨j+1,_,_,h.le (by omega),h2,Z,rfl,rfl⟩
   simp only[K76,rA,rE,Z,f1];refine wg (fun mm fr t=>∃ (p:Nat),Dc X o (Ni+13001*j+p) t∧UpO o st t∧p≤j∧mm=j - p∧fr=[.ptr o 0,.str n,.list false (l.map Sel.row),.int .i64 i,.box [.int .u8 k,.str al,.str nm,.str on,.list false (as.map Arg.row),.list false (ds.map Dir.row),.list false (sub.map Sel.row)],.int .i64 j,.box [.str dn,.list false (c1.map Arg.row)],.int .i64 p,w8,w9,I]) (m:=j) ⟨0,e.le (by omega),y,Nat.zero_le _,rfl,rfl⟩ ?_;clear e y;rintro mm fr t ⟨p,a2,a5,hp,rfl,rfl⟩;simp only[K76,rE];by_cases a4:p < j
   · have f2:=a5K (show p < ds.length by omega);have b6:=k7 (show p+1 < 2 ^ 63 by omega);revert f2;generalize ds[p]'_=u;intro f2;simp only[K76,rA,rE,a4,f2];refine wi (fun hx=>?_) (fun hx=>?_)
     · simp only[K76,rE];refine wa (D6 a2 (by unfold BN; omega) 19 dn) rfl rfl ?_;rintro _ b3 ⟨U,a0,rfl⟩;simp only[K76,rE,b6];exact wd (m':=j - (p+1)) (by omega) ⟨p+1,U,a5.trans a0,a4,rfl,rfl⟩
     · simp only[K76,rE,b6];exact wd (m':=j - (p+1)) (by omega) ⟨p+1,a2.le (by omega),a5,a4,rfl,rfl⟩
   simp only[SS,a4];refine we ?_;simp +contextual only [K76,rE];refine wi (fun hx=>?_) (fun hx=>?_)
   · simp only[K76,rE];refine wa (D6 a2 (by unfold BN; omega) 19 dn) rfl rfl ?_;rintro _ b3 ⟨U,a0,rfl⟩;simp only[K76,rE,b5];exact wd (m':=ds.length - (j+1)) (by omega) (a6 (U.le (by omega)) (a5.trans a0))
   · simp only[K76,rE];refine wa (a6H _) rfl rfl ?_;rintro _ b3 ⟨rfl,rfl⟩;have c2:=b4u a2 (F:=[ifF]) (by decide) a1 (by unfold AC BN; omega);rw[show [ifF].map FDef.row=[[.str [105,102],.list false [],.str [66,111,111,108,101,97,110],.list false [],.bool true,.bool false,.int .u8 0,.int .i64 0,.str [],.list false [],.list false []]]from rfl]at *
     simp only[SS];refine wa c2 rfl rfl ?_;unfold AC;rintro _ b3 ⟨U,a0,rfl⟩;simp only[K76,rE,b5];exact wd (m':=ds.length - (j+1)) (by omega) (a6 (U.le (by omega)) (a5.trans a0))
 simp only[SS,Z];refine we ?_;simp only[K76,rE];refine wi (fun hk=>?_) (fun hk=>?_)
 · simp only[K76,rA,rE];refine wa (b9v hX e (y.lt ho) n k al nm on ds c3 hS (by unfold cS AC BN; omega)) rfl rfl ?_;unfold cS AC;rintro _ t ⟨J,v,rfl⟩;simp only[K76,rE,Y];exact wd (m':=l.length - (i+1)) (by omega) (C J (y.trans v) (by omega))
 simp only[K76,rE];refine wi (fun c4=>?_) (fun c4=>?_)
 · simp only[K76,rE];refine wa (a8e e nm) rfl rfl ?_;rintro _ st2 ⟨rfl,rfl⟩;cases hf:fgI X.frs nm with
   | none =>simp only[K76,rE,nI,show ltI (-1) 0=true from rfl];refine wa (D6 e (by unfold BN; omega) 5 nm) rfl rfl ?_;rintro _ t ⟨J,v,rfl⟩;simp only[K76,rE,Y];exact wd (m':=l.length - (i+1)) (by omega) (C J (y.trans v) (by omega))
   | some q =>
    obtain⟨f,hq,d6,e0⟩:=G6 hf;obtain⟨w,L,a9,-⟩:=e.ob;unfold DX.cells at a9;have e3:(X.frs.map Frag.row)[q]?=some [.str f.n,.str f.on,.list false (f.sub.map Sel.row)]:=by rw[List.getElem?_map,hq]; rfl
    simp only[K76,rA,rE,nI,show ltI (q:Int) 0=false by rw[ltI_eq]; simp,a9,e3];refine wa (b9k e n f.on) rfl rfl ?_;rintro _ st2 ⟨rfl,d,rfl⟩;cases d with
    | true =>simp only[K76,rE,Y];exact wd (m':=l.length - (i+1)) (by omega) (C e y (by omega))
    | false =>simp only[K76,rA,rE,a9,e3];refine wa (D6 e (by unfold BN; omega) 20 f.on) rfl rfl ?_;rintro _ t ⟨J,v,rfl⟩;simp only[K76,rE,Y];exact wd (m':=l.length - (i+1)) (by omega) (C J (y.trans v) (by omega))
 simp only[K76,rE];have O:=e.le (Nat.le_succ _);refine wi (fun c6=>?_) (fun c6=>?_);have z:=y
 rotate_left
 simp only[K76,rE];refine wa (a3F e on) rfl rfl ?_;rintro _ st2 ⟨rfl,d,rfl⟩;cases d;simp only[K76,rE];refine wa (D6 e (by unfold BN; omega) 4 on) rfl rfl ?_;rintro _ t ⟨O,v,rfl⟩;have z:=y.trans v
 rotate_left
 simp only[K76,rE];refine wa (b9k e n on) rfl rfl ?_;rintro _ st2 ⟨rfl,d,rfl⟩;cases d;simp only[K76,rE];refine wa (D6 e (by unfold BN; omega) 20 on) rfl rfl ?_;rintro _ t ⟨O,v,rfl⟩;have z:=y.trans v
 rotate_left
 have z:=y;all_goals
  simp only[K76,rE];refine wa (hS _ _ _ O (z.lt ho) (by unfold cS BN; omega)) rfl rfl ?_;unfold cS;rintro _ t ⟨J,v,rfl⟩;simp only[K76,rE,Y];exact wd (m':=l.length - (i+1)) (by omega) (C J (z.trans v) (by omega))
def TRef.wb (c:Bool):TRef→TRef
 | .base n _=>.base n c
 | .wrap t _=>.wrap t c
theorem TRef.wb_row (c:Bool) (t:TRef):(t.wb c).row=[.str t.nm,.list false t.of,.bool c]:=by cases t<;>rfl
theorem a3X {l:List VDef} {i:Nat} (h:i < l.length):(l.map VDef.row)[i]?=some [.str l[i].n,.str l[i].t.nm,.list false l[i].t.of,.bool l[i].t.bang,.bool l[i].has,.int .u8 l[i].v.kind,.int .i64 l[i].v.num,.str l[i].v.text,.list false (l[i].v.names.map b9),.list false (l[i].v.vals.map Val.row)]:=by rw[List.getElem?_map,List.getElem?_eq_getElem h,Option.map_some,VDef.row,TRef.row_eta,Val.row_eta]; rfl
theorem c0J {X:DX} {o N:Nat} {st:St} (v:Dc X o N st) (Z:N+1≤BN) {op:Op} (hv:op.vs.length≤3000) {ts:List TRef} (C:ts.length≤1) (h:Bool) (n:List Nat) :
 EvQ tbl 200 [.ptr o 0,.agg op.row,.list false (ts.map TRef.row),.bool h,.str n] st (fun a st'=>Dc X o (N+1) st'∧UpO o st st'∧a=.tuple []):=by
 have l:=D6 v (by omega);unfold Op.row;refine wj (fn:=a200) rfl rfl rfl ?_;simp only[a3r,rS];refine wg (fun M fr st'=>st'=st∧∃ (i:Nat) (O T:AV),i≤op.vs.length∧M=op.vs.length - i∧fr=[.ptr o 0,.agg [.bool op.m,.str op.n,.list false (op.vs.map VDef.row),.list false (op.sub.map Sel.row)],.list false (ts.map TRef.row),.bool h,.str n,.box [.bool op.m,.str op.n,.list false (op.vs.map VDef.row),.list false (op.sub.map Sel.row)],.int .i64 i,O,T]) (m:=op.vs.length) ⟨rfl,0,_,_,Nat.zero_le _,rfl,rfl⟩ ?_;rintro M fr st' ⟨rfl,i,O,T,hi,rfl,rfl⟩;simp only[a3r,rE,List.length_map];by_cases e:i < op.vs.length
 rotate_left
 · simp only[SS,e];refine we ?_;simp only[a3r,rE];refine wa (l 16 n) rfl rfl ?_;rintro _ st2 ⟨x,I,rfl⟩;simp only[];exact wc ⟨_,_,rfl,x,I,rfl⟩
 have u:=a3X e;have z:=k7 (show i+1 < 2 ^ 63 by omega);revert u;generalize op.vs[i]=d;intro u;simp only[a3r,rA,rE,e,u];refine wi (fun U=>?_) (fun U=>?_)
 · simp only[a3r,rE,z];exact wd (m':=op.vs.length - (i+1)) (by omega) ⟨rfl,i+1,_,_,e,rfl,rfl⟩
 match ts,C with
 | [],_ =>simp only[a3r,rE,a9e];refine wh ?_;simp only[SS];exact wc ⟨_,_,rfl,v.le (Nat.le_succ _),UpO.refl _ _,rfl⟩
 | [t],_ =>
  have L:=fun c=>c9D d.t (t.wb c) st'
  simp only[TRef.wb_row,TRef.row_eta d.t]at L;rw[List.map_cons,List.map_nil,t.row_eta];simp +contextual -implicitDefEqProofs only [a3r,rA,rE,a5b];refine wi (fun W=>?_) (fun W=>?_);simp +contextual only [a3r,rA,rL,rE]
  rotate_left
  simp +contextual -implicitDefEqProofs only [a3r,rA,rL,rE];all_goals
   refine wa (L _) rfl rfl ?_;rintro _ st2 ⟨rfl,c,rfl⟩;cases c
   · simp only[a3r,rE];refine wa (l 18 n) rfl rfl ?_;rintro _ Y ⟨y,J,rfl⟩;simp only[SS];refine wh ?_;simp only[SS];exact wc ⟨_,_,rfl,y,J,rfl⟩
   · simp only[SS];refine wh ?_;simp only[SS];exact wc ⟨_,_,rfl,v.le (Nat.le_succ _),UpO.refl _ _,rfl⟩
theorem Handed.upO {n0 o sz:Nat} {rows:List (List AV)} {a:AV} {st st':St} (h:Handed n0 rows sz a st) (u:o < n0) (hu:UpO o st st'):Handed n0 rows sz a st':=by
 rcases h with h|⟨e,q,t,rfl,l⟩
 · exact .inl h
 · exact .inr ⟨e,q,t,rfl,hu.old q _ (by omega) l⟩
theorem Seen.push2 {n0:Nat} {s:List (List Nat)} {a:AV} {st:St} (h:SeenH n0 s a st) (nm:List Nat) (M:s.length≤1000000000) (z:n0≤st.length) :
 ∃ t st',(∀ call bx,F9 1 16 call [a,.fresh [[.str nm]]] bx st=some (t,bx,st'))∧SeenH n0 (s++[nm]) t st'∧Pln t∧st.length≤st'.length∧(∀ q,u9 t=some q→st.length≤q)∧∀ (i:Nat) (x:Cb.Obj),u9 a≠some i→st[i]?=some x→st'[i]?=some x:=by
 rcases h with⟨C,rfl⟩|⟨J,o,N,rfl,u⟩
 · have e:s=[]:=by simpa using C
   subst e;refine⟨.sl st.length 0 1 1,st++[Cb.Obj.cells [.str nm]],fun call bx=>?_,Or.inr ⟨by simp,st.length,z,rfl,?_⟩,⟨rfl,rfl,rfl,rfl⟩,by simp,fun q y=>by cases y; exact Nat.le_refl _,fun i x _ l=>?_⟩
   · rw[R.appM_nils,if_pos]
     · rfl
     · exact⟨rfl,by simp[l5],by simp,rfl⟩
   · rw[List.getElem?_append_right (Nat.le_refl _)]; simp[b9]
   · rw[List.getElem?_append_left (List.getElem?_eq_some_iff.1 l).1]; exact l
 · refine⟨.sl st.length 0 ((s.map b9).length+1) 1,st.set o Cb.Obj.dead++[Cb.Obj.cells ((s.map b9).flatten++[[.str nm]].flatten)],fun call bx=>?_,Or.inr ⟨by simp,st.length,z,by simp,?_⟩,⟨rfl,rfl,rfl,rfl⟩,by simp,fun q y=>by cases y; exact Nat.le_refl _,fun i x hi l=>?_⟩
   · rw[R.appM_sl,u];dsimp only;rw[if_pos]
     · rfl
     · exact⟨rfl,rfl,by simp[l5],b0O (by intro r L; obtain⟨v,_,rfl⟩:=List.mem_map.1 L; rfl),by rw[List.length_map]; simp; omega,rfl⟩
   · rw[List.getElem?_append_right (by simp)]; simp[b9]
   · have I:i≠o:=fun e=>hi (by rw[e]; rfl)
     rw[List.getElem?_append_left (by rw[List.length_set]; exact(List.getElem?_eq_some_iff.1 l).1),List.getElem?_set_ne (by omega)];exact l
theorem Dc.keep {X:DX} {o N n0:Nat} {s:List (List Nat)} {a:AV} {st st':St} (h:Dc X o N st) (l:o < n0) (v:SeenH n0 s a st) (t:∀ (i:Nat) (x:Cb.Obj),u9 a≠some i→st[i]?=some x→st'[i]?=some x):Dc X o N st':=by
 have u:∀ i,i < n0→u9 a≠some i:=fun i hi e=>by
  rcases v with⟨_,rfl⟩|⟨_,q,z,rfl,_⟩
  · cases e
  · cases e; omega
 exact⟨let ⟨w,L,h1,h2⟩:=h.ob; ⟨w,L,t _ _ (u _ l) h1,h2⟩,h.sc.gr fun x y=>t _ _ (u _ (Nat.lt_trans h.ne l)) y,h.ne,h.fl⟩
structure VarR (X:DX) (o n0 N w:Nat) (s:List (List Nat)) (a:AV) (st:St) (a':AV) (st':St):Prop where
 dc:Dc X o (N+w) st'
 sn:∃ s',SeenH n0 s' a' st'∧s'.length≤s.length+w
 len:st.length≤st'.length
 old:∀ i x,i≠o→u9 a≠some i→st[i]?=some x→st'[i]?=some x
 rt:a'=a∨∀ q,u9 a'=some q→st.length≤q
theorem VarR.refl {X:DX} {o n0 N:Nat} {s:List (List Nat)} {st:St} {a:AV} (e:Dc X o N st) (l:SeenH n0 s a st):VarR X o n0 N 0 s a st a st:=⟨e,⟨s,l,Nat.le_refl _⟩,Nat.le_refl _,fun _ _ _ _ h=>h,.inl rfl⟩
theorem VarR.trans {X:DX} {o n0 N w w' W:Nat} {s v:List (List Nat)} {a a1 a2:AV} {st st1 st2:St} (h:VarR X o n0 N w s a st a1 st1) (C:v.length≤s.length+w) (l:VarR X o n0 (N+w) w' v a1 st1 a2 st2) (z:w+w'≤W):VarR X o n0 N W s a st a2 st2:=by
 refine⟨l.dc.le (by omega),let ⟨s',h1,h2⟩:=l.sn; ⟨s',h1,by omega⟩,Nat.le_trans h.len l.len,fun i x hi t u=>l.old i x hi (fun e=>?_) (h.old i x hi t u),?_⟩
 · rcases h.rt with e1|e1
   · rw[e1]at e; exact t e
   · have:=e1 i e;have:=(List.getElem?_eq_some_iff.1 u).1;omega
 · rcases l.rt with e1|e1
   · rw[e1]; exact h.rt
   · exact .inr fun q y=>Nat.le_trans h.len (e1 q y)
def c9B (X:DX) (op:Op) (o n0:Nat) (v:Val):Prop:=∀ (ts:List TRef) (h:Bool) (N:Nat) (s:List (List Nat)) (a:AV) (st:St),ts.length≤1→Dc X o N st→SeenH n0 s a st→n0≤st.length→N+v.w≤BN→s.length+v.w≤1000000000 →
 EvQ tbl 183 [.ptr o 0,.agg op.row,.list false (ts.map TRef.row),.bool h,.agg v.row,a] st (VarR X o n0 N v.w s a st)
theorem b3U:∀ (l:List Val) (i:Nat),Val.ws (l.drop i)≤Val.ws l
 | [],i=>by rw[List.drop_nil]; exact Nat.le_refl _
 | v::l,0=>Nat.le_refl _
 | v::l,i+1=>by rw[List.drop_succ_cons,Val.ws]; exact Nat.le_trans (b3U l i) (Nat.le_add_left _ _)
theorem c7X {X:DX} {op:Op} (c4:op.vs.length≤3000) {o n0:Nat} (ho:o < n0) {v:Val} (hv:v.OK):c9B X op o n0 v:=by
 induction hv with
 | mk k n s ks ls h6 hk hl d1 ih =>
 intro ts h N sn a st b0 hd M hn hN c7;rw[D3]at hN c7 ⊢;unfold BN at hN;rw[Val.row_eq];have pa:=M.pln;have O:=Seen.push2 M s (by omega) hn;have loop:∀ {st1:St} {a1:AV} {s1:List (List Nat)} {v8 b1 b2 v12 b3:AV},VarR X o n0 N 1 sn a st a1 st1→SeenH n0 s1 a1 st1→s1.length≤sn.length+1→WC (fun k'=>j1 (k8 tbl k') k' a9p [.ptr o 0,.agg op.row,.list false (ts.map TRef.row),.bool h,.agg [.int .u8 k,.int .i64 n,.str s,.list false (ks.map b9),.list false (ls.map Val.row)],a1,.box op.row,.box [.int .u8 k,.int .i64 n,.str s,.list false (ks.map b9),.list false (ls.map Val.row)],.list true [],v8,b1,b2,v12,b3] st1) (fun r=>∃ r' st',Go.Cb.finK [.v 8] (some r)=some (r',st')∧VarR X o n0 N (1+Val.ws ls) sn a st r' st'):=by
  clear O M pa hd;intro st1 a1 s1 v8 b1 b2 v12 b3 U a4 c3;have pa:=a4.pln;unfold Op.row;simp +contextual only [P6];refine wg (fun mm fr st'=>∃ (i:Nat) (a':AV) (s':List (List Nat)) (b4 b5 b6 b7:AV),VarR X o n0 N (1+(Val.ws ls - Val.ws (ls.drop i))) sn a st a' st'∧SeenH n0 s' a' st'∧s'.length≤sn.length+(1+(Val.ws ls - Val.ws (ls.drop i)))∧i≤ls.length∧mm=ls.length - i∧fr=[.ptr o 0,.agg [.bool op.m,.str op.n,.list false (op.vs.map VDef.row),.list false (op.sub.map Sel.row)],.list false (ts.map TRef.row),.bool h,.agg [.int .u8 k,.int .i64 n,.str s,.list false (ks.map b9),.list false (ls.map Val.row)],a',.box [.bool op.m,.str op.n,.list false (op.vs.map VDef.row),.list false (op.sub.map Sel.row)],.box [.int .u8 k,.int .i64 n,.str s,.list false (ks.map b9),.list false (ls.map Val.row)],.list true [],.int .i64 i,b4,b5,b6,b7]) (m:=ls.length) ⟨0,a1,s1,_,_,_,_,by rw[List.drop_zero,Nat.sub_self]; exact U,a4,by omega,Nat.zero_le _,rfl,rfl⟩ ?_;clear pa U a4 c3;rintro mm fr st' ⟨i,a',s',b4,b5,b6,b7,U,a9,c2,hi,rfl,rfl⟩;have pa:=a9.pln;simp +contextual only [P6,rE,List.length_map];by_cases C:i < ls.length
  rotate_left
  · rw[List.drop_of_length_le (by omega),Val.ws,Nat.sub_zero]at U;simp +contextual only [SS,C];refine we ?_;simp +contextual only [P6,pa.st,pa.sb,pa.wk];refine wc ⟨_,_,rfl,?_⟩;show VarR X o n0 N (1+Val.ws ls) sn a st a'.weak st';rw[pa.wk];exact U
  have e2:=a0U C;have J:=k7 (show i+1 < 2 ^ 63 by omega);have c8:=b3U ls i;have y:=ih _ (List.getElem_mem C);have d0:Val.ws (ls.drop i)=ls[i].w+Val.ws (ls.drop (i+1)):=by rw[List.drop_eq_getElem_cons C,Val.ws]
  have y:∀ (Z:List TRef) (h':Bool),Z.length≤1→EvQ tbl 183 [.ptr o 0,.agg op.row,.list false (Z.map TRef.row),.bool h',.agg ls[i].row,a'] st' (fun r st2=>VarR X o n0 N (1+(Val.ws ls - Val.ws (ls.drop (i+1)))) sn a st r st2):=fun Z h' hl=>(y Z h' _ s' a' st' hl U.dc a9 (Nat.le_trans hn U.len) (by unfold BN; omega) (by omega)).mono fun r st2 W=>U.trans c2 W (by omega)
  unfold Op.row at y;clear d0 c8;revert e2 y;generalize ls[i]=x;intro e2 y;rw[x.row_eta]at e2;simp only[x.row_eta]at y;have h0:=y [] false (by decide);match ts,b0 with
  | [],_ =>simp +contextual only [P6,rA,rE,C,a9e,pa.sb,pa.wk,e2];refine wa h0 (by simp only[R.allPlain_c,R.allPlain_n,pa.pl]; rfl) (by simp only[List.map_cons,List.map_nil,pa.wk]; rfl) ?_;rintro a2 st2 e;obtain⟨T,l,I⟩:=e.sn;have p2:=l.pln;simp +contextual only [P6,rE,p2.st,p2.sb,J];exact wd (m':=ls.length - (i+1)) (by omega) ⟨i+1,a2,T,_,_,_,_,e,l,I,C,rfl,rfl⟩
  | [.base nm b],_ =>
   simp +contextual only [P6,rA,rE,C,TRef.row,a5b,a9e,nl0];rcases e8 (eqI k 6)with c6|c6
   rotate_left
   · simp +contextual -implicitDefEqProofs only [P6,rA,rE,c6,e2,pa.sb,pa.wk];refine wa h0 (by simp only[R.allPlain_c,R.allPlain_n,pa.pl]; rfl) (by simp only[List.map_cons,List.map_nil,pa.wk]; rfl) ?_;rintro a2 st2 e;obtain⟨T,l,I⟩:=e.sn;have p2:=l.pln;simp +contextual only [P6,rE,p2.st,p2.sb,J];exact wd (m':=ls.length - (i+1)) (by omega) ⟨i+1,a2,T,_,_,_,_,e,l,I,C,rfl,rfl⟩
   have k6:k=6:=by rw[eqI_eq]at c6; simpa using c6
   have d2:=h6 k6;have e1:=a0A (show i < ks.length by omega);obtain⟨w,L,a7,-⟩:=U.dc.ob;unfold DX.cells at a7;simp +contextual -implicitDefEqProofs only [P6,rA,rE,c6,a7];refine wa (a1A U.dc.sc nm) rfl rfl ?_;rintro _ st' ⟨rfl,t,rfl,c1,-⟩;simp +contextual only [P6,rA,rE,e1];refine wa (c2x t.fs c1 _ _) rfl rfl ?_;rintro _ st' ⟨rfl,z,rfl,hz⟩;simp +contextual only [P6,rE];refine wi (fun Y=>?_) (fun Y=>?_)
   rotate_left
   · simp +contextual only [P6,rA,rE,e2,pa.sb,pa.wk];refine wa h0 (by simp only[R.allPlain_c,R.allPlain_n,pa.pl]; rfl) (by simp only[List.map_cons,List.map_nil,pa.wk]; rfl) ?_;rintro a2 st2 e;obtain⟨T,l,I⟩:=e.sn;have p2:=l.pln;simp +contextual only [P6,rE,p2.st,p2.sb,J];exact wd (m':=ls.length - (i+1)) (by omega) ⟨i+1,a2,T,_,_,_,_,e,l,I,C,rfl,rfl⟩
   have d3:0≤z:=by simp only[ltI_eq,eqI_eq]at Y;simp at Y;omega
   obtain⟨j,rfl⟩:∃ j:Nat,z=(j:Int):=⟨z.toNat,by omega⟩
   have hj:j < t.fs.length:=by have:=hz (by omega); omega
   have e3:=a5M hj;revert e3;generalize t.fs[j]=f;intro e3;have W:=y [f.t] f.has (by simp);rw[List.map_cons,List.map_nil,f.t.row_eta]at W;simp +contextual only [P6,rA,rL,rE,e3,e2,pa.sb,pa.wk];refine wa W (by simp only[R.allPlain_c,R.allPlain_n,pa.pl]; rfl) (by simp only[List.map_cons,List.map_nil,pa.wk]; rfl) ?_;rintro a2 st2 e;obtain⟨T,l,I⟩:=e.sn;have p2:=l.pln;simp +contextual only [P6,rE,p2.st,p2.sb,J];exact wd (m':=ls.length - (i+1)) (by omega) ⟨i+1,a2,T,_,_,_,_,e,l,I,C,rfl,rfl⟩
  | [.wrap u b],_ =>
   have W:=y [u] false (by simp);rw[List.map_cons,List.map_nil,u.row_eta]at W;simp +contextual -implicitDefEqProofs only [P6,rA,rE,C,TRef.row,u.row_eta,a5b];refine wi (fun Y=>?_) (fun Y=>?_)
   · simp +contextual -implicitDefEqProofs only [P6,rA,rE,a5b,nl1,e2,pa.sb,pa.wk];refine wa W (by simp only[R.allPlain_c,R.allPlain_n,pa.pl]; rfl) (by simp only[List.map_cons,List.map_nil,pa.wk]; rfl) ?_;rintro a2 st2 e;obtain⟨T,l,I⟩:=e.sn;have p2:=l.pln;simp +contextual only [P6,rE,p2.st,p2.sb,J];exact wd (m':=ls.length - (i+1)) (by omega) ⟨i+1,a2,T,_,_,_,_,e,l,I,C,rfl,rfl⟩
   · simp +contextual -implicitDefEqProofs only [P6,rA,rE,a5b,nl1,e2,pa.sb,pa.wk];refine wa h0 (by simp only[R.allPlain_c,R.allPlain_n,pa.pl]; rfl) (by simp only[List.map_cons,List.map_nil,pa.wk]; rfl) ?_;rintro a2 st2 e;obtain⟨T,l,I⟩:=e.sn;have p2:=l.pln;simp +contextual only [P6,rE,p2.st,p2.sb,J];exact wd (m':=ls.length - (i+1)) (by omega) ⟨i+1,a2,T,_,_,_,_,e,l,I,C,rfl,rfl⟩
 unfold Op.row at *
 refine wj (fn:=a183) rfl rfl rfl ?_;simp +contextual only [b6r,rS,rE];refine wi (fun Y=>?_) (fun Y=>?_)
 · obtain⟨a1,st1,h1,W,h3,h4,h5,h6⟩:=O;have b8:=hd.keep ho M h6;have a0:=c0J b8 (by unfold BN; omega) (op:=op) c4 b0 h s;unfold Op.row at a0;simp +contextual only [b6r,rA,rE,h1,pa.sb,pa.wk,h3.st,h3.sb,h3.wk];refine wa a0 rfl rfl ?_;rintro _ st2 ⟨c0,a5,rfl⟩;simp +contextual only [SS];have a6:SeenH n0 (sn++[s]) a1 st2:=Handed.upO W ho a5;exact loop ⟨c0,⟨_,a6,by rw[List.length_append]; exact Nat.le_refl _⟩,Nat.le_trans h4 a5.len,fun i x hi hr Y=>a5.old i x hi (h6 i x hr Y),.inr h5⟩ a6 (by rw[List.length_append]; exact Nat.le_refl _)
 · simp +contextual only [SS];exact loop ⟨hd.le (Nat.le_succ _),⟨_,M,Nat.le_succ _⟩,Nat.le_refl _,fun _ _ _ _ h=>h,.inl rfl⟩ M (Nat.le_succ _)
theorem b2p:∀ (l:List Arg) (i:Nat),asW (l.drop i)≤asW l
 | [],i=>by rw[List.drop_nil]; exact Nat.le_refl _
 | v::l,0=>Nat.le_refl _
 | v::l,i+1=>by rw[List.drop_succ_cons,asW]; exact Nat.le_trans (b2p l i) (Nat.le_add_left _ _)
theorem a6N:∀ (l:List Dir) (i:Nat),dsW (l.drop i)≤dsW l
 | [],i=>by rw[List.drop_nil]; exact Nat.le_refl _
 | v::l,0=>Nat.le_refl _
 | v::l,i+1=>by rw[List.drop_succ_cons,dsW]; exact Nat.le_trans (a6N l i) (Nat.le_add_left _ _)
theorem b1O:∀ (l:List Sel) (i:Nat),Sel.ws (l.drop i)≤Sel.ws l
 | [],i=>by rw[List.drop_nil]; exact Nat.le_refl _
 | v::l,0=>Nat.le_refl _
 | v::l,i+1=>by rw[List.drop_succ_cons,a06]; exact Nat.le_trans (b1O l i) (Nat.le_add_left _ _)
structure VarI (X:DX) (o n0 N w:Nat) (s:List (List Nat)) (a:AV) (st:St) (a':AV) (s':List (List Nat)) (st':St):Prop where
 r:VarR X o n0 N w s a st a' st'
 sn:SeenH n0 s' a' st'
 ln:s'.length≤s.length+w
theorem VarR.iv {X:DX} {o n0 N w:Nat} {s:List (List Nat)} {a:AV} {st:St} {e:AV} {st':St} (h:VarR X o n0 N w s a st e st'):∃ s',VarI X o n0 N w s a st e s' st':=let ⟨s',h1,h2⟩:=h.sn; ⟨s',h,h1,h2⟩
theorem VarI.le {X:DX} {o n0 N w W:Nat} {s:List (List Nat)} {a:AV} {st:St} {e:AV} {s':List (List Nat)} {st':St} (h:VarI X o n0 N w s a st e s' st') (l:w≤W):VarI X o n0 N W s a st e s' st':=⟨⟨h.r.dc.le (by omega),⟨s',h.sn,by have:=h.ln; omega⟩,h.r.len,h.r.old,h.r.rt⟩,h.sn,by have:=h.ln; omega⟩
theorem VarI.then {X:DX} {o n0 N w w':Nat} {s:List (List Nat)} {a:AV} {st:St} {e:AV} {s':List (List Nat)} {st':St} (h:VarI X o n0 N w s a st e s' st') {a2:AV} {st2:St} (l:VarR X o n0 (N+w) w' s' e st' a2 st2):∃ t,VarI X o n0 N (w+w') s a st a2 t st2:=(h.r.trans h.ln l (Nat.le_refl _)).iv
theorem b4y {X:DX} {op:Op} (Z:op.vs.length≤3000) {o n0 N:Nat} (ho:o < n0) {F:List FDef} (hF:F.length≤3000) {as:List Arg} (ha:ArgsOK as) {s:List (List Nat)} {a:AV} {st:St} (hd:Dc X o N st) (T:SeenH n0 s a st) (hn:n0≤st.length) (hN:N+asW as≤BN) (hl:s.length+asW as≤1000000000) :
 EvQ tbl 159 [.ptr o 0,.agg op.row,.list false (F.map FDef.row),.list false (as.map Arg.row),a] st (VarR X o n0 N (asW as) s a st):=by
 have a4:=ha.1;have pa:=T.pln;have hv:=fun v h=>c7X (X:=X) Z ho (ha.2 v h)
 unfold c9B Op.row at hv;unfold BN at hN;unfold Op.row;refine wj (fn:=a159) rfl rfl rfl ?_;simp only[a4Z,rS];refine wg (fun mm fr st'=>∃ (i:Nat) (J:AV) (s':List (List Nat)) (w8:AV),VarI X o n0 N (asW as - asW (as.drop i)) s a st J s' st'∧i≤as.length∧mm=as.length - i∧fr=[.ptr o 0,.agg [.bool op.m,.str op.n,.list false (op.vs.map VDef.row),.list false (op.sub.map Sel.row)],.list false (F.map FDef.row),.list false (as.map Arg.row),J,.box [.bool op.m,.str op.n,.list false (op.vs.map VDef.row),.list false (op.sub.map Sel.row)],.list true [],.int .i64 i,w8]) (m:=as.length) ⟨0,a,s,_,by rw[List.drop_zero,Nat.sub_self]; exact⟨VarR.refl hd T,T,Nat.le_refl _⟩,Nat.zero_le _,rfl,rfl⟩ ?_;clear pa T hd;rintro mm fr st' ⟨i,J,s',w8,C,hi,rfl,rfl⟩;have pa:=C.sn.pln;simp only[a4Z,rE,List.length_map];by_cases l:i < as.length
 rotate_left
 · rw[List.drop_of_length_le (by omega),asW,Nat.sub_zero]at C;simp only[SS,l];refine we ?_;simp only[a4Z,pa.st,pa.sb,pa.wk];refine wc ⟨_,_,rfl,?_⟩;show VarR X o n0 N (asW as) s a st J.weak st';rw[pa.wk];exact C.r
 have L:=a8t l;have M:=k7 (show i+1 < 2 ^ 63 by omega);have a0:=b2p as i;have a1:asW (as.drop i)=as[i].v.w+asW (as.drop (i+1)):=by rw[List.drop_eq_getElem_cons l,asW]
 have Y:=C.ln;have e:∀ (y:List TRef) (W:Bool),y.length≤1→EvQ tbl 183 [.ptr o 0,.agg [.bool op.m,.str op.n,.list false (op.vs.map VDef.row),.list false (op.sub.map Sel.row)],.list false (y.map TRef.row),.bool W,.agg as[i].v.row,J] st' (fun r st2=>∃ I,VarI X o n0 N (asW as - asW (as.drop (i+1))) s a st r I st2):=fun y W hl=>(hv as[i] (List.getElem_mem l) y W _ s' J st' hl C.r.dc C.sn (Nat.le_trans hn C.r.len) (by unfold BN; omega) (by omega)).mono fun r st2 O=>let ⟨I,h3⟩:=C.then O; ⟨I,h3.le (by omega)⟩
 clear a1 a0 Y;revert L e;generalize as[i]=x;intro L e;simp only[x.v.row_eta]at e;simp only[a4Z,rA,rE,l,L];refine wa (c2x F hF _ _) rfl rfl ?_;rintro _ st' ⟨rfl,z,rfl,hz⟩;rcases e8 (ltI z 0)with c0|c0
 · have h0:=e [] false (by decide);simp only[a4Z,rA,rE,c0,L,pa.sb,pa.wk];refine wa h0 (by simp only[R.allPlain_c,R.allPlain_n,pa.pl]; rfl) (by simp only[List.map_cons,List.map_nil,pa.wk]; rfl) ?_;rintro a2 st2 ⟨I,u⟩;have p2:=u.sn.pln;simp only[a4Z,rE,p2.st,p2.sb,M];exact wd (m':=as.length - (i+1)) (by omega) ⟨i+1,a2,I,_,u,l,rfl,rfl⟩
 obtain⟨j,rfl⟩:∃ j:Nat,z=(j:Int):=⟨z.toNat,by rw[ltI_eq]at c0; simp at c0; omega⟩
 have hj:j < F.length:=by have:=hz (by omega); omega
 have U:=a5M hj;revert U;generalize F[j]=f;intro U;have O:=e [f.t] f.has (by simp);rw[List.map_cons,List.map_nil,f.t.row_eta]at O;simp only[a4Z,rA,rL,rE,c0,L,U,pa.sb,pa.wk];refine wa O (by simp only[R.allPlain_c,R.allPlain_n,pa.pl]; rfl) (by simp only[List.map_cons,List.map_nil,pa.wk]; rfl) ?_;rintro a2 st2 ⟨I,u⟩;have p2:=u.sn.pln;simp only[a4Z,rE,p2.st,p2.sb,M];exact wd (m':=as.length - (i+1)) (by omega) ⟨i+1,a2,I,_,u,l,rfl,rfl⟩
theorem b4e {X:DX} (hX:X.Fin) {op:Op} (a7:op.vs.length≤3000) {o n0:Nat} (ho:o < n0):∀ (M:Nat) (l:List Sel),Sel.ws l≤M→a1f l→∀ (n:List Nat) (N:Nat) (s:List (List Nat)) (a:AV) (st:St),Dc X o N st→SeenH n0 s a st→n0≤st.length→N+Sel.ws l≤BN→s.length+Sel.ws l≤1000000000 →
 EvQ tbl 124 [.ptr o 0,.agg op.row,.str n,.list false (l.map Sel.row),a] st (VarR X o n0 N (Sel.ws l) s a st):=by
 intro M;induction M using Nat.strongRecOn with
 | ind M IH =>
 intro l hM hl n N s a st hd hs hn hN c1;have c0:=hl.1;have pa:=hs.pln;unfold BN at hN;refine wj (fn:=a124) rfl rfl rfl ?_;unfold Op.row at *
 simp only[a0e,rS];refine wg (fun mm fr st'=>∃ (i:Nat) (a':AV) (s':List (List Nat)) (w8 w9 a1 a4 a5:AV),VarI X o n0 N (Sel.ws l - Sel.ws (l.drop i)) s a st a' s' st'∧i≤l.length∧mm=l.length - i∧fr=[.ptr o 0,.agg [.bool op.m,.str op.n,.list false (op.vs.map VDef.row),.list false (op.sub.map Sel.row)],.str n,.list false (l.map Sel.row),a',.box [.bool op.m,.str op.n,.list false (op.vs.map VDef.row),.list false (op.sub.map Sel.row)],.list true [],.int .i64 i,w8,w9,a1,a4,a5]) (m:=l.length) ⟨0,a,s,_,_,_,_,_,by rw[List.drop_zero,Nat.sub_self]; exact⟨VarR.refl hd hs,hs,Nat.le_refl _⟩,Nat.zero_le _,rfl,rfl⟩ ?_;clear pa hs hd;rintro mm fr st' ⟨i,a',s',w8,w9,a1,a4,a5,e,hi,rfl,rfl⟩;have pa:=e.sn.pln;simp only[a0e,rE,List.length_map];by_cases v:i < l.length
 rotate_left
 · rw[List.drop_of_length_le (by omega),m6,Nat.sub_zero]at e;simp only[SS,v];refine we ?_;simp only[a0e,pa.st,pa.sb,pa.wk];refine wc ⟨_,_,rfl,?_⟩;show VarR X o n0 N (Sel.ws l) s a st a'.weak st';rw[pa.wk];exact e.r
 have e2:=a3K v;have Y:=hl.2 _ (List.getElem_mem v);have b3:=k7 (show i+1 < 2 ^ 63 by omega);have Z:=b1O l i;have a0:Sel.ws (l.drop i)=l[i].w+Sel.ws (l.drop (i+1)):=by rw[List.drop_eq_getElem_cons v,a06]
 have hW:Sel.ws l - Sel.ws (l.drop i)+l[i].w=Sel.ws l - Sel.ws (l.drop (i+1)):=by omega
 have J:l[i].w≤M:=by omega
 have O:Sel.ws l - Sel.ws (l.drop i)+l[i].w≤Sel.ws l:=by omega
 clear a0 Z;generalize Sel.ws l - Sel.ws (l.drop i)=W0 at *
 generalize b1:Sel.ws l - Sel.ws (l.drop (i+1))=W1 at *
 revert e2 Y hW J O;generalize l[i]=x;intro e2 Y hW J O;cases Y with
 | mk k al nm on as ds sub b2 a6 b7 a9 =>
 rw[q9]at hW J O;rw[Sel.row_eq]at e2;have b8:=a6.1;simp only[a0e,rA,rE,v,e2];refine wg (fun mm fr st2=>∃ (j:Nat) (a2:AV) (s2:List (List Nat)),VarI X o n0 N (W0+(dsW ds - dsW (ds.drop j))) s a st a2 s2 st2∧j≤ds.length∧mm=ds.length - j∧fr=[.ptr o 0,.agg [.bool op.m,.str op.n,.list false (op.vs.map VDef.row),.list false (op.sub.map Sel.row)],.str n,.list false (l.map Sel.row),a2,.box [.bool op.m,.str op.n,.list false (op.vs.map VDef.row),.list false (op.sub.map Sel.row)],.list true [],.int .i64 i,.box [.int .u8 k,.str al,.str nm,.str on,.list false (as.map Arg.row),.list false (ds.map Dir.row),.list false (sub.map Sel.row)],.int .i64 j,a1,a4,a5]) (m:=ds.length) ⟨0,a',s',by rw[List.drop_zero,Nat.sub_self]; exact e,Nat.zero_le _,rfl,rfl⟩ ?_;clear pa e;rintro mm fr st2 ⟨j,a2,s2,e,hj,rfl,rfl⟩;have pa:=e.sn.pln;simp only[a0e,rE,List.length_map];by_cases y:j < ds.length
 · have f1:=a5K y;have b4:=k7 (show j+1 < 2 ^ 63 by omega);have Z:=a6N ds j;have a0:dsW (ds.drop j)=asW ds[j].as+dsW (ds.drop (j+1)):=by rw[List.drop_eq_getElem_cons y,dsW]
   have C:=e.ln;have u:=b4y a7 ho (F:=[ifF]) (by decide) (a6.2 _ (List.getElem_mem y)) e.r.dc e.sn (Nat.le_trans hn e.r.len) (by unfold BN; omega) (by omega);have u:=u.mono fun r I h3=>e.then h3
   have T:W0+(dsW ds - dsW (ds.drop j))+asW ds[j].as≤W0+(dsW ds - dsW (ds.drop (j+1))):=by omega
   clear a0 Z C;rw[show [ifF].map FDef.row=[[.str [105,102],.list false [],.str [66,111,111,108,101,97,110],.list false [],.bool true,.bool false,.int .u8 0,.int .i64 0,.str [],.list false [],.list false []]]from rfl]at u;unfold Op.row at u;revert f1 u T;generalize ds[j]=d;intro f1 u T;simp only[a0e,rA,rE,y];refine wa (a6H _) rfl rfl ?_;rintro _ I ⟨rfl,rfl⟩;rw[show [ifF].map FDef.row=[[.str [105,102],.list false [],.str [66,111,111,108,101,97,110],.list false [],.bool true,.bool false,.int .u8 0,.int .i64 0,.str [],.list false [],.list false []]]from rfl];simp only[SS,rA,f1,pa.sb,pa.wk];refine wa u (by simp only[R.allPlain_c,R.allPlain_n,pa.pl]; rfl) (by simp only[List.map_cons,List.map_nil,pa.wk]; rfl) ?_;rintro a3 c2 ⟨s3,z⟩;have p3:=z.sn.pln;simp only[a0e,rE,p3.st,p3.sb,b4];exact wd (m':=ds.length - (j+1)) (by omega) ⟨j+1,a3,s3,z.le T,y,rfl,rfl⟩
 have e:=e.le (W:=W0+dsW ds) (by have:=a6N ds j; omega);simp only[SS,y];refine we ?_;have C:=e.ln;obtain⟨w,L,U,-⟩:=e.r.dc.ob;unfold DX.cells at U;simp only[a0e,rE];refine wi (fun hk=>?_) (fun hk=>?_);simp only[a0e,rA,rE,U];refine wa (b15 e.r.dc.sc n nm) rfl rfl ?_;rintro _ st2 ⟨rfl,f,fb,rfl,hf⟩;obtain⟨A,hA,b0⟩:=hX.ar f hf;have u:=b4y a7 ho b0 b2 e.r.dc e.sn (Nat.le_trans hn e.r.len) (by unfold BN; omega) (by omega);have u:=u.mono fun r I h3=>e.then h3
 rw[← hA]at u;unfold Op.row at u;have hb:=fun st=>a8D f.t st
 simp only[f.t.row_eta]at hb;unfold FDef.row;simp only[a0e,rA,rE,pa.sb,pa.wk];refine wa u (by simp only[R.allPlain_c,R.allPlain_n,pa.pl]; rfl) (by simp only[List.map_cons,List.map_nil,pa.wk]; rfl) ?_;clear e pa C U u;rintro a2 st2 ⟨s2,e⟩;have pa:=e.sn.pln;have C:=e.ln;simp only[a0e,rA,rL,rE,pa.st,pa.sb];refine wa (hb _) rfl rfl ?_;rintro _ st2 ⟨rfl,bn,rfl⟩
 rotate_left
 simp only[a0e,rE];refine wi (fun b5=>?_) (fun b5=>?_);simp only[a0e,rE];refine wi (fun b6=>?_) (fun b6=>?_);all_goals
  have e:=e.le (W:=W0+dsW ds+asW as) (by omega);have C:=e.ln;simp only[a0e,rA,rE,pa.sb,pa.wk];refine wa ((IH (Sel.ws sub) (by omega) sub (Nat.le_refl _) ⟨b7,a9⟩ _ _ _ _ _ e.r.dc e.sn (Nat.le_trans hn e.r.len) (by unfold BN; omega) (by omega)).mono fun r I h3=>e.then h3) (by simp only[R.allPlain_c,R.allPlain_n,pa.pl,R.plain_str]; rfl) (by simp only[List.map_cons,List.map_nil,pa.wk]; rfl) ?_;rintro a3 I ⟨s3,z⟩;have p3:=z.sn.pln;simp only[a0e,rE,p3.st,p3.sb,b3];exact wd (m':=l.length - (i+1)) (by omega) ⟨i+1,a3,s3,_,_,_,_,_,by rw[b1]; exact z.le (by omega),v,rfl,rfl⟩
theorem a4D (l:List Sel):sizes l≤Sel.ws l:=by
 have u:∀ M (l:List Sel),sizes l≤M→sizes l≤Sel.ws l:=by
  intro M;induction M using Nat.strongRecOn with
  | ind M e =>
  intro l t;cases l with
  | nil=>rw[sizes]; exact Nat.zero_le _
  | cons x l =>obtain⟨k,al,nm,on,as,ds,sub⟩:=x;rw[m0,I1]at t ⊢;rw[a06,q9];have v:=e (sizes sub) (by omega) sub (Nat.le_refl _);have y:=e (sizes l) (by omega) l (Nat.le_refl _);omega
 exact u _ l (Nat.le_refl _)
structure DX.Full (X:DX):Prop where
 fin:X.Fin
 fw:∀ f∈X.frs,Sel.ws f.sub≤2001
structure Op.Ok (op:Op):Prop where
 vs:op.vs.length≤3000
 vo:∀ d∈op.vs,d.v.OK
 sub:a1f op.sub
 w:Sel.ws op.sub≤2001
theorem Dc.kp {X:DX} {o N:Nat} {st:St} (h:Dc X o N st):kept st st [AV.ptr o 0]=true:=by obtain⟨w,L,e,-⟩:=h.ob;simp only[kept,u9,e,Bool.and_true];rw[a0k]
theorem Handed.all {n0 sz:Nat} {rows:List (List AV)} {a:AV} {st st':St} (h:Handed n0 rows sz a st) (t:∀ (i:Nat) (x:Cb.Obj),st[i]?=some x→st'[i]?=some x):Handed n0 rows sz a st':=by
 rcases h with h|⟨e,q,u,rfl,l⟩
 · exact .inl h
 · exact .inr ⟨e,q,u,rfl,t _ _ l⟩
theorem c3y {X:DX} {op:Op} (C:op.Ok) {o N n0:Nat} {v st:St} {s:List (List Nat)} {a:AV} (hd:Dc X o N st) (hu:UpO o v st) (ho:o < n0) (M:SeenH n0 s a st) (I:s.length≤1000000000) (hN:N+3000≤BN) (U W Y Z w8 w9 x L:AV) :
 WC (fun n=>j1 (k8 tbl n) n b01 [.ptr o 0,.agg [.bool op.m,.str op.n,.list false (op.vs.map VDef.row),.list false (op.sub.map Sel.row)],.box [.bool op.m,.str op.n,.list false (op.vs.map VDef.row),.list false (op.sub.map Sel.row)],U,W,Y,Z,a,w8,w9,x,L] st) (fun r=>∃ T st',Go.Cb.finK [] (some r)=some (T,st')∧Dc X o (N+3000) st'∧UpO o v st'∧T=.tuple []):=by
 have a0:=C.vs;have pa:=M.pln;simp only[K74];refine wg (fun O fr st'=>∃ (i:Nat),Dc X o (N+i) st'∧UpO o st st'∧i≤op.vs.length∧O=op.vs.length - i∧fr=[.ptr o 0,.agg [.bool op.m,.str op.n,.list false (op.vs.map VDef.row),.list false (op.sub.map Sel.row)],.box [.bool op.m,.str op.n,.list false (op.vs.map VDef.row),.list false (op.sub.map Sel.row)],U,W,Y,Z,a,w8,w9,x,.int .i64 i]) (m:=op.vs.length) ⟨0,hd,UpO.refl _ _,Nat.zero_le _,rfl,rfl⟩ ?_;rintro O fr st' ⟨i,t,l,hi,rfl,rfl⟩;simp only[K74,rE,List.length_map];by_cases e:i < op.vs.length
 rotate_left
 · simp only[SS,e];refine we ?_;simp only[SS];exact wc ⟨_,_,rfl,t.le (by omega),hu.trans l,rfl⟩
 have y:=a3X e;have u:=k7 (show i+1 < 2 ^ 63 by omega);revert y;generalize op.vs[i]=d;intro y;simp only[K74,rA,rE,e,y,pa.sb,pa.wk];refine wa (a5u (Handed.upO M ho l) I d.n) (by simp only[R.allPlain_c,R.allPlain_n,pa.pl,R.plain_str]; rfl) (by simp only[List.map_cons,List.map_nil,pa.wk]; rfl) ?_;rintro _ st' ⟨rfl,rfl⟩;rcases e8 (k9 s d.n)with hh|hh
 · simp only[K74,rE,hh,u];exact wd (m':=op.vs.length - (i+1)) (by omega) ⟨i+1,t.le (by omega),l,e,rfl,rfl⟩
 · simp only[K74,rA,rE,hh,y];refine wa (D6 t (by unfold BN at *; omega) 17 d.n) rfl rfl ?_;rintro _ st2 ⟨z,J,rfl⟩;simp only[K74,rE,u];exact wd (m':=op.vs.length - (i+1)) (by omega) ⟨i+1,z,l.trans J,e,rfl,rfl⟩
theorem c3C {X:DX} (hX:X.Full) {op:Op} (z:op.Ok) {o N:Nat} {d0 st:St} (hd:Dc X o N st) (hu:UpO o d0 st) (ho:o < st.length) (hN:N+140000000+cS op.sub≤BN) (w3 w4 w5 w6 w7 w8 w9 Y a0:AV) :
 WC (fun n=>j1 (k8 tbl n) n b14 [.ptr o 0,.agg [.bool op.m,.str op.n,.list false (op.vs.map VDef.row),.list false (op.sub.map Sel.row)],.box [.bool op.m,.str op.n,.list false (op.vs.map VDef.row),.list false (op.sub.map Sel.row)],w3,w4,w5,w6,w7,w8,w9,Y,a0] st) (fun r=>∃ r' st',Go.Cb.finK [] (some r)=some (r',st')∧Dc X o (N+140000000+cS op.sub) st'∧UpO o d0 st'∧r'=.tuple []):=by
 have f9:=z.vs;unfold BN at hN;simp only[F7,b8r];refine wg (fun mm fr st'=>∃ (i:Nat) (w4 w5 w6:AV),Dc X o (N+3002*i) st'∧UpO o st st'∧i≤op.vs.length∧mm=op.vs.length - i∧fr=[.ptr o 0,.agg [.bool op.m,.str op.n,.list false (op.vs.map VDef.row),.list false (op.sub.map Sel.row)],.box [.bool op.m,.str op.n,.list false (op.vs.map VDef.row),.list false (op.sub.map Sel.row)],.int .i64 i,w4,w5,w6,w7,w8,w9,Y,a0]) (m:=op.vs.length) ⟨0,_,_,_,hd,UpO.refl _ _,Nat.zero_le _,rfl,rfl⟩ ?_;rintro mm fr st' ⟨i,w4,w5,w6,I,J,hi,rfl,rfl⟩;simp only[F7,rE,List.length_map];by_cases C:i < op.vs.length
 · have e1:=a3X C;have b4:=z.vo _ (List.getElem_mem C);have a5:=k7 (show i+1 < 2 ^ 63 by omega);revert e1 b4;generalize op.vs[i]=d;intro e1 b4;have b5:∀ {st2:St} {v4 v5 v6:AV},Dc X o (N+3002*i+3002) st2→UpO o st st2→∃ (i':Nat) (w4 w5 w6:AV),Dc X o (N+3002*i') st2∧UpO o st st2∧i'≤op.vs.length∧op.vs.length - (i+1)=op.vs.length - i'∧([.ptr o 0,.agg [.bool op.m,.str op.n,.list false (op.vs.map VDef.row),.list false (op.sub.map Sel.row)],.box [.bool op.m,.str op.n,.list false (op.vs.map VDef.row),.list false (op.sub.map Sel.row)],.int .i64 ((i+1:Nat):Int),v4,v5,v6,w7,w8,w9,Y,a0]:List AV)=[.ptr o 0,.agg [.bool op.m,.str op.n,.list false (op.vs.map VDef.row),.list false (op.sub.map Sel.row)],.box [.bool op.m,.str op.n,.list false (op.vs.map VDef.row),.list false (op.sub.map Sel.row)],.int .i64 i',w4,w5,w6,w7,w8,w9,Y,a0]:=fun h h2=>⟨i+1,_,_,_,h.le (by omega),h2,C,rfl,rfl⟩
   simp only[F7,rA,rE,C,e1];refine wg (fun mm fr O=>∃ (j:Nat),Dc X o (N+3002*i+j) O∧UpO o st O∧j≤i∧mm=i - j∧fr=[.ptr o 0,.agg [.bool op.m,.str op.n,.list false (op.vs.map VDef.row),.list false (op.sub.map Sel.row)],.box [.bool op.m,.str op.n,.list false (op.vs.map VDef.row),.list false (op.sub.map Sel.row)],.int .i64 i,.box [.str d.n,.str d.t.nm,.list false d.t.of,.bool d.t.bang,.bool d.has,.int .u8 d.v.kind,.int .i64 d.v.num,.str d.v.text,.list false (d.v.names.map b9),.list false (d.v.vals.map Val.row)],.int .i64 j,w6,w7,w8,w9,Y,a0]) (m:=i) ⟨0,I,J,Nat.zero_le _,rfl,rfl⟩ ?_;clear I J;rintro mm fr O ⟨j,U,a4,hj,rfl,rfl⟩;simp only[F7,rE];by_cases a6:j < i
   · have f2:=a3X (show j < op.vs.length by omega);have c2:=k7 (show j+1 < 2 ^ 63 by omega);revert f2;generalize op.vs[j]'_=u;intro f2;simp only[F7,rA,rE,a6,f2];refine wi (fun hx=>?_) (fun hx=>?_)
     · simp only[F7,rE];refine wa (D6 U (by unfold BN; omega) 14 d.n) rfl rfl ?_;rintro _ b0 ⟨y,W,rfl⟩;simp only[F7,rE,c2];exact wd (m':=i - (j+1)) (by omega) ⟨j+1,y,a4.trans W,a6,rfl,rfl⟩
     · simp only[F7,rE,c2];exact wd (m':=i - (j+1)) (by omega) ⟨j+1,U.le (by omega),a4,a6,rfl,rfl⟩
   have hb:=fun st=>a8D d.t st
   simp only[d.t.row_eta]at hb;have c1:=fun st h=>b4g (T:=X.T) (mo:=X.mo) false b4 d.t st h
   simp only[d.t.row_eta,d.v.row_eta]at c1;obtain⟨w,L,l,-⟩:=U.ob;unfold DX.cells at l;simp only[SS,a6];refine we ?_;simp only[F7,rA,rL,rE];refine wa (hb _) rfl rfl ?_;rintro _ O ⟨rfl,bn,rfl⟩;simp only[F7,rE,l];refine wa (b3H U.sc bn) rfl rfl ?_;rintro _ O ⟨rfl,c,rfl⟩;cases c;simp only[SS,l];refine wa (a1A U.sc bn) rfl rfl ?_;rintro _ O ⟨rfl,t,rfl,-⟩;simp only[SS,rA,rL];refine wi (fun hx=>?_) (fun hx=>?_);simp only[F7,rE];refine wa (D6 U (by unfold BN; omega) 15 d.n) rfl rfl ?_;rintro _ b0 ⟨y,W,rfl⟩;have W:=a4.trans W
   rotate_left
   have y:=U.le (Nat.le_succ _);have W:=a4
   rotate_left
   have y:=U.le (Nat.le_succ _);have W:=a4;all_goals
    clear U a4 l;obtain⟨w,L,l,-⟩:=y.ob;unfold DX.cells at l;rcases e8 d.has with hh|hh
    rotate_left
    · simp only[F7,rE,hh,a5];exact wd (m':=op.vs.length - (i+1)) (by omega) (b5 (y.le (by omega)) W)
    simp only[F7,rA,rL,rE,hh,l];refine wa (c1 _ y.sc) rfl rfl ?_;rintro _ d1 ⟨rfl,e,rfl⟩;cases e
    · simp only[F7,rE];refine wa (D6 y (by unfold BN; omega) 13 d.n) rfl rfl ?_;rintro _ d1 ⟨d2,e5,rfl⟩;simp only[F7,rE,a5];exact wd (m':=op.vs.length - (i+1)) (by omega) (b5 (d2.le (by omega)) (W.trans e5))
    · simp only[F7,rE,a5];exact wd (m':=op.vs.length - (i+1)) (by omega) (b5 (y.le (by omega)) W)
 simp only[SS,C];refine we ?_;generalize AV.int .i64 (i:Int)=w3;have b7:=I.le (M:=N+9100000) (by omega);have e4:=hu.trans J;have c3:=J.lt ho;clear I J hi C;have hR:=fun st=>b76 op st
 unfold Op.row at hR;simp only[F7,rA,rE];refine wa (hR _) rfl rfl ?_;rintro _ st1 ⟨rfl,rn,rfl⟩;simp only[SS];refine wa (b7f hX.fin _ op.sub (Nat.le_refl _) z.sub (Nat.le_trans (a4D _) z.w) rn _ _ b7 c3 (by unfold BN; omega)) rfl rfl ?_;rintro _ st2 ⟨b8,a9,rfl⟩;have a7:=a9.lt c3;have a9:=e4.trans a9;simp only[F7,rA,rE];refine wa (hR _) rfl rfl ?_;rintro _ st2 ⟨rfl,e6,rfl⟩;simp only[SS];have Z:=b4e hX.fin z.vs (n0:=st2.length) a7 _ op.sub (Nat.le_refl _) z.sub e6 _ [] .nils st2 b8 (.inl ⟨rfl,rfl⟩) (Nat.le_refl _) (by have:=z.w; unfold BN; omega) (by have:=z.w; simp; omega);unfold Op.row at Z;refine wa Z rfl rfl ?_;clear Z;rintro a1 O hV;obtain⟨s1,hI⟩:=hV.iv;have p1:=hI.sn.pln;have c4:=Nat.lt_of_lt_of_le a7 hV.len;have f7:=a4D op.sub;have f8:=hX.fin.un;have hw:=z.w;simp only[F7,rE,p1.st,p1.sb];refine wa (a9I hX.fin.ok (n0:=O.length) c4 _ op.sub [] .nils O hI.r.dc (Nat.le_refl _) (Nat.le_refl _) z.sub (.inl ⟨rfl,rfl⟩) (by simp; omega) (fun n hn=>by cases hn)) rfl rfl ?_;rintro a2 b0 ⟨s2,hC⟩;have p2:=hC.sn.pln;have c8:UpO o st2 b0:=⟨Nat.le_trans hV.len hC.pr.1,fun i x hi hx=>by have h3:=hV.old i x hi (fun e=>by cases e) hx;exact hC.pr.2 i x (List.getElem?_eq_some_iff.1 h3).1 h3⟩;have y:=hI.r.dc.pres c4 hC.pr;have b3:SeenH st2.length s1 a1 b0:=hI.sn.all fun i x hx=>hC.pr.2 i x (List.getElem?_eq_some_iff.1 hx).1 hx
 have c6:∀ q,u9 a1=some q→q < O.length:=fun q hq=>by
  rcases hI.sn with⟨_,e⟩|⟨_,q',_,e,l⟩
  · rw[e]at hq; cases hq
  · rw[e]at hq; cases hq; exact(List.getElem?_eq_some_iff.1 l).1
 have d4:s1.length≤2001:=by have:=hI.ln; simp at this; omega
 have f4:s2.length≤2001:=by have:=hC.ln; simp at this; omega
 have d3:=hC.kn;have b6:N+9100000+cS op.sub+Sel.ws op.sub≤N+9102001+cS op.sub:=by omega
 have y:=y.le b6;clear b6 hd b7 b8 hV hR hu ho;rcases hC.sn with⟨he,rfl⟩|⟨d6,q,hq,rfl,l⟩
 · simp only[F7];refine wg (fun mm fr st'=>st'=b0∧mm=0∧fr=[.ptr o 0,.agg [.bool op.m,.str op.n,.list false (op.vs.map VDef.row),.list false (op.sub.map Sel.row)],.box [.bool op.m,.str op.n,.list false (op.vs.map VDef.row),.list false (op.sub.map Sel.row)],w3,w4,w5,w6,a1,.nils,.int .i64 0,Y,a0]) (m:=0) ⟨rfl,rfl,rfl⟩ ?_;rintro mm fr st' ⟨rfl,rfl,rfl⟩;simp only[F7,rE,show ltI 0 0=false from rfl];refine we ?_;simp only[SS];refine(c3y z y (a9.trans c8) a7 b3 (by omega) (by unfold BN; omega) _ _ _ _ _ _ _ _).mono ?_;rintro r ⟨r',st',h1,h2,h3,h4⟩;exact⟨r',st',h1,h2.le (by omega),h3,h4⟩
 have e9:s2≠[]:=fun e=>d6 (by rw[e]; rfl)
 rw[a5n]at l;rw[List.length_map];simp only[F7];refine wg (fun mm fr st'=>∃ (i:Nat) (a':AV) (s':List (List Nat)) (Y:AV),Dc X o (N+9102001+cS op.sub+2001*i) st'∧UpO o st2 st'∧SeenH st2.length s' a' st'∧s'.length≤2001+2001*i∧st'[q]?=some (.cells (s2.map AV.str))∧u9 a'≠some q∧i≤s2.length∧mm=s2.length - i∧fr=[.ptr o 0,.agg [.bool op.m,.str op.n,.list false (op.vs.map VDef.row),.list false (op.sub.map Sel.row)],.box [.bool op.m,.str op.n,.list false (op.vs.map VDef.row),.list false (op.sub.map Sel.row)],w3,w4,w5,w6,a',.sl q 0 s2.length 1,.int .i64 i,Y,a0]) (m:=s2.length) ⟨0,a1,s1,_,y,c8,b3,d4,l,fun e=>by have:=c6 q e; omega,Nat.zero_le _,rfl,rfl⟩ ?_;clear y b3 p1 l c6 hI hC;rintro mm fr st' ⟨i,a',s',Y,I,J,b1,f3,l,c7,hi,rfl,rfl⟩;have pa:=b1.pln;simp only[F7,rE];by_cases C:i < s2.length
 rotate_left
 · simp only[SS,C];refine we ?_;simp only[SS];refine(c3y z I (a9.trans J) a7 b1 (by omega) (by unfold BN; omega) _ _ _ _ _ _ _ _).mono ?_;rintro r ⟨r',st',h1,h2,h3,h4⟩;exact⟨r',st',h1,h2.le (by omega),h3,h4⟩
 have e2:(s2.map AV.str).drop i=.str s2[i]::(s2.map AV.str).drop (i+1):=by rw[List.drop_eq_getElem_cons (by simpa using C),List.getElem_map]
 have d5:(i:Int) < (s2.length:Int):=by omega
 have a5:=k7 (show i+1 < 2 ^ 63 by omega);have hk:=d3 _ (List.getElem_mem C);revert e2 hk;generalize s2[i]=fn;intro e2 hk;obtain⟨w,L,b2,-⟩:=I.ob;unfold DX.cells at b2;cases hf:fgI X.frs fn with
 | none=>rw[hf]at hk; cases hk
 | some j =>
 obtain⟨f,hj,f0,a6⟩:=G6 hf;have e3:(X.frs.map Frag.row)[j]?=some [.str f.n,.str f.on,.list false (f.sub.map Sel.row)]:=by rw[List.getElem?_map,hj]; rfl
 have e7:((j:Int) < (X.frs.length:Int)):=by omega
 have c0:=List.mem_of_getElem? hj;have f1:=hX.fw f c0;simp only[F7,rA,rE,C,d5,l,b2,a2g,Nat.beq_refl,Nat.mul_one,e2];refine wm (a8e I fn) rfl rfl ?_;rintro _ st' ⟨rfl,rfl⟩;refine⟨I.kp,?_⟩;rw[hf];simp only[F7,rA,rE,nI,e3,pa.sb,pa.wk];have Z:=b4e hX.fin z.vs (n0:=st2.length) a7 _ f.sub (Nat.le_refl _) (hX.fin.ok f c0) f.on _ s' a' st' I b1 J.len (by unfold BN; omega) (by omega);unfold Op.row at Z;refine wa Z (by simp only[R.allPlain_c,R.allPlain_n,pa.pl,R.plain_str]; rfl) (by simp only[List.map_cons,List.map_nil,pa.wk]; rfl) ?_;clear Z;rintro a3 d1 hV;obtain⟨s3,hI⟩:=hV.iv;have p3:=hI.sn.pln;have d7:q≠o:=by omega
 have f6:=(List.getElem?_eq_some_iff.1 l).1;have e0:∀ i,i < st2.length→u9 a'≠some i:=fun i hi e=>by
  rcases b1 with⟨_,e1⟩|⟨_,q',f5,e1,_⟩
  · rw[e1]at e; cases e
  · rw[e1]at e; cases e; omega
 simp only[F7,rE,p3.st,p3.sb,a5];refine wd (m':=s2.length - (i+1)) (by omega) ⟨i+1,a3,s3,_,hI.r.dc.le (by omega),⟨Nat.le_trans J.len hV.len,fun k x hk hx=>hV.old k x hk (e0 k (List.getElem?_eq_some_iff.1 hx).1) (J.old k x hk hx)⟩,hI.sn,by have:=hI.ln; omega,hV.old q _ d7 c7 l,?_,C,rfl,rfl⟩
 rcases hV.rt with e|e
 · rw[e]; exact c7
 · exact fun e2=>by have:=e q e2; omega
theorem d1p {X:DX} (T:X.Full) {op:Op} (u:op.Ok) {o N:Nat} {st:St} (e:Dc X o N st) (U:o < st.length) (Y:N+150000000+cS op.sub≤BN) :
 EvQ tbl 74 [.ptr o 0,.agg op.row] st (fun a st'=>Dc X o (N+150000000+cS op.sub) st'∧UpO o st st'∧a=.tuple []):=by
 have O:=fun st=>b76 op st
 obtain⟨w,L,l,-⟩:=e.ob;unfold DX.cells at l;unfold Op.row at *
 refine wj (fn:=a74) rfl rfl rfl ?_;simp only[F7,rA,rS,rE,l,a2g,Nat.beq_refl];refine wm (O _) rfl rfl ?_;rintro _ st ⟨rfl,M,rfl⟩;refine⟨e.kp,?_⟩;simp only[SS];refine wa (a1A e.sc M) rfl rfl ?_;rintro _ st ⟨rfl,t,rfl,-⟩;simp only[SS,rA,rL];refine wi (fun W=>?_) (fun W=>?_)
 · simp only[F7,rA,rE];refine wa (O _) rfl rfl ?_;rintro _ st ⟨rfl,M,rfl⟩;simp only[SS];refine wa (D6 e (by unfold BN at *; omega) 22 M) rfl rfl ?_;rintro _ st1 ⟨I,v,rfl⟩;simp only[SS];refine(c3C T u I v (v.lt U) (by omega) _ _ _ _ _ _ _ _ _).mono ?_;rintro r ⟨J,st',x,y,z,C⟩;exact⟨J,st',x,y.le (by omega),z,C⟩
 · simp only[SS];refine(c3C T u e (UpO.refl _ _) U (by omega) _ _ _ _ _ _ _ _ _).mono ?_;rintro r ⟨J,st',x,y,z,C⟩;exact⟨J,st',x,y.le (by omega),z,C⟩
structure DocK (D:Docm):Prop where
 ol:D.ops.length≤3000
 fl:D.frags.length≤3000
 oo:∀ o∈D.ops,o.Ok
 fo:∀ f∈D.frags,a1f f.sub∧Sel.ws f.sub≤2001
 os:C8 D.ops≤2001
 fs:C6 D.frags≤2001
theorem a8n:∀ (l:List Op) (i:Nat),C8 (l.drop i)≤C8 l
 | [],i=>by rw[List.drop_nil]; exact Nat.le_refl _
 | v::l,0=>Nat.le_refl _
 | v::l,i+1=>by rw[List.drop_succ_cons,C8]; exact Nat.le_trans (a8n l i) (Nat.le_add_left _ _)
theorem a7V (f:Frag) (l:List Frag):C6 (f::l)=1+sizes f.sub+C6 l:=by simp[C6,j7,k9]
theorem a7K:∀ (l:List Frag) (i:Nat),C6 (l.drop i)≤C6 l
 | [],i=>by rw[List.drop_nil]; exact Nat.le_refl _
 | v::l,0=>Nat.le_refl _
 | v::l,i+1=>by rw[List.drop_succ_cons,a7V]; exact Nat.le_trans (a7K l i) (Nat.le_add_left _ _)
def T1 (T:List SD) (mo:Nat) (D:Docm):DX:=⟨T,mo,D.ops.map Op.row,D.frags⟩
theorem b4l {l:List Frag} {i:Nat} (h:i < l.length):(l.map Frag.row)[i]?=some [.str l[i].n,.str l[i].on,.list false (l[i].sub.map Sel.row)]:=by rw[List.getElem?_map,List.getElem?_eq_getElem h]; rfl
theorem d0N {T:List SD} {mo:Nat} {D:Docm} (hD:DocK D) (hX:(T1 T mo D).Full) {o N:Nat} {b6 st:St} {s:List (List Nat)} {a:AV} (hd:Dc (T1 T mo D) o N st) (hu:UpO o b6 st) (ho:o < st.length) (hs:SeenH (o+1) s a st) (d3:s.length≤9000) (hN:N+1000000000000≤BN) (w3 w6 w7 w8 w9 y z:AV) :
 WC (fun n=>j1 (k8 tbl n) n a9d [.ptr mo 0,.agg [.list false (D.ops.map Op.row),.list false (D.frags.map Frag.row)],.box [.list false (D.ops.map Op.row),.list false (D.frags.map Frag.row)],w3,.ptr o 0,a,w6,w7,w8,w9,y,z] st) (fun r=>∃ r' st',Go.Cb.finK [.v 3] (some r)=some (r',st')∧UpO o b6 st'∧∃ L:List (Int×List Nat),r'=.list false (L.map isR)):=by
 have d1:=hD.fl;have d2:=hD.fs;have pa:=hs.pln;unfold BN at hN;simp only[C9,b3S];refine wg (fun mm fr st'=>∃ (i:Nat) (y z:AV),Dc (T1 T mo D) o (N+100010000*i+200000000*(C6 D.frags - C6 (D.frags.drop i))) st'∧UpO o st st'∧i≤D.frags.length∧mm=D.frags.length - i∧fr=[.ptr mo 0,.agg [.list false (D.ops.map Op.row),.list false (D.frags.map Frag.row)],.box [.list false (D.ops.map Op.row),.list false (D.frags.map Frag.row)],w3,.ptr o 0,a,w6,w7,w8,.int .i64 i,y,z]) (m:=D.frags.length) ⟨0,_,_,hd.le (by omega),UpO.refl _ _,Nat.zero_le _,rfl,rfl⟩ ?_;rintro mm fr st' ⟨i,y,z,a6,a0,hi,rfl,rfl⟩;simp only[C9,rE,List.length_map];by_cases t:i < D.frags.length
 rotate_left
 · obtain⟨w,L,Z,-⟩:=a6.ob;unfold DX.cells at Z;simp only[SS,t];refine we ?_;simp only[C9,rE,Z,List.length_map];refine wi (fun hx=>?_) (fun hx=>?_)
   · have hL:50≤L.length:=by rw[ltI_eq]at hx; simp at hx; omega
     have c4:(if(0:Int)≤50∧(50:Int)≤(L.length:Int)then some (Int.toNat 50)else none)=some 50:=if_pos ⟨by decide,by omega⟩;simp only[C9,rE,Z,List.length_map,a4A,c4];exact wc ⟨_,_,rfl,hu.trans a0,L.take 50,by rw[List.map_take]; rfl⟩
   · simp only[C9,rE,Z];exact wc ⟨_,_,rfl,hu.trans a0,L,rfl⟩
 have e1:=b4l t;have c3:=k7 (show i+1 < 2 ^ 63 by omega);obtain⟨W,b2⟩:=hD.fo _ (List.getElem_mem t);have c2:=a7K D.frags i;have c1:C6 (D.frags.drop i)=1+sizes D.frags[i].sub+C6 (D.frags.drop (i+1)):=by rw[List.drop_eq_getElem_cons t,a7V]
 have a7:∀ {m:Nat} {st2:St} {c8 d0:AV},Dc (T1 T mo D) o m st2→UpO o st st2→m≤N+100010000*i+200000000*(C6 D.frags - C6 (D.frags.drop i))+4000+cS D.frags[i].sub→∃ (i':Nat) (y z:AV),Dc (T1 T mo D) o (N+100010000*i'+200000000*(C6 D.frags - C6 (D.frags.drop i'))) st2∧UpO o st st2∧i'≤D.frags.length∧D.frags.length - (i+1)=D.frags.length - i'∧([.ptr mo 0,.agg [.list false (D.ops.map Op.row),.list false (D.frags.map Frag.row)],.box [.list false (D.ops.map Op.row),.list false (D.frags.map Frag.row)],w3,.ptr o 0,a,w6,w7,w8,.int .i64 ((i+1:Nat):Int),c8,d0]:List AV)=[.ptr mo 0,.agg [.list false (D.ops.map Op.row),.list false (D.frags.map Frag.row)],.box [.list false (D.ops.map Op.row),.list false (D.frags.map Frag.row)],w3,.ptr o 0,a,w6,w7,w8,.int .i64 i',y,z]:=fun h h2 h3=>⟨i+1,_,_,h.le (by unfold cS at h3; omega),h2,t,rfl,rfl⟩
 have a9:N+100010000*i+200000000*(C6 D.frags - C6 (D.frags.drop i))+4000+cS D.frags[i].sub≤5000000000000:=by unfold cS; omega
 clear c2 c1;generalize N+100010000*i+200000000*(C6 D.frags - C6 (D.frags.drop i))=Ni at *
 revert e1 W b2 a7 a9;generalize D.frags[i]=f;intro e1 W b2 a7 a9;simp only[C9,rA,rE,t,e1];refine wg (fun mm fr a4=>∃ (j:Nat),Dc (T1 T mo D) o (Ni+j) a4∧UpO o st a4∧j≤i∧mm=i - j∧fr=[.ptr mo 0,.agg [.list false (D.ops.map Op.row),.list false (D.frags.map Frag.row)],.box [.list false (D.ops.map Op.row),.list false (D.frags.map Frag.row)],w3,.ptr o 0,a,w6,w7,w8,.int .i64 i,.box [.str f.n,.str f.on,.list false (f.sub.map Sel.row)],.int .i64 j]) (m:=i) ⟨0,a6,a0,Nat.zero_le _,rfl,rfl⟩ ?_;clear a6 a0;rintro mm fr a4 ⟨j,U,a1,hj,rfl,rfl⟩;simp only[C9,rE];by_cases Y:j < i
 · have f2:=b4l (show j < D.frags.length by omega);have b3:=k7 (show j+1 < 2 ^ 63 by omega);revert f2;generalize D.frags[j]'_=u;intro f2;simp only[C9,rA,rE,Y,f2];refine wi (fun hx=>?_) (fun hx=>?_)
   · simp only[C9,rE];refine wa (D6 U (by unfold BN; omega) 3 f.n) rfl rfl ?_;rintro _ b7 ⟨l,C,rfl⟩;simp only[C9,rE,b3];exact wd (m':=i - (j+1)) (by omega) ⟨j+1,l,a1.trans C,Y,rfl,rfl⟩
   · simp only[C9,rE,b3];exact wd (m':=i - (j+1)) (by omega) ⟨j+1,U.le (by omega),a1,Y,rfl,rfl⟩
 have l:=U.le (M:=Ni+3000) (by omega);have C:=a1;clear U a1;simp only[SS,Y];refine we ?_;simp only[C9,rE];refine wa (a3F l f.on) rfl rfl ?_;rintro _ a4 ⟨rfl,c,rfl⟩;cases c;simp only[C9,rE];refine wa (D6 l (by unfold BN; omega) 4 f.on) rfl rfl ?_;rintro _ b7 ⟨O,e,rfl⟩;have e:=C.trans e
 rotate_left
 have O:=l.le (Nat.le_succ _);have e:=C;all_goals
  clear l C;simp only[C9,rE,pa.sb,pa.wk];refine wa (a5u (Handed.upO hs (Nat.lt_succ_self _) e) (by omega) f.n) (by simp only[R.allPlain_c,R.allPlain_n,pa.pl,R.plain_str]; rfl) (by simp only[List.map_cons,List.map_nil,pa.wk]; rfl) ?_;rintro _ b7 ⟨rfl,rfl⟩;rcases e8 (k9 s f.n)with hh|hh
  simp only[C9,rE,hh];have a5:=O.le (Nat.le_succ _);have I:=e
  rotate_left
  simp only[C9,rE,hh];refine wa (D6 O (by unfold BN; omega) 6 f.n) rfl rfl ?_;rintro _ d6 ⟨a5,I,rfl⟩;have I:=e.trans I;simp only[C9,rE];all_goals
   clear O e;have b4:=I.lt ho;have d5:j7 (T1 T mo D).frs []≤2001:=hX.fin.un;have d4:=a4D f.sub;refine wa (a9I hX.fin.ok b4 _ f.sub [] .nils _ a5 (Nat.le_refl _) (Nat.le_refl _) W (.inl ⟨rfl,rfl⟩) (by simp; omega) (fun n hn=>by cases hn)) rfl rfl ?_;rintro a2 b8 ⟨s2,hC⟩;have p2:=hC.sn.pln;have b0:=a5.pres b4 hC.pr;have b5:UpO o st b8:=I.trans ⟨hC.pr.1,fun i x _ hx=>hC.pr.2 i x (List.getElem?_eq_some_iff.1 hx).1 hx⟩;have c6:=hC.ln;simp only[SS,p2.sb,p2.wk];refine wa (a5u hC.sn (by simp at c6; omega) f.n) (by simp only[R.allPlain_c,R.allPlain_n,p2.pl,R.plain_str]; rfl) (by simp only[List.map_cons,List.map_nil,p2.wk]; rfl) ?_;rintro _ b8 ⟨rfl,rfl⟩;rcases e8 (k9 s2 f.n)with hh|hh
   simp only[C9,rE,hh];refine wa (D6 b0 (by unfold BN; omega) 7 f.n) rfl rfl ?_;rintro _ d7 ⟨b1,J,rfl⟩;have J:=b5.trans J;simp only[C9,rE]
   rotate_left
   simp only[C9,rE,hh];have b1:=b0.le (Nat.le_succ _);have J:=b5;all_goals
    refine wa (b7f hX.fin _ f.sub (Nat.le_refl _) W (by omega) f.on _ _ b1 (J.lt ho) (by unfold BN; omega)) rfl rfl ?_;rintro _ st8 ⟨c0,c7,rfl⟩;simp only[C9,rE,c3];exact wd (m':=D.frags.length - (i+1)) (by omega) (a7 c0 (J.trans c7) (by omega))
theorem b1D {l:List Op} {i:Nat} (h:i < l.length):(l.map Op.row)[i]?=some [.bool l[i].m,.str l[i].n,.list false (l[i].vs.map VDef.row),.list false (l[i].sub.map Sel.row)]:=by rw[List.getElem?_map,List.getElem?_eq_getElem h]; rfl
theorem c4B {T:List SD} {mo:Nat} {D:Docm} (hD:DocK D) (hX:(T1 T mo D).Full) {st:St} (b4:Sc9 T mo st) :
 EvQ tbl 35 [.ptr mo 0,.agg D.row] st (fun a st'=>Gr st st'∧∃ L:List (Int×List Nat),a=.list false (L.map isR)):=by
 obtain⟨_,a1⟩:=b4.1.ob;have a1:=(List.getElem?_eq_some_iff.1 a1).1;have d1:=hD.ol;have d2:=hD.os;have a7:∀ w,Dc (T1 T mo D) st.length 0 (st++[.cells [.ptr mo 0,.list false (D.ops.map Op.row),.list false (D.frags.map Frag.row),.list w []]]):=fun w=>⟨⟨w,[],p9 _ _,Nat.le_refl _⟩,b4.gr fun x v=>m3 v,a1,hD.fl⟩
 have b5:∀ w:Bool,UpO st.length st (st++[.cells [.ptr mo 0,.list false (D.ops.map Op.row),.list false (D.frags.map Frag.row),.list w []]]):=fun w=>⟨by simp,fun i x _ v=>m3 v⟩
 have c7:j7 (T1 T mo D).frs []≤2001:=hX.fin.un;unfold Docm.row;refine wj (fn:=a35) rfl rfl rfl ?_;simp only[C9,rA,rS,rL,rE];refine wg (fun mm fr st'=>∃ (i:Nat) (a:AV) (s:List (List Nat)) (w7 w8:AV),Dc (T1 T mo D) st.length (250010000*i+200000000*(C8 D.ops - C8 (D.ops.drop i))) st'∧UpO st.length st st'∧st.length < st'.length∧SeenH (st.length+1) s a st'∧s.length+j7 D.frags s≤2001∧a8b (T1 T mo D) s∧i≤D.ops.length∧mm=D.ops.length - i∧fr=[.ptr mo 0,.agg [.list false (D.ops.map Op.row),.list false (D.frags.map Frag.row)],.box [.list false (D.ops.map Op.row),.list false (D.frags.map Frag.row)],.nils,.ptr st.length 0,a,.int .i64 i,w7,w8,.undef,.undef,.undef]) (m:=D.ops.length) ⟨0,.nils,[],_,_,(a7 _).le (by omega),b5 _,by simp,.inl ⟨rfl,rfl⟩,by rw[List.length_nil,Nat.zero_add]; exact c7,fun n hn=>(by cases hn),Nat.zero_le _,rfl,rfl⟩ ?_;clear a7 b5;rintro mm fr st' ⟨i,a,s,w7,w8,a0,b6,b1,hs,c6,c3,hi,rfl,rfl⟩;have pa:=hs.pln;simp only[C9,rE,List.length_map];by_cases e:i < D.ops.length
 rotate_left
 · simp only[SS,e];refine we ?_;simp only[SS];refine(d0N hD hX a0 b6 b1 hs (by omega) (by unfold BN; omega) _ _ _ _ _ _ _).mono ?_;rintro r ⟨r',st2,h1,h2,h3⟩;exact⟨r',st2,h1,fun i x v=>h2.old i x (by have:=(List.getElem?_eq_some_iff.1 v).1; omega) v,h3⟩
 have e1:=b1D e;have c2:=k7 (show i+1 < 2 ^ 63 by omega);have J:=hD.oo _ (List.getElem_mem e);have c1:=a8n D.ops i;have c0:C8 (D.ops.drop i)=sizes D.ops[i].sub+C8 (D.ops.drop (i+1)):=by rw[List.drop_eq_getElem_cons e,C8]
 have Y:∀ l,cS l=100000000+200000000*sizes l:=fun _=>rfl
 have a4:∀ {m:Nat} {st2:St} {a2 v7 v8:AV} {s2:List (List Nat)},Dc (T1 T mo D) st.length m st2→UpO st.length st st2→st.length < st2.length→SeenH (st.length+1) s2 a2 st2→s2.length+j7 D.frags s2≤2001→a8b (T1 T mo D) s2→m≤250010000*i+200000000*(C8 D.ops - C8 (D.ops.drop i))+150004000+cS D.ops[i].sub→∃ (i':Nat) (a:AV) (s:List (List Nat)) (w7 w8:AV),Dc (T1 T mo D) st.length (250010000*i'+200000000*(C8 D.ops - C8 (D.ops.drop i'))) st2∧UpO st.length st st2∧st.length < st2.length∧SeenH (st.length+1) s a st2∧s.length+j7 D.frags s≤2001∧a8b (T1 T mo D) s∧i'≤D.ops.length∧D.ops.length - (i+1)=D.ops.length - i'∧([.ptr mo 0,.agg [.list false (D.ops.map Op.row),.list false (D.frags.map Frag.row)],.box [.list false (D.ops.map Op.row),.list false (D.frags.map Frag.row)],.nils,.ptr st.length 0,a2,.int .i64 ((i+1:Nat):Int),v7,v8,.undef,.undef,.undef]:List AV)=[.ptr mo 0,.agg [.list false (D.ops.map Op.row),.list false (D.frags.map Frag.row)],.box [.list false (D.ops.map Op.row),.list false (D.frags.map Frag.row)],.nils,.ptr st.length 0,a,.int .i64 i',w7,w8,.undef,.undef,.undef]:=fun h h2 h3 h4 h5 h6 h7=>⟨i+1,_,_,_,_,h.le (by rw[Y]at h7; omega),h2,h3,h4,h5,h6,e,rfl,rfl⟩
 have a6:250010000*i+200000000*(C8 D.ops - C8 (D.ops.drop i))+150004000+cS D.ops[i].sub≤5000000000000:=by rw[Y]; omega
 clear c1 c0 Y;generalize 250010000*i+200000000*(C8 D.ops - C8 (D.ops.drop i))=Ni at *
 revert e1 J a4 a6;generalize D.ops[i]=op;intro e1 J a4 a6;simp only[C9,rA,rE,e,e1];refine wg (fun mm fr a5=>∃ (j:Nat),Dc (T1 T mo D) st.length (Ni+j) a5∧UpO st.length st' a5∧j≤i∧mm=i - j∧fr=[.ptr mo 0,.agg [.list false (D.ops.map Op.row),.list false (D.frags.map Frag.row)],.box [.list false (D.ops.map Op.row),.list false (D.frags.map Frag.row)],.nils,.ptr st.length 0,a,.int .i64 i,.box [.bool op.m,.str op.n,.list false (op.vs.map VDef.row),.list false (op.sub.map Sel.row)],.int .i64 j,.undef,.undef,.undef]) (m:=i) ⟨0,a0,UpO.refl _ _,Nat.zero_le _,rfl,rfl⟩ ?_;clear a0;rintro mm fr a5 ⟨j,C,U,hj,rfl,rfl⟩;simp only[C9,rE];by_cases I:j < i
 · have f2:=b1D (show j < D.ops.length by omega);have b0:=k7 (show j+1 < 2 ^ 63 by omega);revert f2;generalize D.ops[j]'_=u;intro f2;simp +contextual only [C9,rA,rE,I,f2];refine wi (fun v=>?_) (fun v=>?_)
   · simp only[C9,rE];refine wa (D6 C (by unfold BN; omega) 1 op.n) rfl rfl ?_;rintro _ c8 ⟨z,N,rfl⟩;simp only[C9,rE,b0];exact wd (m':=i - (j+1)) (by omega) ⟨j+1,z,U.trans N,I,rfl,rfl⟩
   · simp only[C9,rE,b0];exact wd (m':=i - (j+1)) (by omega) ⟨j+1,C.le (by omega),U,I,rfl,rfl⟩
 have z:=C.le (M:=Ni+3000) (by omega);have N:=U;clear C U;simp only[SS,I];refine we ?_;simp +contextual only [C9,rE,List.length_map];refine wi (fun v=>?_) (fun v=>?_);simp only[C9];refine wa (D6 z (by unfold BN; omega) 2 []) rfl rfl ?_;rintro _ c8 ⟨Z,t,rfl⟩;have t:=N.trans t
 rotate_left
 have Z:=z.le (Nat.le_succ _);have t:=N;all_goals
  have c4:=Handed.upO hs (Nat.lt_succ_self _) t;have b2:=Nat.lt_of_lt_of_le b1 t.len;simp only[C9,rE,pa.sb,pa.wk];refine wa (a9I hX.fin.ok (Nat.lt_succ_self _) _ op.sub s a _ Z b2 (Nat.le_refl _) J.sub c4 (show s.length+j7 D.frags s≤9000 by omega) c3) (by simp only[R.allPlain_c,R.allPlain_n,pa.pl]; rfl) (by simp only[List.map_cons,List.map_nil,pa.wk]; rfl) ?_;rintro a2 d0 ⟨s2,W⟩;have p2:=W.sn.pln;have b7:=Z.pres (Nat.lt_succ_self _) W.pr;have y:st.length < d0.length:=W.pr.1;have b3:=d1p hX J b7 y (by unfold BN; omega);unfold Op.row at b3;simp only[C9,rA,rE,p2.st,p2.sb];refine wa b3 rfl rfl ?_;rintro _ d3 ⟨b8,O,rfl⟩;simp only[C9,rE,c2];refine wd (m':=D.ops.length - (i+1)) (by omega) (a4 b8 ⟨?_,fun i x a9 v=>?_⟩ (O.lt y) (Handed.upO W.sn (Nat.lt_succ_self _) O) (Nat.le_trans W.ln c6) W.kn (by omega))
  · exact Nat.le_trans (Nat.le_of_lt y) O.len
  · have h1:=(b6.trans t).old i x a9 v;exact O.old i x a9 (W.pr.2 i x (by have:=(List.getElem?_eq_some_iff.1 v).1; omega) h1)
theorem d1D (op:Op) (k:List Nat) {o:Nat} {st:St} (h:st[o]?=some (.cells [.str k])):EvQ tbl 78 [.agg op.row,.ptr o 0] st (a0a st):=by unfold Op.row;refine wj (fn:=a78) rfl rfl rfl ?_;simp only[K78,rS,rE,h];exact wc ⟨_,_,rfl,rfl,_,rfl⟩
theorem c8D (l:List Op) (v:l.length≤3000) (k:List Nat) {o:Nat} {st:St} (h:st[o]?=some (.cells [.str k])):EvQ tbl 77 [.list false (l.map Op.row),.func 78 [] [.ptr o 0]] st (fun a st'=>st'=st∧∃ i:Int,a=.int .i64 i):=by
 refine wj (fn:=a77) rfl rfl rfl ?_;simp only[K77,rS,List.length_map];refine wg (fun u fr st'=>st'=st∧∃ (i:Nat) (v3:AV),i≤l.length∧u=l.length - i∧fr=[.list false (l.map Op.row),.func 78 [] [.ptr o 0],.int .i64 0,v3,.int .i64 l.length,.int .i64 i]) (m:=l.length) ⟨rfl,0,_,Nat.zero_le _,rfl,rfl⟩ ?_;rintro u fr st' ⟨rfl,i,v3,hi,rfl,rfl⟩;simp only[K77];by_cases e:i < l.length
 rotate_left
 · simp only[SS,e];refine we ?_;simp only[K77];exact wc ⟨_,_,rfl,rfl,_,rfl⟩
 have e2:=b1D e;have t:=d1D l[i] k h;revert e2 t;generalize l[i]=op;intro e2 t;unfold Op.row at t;simp only[K77,rA,rE,e,e2];refine wl t rfl rfl ?_;rintro _ _ ⟨rfl,c,rfl⟩;cases c
 · simp only[K77,k7 (show i+1 < 2 ^ 63 by omega)];exact wd (m':=l.length - (i+1)) (by omega) ⟨rfl,i+1,_,e,rfl,rfl⟩
 · simp only[K77];refine wh ?_;simp only[SS];exact wc ⟨_,_,rfl,rfl,_,rfl⟩
def noOp:Op:=⟨false,[],[],[]⟩
def N0:List Op→Op×Int
 | [op]=>(op,0)
 | _=>(noOp,6)
theorem a9V (l:List Op) (t:l.length≤3000) (e:eqI (l.length:Int) 1=false) (F:List (List AV)) (st:St):EvQ tbl 37 [.agg [.list false (l.map Op.row),.list false F],.str []] st (fun a st'=>Gr st st'∧a=.tuple [.agg noOp.row,.int .i64 6]):=by
 have v:EvQ tbl 77 [.list false (l.map Op.row),.func 78 [] [.ptr st.length 0]] (st++[.cells [.str []]]) (fun a st'=>st'=st++[.cells [.str []]]∧∃ i:Int,a=.int .i64 i):=c8D l t [] (p9 _ _);refine wj (fn:=a37) rfl rfl rfl ?_;simp only[K37,rS,rE,p9,R2,List.length_map,e];refine wa v rfl rfl ?_;rintro _ _ ⟨rfl,i,rfl⟩;rcases e8 (ltI i 0)with c|c
 all_goals
  simp only[K37,rA,rE,p9,R2,c];exact wc ⟨_,_,rfl,fun i x u=>m3 u,rfl⟩
theorem c2q (l:List Op) (e:l.length≤3000) (F:List (List AV)) (st:St):EvQ tbl 37 [.agg [.list false (l.map Op.row),.list false F],.str []] st (fun a st'=>Gr st st'∧a=.tuple [.agg (N0 l).1.row,.int .i64 (N0 l).2]):=by
 match l,e with
 | [op],_ =>refine wj (fn:=a37) rfl rfl rfl ?_;rw[List.map_cons,List.map_nil];unfold Op.row;simp only[K37,rA,rS,rE,p9,R2,show eqI (((0+1:Nat)):Int) 1=true from rfl];exact wc ⟨_,_,rfl,fun i x t=>m3 t,rfl⟩
 | [],e=>exact a9V [] e rfl F st
 | a::b::l,e=>exact a9V _ e (by rw[eqI_eq]; simp; omega) F st
def b2A (T:List SD):Prop:=∀ n,H2 T n 5=true→∀ f∈fsD T n,H2 T f.t.bs 5=false∧f.v.Cz
def a3E (T:List SD) (so:Nat) (n:List Nat) (v:Val):E2:=a7P T false (J7 (CC.zero so) (S0 T) (fsD T n) false) n v
theorem c0y {T:List SD} {so:Nat} (J:b2A T) (t:TRef) {st:St} (e:SchD T so st) {x:Val} (Y:x.Cz):EvQ tbl 130 [.agg ((CC.zero so).row false),.agg t.row,.agg x.row] st (fun a st'=>Gr st st'∧a=y9 (O2 (CC.zero so) false (a3E T so) t x)) :=
 b2K (CC.zero_ok so) (G:=fun s=>Gr st s) (a3E T so) t (fun st1 M y L=>b4m (C:=CC.zero so) (p:=false) (G:=fun s=>Gr st s) (fun s W=>e.gr W) M t.bs y L (J7 (CC.zero so) (S0 T) (fsD T t.bs) false) (fun I st2 v=>(b0m (C:=CC.zero so) (S0 T) (fsD T t.bs) (c5T e t.bs) (fun f l=>(J _ I f l).2) (fun f l D p O u N z Z=>by rcases O with rfl|rfl<;>exact a7u (CC.zero_ok _) f.t (J _ I f l).1 p u N z Z) false (e.gr v) y L).mono fun a st' ⟨U,h⟩=>⟨v.trans U,h⟩)) st (Gr.refl _) x Y
def a0R:List AV:=[.int .u8 0,.int .i64 0,.str [],.list false [],.list false []]
theorem b79 {T:List SD} {so:Nat} (u:b2A T) (t:TRef) {st:St} (l:SchD T so st) {x:Val} (z:x.Cz):EvQ tbl 81 [.ptr so 0,.agg t.row,.agg x.row,.agg a0R] st (fun a st'=>Gr st st'∧a=y9 (O2 (CC.zero so) false (a3E T so) t x)):=by
 have h:=c0y u t l z;generalize O2 (CC.zero so) false (a3E T so) t x=r at *
 obtain⟨y,ok,e⟩:=r;unfold a0R;simp only[t.row_eta,x.row_eta,CC.row,CC.zero]at h ⊢;refine wj (fn:=a81) rfl rfl rfl ?_;simp only[K81,rA,rS,rL,rE];refine wa h rfl rfl ?_;rintro _ st' ⟨v,rfl⟩;rw[y9,y.row_eta];simp only[SS,rA];exact wc ⟨_,_,rfl,v,rfl⟩
def a4p (T:List SD) (so:Nat) (d:VDef):E2:=O2 (CC.zero so) false (a3E T so) d.t d.v
def D8 (T:List SD) (so:Nat):List VDef→List (List Nat)→List Val→Val×Int
 | [],ks,ls=>(.mk 6 0 [] ks ls,0)
 | d::l,ks,ls=>if d.has then(if eqI (a4p T so d).2.2 0 then(if(a4p T so d).2.1 then D8 T so l (ks++[d.n]) (ls++[(a4p T so d).1])else D8 T so l ks ls)else(Val.none,(a4p T so d).2.2))else if d.t.bang then(Val.none,9)else D8 T so l ks ls
theorem a5r (T:List SD) (so:Nat):∀ (l:List VDef) (ks:List (List Nat)) (ls:List Val),ks.length=ls.length→(D8 T so l ks ls).1.names.length=(D8 T so l ks ls).1.vals.length∧(D8 T so l ks ls).1.names.length≤ks.length+l.length
 | [],ks,ls,h=>by rw[D8]; exact⟨h,Nat.le_refl _⟩
 | d::l,ks,ls,h=>by
  have t:=a5r T so l ks ls h;have e:=a5r T so l (ks++[d.n]) (ls++[(a4p T so d).1]) (by simp[h]);rw[D8];rw[List.length_cons];rw[List.length_append,List.length_singleton]at e
  repeat' split
  all_goals first
   | exact⟨e.1,by omega⟩
   | exact⟨t.1,by omega⟩
   | exact⟨rfl,Nat.zero_le _⟩
theorem c6Q {T:List SD} {so:Nat} (hI:b2A T) {V:List VDef} (hl:V.length≤3000) (hV:∀ d∈V,d.v.Cz) {st:St} (a0:SchD T so st):EvQ tbl 38 [.ptr so 0,.list false (V.map VDef.row),.agg a0R] st (fun a st'=>Gr st st'∧∃ s,a=.tuple [.agg (D8 T so V [] []).1.row,.str s,.int .i64 (D8 T so V [] []).2]):=by
 unfold a0R;refine wj (fn:=a38) rfl rfl rfl ?_;simp only[K38,rA,rS,rL,p9,V4,List.length_map];refine wg (fun mm fr st'=>∃ (i:Nat) (w8 w9 I J:AV) (ks:List (List Nat)) (ls:List Val),Gr st st'∧st'[st.length]?=some (E8 ks ls)∧ks.length=ls.length∧ks.length≤i∧D8 T so V [] []=D8 T so (V.drop i) ks ls∧i≤V.length∧mm=V.length - i∧fr=[.ptr so 0,.list false (V.map VDef.row),.agg [.int .u8 0,.int .i64 0,.str [],.list false [],.list false []],.box [.int .u8 0,.int .i64 0,.str [],.list false [],.list false []],.box [.int .u8 0,.int .i64 0,.str [],.list true [],.list true []],.str [],.int .i64 0,.ptr st.length 0,w8,w9,I,J,.list false (V.map VDef.row),.int .i64 V.length,.int .i64 i]) (m:=V.length) ⟨0,_,_,_,_,[],[],Gr.app _ _,p9 _ _,rfl,Nat.le_refl _,rfl,Nat.zero_le _,rfl,rfl⟩ ?_;rintro mm fr st' ⟨i,w8,w9,I,J,ks,ls,M,ho,U,a4,u,hi,rfl,rfl⟩;simp only[K38];by_cases x:i < V.length
 rotate_left
 · rw[List.drop_of_length_le (by omega),D8]at u;rw[u];unfold E8 at ho;simp only[SS,x];refine we ?_;simp only[K38,rA,ho];exact wc ⟨_,_,rfl,M,[],by rw[Val.row_eq]; rfl⟩
 have e1:=a3X x;have L:=hV _ (List.getElem_mem x);have O:=k7 (show i+1 < 2 ^ 63 by omega);rw[List.drop_eq_getElem_cons x,D8]at u;revert e1 L u;generalize V[i]=d;intro u e1 L;have N:=a7J (k:=0) (m:=0) (s:=[]) (ks:=[]) (ls:=[]) (by decide) (fun h=>rfl) d.n st';rw[show(atK 0 [] [] d.n).row=[.int .u8 0,.int .i64 0,.str [],.list false [],.list false []]by rw[show atK 0 [] [] d.n=Val.none from rfl,Val.none_row],show a4M 0 [] d.n=false from rfl]at N;simp only[List.map_nil]at N;simp only[K38,rA,rE,x,e1];refine wa N rfl rfl ?_;rintro _ st' ⟨rfl,rfl⟩;have Z:∀ {st2:St} {C:List (List Nat)} {Y:List Val} {v8 v9 a1 a2:AV},Gr st st2→st2[st.length]?=some (E8 C Y)→C.length=Y.length→C.length≤i+1→D8 T so V [] []=D8 T so (V.drop (i+1)) C Y→∃ (i':Nat) (w8 w9 I J:AV) (ks:List (List Nat)) (ls:List Val),Gr st st2∧st2[st.length]?=some (E8 ks ls)∧ks.length=ls.length∧ks.length≤i'∧D8 T so V [] []=D8 T so (V.drop i') ks ls∧i'≤V.length∧V.length - (i+1)=V.length - i'∧([.ptr so 0,.list false (V.map VDef.row),.agg [.int .u8 0,.int .i64 0,.str [],.list false [],.list false []],.box [.int .u8 0,.int .i64 0,.str [],.list false [],.list false []],.box [.int .u8 0,.int .i64 0,.str [],.list true [],.list true []],.str [],.int .i64 0,.ptr st.length 0,v8,v9,a1,a2,.list false (V.map VDef.row),.int .i64 V.length,.int .i64 ((i+1:Nat):Int)]:List AV)=[.ptr so 0,.list false (V.map VDef.row),.agg [.int .u8 0,.int .i64 0,.str [],.list false [],.list false []],.box [.int .u8 0,.int .i64 0,.str [],.list false [],.list false []],.box [.int .u8 0,.int .i64 0,.str [],.list true [],.list true []],.str [],.int .i64 0,.ptr st.length 0,w8,w9,I,J,.list false (V.map VDef.row),.int .i64 V.length,.int .i64 i']:=fun h1 h2 h3 h4 h5=>⟨i+1,_,_,_,_,_,_,h1,h2,h3,h4,h5,x,rfl,rfl⟩
 rcases e8 d.has with hh|hh
 rotate_left
 · rw[hh,if_neg (by decide)]at u;rcases e8 d.t.bang with hb|hb
   · rw[hb,if_pos rfl]at u;rw[u];simp only[K38,rA,rE,hh,hb,show eqI 9 0=false from rfl];refine wh ?_;simp only[SS];exact wc ⟨_,_,rfl,M,_,by rw[Val.none_row]; rfl⟩
   · rw[hb,if_neg (by decide)]at u;simp only[K38,rA,rE,hh,hb,O,show eqI 0 0=true from rfl];exact wd (m':=V.length - (i+1)) (by omega) (Z M ho U (by omega) u)
 rw[hh,if_pos rfl]at u;have l:=b79 hI d.t (a0.gr M) L;rw[show O2 (CC.zero so) false (a3E T so) d.t d.v=a4p T so d from rfl]at l;revert u l;generalize a4p T so d=r;obtain⟨y,ok,e⟩:=r;intro u l;dsimp only at u;unfold a0R at l;rw[y9]at l;simp only[d.t.row_eta,d.v.row_eta,y.row_eta]at l;simp only[K38,rA,rL,rE,hh];refine wa l rfl rfl ?_;rintro _ st2 ⟨z,rfl⟩;have W:=z _ _ ho;rcases e8 (eqI e 0)with he|he
 rotate_left
 · rw[he,if_neg (by decide)]at u;rw[u];simp only[K38,rA,rE,he];refine wh ?_;simp only[SS];exact wc ⟨_,_,rfl,M.trans z,_,by rw[Val.none_row]; rfl⟩
 rw[he,if_pos rfl]at u;cases ok with
 | false =>rw[if_neg (by decide)]at u;simp only[K38,rA,rE,he,O];exact wd (m':=V.length - (i+1)) (by omega) (Z (M.trans z) W U (by omega) u)
 | true =>rw[if_pos rfl]at u;have hp:=a8a W d.n y (by omega) (by omega);rw[y.row_eta]at hp;simp only[K38,rA,rE,he];refine wa hp rfl rfl ?_;rintro _ _ rfl;simp only[K38,O];exact wd (m':=V.length - (i+1)) (by omega) (Z (a5D (M.trans z) (Nat.le_refl _) _) (a5O (List.getElem?_eq_some_iff.1 W).1 _) (by simp[U]) (by simp; omega) u)
end Go.Cb.CodeA
namespace Go.Cb.CodeA
open Go Go.Cb
theorem c5e {s:List Nat} {L:List Tok} (h:P4 s=some L):L.length≤2001:=by
 obtain⟨a,st',_,_,v,at',e,_,l,t⟩:=b1q s [];rw[t]at h;split at h
 · rename_i u;cases h;exact(l u).2
 · cases h
def InR (n:Int):Prop:=-9223372036854775808≤n∧n≤9223372036854775807
theorem b4F (n:Int):InR (n7 .i64 n):=by
 have e:(2:Int) ^ IntKind.i64.bits=18446744073709551616:=rfl;have l:(2:Int) ^ (IntKind.i64.bits - 1)=9223372036854775808:=rfl;rw[Q8];unfold InR IntKind.wrap;rw[e,l,show IntKind.i64.signed=true from rfl];dsimp only;rw[Bool.true_and];split
 · rename_i h;have h:=of_decide_eq_true h;omega
 · rename_i h;simp at h;omega
theorem b00:∀ (l:List Nat) (c:Nat) (n:Int) (e:List Nat),InR n→InR (a2H c n e l).2.1
 | [],c,n,e,h=>h
 | x::r,c,n,e,h=>by
  rw[a2H];split
  · exact b00 r _ _ _ (by split; exact b4F _; exact h)
  · exact h
theorem b4x {m:Bool} {pre:List Nat} {x:Nat×Int×List Nat×List Nat} {k n:Int} {t r:List Nat} (e:InR x.2.1) (h:a8H m pre x=some (k,t,n,r)):InR n:=by
 unfold a8H a2E at h
 repeat' split at h
 all_goals first
  | (cases h; done)
  | (cases h; exact b4F _)
  | (cases h; exact e)
theorem F8:InR 0:=⟨by decide,by decide⟩
theorem a9y:∀ (l t:List Nat) {k n:Int} {e r:List Nat},M6 t l=some (k,e,n,r)→InR n
 | [],t,k,n,e,r,h=>by cases h
 | [b],t,k,n,e,r,h=>by
  rw[M6]at h
  repeat' split at h
  all_goals first
   | (cases h; done)
   | (cases h; exact F8)
 | b::x::l,t,k,n,e,r,h=>by
  rw[M6]at h;split at h
  · split at h
    · cases h
    · cases h; exact F8
  split at h
  · cases h
  split at h
  · split at h
    · cases h
    · exact a9y l _ h
  · exact a9y (x::l) _ h
theorem d0I {l:List Nat} {k n:Int} {t r:List Nat} (h:a4G l=some (k,t,n,r)):InR n:=by
 cases l with
 | nil=>cases h
 | cons b l =>
  rw[a4G]at h;split at h
  · unfold b0C at h;split at h
    · cases h
    · cases h; exact F8
  split at h
  · rw[a3N]at h;split at h
    · exact b4x (b00 _ _ _ _ F8) h
    · exact b4x (b00 _ _ _ _ F8) h
  split at h
  · exact a9y _ _ h
  split at h
  · unfold a4d at h;split at h
    · cases h; exact F8
    · cases h
  split at h
  · cases h; exact F8
  · cases h
def a0D (L:List Tok):Prop:=∀ t∈L,InR t.n
theorem a5P:∀ (f i:Nat) (l:List Nat) (e L:List Tok),a0D e→a03 f i l e=some L→a0D L
 | 0,i,l,e,L,v,h=>by cases h
 | f+1,i,[],e,L,v,h=>by
  rw[a03]at h;cases h;intro t ht;rcases List.mem_append.1 ht with ht|ht
  · exact v t ht
  · rw[List.mem_singleton.1 ht]; exact F8
 | f+1,i,b::r,e,L,v,h=>by
  rw[a03]at h;split at h
  · exact a5P f _ _ _ _ v h
  split at h
  · exact a5P f _ _ _ _ v h
  split at h
  · cases h
  · rename_i k t n y x;refine a5P f _ _ _ _ (fun u hu=>?_) h;rcases List.mem_append.1 hu with hu|hu
    · exact v u hu
    · rw[List.mem_singleton.1 hu]; exact d0I x
theorem b8s {s:List Nat} {L:List Tok} (h:P4 s=some L):a0D L:=by
 unfold P4 at h;split at h
 · cases h
 · exact a5P _ _ _ _ _ (by simp[a0D]) h
theorem a1d {α:Type} {step:Nat→α→Option (Bool×Nat×α)} {P:α→Prop} (l:∀ i a b j u,P a→step i a=some (b,j,u)→P u):∀ (f i:Nat) (a x:α) (j:Nat),P a→C7 step f i a=some (x,j)→P x
 | 0,i,a,x,j,_,h=>by cases h
 | f+1,i,a,x,j,v,h=>by
  rw[C7]at h;cases e:step i a with
  | none=>rw[e]at h; cases h
  | some r =>
   obtain⟨t,y,b⟩:=r;rw[e]at h;cases t with
   | true=>cases h; exact l i a true j x v e
   | false=>exact a1d l f y b x j (l i a false y b v e) h
theorem a0f (k n:Int) (s:List Nat) (h:InR n):(Val.mk k n s [] []).Rng:=.mk _ _ _ _ _ h (by simp)
theorem a6S {L:List Tok} (hL:a0D L) (C:Bool):∀ (f i:Nat) (v:Val) (j:Nat),B7 L C f i=some (v,j)→v.Rng
 | 0,i,v,j,h=>by cases h
 | f+1,i,v,j,h=>by
  have I:=a6S hL C f;rw[B7,value1P]at h;cases hi:L[i]? with
  | none=>rw[hi]at h; cases h
  | some t =>
   have M:=hL t (List.mem_of_getElem? hi);rw[hi]at h;dsimp only at h;split at h; · cases h; exact a0f _ _ _ M
   split at h; · cases h; exact a0f _ _ _ F8
   split at h; · cases h; exact a0f _ _ _ ⟨by decide,by decide⟩
   split at h; · cases h; exact a0f _ _ _ F8
   split at h; · cases h; exact a0f _ _ _ F8
   split at h; · cases h; exact a0f _ _ _ F8
   split at h
   · unfold b6a at h;split at h
     · cases h
     · cases h; exact a0f _ _ _ F8
   split at h
   · unfold b0L at h;split at h
     · cases h
     · rename_i l N y;cases h;refine .mk _ _ _ _ _ F8 (a1d (P:=fun l:List Val=>∀ v∈l,v.Rng) (fun i a b j J e h=>?_) _ _ _ _ _ (by simp) y);unfold a2Q at h;split at h
       · cases h; exact e
       · split at h
         · cases h
         · rename_i v O z;cases h;intro u hu;rcases List.mem_append.1 hu with hu|hu
           · exact e u hu
           · rw[List.mem_singleton.1 hu]; exact I _ _ _ z
   split at h
   · unfold b4V at h;split at h
     · cases h
     · rename_i l N y;cases h;refine .mk _ _ _ _ _ F8 (a1d (P:=fun x:List (List Nat)×List Val=>∀ v∈x.2,v.Rng) (fun i a b j J e h=>?_) _ _ _ _ _ (by simp) y);unfold a2P at h;split at h
       · cases h; exact e
       · split at h
         · cases h
         · split at h
           · cases h
           · split at h
             · cases h
             · rename_i v O z;cases h;intro u hu;rcases List.mem_append.1 hu with hu|hu
               · exact e u hu
               · rw[List.mem_singleton.1 hu]; exact I _ _ _ z
   · cases h
theorem c4s {L:List Tok} (hL:a0D L) (f i:Nat) {as:List Arg} {j:Nat} (h:R6 L f i=some (as,j)):∀ a∈as,a.v.Rng:=by
 unfold R6 at h;split at h
 · obtain⟨y,k,l,t⟩:=bind_some h;cases t;refine a1d (P:=fun x:Bool×List Arg=>∀ a∈x.2,a.v.Rng) (fun i a b j z e h=>?_) _ _ _ _ _ (by simp) l;unfold Y1 at h;split at h
   · cases h; exact e
   · obtain⟨n,i2,g1,h⟩:=bind_some h;obtain⟨i3,g2,h⟩:=D0 h;obtain⟨v,i4,g3,h⟩:=bind_some h;cases h;intro u hu;rcases List.mem_append.1 hu with hu|hu
     · exact e u hu
     · rw[List.mem_singleton.1 hu]; exact a6S hL false _ _ _ _ g3
 · cases h; simp
theorem c7i {L:List Tok} (hL:a0D L) {f:Nat} {e:Nat→Option (List Sel×Nat)} (u:∀ i l j,e i=some (l,j)→∀ x∈l,x.Rg) {i:Nat} {x:Sel} {j:Nat} (h:O8 L f e i=some (x,j)):x.Rg:=by
 have inl:∀ on i x j,a2D L f e on i=some (x,j)→x.Rg:=by intro on i x j h;unfold a2D at h;obtain⟨ds,i2,g1,h⟩:=bind_some h;obtain⟨sub,i3,g2,h⟩:=bind_some h;cases h;exact .mk _ _ _ _ _ _ _ (by simp) (u _ _ _ g2)
 unfold O8 at h;split at h
 · split at h
   · obtain⟨on,i2,g1,h⟩:=bind_some h;exact inl _ _ _ _ h
   · split at h
     · obtain⟨n,i2,g1,h⟩:=bind_some h;obtain⟨ds,i3,g2,h⟩:=bind_some h;cases h;exact .mk _ _ _ _ _ _ _ (by simp) (by simp)
     · exact inl _ _ _ _ h
 · unfold a3T at h;obtain⟨n,i2,g1,h⟩:=bind_some h;obtain⟨y,i3,g2,h⟩:=bind_some h;obtain⟨as,i4,g3,h⟩:=bind_some h;have t:=c4s hL _ _ g3;obtain⟨ds,i5,g4,h⟩:=bind_some h;split at h
   · obtain⟨sub,i6,g5,h⟩:=bind_some h;cases h;exact .mk _ _ _ _ _ _ _ t (u _ _ _ g5)
   · cases h;exact .mk _ _ _ _ _ _ _ t (by simp)
theorem b7M {L:List Tok} (hL:a0D L):∀ (f i:Nat) (l:List Sel) (j:Nat),t6 L f i=some (l,j)→∀ x∈l,x.Rg
 | 0,i,l,j,h=>by cases h
 | f+1,i,l,j,h=>by
  have z:=b7M hL f;rw[t6]at h;obtain⟨i2,g1,h⟩:=D0 h;refine a1d (P:=fun l:List Sel=>∀ x∈l,x.Rg) (fun i a b j C t h=>?_) _ _ _ _ _ (by simp) h;unfold W9 at h;obtain⟨y,i3,g2,h⟩:=bind_some h;have v:=c7i hL z g2;have e:∀ x∈a++[y],x.Rg:=fun u hu=>by
   rcases List.mem_append.1 hu with hu|hu
   · exact t u hu
   · rw[List.mem_singleton.1 hu]; exact v
  split at h
  · cases h; exact e
  · cases h; exact e
def b11 (L:List Tok) (l:List Sel):Prop:=(∀ x∈l,x.Rg)∧Sel.ws l≤L.length
theorem b9Y {L:List Tok} (hL:a0D L) {i:Nat} {l:List Sel} {j:Nat} (hi:i≤L.length) (h:t6 L 24 i=some (l,j)):b11 L l:=by have:=a5C L 24 i l j hi h;exact⟨b7M hL 24 i l j h,by omega⟩
theorem b8p {L:List Tok} (hL:a0D L) {i:Nat} {v:VDef} {j:Nat} (h:a5J L i=some (v,j)):v.v.Rng:=by
 unfold a5J at h;obtain⟨i2,g1,h⟩:=D0 h;obtain⟨n,i3,g2,h⟩:=bind_some h;obtain⟨i4,g3,h⟩:=D0 h;obtain⟨t,i5,g4,h⟩:=bind_some h;split at h
 · obtain⟨v,i6,g5,h⟩:=bind_some h;cases h;exact a6S hL true _ _ _ _ g5
 · cases h; exact a0f _ _ _ F8
theorem c6r {L:List Tok} (hL:a0D L) {i:Nat} {l:List VDef} {j:Nat} (h:a0b L i=some (l,j)):∀ d∈l,d.v.Rng:=by
 unfold a0b at h;split at h
 · obtain⟨v,i2,g1,h⟩:=bind_some h;have t:=b8p hL g1;refine a1d (P:=fun l:List VDef=>∀ d∈l,d.v.Rng) (fun i a b j x e h=>?_) _ _ _ _ _ (by simpa using t) h;unfold a08 at h;split at h
   · cases h; exact e
   · obtain⟨w,i3,g2,h⟩:=bind_some h;cases h;intro u hu;rcases List.mem_append.1 hu with hu|hu
     · exact e u hu
     · rw[List.mem_singleton.1 hu]; exact b8p hL g2
 · cases h; simp
def OpD (L:List Tok) (o:Op):Prop:=(∀ d∈o.vs,d.v.Rng)∧b11 L o.sub
theorem c4X {L:List Tok} {i:Nat} {l:List VDef} {j:Nat} (hi:i≤L.length) (h:a0b L i=some (l,j)):j≤L.length:=(b1g L i l j hi h).2
theorem d1Q {L:List Tok} (hL:a0D L) {i:Nat} {o:Op} {j:Nat} (hi:i≤L.length) (h:opP L i=some (o,j)):OpD L o:=by
 unfold opP at h;split at h
 · obtain⟨sub,i2,g1,h⟩:=bind_some h;cases h;exact⟨by simp,b9Y hL hi g1⟩
 · obtain⟨m,i2,g1,h⟩:=bind_some h;have l1:i2≤L.length:=by
    unfold a4P at g1;split at g1
    · rename_i e;have:=s8 e;cases g1; omega
    · obtain⟨i3,g2,g1⟩:=D0 g1;unfold a5Y at g2;split at g2
      · rename_i l;have:=s8 (L:=L) (i:=i) (s:=[113,117,101,114,121]) (by rw[C0,l,Bool.or_true]);cases g1; cases g2; omega
      · cases g2
   obtain⟨n,i3,g2,h⟩:=bind_some h;have l2:i3≤L.length:=by
    unfold a1s at g2;split at g2
    · exact(s6 L _ _ _ l1 g2).2
    · cases g2; exact l1
   obtain⟨vs,i4,g3,h⟩:=bind_some h;have t:=c4X l2 g3;obtain⟨sub,i5,g4,h⟩:=bind_some h;cases h;exact⟨c6r hL g3,b9Y hL t g4⟩
theorem d1t {L:List Tok} {i:Nat} {o:Op} {j:Nat} (hi:i≤L.length) (h:opP L i=some (o,j)):j≤L.length:=by
 unfold opP at h;split at h
 · obtain⟨sub,i2,g1,h⟩:=bind_some h;cases h;exact(a5C L 24 _ _ _ hi g1).2
 · obtain⟨m,i2,g1,h⟩:=bind_some h;obtain⟨n,i3,g2,h⟩:=bind_some h;obtain⟨vs,i4,g3,h⟩:=bind_some h;obtain⟨sub,i5,g4,h⟩:=bind_some h;cases h;by_cases e:i4≤L.length
   · exact(a5C L 24 _ _ _ e g4).2
   · rw[t6]at g4;obtain⟨i6,g5,_⟩:=D0 g4;have:=K2 g5;omega
theorem c5v {L:List Tok} (hL:a0D L) {i:Nat} {f:Frag} {j:Nat} (h:a1Z L i=some (f,j)):b11 L f.sub∧j≤L.length:=by
 unfold a1Z at h;split at h
 · cases h
 obtain⟨n,i2,g1,h⟩:=bind_some h;obtain⟨i3,g2,h⟩:=D0 h;have l1:=K2 g2;obtain⟨on,i4,g3,h⟩:=bind_some h;have l2:=s6 L _ _ _ l1.2 g3;obtain⟨sub,i5,g4,h⟩:=bind_some h;cases h;exact⟨b9Y hL l2.2 g4,(a5C L 24 _ _ _ l2.2 g4).2⟩
theorem b0e {α:Type} {N:Nat} {step:Nat→α→Option (Bool×Nat×α)} {P:α→Prop} (l:∀ i a b j u,i≤N→P a→step i a=some (b,j,u)→P u∧j≤N):∀ (f i:Nat) (a x:α) (j:Nat),i≤N→P a→C7 step f i a=some (x,j)→P x
 | 0,i,a,x,j,_,_,h=>by cases h
 | f+1,i,a,x,j,hi,v,h=>by
  rw[C7]at h;cases e:step i a with
  | none=>rw[e]at h; cases h
  | some r =>
   obtain⟨t,y,b⟩:=r;rw[e]at h;cases t with
   | true=>cases h; exact(l i a true j x hi v e).1
   | false =>obtain⟨z,C⟩:=l i a false y b hi v e;exact b0e l f y b x j C z h
theorem c7I {L:List Tok} (hL:a0D L) {D:Docm} (h:a7f L=some D):(∀ o∈D.ops,OpD L o)∧∀ f∈D.frags,b11 L f.sub:=by
 unfold a7f at h;obtain⟨y,k,v,z⟩:=bind_some h;cases z;refine b0e (N:=L.length) (P:=fun x:Bool×Docm=>(∀ o∈x.2.ops,OpD L o)∧∀ f∈x.2.frags,b11 L f.sub) (fun i a b j C hi e h=>?_) _ _ _ _ _ (Nat.zero_le _) ⟨by simp,by simp⟩ v;unfold Q1 at h;split at h
 · cases h; exact⟨e,hi⟩
 · split at h
   · obtain⟨f,i2,g1,h⟩:=bind_some h;obtain⟨l,t⟩:=c5v hL g1;cases h;refine⟨⟨e.1,fun u hu=>?_⟩,t⟩;rcases List.mem_append.1 hu with hu|hu
     · exact e.2 u hu
     · rw[List.mem_singleton.1 hu]; exact l
   · obtain⟨o,i2,g1,h⟩:=bind_some h;have l:=d1Q hL hi g1;have t:=d1t hi g1;cases h;refine⟨⟨fun u hu=>?_,e.2⟩,t⟩;rcases List.mem_append.1 hu with hu|hu
     · exact e.1 u hu
     · rw[List.mem_singleton.1 hu]; exact l
structure DocG (D:Docm):Prop where
 k:DocK D
 op:∀ o∈D.ops,(∀ d∈o.vs,d.v.Cz)∧SelX 2001 o.sub
 fr:∀ f∈D.frags,∀ x∈f.sub,x.Rg
theorem b9N {s:List Nat} {D:Docm} (l:D.Els) (y:D.ops.length≤3000) (z:D.frags.length≤3000) (h:a8O s=some D):DocG D:=by
 unfold a8O at h;cases u:P4 s with
 | none=>rw[u]at h; cases h
 | some L =>rw[u]at h;dsimp only at h;have v:=c5e u;have C:=b8s u;obtain⟨a1,a2⟩:=c7I C h;have I:=c1p h;refine⟨⟨y,z,fun o e=>⟨(l.ops o e).vs.1,(l.ops o e).vs.2,(l.ops o e).sub,Nat.le_trans (a1 o e).2.2 v⟩,fun f t=>⟨l.frags f t,Nat.le_trans (a2 f t).2 v⟩,by omega,by omega⟩,fun o e=>⟨fun d x=>⟨(l.ops o e).vs.2 d x,(a1 o e).1 d x⟩,⟨(l.ops o e).sub.2,(a1 o e).2.1,Nat.le_trans (a4D _) (Nat.le_trans (a1 o e).2.2 v)⟩⟩,fun f t=>(a2 f t).1⟩
end Go.Cb.CodeA
namespace Go.Cb.CodeA
open Go Go.Cb
open Nat renaming reduceAdd→rA,reduceSub→rS,reduceLeDiff→rL,reduceEqDiff→rE
attribute [local congr] g9 j3 j4 j5 i8 j0 j8 j9 V.runR_congr
def c1F (T:List SD):Prop:=∀ f,a5R T f→∃ A:List FDef,f.ar=A.map FDef.row∧A.length≤3000
theorem b8d {T:List SD} (t:c1F T) (mo:Nat) {D:Docm} (e:DocG D):(T1 T mo D).Full :=
 ⟨⟨fun f l=>(e.k.fo f l).1,e.k.fs,t⟩,fun f l=>(e.k.fo f l).2⟩
theorem c89 {T:List SD} (O:c1F T) {mo:Nat} {st:St} (y:Sc9 T mo st) (s:List Nat):EvQ tbl 13 [.ptr mo 0,.str s] st (fun a st'=>Gr st st'∧∃ (D:Docm) (b:Bool),a=.tuple [.agg D.row,.bool b]∧(b=true→DocG D)):=by
 refine wj (fn:=a13) rfl rfl rfl ?_;simp only[K13,rA,rS,rE];refine wa (d1N s st) rfl rfl ?_;rintro _ st1 ⟨D,at',e,rfl,N,J,M,C,_,t,rfl,_⟩;have u:Gr st (st++t):=Gr.app _ _;unfold Docm.row;rcases e8 (eqI e 0)with he|he
 rotate_left
 · simp only[K13,rA,rE,he];exact wc ⟨_,_,rfl,u,D,false,rfl,fun h=>by cases h⟩
 have I:e=0:=by rw[eqI_eq]at he; simpa using he
 rw[if_pos I]at C;have l:=b9N N J M C;have z:=c4B l.k (b8d O mo l) (y.gr fun x U=>u _ _ U);unfold Docm.row at z;simp only[K13,rA,rE,he];refine wa z rfl rfl ?_;rintro _ st2 ⟨v,L,rfl⟩;simp only[SS,List.length_map];exact wc ⟨_,_,rfl,u.trans v,D,_,rfl,fun _=>l⟩
def b5W (T:List SD) (so:Nat) (D:Docm) (w:Val):Cfg:=⟨so,D.ops.map Op.row,D.frags,[],6,0,[],w.names,w.vals,J0 T⟩
noncomputable def a0K (T:List SD) (so:Nat) (D:Docm) (E:Val→REnv):Int×Val×List (Pth×Int) :=
 if eqI (N0 D.ops).2 0 then(if(N0 D.ops).1.m then(15,Val.none,[])else if eqI (D8 T so (N0 D.ops).1.vs [] []).2 0 then a0O (E (D8 T so (N0 D.ops).1.vs [] []).1) (N0 D.ops).1.sub else((D8 T so (N0 D.ops).1.vs [] []).2,Val.none,[]))else((N0 D.ops).2,Val.none,[])
theorem b5r {l:List Op} {op:Op} (h:N0 l=(op,0)):op∈l:=by
 unfold N0 at h;split at h
 · cases h; exact List.mem_cons_self ..
 · cases h
theorem a4e (T:List SD) (so:Nat):∀ (l:List VDef) (ks:List (List Nat)) (ls:List Val),eqI (D8 T so l ks ls).2 0=true→∃ u v,(D8 T so l ks ls).1=.mk 6 0 [] u v
 | [],ks,ls,h=>⟨ks,ls,rfl⟩
 | d::l,ks,ls,h=>by
  rw[D8]at h ⊢;by_cases x:d.has=true
  · rw[if_pos x]at h ⊢;by_cases e:eqI (a4p T so d).2.2 0=true
    · rw[if_pos e]at h ⊢;by_cases y:(a4p T so d).2.1=true
      · rw[if_pos y]at h ⊢; exact a4e T so l _ _ h
      · rw[if_neg y]at h ⊢; exact a4e T so l _ _ h
    · rw[if_neg e]at h; exact absurd h e
  · rw[if_neg x]at h ⊢;by_cases e:d.t.bang=true
    · rw[if_pos e]at h; cases h
    · rw[if_neg e]at h ⊢; exact a4e T so l _ _ h
theorem b7K {T:List SD} (hI:b2A T) {so:Nat} {B:St} (hS:SchD T so B) {D:Docm} (M:DocG D) {es:List Ent} {v:AV} (hv:EntsAt v es B) (whole:Bool) {tv:AV} (ht:tv.weak1=tv∧tv.plain=true∧tv.weak=tv) {E:Val→REnv}
 (hE:∀ ks ls,ks.length=ls.length→ks.length≤3000→∀ B',Gr B B'→(E (.mk 6 0 [] ks ls)).OK B') (O:∀ w,(E w).so=so∧(E w).v=v∧(E w).whole=whole∧(E w).tv=tv∧(E w).ops=D.ops.map Op.row∧(E w).frs=D.frags.map Frag.row∧(E w).vk=6∧(E w).vn=0∧(E w).vs=[]∧(E w).vks=w.names.map b9∧(E w).vls=w.vals.map Val.row) :
 EvQ tbl 17 [.ptr so 0,.agg [v,.bool whole,tv],.agg D.row,.str [],.agg a0R] B (c8P (a0K T so D E) B):=by
 obtain⟨t1,t2,t3⟩:=ht;obtain⟨y1,y2,y3,y4,y5,y6,y7⟩:=hv.wk;have t:=c2q D.ops M.k.ol (D.frags.map Frag.row) B;have y:=fun op=>b5r (l:=D.ops) (op:=op)
 unfold a0K;revert t y;generalize N0 D.ops=c;obtain⟨op,e⟩:=c;intro t y;dsimp only at t y ⊢;have C:eqI 0 0=true:=rfl;rcases e8 (eqI e 0)with he|he
 rotate_left
 · rw[he,if_neg (by decide)];unfold Op.row at t;unfold Docm.row a0R;refine wj (fn:=a17) rfl rfl rfl ?_;simp only[K17,rA,rS,rE,t1,y2];refine wa t rfl rfl ?_;rintro _ st1 ⟨z,rfl⟩;simp only[K17,rA,rL,rE,he];exact wc ⟨_,_,rfl,z,_,rfl,.inl ⟨rfl,.inr rfl⟩,Nat.zero_le _,by simp⟩
 have N:e=0:=by rw[eqI_eq]at he; simpa using he
 subst N;have J:=y op rfl;obtain⟨Y,W⟩:=M.op op J;rw[if_pos C];cases hm:op.m with
 | true =>rw[if_pos rfl];unfold Op.row at t;rw[hm]at t;unfold Docm.row a0R;refine wj (fn:=a17) rfl rfl rfl ?_;simp only[K17,rA,rS,rE,t1,y2];refine wa t rfl rfl ?_;rintro _ st1 ⟨z,rfl⟩;simp only[K17,rA,rL,rE,C];exact wc ⟨_,_,rfl,z,_,rfl,.inl ⟨rfl,.inr rfl⟩,Nat.zero_le _,by simp⟩
 | false =>
 rw[if_neg (by decide)];have u:=fun st (L:Gr B st)=>c6Q hI (M.k.oo op J).vs Y (hS.gr L)
 have x:=a5r T so op.vs [] [] rfl;have I:=a4e T so op.vs [] [];have a1:=(M.k.oo op J).vs;revert u x I;generalize D8 T so op.vs [] []=r;obtain⟨w,e⟩:=r;intro u x I;dsimp only at u x I ⊢;unfold Op.row at t;rw[hm]at t;rcases e8 (eqI e 0)with he|he
 rotate_left
 · rw[he,if_neg (by decide)];unfold Docm.row;have u:=fun st L=>u st L
   simp only[w.row_eta]at u;unfold a0R at *
   refine wj (fn:=a17) rfl rfl rfl ?_;simp only[K17,rA,rS,rE,t1,y2];refine wa t rfl rfl ?_;rintro _ st1 ⟨z,rfl⟩;simp only[K17,rA,rE,C];refine wa (u st1 z) rfl rfl ?_;rintro _ st2 ⟨U,s,rfl⟩;simp only[K17,rA,rL,rE,he];exact wc ⟨_,_,rfl,z.trans U,_,rfl,.inl ⟨rfl,.inr rfl⟩,Nat.zero_le _,by simp⟩
 have N:e=0:=by rw[eqI_eq]at he; simpa using he
 subst N;rw[if_pos C];obtain⟨ks,ls,rfl⟩:=I rfl;obtain⟨x1,x2,x3,x4,x5,x6,x7,x8,x9,Z,a0⟩:=O (.mk 6 0 [] ks ls);have x:ks.length=ls.length∧ks.length≤[].length+op.vs.length:=x;have hq:=c4l (hE ks ls x.1 (by have:=x.2; simp at this; omega)) (V:=op.vs.map VDef.row) (nm:=op.n) W (name:=[]) x3 (by rw[x5,x6]; exact t) (gk:=0) (gn:=0) (gs:=[]) (gks:=[]) (gls:=[]) (fun st L=>by rw[x1,x7,x8,x9,Z,a0]; exact(u st L).mono fun a st' ⟨g1,s,h1⟩=>⟨g1,s,by rw[h1,Val.row_eq]; rfl⟩);rw[x1,x2,x3,x4,x5,x6]at hq;exact hq
end Go.Cb.CodeA
namespace Go.Cb.CodeA
open Go Go.Cb
theorem d1r:Sc9 T0 80 a6Y:=by
 refine⟨⟨?_,fun t e=>?_,?_⟩,fun t e=>?_⟩
 · rw[List.length_map]; exact of_decide_eq_true (by kernel_rfl)
 · show t.ns.length≤3001;exact of_decide_eq_true (a1o (p:=fun t:TD=>decide (t.ns.length≤3001)) (l:=T0.map SD.td) (by kernel_rfl) t e)
 · exact⟨false,by kernel_rfl⟩
 · exact of_decide_eq_true (a1o (p:=fun t:SD=>decide (t.fs.length≤3000)) (l:=T0) (by kernel_rfl) t e)
def d5q:List AV→FDef
 | [.str n,.list _ ar,.str tn,.list _ _,.bool b,.bool h,.int _ k,.int _ m,.str s,_,_]=>⟨n,ar,.base tn b,h,.mk k m s [] []⟩
 | _=>FDef.none
def arB (f:FDef):Bool:=a7D (.cells [.list false f.ar]) (.cells [.list false ((f.ar.map d5q).map FDef.row)]) && Nat.ble f.ar.length 3000
theorem ar0:c1F T0:=by
 intro f v;rcases v with⟨t,y,v⟩|h
 · have x:=a1o (p:=fun t:SD=>t.fs.all arB) (l:=T0) (by kernel_rfl) t y;have u:=a1o x f v;unfold arB at u;rw[Bool.and_eq_true]at u;have e:=(a0k _ _).1 u.1;injection e with e
   injection e with e _
   injection e with _ e
   exact⟨_,e,by rw[List.length_map]; exact Nat.le_of_ble_eq_true u.2⟩
 · exact⟨[],by rw[h]; rfl,by decide⟩
def czB:Val→Bool
 | .mk k n s [] []=>!eqI k 6 && decide (-9223372036854775808≤n∧n≤9223372036854775807)
 | _=>false
theorem c9z:∀ {v:Val},czB v=true→v.Cz
 | .mk k n s [] [],h=>by unfold czB at h;rw[Bool.and_eq_true]at h;exact⟨.mk _ _ _ _ _ (fun _=>rfl) (by decide) (by decide) (by simp),.mk _ _ _ _ _ (of_decide_eq_true h.2) (by simp)⟩
 | .mk k n s (_::_) _,h=>by cases h
 | .mk k n s [] (_::_),h=>by cases h
theorem in0:b2A T0:=by
 intro n e f y;have C:=a1o (p:=fun t:SD=>!eqI t.k 5 || t.fs.all fun f=>!H2 T0 f.t.bs 5 && czB f.v) (l:=T0) (by kernel_rfl);unfold H2 fsD at *
 cases z:lkD T0 n with
 | none=>rw[z]at e; cases e
 | some t =>rw[z]at e y;have u:=C t (a6f z);dsimp only at u e y;rw[e,Bool.not_true,Bool.false_or]at u;have x:=a1o u f y;rw[Bool.and_eq_true,Bool.not_eq_true']at x;exact⟨x.1,c9z x.2⟩
end Go.Cb.CodeA
namespace Go.Cb.CodeA
open Go Go.Cb
attribute [local congr] g9 j3 j4 j5 i8 j0 j8 j9 V.runR_congr
theorem a2F {l:List TD} {so:Nat} {st:St} (h:Sch l so st) (n:List Nat):(a0q l n).length≤3001:=b0g (mo:=0) (st:=[.cells [.list false (l.map TD.row)]]) ⟨h.len,fun t e=>h.ok t e,⟨false,rfl⟩⟩ n
def fsQ:List FDef:=fsD T0 H4
theorem c1U:∀ f∈fsQ,f.ar.isEmpty=false→f.ar=[idF.row]:=by intro f e;unfold fsQ fsD at e;rw[show lkD T0 H4=some _ from rfl]at e;simp only[List.mem_cons,List.not_mem_nil,or_false]at e;rcases e with rfl|rfl|rfl|rfl|rfl<;>intro h<;>first|rfl|cases h
theorem b0n (n:List Nat) (f:FDef) (h:a7j T0 H4 n=some f):f.ar.isEmpty=false→f.ar=[idF.row]:=by
 unfold a7j at h;cases l:lkD T0 H4 with
 | none=>rw[l]at h; cases h
 | some t =>
  rw[l]at h;dsimp only at h;rcases e8 (eqN n Q4 && (if a8k T0 H4 then true else a4u H4))with h1|h1
  · rw[if_pos h1]at h; cases h; intro h; cases h
  rw[h1,if_neg (by decide)]at h;rcases e8 (eqI t.k 5)with h2|h2
  · rw[if_pos h2]at h; cases h
  rw[h2,if_neg (by decide)]at h;cases u:pI (fun x=>eqN n x) (t.fs.map FDef.n)with
  | none=>rw[u]at h; cases h
  | some i =>
   rw[u]at h;have h:t.fs[i]?=some f:=h;have e:fsQ=t.fs:=by unfold fsQ fsD; rw[l]
   exact c1U f (by rw[e]; exact List.mem_of_getElem? h)
noncomputable def EK (D:Docm) (es:List Ent) (v:AV) (w:Val):REnv:=mkE T0 (b5W T0 52 D w) es v (.list false [])
theorem d3j {D:Docm} (l:DocG D) {es:List Ent} {v:AV} {B:St} (u:Gr a6Y B) (x:EntsAt v es B) (I:F5 es) (J:es.length≤12) (z:∀ e∈es,a3o e) (ks:List (List Nat)) (ls:List Val) (C:ks.length=ls.length) (t:ks.length≤3000):(EK D es v (.mk 6 0 [] ks ls)).OK B :=
 b7v (K:=b5W T0 52 D (.mk 6 0 [] ks ls)) (sch0.gr u) ⟨⟨Nat.le_trans t (by decide),fun _=>C,⟨l.k.fl,fun f y=>(l.k.fo f y).1⟩,fun n=>Nat.le_trans (a2F sch0.sch n) (by decide)⟩,l.k.fs,l.fr⟩ rfl (fun n=>Nat.le_trans (a2F sch0.sch n) (by decide)) b0n (by kernel_rfl) x I (by omega) z ⟨rfl,rfl,rfl⟩
theorem b9L {E:REnv} (e:E.Fine) (sub:List Sel):(a0O E sub).2.1.Fin:=by
 have l:Val.none.Fin:=.mk _ _ _ _ _ (by decide) (by decide) (by simp);have h:(a2v E sub).1.1.Fin:=a6c e (b4q e 5002) (a0m (a0s _) 5002) (a0m (a1K _) 5002) H4 (x:=Ent.none) (by simp[Ent.none]) [] (E.grp H4 sub) [] [] ⟨[],false,0⟩ (by simp) (Nat.zero_le _) (Nat.zero_le _) (by decide);unfold a0O;split
 · exact l
 split
 · exact l
 · exact h
theorem c1X {T:List SD} {so:Nat} {D:Docm} {E:Val→REnv} (l:∀ w,(E w).Fine):(a0K T so D E).2.1.Fin:=by
 have e:Val.none.Fin:=.mk _ _ _ _ _ (by decide) (by decide) (by simp);unfold a0K
 repeat' split
 · exact e
 · exact b9L (l _) _
 · exact e
 · exact e
def AllAt (v a:AV) (es:List Ent) (st:St):Prop:=(v=.nils∧a=.nils∧es=[])∨(v≠.nils∧∃ o,a=.sl o 0 es.length 4∧st[o]?=some (.cells (m4 es)))
theorem AllAt.gr {v a:AV} {es:List Ent} {st st':St} (h:AllAt v a es st) (t:Gr st st'):AllAt v a es st':=by
 rcases h with h|⟨h,o,e,l⟩
 · exact .inl h
 · exact .inr ⟨h,o,e,t _ _ l⟩
theorem AllAt.wk {v a:AV} {es:List Ent} {st:St} (h:AllAt v a es st):Pln a:=by rcases h with⟨_,rfl,_⟩|⟨_,o,rfl,_⟩<;>exact⟨rfl,rfl,rfl,rfl⟩
theorem c4G:EvQ tbl 11 [] [] (fun a st'=>st'=b5C∧a=.bool true):=⟨_,_,Go.Cb.G.ev_ofG d40,rfl,rfl⟩
theorem c9Z:EvQ tbl 12 [] b5C (fun a st'=>st'=a6Y∧a=.tuple [.ptr 52 0,.ptr 80 0]):=⟨_,_,Go.Cb.G.ev_ofG d3S,rfl,rfl⟩
end Go.Cb.CodeA
namespace Go.Cb.CodeA
open Go Go.Cb
open Nat renaming reduceAdd→rA,reduceSub→rS,reduceLeDiff→rL,reduceEqDiff→rE
attribute [local congr] g9 j3 j4 j5 i8 j0 j8 j9 V.runR_congr
def U1 (ts l:List (List Nat)):Bool:=l.all fun t=>k9 ts t
theorem d1M (ts:List (List Nat)) (e:ts.length≤3) (t:List Nat) {v:AV} {o:Nat} {st:St} (h:st[o]?=some (.cells [v,.bool false,.list false (ts.map b9)])):EvQ tbl 43 [.str t,.ptr o 0] st (fun a st'=>st'=st∧a=.bool (!k9 ts t)):=by refine wj (fn:=a43) rfl rfl rfl ?_;simp only[K43,rS,rE,h];refine wa (I4 ts (by omega) t _) rfl rfl ?_;rintro _ _ ⟨rfl,rfl⟩;simp only[SS];exact wc ⟨_,_,rfl,rfl,rfl⟩
theorem d00 (ts l:List (List Nat)) (y:ts.length≤3) (C:l.length≤10000) {v:AV} {o:Nat} {st:St} (h:st[o]?=some (.cells [v,.bool false,.list false (ts.map b9)])):EvQ tbl 89 [.list false (l.map b9),.func 43 [] [.ptr o 0]] st (fun a st'=>st'=st∧∃ i:Int,a=.int .i64 i∧ltI i 0=U1 ts l):=by
 refine wj (fn:=a89) rfl rfl rfl ?_;simp only[K89,rS,List.length_map];refine wg (fun z fr st'=>st'=st∧∃ (i:Nat) (v3:AV),i≤l.length∧z=l.length - i∧U1 ts l=U1 ts (l.drop i)∧fr=[.list false (l.map b9),.func 43 [] [.ptr o 0],.int .i64 0,v3,.int .i64 l.length,.int .i64 i]) (m:=l.length) ⟨rfl,0,_,Nat.zero_le _,rfl,rfl,rfl⟩ ?_;rintro z fr st' ⟨rfl,i,v3,hi,rfl,u,rfl⟩;simp only[K89];by_cases e:i < l.length
 rotate_left
 · rw[List.drop_of_length_le (by omega)]at u;simp only[SS,e];refine we ?_;simp only[K89];exact wc ⟨_,_,rfl,rfl,_,rfl,by rw[u]; rfl⟩
 have e2:(l.map b9)[i]?=some [.str l[i]]:=by rw[List.getElem?_map,List.getElem?_eq_getElem e]; rfl
 have x:=d1M ts y l[i] h;rw[List.drop_eq_getElem_cons e]at u;revert e2 x u;generalize l[i]=t;intro u e2 x;have u:U1 ts l=(k9 ts t && U1 ts (l.drop (i+1))):=by rw[u]; rfl
 simp only[K89,rE,e,e2];refine wl x rfl rfl ?_;rintro _ _ ⟨rfl,rfl⟩;rcases e8 (k9 ts t)with c|c
 · simp only[K89,c,k7 (show i+1 < 2 ^ 63 by omega)];exact wd (m':=l.length - (i+1)) (by omega) ⟨rfl,i+1,_,e,rfl,by rw[u,c,Bool.true_and],rfl⟩
 · simp only[K89,c];refine wh ?_;simp only[SS];exact wc ⟨_,_,rfl,rfl,_,rfl,by rw[u,c,Bool.false_and,ltI_eq]; simp⟩
theorem d2A (ts l:List (List Nat)) (e:ts.length≤3) (t:l.length≤10000) {v:AV} {o:Nat} {st:St} (h:st[o]?=some (.cells [v,.bool false,.list false (ts.map b9)])):EvQ tbl 41 [.list false (l.map b9),.func 43 [] [.ptr o 0]] st (fun a st'=>st'=st∧a=.bool (!U1 ts l)):=by refine wj (fn:=a41) rfl rfl rfl ?_;simp only[K41,rS,rE];refine wa (d00 ts l e t h) rfl rfl ?_;rintro _ _ ⟨rfl,i,rfl,hi⟩;simp only[SS,hi];exact wc ⟨_,_,rfl,rfl,rfl⟩
theorem b1G {T:List SD} {so:Nat} {v:AV} {st:St} (t:Sch (T.map SD.td) so st) (x:v.weak=v∧v.weak1=v∧v.strip=v∧v.stripB=v) (ts:List (List Nat)) (l:ts.length≤3) (n:List Nat) (u:(J0 T n).length≤10000):EvQ tbl 19 [.agg [v,.bool false,.list false (ts.map b9)],.ptr so 0,.str n] st (fun a st'=>Gr st st'∧a=.bool (U1 ts (J0 T n))):=by obtain⟨z,y,C,I⟩:=x;have e:=t.gr (Gr.app st [.cells [v,.bool false,.list false (ts.map b9)]]);refine wj (fn:=a19) rfl rfl rfl ?_;simp only[K19,rS,rE,p9,y];refine wa (b1B e n) rfl rfl ?_;rintro _ _ ⟨rfl,rfl⟩;simp only[SS];refine wa (d2A ts (J0 T n) l u (p9 _ _)) rfl rfl ?_;rintro _ _ ⟨rfl,rfl⟩;simp only[SS,Bool.not_not];exact wc ⟨_,_,rfl,Gr.app _ _,rfl⟩
noncomputable def mkT (T:List SD) (K:Cfg) (es:List Ent) (v:AV) (ts:List (List Nat)):REnv:={ mkE T K es v (.list false (ts.map b9))with whole:=false,knows:=fun n=>U1 ts (J0 T n) }
theorem c93 {T:List SD} {K:Cfg} {es:List Ent} {v:AV} {B:St} (ts:List (List Nat)) (l:ts.length≤3) (z:SchD T K.so B) (e:∀ n,(J0 T n).length≤10000) (h:(mkE T K es v (.list false (ts.map b9))).OK B):(mkT T K es v ts).OK B:=by
 obtain⟨t,u,x,y,J,L,M⟩:=h.ents.wk;have I:∀ st,Gr B st→∀ n,EvQ tbl 19 [.agg [(mkT T K es v ts).v,.bool (mkT T K es v ts).whole,(mkT T K es v ts).tv],.ptr (mkT T K es v ts).so 0,.str n] st (fun a st'=>Gr st st'∧a=.bool ((mkT T K es v ts).knows n)):=fun st C n=>b1G (z.gr C).sch (by first|exact⟨u,t,x,y⟩|exact⟨t,u,x,y⟩) ts l n (e n)
 exact { h with knows:=I }
end Go.Cb.CodeA
