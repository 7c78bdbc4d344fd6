import Derived.Test.YtlegecilkicppaaGreatDoorCodeA
import Derived.Test.YtlegecilkicppaaGreatDoorXAms4
set_option maxRecDepth 20000
set_option linter.all false
namespace Go.Cb
open Go
def ACode.calm:ACode→Bool
 | .skip=>true
 | .reg _ ops=>ops.all fun o=>!o.kind.setSt
 | .test _ ops _ a b=>(ops.all fun o=>!o.kind.setSt) && a.calm && b.calm
 | .seq a b=>a.calm && b.calm
 | .blk _ a=>a.calm
 | .exit _=>true
 | .ret=>true
 | _=>false
theorem a4T (d:Dst) (a:AV) (σ:Sig):(d.put a σ).st=σ.st:=by cases d<;>rfl
theorem b19 {rs:List ResK} {e:Ex} {fr:List AV} {st st':St} {r:AV} (h:finK rs (some (e,fr,st))=some (r,st')):st'=st:=by
 unfold finK at h;split at h
 · cases h
 · rename_i i;cases i;split at h<;>first|(cases h; rfl)|cases h
 · cases h
theorem b6u {c:d8} {o:AOper} {σ σ':Sig} (i:o.kind.setSt=false) (h:i7 c o σ=some σ'):σ'.st=σ.st:=by
 have go:∀ {σ':Sig},y9 c o σ=some σ'→σ'.st=σ.st:=fun h=>by obtain⟨r,b,s,hs,rfl⟩:=l5 h;rw[a4T];exact a1q i hs
 unfold i7 at h;split at h
 · exact go h
 · split at h
   · split at h
     · exact go h
     · cases h; exact a4T _ _ _
   · cases h; exact a4T _ _ _
   · cases h
theorem a3R {c:d8}:∀ {os:List AOper} {σ σ':Sig},(os.all fun o=>!o.kind.setSt)=true→g9 c os σ=some σ'→σ'.st=σ.st
 | [],σ,σ',_,h=>by simp only[g9]at h; cases h; rfl
 | o::os,σ,σ',ho,h=>by
  simp only[List.all_cons,Bool.and_eq_true,Bool.not_eq_true']at ho;simp only[g9]at h;cases hs:i7 c o σ with
  | none=>rw[hs]at h; cases h
  | some σ1 =>rw[hs]at h;rw[a3R (by simpa using ho.2) h,b6u ho.1 hs]
theorem a1d {c:d8} {n:Nat}:∀ {x:ACode} {fr:List AV} {st:St} {o:Out},x.calm=true→exec c n x fr st=some o→o.2.2=st
 | .skip,_,_,_,_,h=>by simp only[exec]at h; cases h; rfl
 | .exit _,_,_,_,_,h=>by simp only[exec]at h; cases h; rfl
 | .ret,_,_,_,_,h=>by simp only[exec]at h; cases h; rfl
 | .reg kill ops,fr,st,o,j,h=>by
  simp only[exec,fL_eq]at h;cases i:g9 c ops ⟨i6 kill fr,fun _=>.undef,st⟩with
  | none=>rw[i]at h; cases h
  | some σ=>rw[i]at h; cases h; exact a3R j i
 | .test kill ops y a b,fr,st,o,j,h=>by
  simp only[ACode.calm,Bool.and_eq_true]at j;simp only[exec,fL_eq]at h;cases i:g9 c ops ⟨i6 kill fr,fun _=>.undef,st⟩with
  | none=>rw[i]at h; cases h
  | some σ =>
   rw[i]at h;have l:=a3R j.1.1 i;dsimp only at h l;split at h
   · rw[a1d j.1.2 h,l]
   · rw[a1d j.2 h,l]
   · cases h
 | .seq a b,fr,st,o,j,h=>by
  simp only[ACode.calm,Bool.and_eq_true]at j;simp only[exec]at h;cases i:exec c n a fr st with
  | none=>rw[i]at h; cases h
  | some p =>
   obtain⟨e,t,u⟩:=p;rw[i]at h;have l:=a1d j.1 i;cases e with
   | normal=>rw[a1d j.2 h]; exact l
   | exit id=>cases h; exact l
   | ret=>cases h; exact l
 | .blk id a,fr,st,o,j,h=>by
  simp only[exec]at h;cases i:exec c n a fr st with
  | none=>rw[i]at h; cases h
  | some p =>
   obtain⟨e,t,u⟩:=p;rw[i]at h;have l:=a1d (x:=a) j i;cases e with
   | normal=>cases h; exact l
   | exit id=>cases h; exact l
   | ret=>cases h; exact l
end Go.Cb
namespace Go.Cb.G
open Go Go.Cb
theorem b5w {tbl:Nat→Option AFn} {k:Nat} {kill:List Nat} {a b:ACode} {fr:List AV} {st:St} {o1 o2 o:Out} (l:exec (callG tbl k) k a fr st=some o1) (t:exec (callG tbl k) k b fr st=some o2) (j:C1 kill o1=o) (i:C1 kill o2=o):XC tbl (.either kill a b) fr st o:=by refine⟨k,?_⟩;simp only[exec];rw[r8 (W9 k) (Nat.le_refl k) l,r8 (W9 k) (Nat.le_refl k) t,a2T (j.trans i.symm),j]
end Go.Cb.G
namespace Go.Cb.CodeA
open Go Go.Cb Go.Cb.G
def a1s:List AOper:=a203r2.set 2 { dst:=.t 5,kind:=.call 204,args:=[.t 4] }
def a203q:AFn:={ np:=2,nv:=4,results:=[.v 3],code:=.seq a4e (.seq (.reg [1000000,1000002,1000001,1000003,1000004,1000005] a1s) .ret) }
noncomputable def e7 (f:Nat):Option AFn:=match Nat.beq f 203 with
 | true=>some a203q
 | false=>tbl f
theorem b6X:∀ (n:Nat) (as:List AV) (st:St) (r:AV) (st':St),j0 e7 n 204 as st=some (r,st')→st'=st
 | 0,as,st,r,st',h=>by simp[j0]at h
 | n+1,as,st,r,st',h=>by
  have h:a204.run (j0 e7 n) n as st=some (r,st'):=h;have hl:as.length=1:=by
   unfold AFn.run at h;split at h
   · assumption
   · cases h
  rw[R6 _ _ _ _ _ hl]at h;cases i:exec (j0 e7 n) n a204.code (as++List.replicate (a204.nv - a204.np) .undef) st with
  | none=>rw[i]at h; cases h
  | some o =>
   have j:=a1d (show a204.code.calm=true by kernel_rfl) i;obtain⟨e,fr,s⟩:=o;rw[i]at h;dsimp only at j;subst j;cases e with
   | exit id=>cases h
   | normal=>exact b19 h
   | ret=>exact b19 h
theorem c9a {c B:d8} (h:P1 c B) (hk:∀ as st r st',c 204 as st=some (r,st')→st'=st) {n:Nat} {kill:List Nat} {fr:List AV} {st:St} {o:Out} (G:exec c n (.reg kill a1s) fr st=some o):exec B n (.reg kill a203r2) fr st=some o:=by
 have hr:∀ {y σ':Sig},g9 c a1s y=some σ'→g9 B a203r2 y=some σ':=by
  intro y σ' j;rw[show a1s=[a203r2[0],a203r2[1],{ dst:=.t 5,kind:=.call 204,args:=[.t 4] },a203r2[3],a203r2[4],a203r2[5]]from rfl]at j;rw[show a203r2=[a203r2[0],a203r2[1],{ dst:=.t 5,kind:=.callA 204 1,args:=[.t 4,.v 1] },a203r2[3],a203r2[4],a203r2[5]]from rfl];simp only[g9]at j ⊢;cases S:i7 c a203r2[0] y with
  | none=>rw[S]at j; cases j
  | some σ1 =>
   rw[S]at j;rw[a4h h S];dsimp only at j ⊢;cases O:i7 c a203r2[1] σ1 with
   | none=>rw[O]at j; cases j
   | some σ2 =>
    rw[O]at j;rw[a4h h O];dsimp only at j ⊢;cases T:i7 c { dst:=.t 5,kind:=.call 204,args:=[.t 4] } σ2 with
    | none=>rw[T]at j; cases j
    | some z =>
     rw[T]at j;have E:g9 c [a203r2[3],a203r2[4],a203r2[5]] z=some σ':=j;have U:i7 B { dst:=.t 5,kind:=.callA 204 1,args:=[.t 4,.v 1] } σ2=some z:=by
      -- the object beside is there
      obtain⟨r1,b1,s1,J,e1⟩:=l5 (show y9 c a203r2[1] σ1=some σ2 from O);have a0:=a1q (show(Kind.ldStR true 7).setSt=false from rfl) J;have hv:(Opd.v 1).read σ2=(Opd.v 1).read σ1:=by rw[e1]; rfl
      have Y:σ2.st=σ1.st:=by rw[e1,a4T]; exact a0
      have i:C7 true 7 c [(Opd.v 1).read σ1,(Opd.v 1).read σ1] (q6 a203r2[1] σ1) σ1.st=some (r1,b1,s1):=J;obtain⟨p,F,W,V⟩:∃ p F,J9 ((Opd.v 1).read σ1)=some p∧σ1.st[p]?=some F:=by
       unfold C7 at i;split at i
       · rename_i o off r I;simp only[List.cons.injEq,and_true]at I;obtain⟨q1,q2⟩:=I;rw[← q2,q1]at i;simp only[J9]at i;split at i
         · unfold B1 at i;simp only at i;cases hz:σ1.st[o]? with
           | none=>rw[hz]at i; cases i
           | some F=>exact⟨o,F,by rw[q1]; rfl,hz⟩
         · cases i
       · cases i
      obtain⟨R,N,s2,M,e2⟩:=l5 (show y9 c _ σ2=some z from T);have l:n4 204 c [(Opd.t 4).read σ2] (q6 _ σ2) σ2.st=some (R,N,s2):=M;have C:n4 204 B [(Opd.t 4).read σ2] (q6 { dst:=.t 5,kind:=.call 204,args:=[.t 4] } σ2) σ2.st=some (R,N,s2):=by
       unfold n4 at l ⊢;split at l
       · rename_i W;rw[if_pos W];obtain⟨x,hx,u⟩:=Option.map_eq_some_iff.1 l;rw[h _ _ _ _ hx];exact congrArg some u
       · cases l
      have Z:s2=σ2.st:=by
       unfold n4 at l;split at l
       · obtain⟨x,hx,u⟩:=Option.map_eq_some_iff.1 l;obtain⟨x1,x2⟩:=x;simp only[Prod.mk.injEq]at u;rw[← u.2.2];exact hk _ _ _ _ hx
       · cases l
      show y9 B _ σ2=some z;refine Eq.trans (a1e (p:={ dst:=.t 5,kind:=.callA 204 1,args:=[.t 4,.v 1] }) (r:=R) (b':=N) (st':=s2) ?_) ?_
      · show C9 204 1 B [(Opd.t 4).read σ2,(Opd.v 1).read σ2] _ σ2.st=_;unfold C9;simp only[List.take_succ_cons,List.take_zero,List.drop_succ_cons,List.drop_zero];have C:n4 204 B [(Opd.t 4).read σ2] (q6 { dst:=.t 5,kind:=.callA 204 1,args:=[.t 4,.v 1] } σ2) σ2.st=some (R,N,s2):=C;rw[C];have D:kept σ2.st s2 [(Opd.v 1).read σ2]=true:=by rw[Z,hv];simp only[kept,W,Y,V,Bool.and_true];exact(a0E F F).2 rfl
        simp only[D,if_true]
      · rw[e2]; rfl
     rw[U];exact R9 h E
 simp only[exec,fL_eq]at G ⊢;cases j:g9 c a1s ⟨i6 kill fr,fun _=>.undef,st⟩with
 | none=>rw[j]at G; cases G
 | some σ=>rw[j]at G; rw[hr j]; exact G
theorem d0K:∀ n,P1 (j0 e7 n) (j0 tbl n)
 | 0,f,as,st,r,h=>by simp[j0]at h
 | n+1,f,as,st,r,h=>by
  have u:=d0K n;unfold j0 at h ⊢;cases y:Nat.beq f 203 with
  | false =>
   rw[show e7 f=tbl f by unfold e7; rw[y]]at h;cases B:tbl f with
   | none=>rw[B]at h; cases h
   | some fn =>
    rw[B]at h;dsimp only at h ⊢;cases z:fn.ext with
    | some e=>rw[z]at h; exact h
    | none=>rw[z]at h; exact a8z u (Nat.le_refl n) h
  | true =>
   have C:=Nat.eq_of_beq_eq_true y;subst C;have h:a203q.run (j0 e7 n) n as st=some r:=h;show a203.run (j0 tbl n) n as st=some r;have hl:as.length=2:=by
    unfold AFn.run at h;split at h
    · assumption
    · cases h
   rw[R6 _ _ _ _ _ hl]at h;rw[R6 _ _ _ _ _ hl];cases i:exec (j0 e7 n) n a203q.code (as++List.replicate (a203q.nv - a203q.np) .undef) st with
   | none=>rw[i]at h; cases h
   | some o =>
    rw[i]at h;have:exec (j0 tbl n) n a203.code (as++List.replicate (a203.nv - a203.np) .undef) st=some o:=by
     have i:exec (j0 e7 n) n (.seq a4e (.seq (.reg [1000000,1000002,1000001,1000003,1000004,1000005] a1s) .ret)) (as++List.replicate 2 .undef) st=some o:=i;show exec (j0 tbl n) n (.seq a4e (.seq (.reg [1000000,1000002,1000001,1000003,1000004,1000005] a203r2) .ret)) (as++List.replicate 2 .undef) st=some o;rw[exec_seqK]at i ⊢;cases l:exec (j0 e7 n) n a4e (as++List.replicate 2 .undef) st with
     | none=>rw[l]at i; cases i
     | some o1 =>
      obtain⟨e1,j,x⟩:=o1;rw[l]at i;rw[r8 u (Nat.le_refl n) l];cases e1 with
      | exit id=>exact i
      | ret=>exact i
      | normal =>
       rw[a2l,exec_seqK]at i ⊢;cases t:exec (j0 e7 n) n (.reg [1000000,1000002,1000001,1000003,1000004,1000005] a1s) j x with
       | none=>rw[t]at i; cases i
       | some o2 =>rw[t]at i;rw[c9a u (b6X n) t];exact i
    rw[this];exact h
theorem Ev.ofQ {f:Nat} {as:List AV} {st:St} {r:AV} {st':St} (h:Ev e7 f as st r st'):Ev tbl f as st r st':=let ⟨n,hn⟩:=h; ⟨n,d0K n _ _ _ _ hn⟩
end Go.Cb.CodeA
