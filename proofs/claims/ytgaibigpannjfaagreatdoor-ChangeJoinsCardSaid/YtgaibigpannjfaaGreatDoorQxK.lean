import Derived.Test.YtgaibigpannjfaaGreatDoorCodeA
import Derived.Test.YtgaibigpannjfaaGreatDoorXAms4
set_option maxRecDepth 20000
set_option linter.all false
namespace Go.Cb
open Go
def ACode.calm:ACode→Bool
 | .skip=>true
 | .reg _ ops=>ops.all fun o=>!o.kind.setSt
 | .test _ ops _ a b=>(ops.all fun o=>!o.kind.setSt) && a.calm && b.calm
 | .seq a b=>a.calm && b.calm
 | .blk _ a=>a.calm
 | .exit _=>true
 | .ret=>true
 | _=>false
theorem a5T (d:Dst) (a:AV) (σ:Sig):(d.put a σ).st=σ.st:=by cases d<;>rfl
theorem b2W {rs:List ResK} {e:Ex} {fr:List AV} {st st':St} {r:AV} (h:finK rs (some (e,fr,st))=some (r,st')):st'=st:=by
 unfold finK at h;split at h
 · cases h
 · rename_i i;cases i;split at h<;>first|(cases h; rfl)|cases h
 · cases h
theorem b6S {c:e9} {o:AOper} {σ σ':Sig} (i:o.kind.setSt=false) (h:m2 c o σ=some σ'):σ'.st=σ.st:=by
 have go:∀ {σ':Sig},E9 c o σ=some σ'→σ'.st=σ.st:=fun h=>by obtain⟨r,b,s,hs,rfl⟩:=n8 h;rw[a5T];exact a2f i hs
 unfold m2 at h;split at h
 · exact go h
 · split at h
   · split at h
     · exact go h
     · cases h; exact a5T _ _ _
   · cases h; exact a5T _ _ _
   · cases h
theorem a4J {c:e9}:∀ {os:List AOper} {σ σ':Sig},(os.all fun o=>!o.kind.setSt)=true→l7 c os σ=some σ'→σ'.st=σ.st
 | [],σ,σ',_,h=>by simp only[l7]at h; cases h; rfl
 | o::os,σ,σ',ho,h=>by
  simp only[List.all_cons,Bool.and_eq_true,Bool.not_eq_true']at ho;simp only[l7]at h;cases hs:m2 c o σ with
  | none=>rw[hs]at h; cases h
  | some σ1 =>rw[hs]at h;rw[a4J (by simpa using ho.2) h,b6S ho.1 hs]
theorem a1U {c:e9} {n:Nat}:∀ {x:ACode} {fr:List AV} {st:St} {o:Out},x.calm=true→exec c n x fr st=some o→o.2.2=st
 | .skip,_,_,_,_,h=>by simp only[exec]at h; cases h; rfl
 | .exit _,_,_,_,_,h=>by simp only[exec]at h; cases h; rfl
 | .ret,_,_,_,_,h=>by simp only[exec]at h; cases h; rfl
 | .reg kill ops,fr,st,o,j,h=>by
  simp only[exec,fL_eq]at h;cases i:l7 c ops ⟨m0 kill fr,fun _=>.undef,st⟩with
  | none=>rw[i]at h; cases h
  | some σ=>rw[i]at h; cases h; exact a4J j i
 | .test kill ops y a b,fr,st,o,j,h=>by
  simp only[ACode.calm,Bool.and_eq_true]at j;simp only[exec,fL_eq]at h;cases i:l7 c ops ⟨m0 kill fr,fun _=>.undef,st⟩with
  | none=>rw[i]at h; cases h
  | some σ =>
   rw[i]at h;have l:=a4J j.1.1 i;dsimp only at h l;split at h
   · rw[a1U j.1.2 h,l]
   · rw[a1U j.2 h,l]
   · cases h
 | .seq a b,fr,st,o,j,h=>by
  simp only[ACode.calm,Bool.and_eq_true]at j;simp only[exec]at h;cases i:exec c n a fr st with
  | none=>rw[i]at h; cases h
  | some p =>
   obtain⟨e,t,u⟩:=p;rw[i]at h;have l:=a1U j.1 i;cases e with
   | normal=>rw[a1U j.2 h]; exact l
   | exit id=>cases h; exact l
   | ret=>cases h; exact l
 | .blk id a,fr,st,o,j,h=>by
  simp only[exec]at h;cases i:exec c n a fr st with
  | none=>rw[i]at h; cases h
  | some p =>
   obtain⟨e,t,u⟩:=p;rw[i]at h;have l:=a1U (x:=a) j i;cases e with
   | normal=>cases h; exact l
   | exit id=>cases h; exact l
   | ret=>cases h; exact l
end Go.Cb
namespace Go.Cb.G
open Go Go.Cb
theorem b7V {tbl:Nat→Option AFn} {k:Nat} {kill:List Nat} {a b:ACode} {fr:List AV} {st:St} {o1 o2 o:Out} (l:exec (callG tbl k) k a fr st=some o1) (t:exec (callG tbl k) k b fr st=some o2) (j:G1 kill o1=o) (i:G1 kill o2=o):XC tbl (.either kill a b) fr st o:=by refine⟨k,?_⟩;simp only[exec];rw[D7 (a0y k) (Nat.le_refl k) l,D7 (a0y k) (Nat.le_refl k) t,a3Y (j.trans i.symm),j]
end Go.Cb.G
namespace Go.Cb.CodeA
open Go Go.Cb Go.Cb.G
def a2x:List AOper:=a203r2.set 2 { dst:=.t 5,kind:=.call 204,args:=[.t 4] }
def a203q:AFn:={ np:=2,nv:=4,results:=[.v 3],code:=.seq a4K (.seq (.reg [1000000,1000002,1000001,1000003,1000004,1000005] a2x) .ret) }
noncomputable def e7 (f:Nat):Option AFn:=match Nat.beq f 203 with
 | true=>some a203q
 | false=>tbl f
theorem b60:∀ (n:Nat) (as:List AV) (st:St) (r:AV) (st':St),m6 e7 n 204 as st=some (r,st')→st'=st
 | 0,as,st,r,st',h=>by simp[m6]at h
 | n+1,as,st,r,st',h=>by
  have h:a204.run (m6 e7 n) n as st=some (r,st'):=h;have hl:as.length=1:=by
   unfold AFn.run at h;split at h
   · assumption
   · cases h
  rw[Z4 _ _ _ _ _ hl]at h;cases i:exec (m6 e7 n) n a204.code (as++List.replicate (a204.nv - a204.np) .undef) st with
  | none=>rw[i]at h; cases h
  | some o =>
   have j:=a1U (show a204.code.calm=true by kernel_rfl) i;obtain⟨e,fr,s⟩:=o;rw[i]at h;dsimp only at j;subst j;cases e with
   | exit id=>cases h
   | normal=>exact b2W h
   | ret=>exact b2W h
theorem d6S {c B:e9} (h:V5 c B) (hk:∀ as st r st',c 204 as st=some (r,st')→st'=st) {n:Nat} {kill:List Nat} {fr:List AV} {st:St} {o:Out} (J:exec c n (.reg kill a2x) fr st=some o):exec B n (.reg kill a203r2) fr st=some o:=by
 have hr:∀ {y σ':Sig},l7 c a2x y=some σ'→l7 B a203r2 y=some σ':=by
  intro y σ' j;rw[show a2x=[a203r2[0],a203r2[1],{ dst:=.t 5,kind:=.call 204,args:=[.t 4] },a203r2[3],a203r2[4],a203r2[5]]from rfl]at j;rw[show a203r2=[a203r2[0],a203r2[1],{ dst:=.t 5,kind:=.callA 204 1,args:=[.t 4,.v 1] },a203r2[3],a203r2[4],a203r2[5]]from rfl];simp only[l7]at j ⊢;cases V:m2 c a203r2[0] y with
  | none=>rw[V]at j; cases j
  | some σ1 =>
   rw[V]at j;rw[a4D h V];dsimp only at j ⊢;cases S:m2 c a203r2[1] σ1 with
   | none=>rw[S]at j; cases j
   | some σ2 =>
    rw[S]at j;rw[a4D h S];dsimp only at j ⊢;cases W:m2 c { dst:=.t 5,kind:=.call 204,args:=[.t 4] } σ2 with
    | none=>rw[W]at j; cases j
    | some z =>
     rw[W]at j;have F:l7 c [a203r2[3],a203r2[4],a203r2[5]] z=some σ':=j;have X:m2 B { dst:=.t 5,kind:=.callA 204 1,args:=[.t 4,.v 1] } σ2=some z:=by
      -- the object beside is there
      obtain⟨r1,b1,s1,M,e1⟩:=n8 (show E9 c a203r2[1] σ1=some σ2 from S);have a2:=a2f (show(Kind.ldStR true 7).setSt=false from rfl) M;have hv:(Opd.v 1).read σ2=(Opd.v 1).read σ1:=by rw[e1]; rfl
      have a0:σ2.st=σ1.st:=by rw[e1,a5T]; exact a2
      have i:G8 true 7 c [(Opd.v 1).read σ1,(Opd.v 1).read σ1] (C3 a203r2[1] σ1) σ1.st=some (r1,b1,s1):=M;obtain⟨p,G,Z,Y⟩:∃ p G,P5 ((Opd.v 1).read σ1)=some p∧σ1.st[p]?=some G:=by
       unfold G8 at i;split at i
       · rename_i o off r L;simp only[List.cons.injEq,and_true]at L;obtain⟨q1,q2⟩:=L;rw[← q2,q1]at i;simp only[P5]at i;split at i
         · unfold F4 at i;simp only at i;cases hz:σ1.st[o]? with
           | none=>rw[hz]at i; cases i
           | some G=>exact⟨o,G,by rw[q1]; rfl,hz⟩
         · cases i
       · cases i
      obtain⟨U,O,I,N,e2⟩:=n8 (show E9 c _ σ2=some z from W);have l:B6 204 c [(Opd.t 4).read σ2] (C3 _ σ2) σ2.st=some (U,O,I):=N;have C:B6 204 B [(Opd.t 4).read σ2] (C3 { dst:=.t 5,kind:=.call 204,args:=[.t 4] } σ2) σ2.st=some (U,O,I):=by
       unfold B6 at l ⊢;split at l
       · rename_i Z;rw[if_pos Z];obtain⟨x,hx,u⟩:=Option.map_eq_some_iff.1 l;rw[h _ _ _ _ hx];exact congrArg some u
       · cases l
      have a1:I=σ2.st:=by
       unfold B6 at l;split at l
       · obtain⟨x,hx,u⟩:=Option.map_eq_some_iff.1 l;obtain⟨x1,x2⟩:=x;simp only[Prod.mk.injEq]at u;rw[← u.2.2];exact hk _ _ _ _ hx
       · cases l
      show E9 B _ σ2=some z;refine Eq.trans (a1R (p:={ dst:=.t 5,kind:=.callA 204 1,args:=[.t 4,.v 1] }) (r:=U) (b':=O) (st':=I) ?_) ?_
      · show G9 204 1 B [(Opd.t 4).read σ2,(Opd.v 1).read σ2] _ σ2.st=_;unfold G9;simp only[List.take_succ_cons,List.take_zero,List.drop_succ_cons,List.drop_zero];have C:B6 204 B [(Opd.t 4).read σ2] (C3 { dst:=.t 5,kind:=.callA 204 1,args:=[.t 4,.v 1] } σ2) σ2.st=some (U,O,I):=C;rw[C];have E:kept σ2.st I [(Opd.v 1).read σ2]=true:=by rw[a1,hv];simp only[kept,Z,a0,Y,Bool.and_true];exact(a1i G G).2 rfl
        simp only[E,if_true]
      · rw[e2]; rfl
     rw[X];exact Y1 h F
 simp only[exec,fL_eq]at J ⊢;cases j:l7 c a2x ⟨m0 kill fr,fun _=>.undef,st⟩with
 | none=>rw[j]at J; cases J
 | some σ=>rw[j]at J; rw[hr j]; exact J
theorem d0P:∀ n,V5 (m6 e7 n) (m6 tbl n)
 | 0,f,as,st,r,h=>by simp[m6]at h
 | n+1,f,as,st,r,h=>by
  have u:=d0P n;unfold m6 at h ⊢;cases y:Nat.beq f 203 with
  | false =>
   rw[show e7 f=tbl f by unfold e7; rw[y]]at h;cases B:tbl f with
   | none=>rw[B]at h; cases h
   | some fn =>
    rw[B]at h;dsimp only at h ⊢;cases z:fn.ext with
    | some e=>rw[z]at h; exact h
    | none=>rw[z]at h; exact b0F u (Nat.le_refl n) h
  | true =>
   have E:=Nat.eq_of_beq_eq_true y;subst E;have h:a203q.run (m6 e7 n) n as st=some r:=h;show a203.run (m6 tbl n) n as st=some r;have hl:as.length=2:=by
    unfold AFn.run at h;split at h
    · assumption
    · cases h
   rw[Z4 _ _ _ _ _ hl]at h;rw[Z4 _ _ _ _ _ hl];cases i:exec (m6 e7 n) n a203q.code (as++List.replicate (a203q.nv - a203q.np) .undef) st with
   | none=>rw[i]at h; cases h
   | some o =>
    rw[i]at h;have:exec (m6 tbl n) n a203.code (as++List.replicate (a203.nv - a203.np) .undef) st=some o:=by
     have i:exec (m6 e7 n) n (.seq a4K (.seq (.reg [1000000,1000002,1000001,1000003,1000004,1000005] a2x) .ret)) (as++List.replicate 2 .undef) st=some o:=i;show exec (m6 tbl n) n (.seq a4K (.seq (.reg [1000000,1000002,1000001,1000003,1000004,1000005] a203r2) .ret)) (as++List.replicate 2 .undef) st=some o;rw[exec_seqK]at i ⊢;cases l:exec (m6 e7 n) n a4K (as++List.replicate 2 .undef) st with
     | none=>rw[l]at i; cases i
     | some o1 =>
      obtain⟨C,j,x⟩:=o1;rw[l]at i;rw[D7 u (Nat.le_refl n) l];cases C with
      | exit id=>exact i
      | ret=>exact i
      | normal =>
       rw[a2S,exec_seqK]at i ⊢;cases t:exec (m6 e7 n) n (.reg [1000000,1000002,1000001,1000003,1000004,1000005] a2x) j x with
       | none=>rw[t]at i; cases i
       | some o2 =>rw[t]at i;rw[d6S u (b60 n) t];exact i
    rw[this];exact h
theorem Ev.ofQ {f:Nat} {as:List AV} {st:St} {r:AV} {st':St} (h:Ev e7 f as st r st'):Ev tbl f as st r st':=let ⟨n,hn⟩:=h; ⟨n,d0P n _ _ _ _ hn⟩
end Go.Cb.CodeA
