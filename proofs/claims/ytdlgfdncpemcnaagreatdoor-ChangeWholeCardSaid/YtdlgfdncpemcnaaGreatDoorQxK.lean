import Derived.Test.YtdlgfdncpemcnaaGreatDoorCodeA
import Derived.Test.YtdlgfdncpemcnaaGreatDoorXAms4
set_option maxRecDepth 20000
set_option linter.all false
namespace Go.Cb
open Go
def ACode.calm:ACode→Bool
 | .skip=>true
 | .reg _ ops=>ops.all fun o=>!o.kind.setSt
 | .test _ ops _ a b=>(ops.all fun o=>!o.kind.setSt) && a.calm && b.calm
 | .seq a b=>a.calm && b.calm
 | .blk _ a=>a.calm
 | .exit _=>true
 | .ret=>true
 | _=>false
theorem a4x (d:Dst) (a:AV) (σ:Sig):(d.put a σ).st=σ.st:=by cases d<;>rfl
theorem b2i {rs:List ResK} {e:Ex} {fr:List AV} {st st':St} {r:AV} (h:finK rs (some (e,fr,st))=some (r,st')):st'=st:=by
 unfold finK at h;split at h
 · cases h
 · rename_i i;cases i;split at h<;>first|(cases h; rfl)|cases h
 · cases h
theorem b6G {c:d8} {o:AOper} {σ σ':Sig} (i:o.kind.setSt=false) (h:i7 c o σ=some σ'):σ'.st=σ.st:=by
 have go:∀ {σ':Sig},y9 c o σ=some σ'→σ'.st=σ.st:=fun h=>by obtain⟨r,b,s,hs,rfl⟩:=l6 h;rw[a4x];exact a1w i hs
 unfold i7 at h;split at h
 · exact go h
 · split at h
   · split at h
     · exact go h
     · cases h; exact a4x _ _ _
   · cases h; exact a4x _ _ _
   · cases h
theorem a3D {c:d8}:∀ {os:List AOper} {σ σ':Sig},(os.all fun o=>!o.kind.setSt)=true→g9 c os σ=some σ'→σ'.st=σ.st
 | [],σ,σ',_,h=>by simp only[g9]at h; cases h; rfl
 | o::os,σ,σ',ho,h=>by
  simp only[List.all_cons,Bool.and_eq_true,Bool.not_eq_true']at ho;simp only[g9]at h;cases hs:i7 c o σ with
  | none=>rw[hs]at h; cases h
  | some σ1 =>rw[hs]at h;rw[a3D (by simpa using ho.2) h,b6G ho.1 hs]
theorem a03 {c:d8} {n:Nat}:∀ {x:ACode} {fr:List AV} {st:St} {o:Out},x.calm=true→exec c n x fr st=some o→o.2.2=st
 | .skip,_,_,_,_,h=>by simp only[exec]at h; cases h; rfl
 | .exit _,_,_,_,_,h=>by simp only[exec]at h; cases h; rfl
 | .ret,_,_,_,_,h=>by simp only[exec]at h; cases h; rfl
 | .reg kill ops,fr,st,o,j,h=>by
  simp only[exec,fL_eq]at h;cases i:g9 c ops ⟨i6 kill fr,fun _=>.undef,st⟩with
  | none=>rw[i]at h; cases h
  | some σ=>rw[i]at h; cases h; exact a3D j i
 | .test kill ops y a b,fr,st,o,j,h=>by
  simp only[ACode.calm,Bool.and_eq_true]at j;simp only[exec,fL_eq]at h;cases i:g9 c ops ⟨i6 kill fr,fun _=>.undef,st⟩with
  | none=>rw[i]at h; cases h
  | some σ =>
   rw[i]at h;have l:=a3D j.1.1 i;dsimp only at h l;split at h
   · rw[a03 j.1.2 h,l]
   · rw[a03 j.2 h,l]
   · cases h
 | .seq a b,fr,st,o,j,h=>by
  simp only[ACode.calm,Bool.and_eq_true]at j;simp only[exec]at h;cases i:exec c n a fr st with
  | none=>rw[i]at h; cases h
  | some p =>
   obtain⟨e,t,u⟩:=p;rw[i]at h;have l:=a03 j.1 i;cases e with
   | normal=>rw[a03 j.2 h]; exact l
   | exit id=>cases h; exact l
   | ret=>cases h; exact l
 | .blk id a,fr,st,o,j,h=>by
  simp only[exec]at h;cases i:exec c n a fr st with
  | none=>rw[i]at h; cases h
  | some p =>
   obtain⟨e,t,u⟩:=p;rw[i]at h;have l:=a03 (x:=a) j i;cases e with
   | normal=>cases h; exact l
   | exit id=>cases h; exact l
   | ret=>cases h; exact l
end Go.Cb
namespace Go.Cb.G
open Go Go.Cb
theorem b5C {tbl:Nat→Option AFn} {k:Nat} {kill:List Nat} {a b:ACode} {fr:List AV} {st:St} {o1 o2 o:Out} (l:exec (callG tbl k) k a fr st=some o1) (t:exec (callG tbl k) k b fr st=some o2) (j:B7 kill o1=o) (i:B7 kill o2=o):XC tbl (.either kill a b) fr st o:=by refine⟨k,?_⟩;simp only[exec];rw[s5 (W6 k) (Nat.le_refl k) l,s5 (W6 k) (Nat.le_refl k) t,a3f (j.trans i.symm),j]
end Go.Cb.G
namespace Go.Cb.CodeA
open Go Go.Cb Go.Cb.G
def a1e:List AOper:=a204r2.set 2 { dst:=.t 5,kind:=.call 205,args:=[.t 4] }
def a204q:AFn:={ np:=2,nv:=4,results:=[.v 3],code:=.seq a4o (.seq (.reg [1000000,1000002,1000001,1000003,1000004,1000005] a1e) .ret) }
def e8 (f:Nat):Option AFn:=match Nat.beq f 204 with
 | true=>some a204q
 | false=>tbl f
theorem b5H:∀ (n:Nat) (as:List AV) (st:St) (r:AV) (st':St),j9 e8 n 205 as st=some (r,st')→st'=st
 | 0,as,st,r,st',h=>by simp[j9]at h
 | n+1,as,st,r,st',h=>by
  have h:a205.run (j9 e8 n) n as st=some (r,st'):=h;have hl:as.length=1:=by
   unfold AFn.run at h;split at h
   · assumption
   · cases h
  rw[S7 _ _ _ _ _ hl]at h;cases i:exec (j9 e8 n) n a205.code (as++List.replicate (a205.nv - a205.np) .undef) st with
  | none=>rw[i]at h; cases h
  | some o =>
   have j:=a03 (show a205.code.calm=true by kernel_rfl) i;obtain⟨e,fr,s⟩:=o;rw[i]at h;dsimp only at j;subst j;cases e with
   | exit id=>cases h
   | normal=>exact b2i h
   | ret=>exact b2i h
theorem e3H {c B:d8} (h:Q4 c B) (hk:∀ as st r st',c 205 as st=some (r,st')→st'=st) {n:Nat} {kill:List Nat} {fr:List AV} {st:St} {o:Out} (J:exec c n (.reg kill a1e) fr st=some o):exec B n (.reg kill a204r2) fr st=some o:=by
 have hr:∀ {y σ':Sig},g9 c a1e y=some σ'→g9 B a204r2 y=some σ':=by
  intro y σ' j;rw[show a1e=[a204r2[0],a204r2[1],{ dst:=.t 5,kind:=.call 205,args:=[.t 4] },a204r2[3],a204r2[4],a204r2[5]]from rfl]at j;rw[show a204r2=[a204r2[0],a204r2[1],{ dst:=.t 5,kind:=.callA 205 1,args:=[.t 4,.v 1] },a204r2[3],a204r2[4],a204r2[5]]from rfl];simp only[g9]at j ⊢;cases V:i7 c a204r2[0] y with
  | none=>rw[V]at j; cases j
  | some σ1 =>
   rw[V]at j;rw[a3V h V];dsimp only at j ⊢;cases T:i7 c a204r2[1] σ1 with
   | none=>rw[T]at j; cases j
   | some σ2 =>
    rw[T]at j;rw[a3V h T];dsimp only at j ⊢;cases W:i7 c { dst:=.t 5,kind:=.call 205,args:=[.t 4] } σ2 with
    | none=>rw[W]at j; cases j
    | some z =>
     rw[W]at j;have F:g9 c [a204r2[3],a204r2[4],a204r2[5]] z=some σ':=j;have Y:i7 B { dst:=.t 5,kind:=.callA 205 1,args:=[.t 4,.v 1] } σ2=some z:=by
      -- the object beside is there
      obtain⟨r1,b1,s1,N,e1⟩:=l6 (show y9 c a204r2[1] σ1=some σ2 from T);have a2:=a1w (show(Kind.ldStR true 7).setSt=false from rfl) N;have hv:(Opd.v 1).read σ2=(Opd.v 1).read σ1:=by rw[e1]; rfl
      have a0:σ2.st=σ1.st:=by rw[e1,a4x]; exact a2
      have i:C0 true 7 c [(Opd.v 1).read σ1,(Opd.v 1).read σ1] (q8 a204r2[1] σ1) σ1.st=some (r1,b1,s1):=N;obtain⟨p,G,hp,Z⟩:∃ p G,L5 ((Opd.v 1).read σ1)=some p∧σ1.st[p]?=some G:=by
       unfold C0 at i;split at i
       · rename_i o off r M;simp only[List.cons.injEq,and_true]at M;obtain⟨q1,q2⟩:=M;rw[← q2,q1]at i;simp only[L5]at i;split at i
         · unfold B0 at i;simp only at i;cases hz:σ1.st[o]? with
           | none=>rw[hz]at i; cases i
           | some G=>exact⟨o,G,by rw[q1]; rfl,hz⟩
         · cases i
       · cases i
      obtain⟨U,S,I,O,e2⟩:=l6 (show y9 c _ σ2=some z from W);have l:n6 205 c [(Opd.t 4).read σ2] (q8 _ σ2) σ2.st=some (U,S,I):=O;have D:n6 205 B [(Opd.t 4).read σ2] (q8 { dst:=.t 5,kind:=.call 205,args:=[.t 4] } σ2) σ2.st=some (U,S,I):=by
       unfold n6 at l ⊢;split at l
       · rename_i hp;rw[if_pos hp];obtain⟨x,hx,u⟩:=Option.map_eq_some_iff.1 l;rw[h _ _ _ _ hx];exact congrArg some u
       · cases l
      have a1:I=σ2.st:=by
       unfold n6 at l;split at l
       · obtain⟨x,hx,u⟩:=Option.map_eq_some_iff.1 l;obtain⟨x1,x2⟩:=x;simp only[Prod.mk.injEq]at u;rw[← u.2.2];exact hk _ _ _ _ hx
       · cases l
      show y9 B _ σ2=some z;refine Eq.trans (a01 (p:={ dst:=.t 5,kind:=.callA 205 1,args:=[.t 4,.v 1] }) (r:=U) (b':=S) (st':=I) ?_) ?_
      · show C5 205 1 B [(Opd.t 4).read σ2,(Opd.v 1).read σ2] _ σ2.st=_;unfold C5;simp only[List.take_succ_cons,List.take_zero,List.drop_succ_cons,List.drop_zero];have D:n6 205 B [(Opd.t 4).read σ2] (q8 { dst:=.t 5,kind:=.callA 205 1,args:=[.t 4,.v 1] } σ2) σ2.st=some (U,S,I):=D;rw[D];have E:kept σ2.st I [(Opd.v 1).read σ2]=true:=by rw[a1,hv];simp only[kept,hp,a0,Z,Bool.and_true];exact(a0s G G).2 rfl
        simp only[E,if_true]
      · rw[e2]; rfl
     rw[Y];exact S1 h F
 simp only[exec,fL_eq]at J ⊢;cases j:g9 c a1e ⟨i6 kill fr,fun _=>.undef,st⟩with
 | none=>rw[j]at J; cases J
 | some σ=>rw[j]at J; rw[hr j]; exact J
theorem d4I:∀ n,Q4 (j9 e8 n) (j9 tbl n)
 | 0,f,as,st,r,h=>by simp[j9]at h
 | n+1,f,as,st,r,h=>by
  have u:=d4I n;unfold j9 at h ⊢;cases x:Nat.beq f 204 with
  | false =>
   rw[show e8 f=tbl f by unfold e8; rw[x]]at h;cases z:tbl f with
   | none=>rw[z]at h; cases h
   | some fn =>
    rw[z]at h;dsimp only at h ⊢;cases y:fn.ext with
    | some e=>rw[y]at h; exact h
    | none=>rw[y]at h; exact b0u u (Nat.le_refl n) h
  | true =>
   have D:=Nat.eq_of_beq_eq_true x;subst D;have h:a204q.run (j9 e8 n) n as st=some r:=h;show a204.run (j9 tbl n) n as st=some r;have hl:as.length=2:=by
    unfold AFn.run at h;split at h
    · assumption
    · cases h
   rw[S7 _ _ _ _ _ hl]at h;rw[S7 _ _ _ _ _ hl];cases i:exec (j9 e8 n) n a204q.code (as++List.replicate (a204q.nv - a204q.np) .undef) st with
   | none=>rw[i]at h; cases h
   | some o =>
    rw[i]at h;have:exec (j9 tbl n) n a204.code (as++List.replicate (a204.nv - a204.np) .undef) st=some o:=by
     have i:exec (j9 e8 n) n (.seq a4o (.seq (.reg [1000000,1000002,1000001,1000003,1000004,1000005] a1e) .ret)) (as++List.replicate 2 .undef) st=some o:=i;show exec (j9 tbl n) n (.seq a4o (.seq (.reg [1000000,1000002,1000001,1000003,1000004,1000005] a204r2) .ret)) (as++List.replicate 2 .undef) st=some o;rw[exec_seqK]at i ⊢;cases l:exec (j9 e8 n) n a4o (as++List.replicate 2 .undef) st with
     | none=>rw[l]at i; cases i
     | some o1 =>
      obtain⟨B,j,v⟩:=o1;rw[l]at i;rw[s5 u (Nat.le_refl n) l];cases B with
      | exit id=>exact i
      | ret=>exact i
      | normal =>
       rw[a2d,exec_seqK]at i ⊢;cases t:exec (j9 e8 n) n (.reg [1000000,1000002,1000001,1000003,1000004,1000005] a1e) j v with
       | none=>rw[t]at i; cases i
       | some o2 =>rw[t]at i;rw[e3H u (b5H n) t];exact i
    rw[this];exact h
theorem Ev.ofQ {f:Nat} {as:List AV} {st:St} {r:AV} {st':St} (h:Ev e8 f as st r st'):Ev tbl f as st r st':=let ⟨n,hn⟩:=h; ⟨n,d4I n _ _ _ _ hn⟩
end Go.Cb.CodeA
