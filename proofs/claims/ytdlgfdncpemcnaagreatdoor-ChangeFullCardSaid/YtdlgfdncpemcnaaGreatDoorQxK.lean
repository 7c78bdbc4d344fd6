/-
 The table once more, where one test is left out (an object beside a call that leaves the store as it is); a coin whose two ways come to the same by themselves.
-/
import Derived.Test.YtdlgfdncpemcnaaGreatDoorCodeA
import Derived.Test.YtdlgfdncpemcnaaGreatDoorXAms4
set_option maxRecDepth 20000
set_option linter.unusedVariables false
namespace Go.Cb
open Go
/-- code that leaves the store as it is -/
def ACode.calm:ACode→Bool
 | .skip=>true
 | .reg _ ops=>ops.all fun o=>!o.kind.setSt
 | .test _ ops _ a b=>(ops.all fun o=>!o.kind.setSt) && a.calm && b.calm
 | .seq a b=>a.calm && b.calm
 | .blk _ a=>a.calm
 | .exit _=>true
 | .ret=>true
 | _=>false
theorem a2O (d:Dst) (a:AV) (σ:Sig):(d.put a σ).st=σ.st:=by cases d <;> rfl
theorem a9w {rs:List ResK} {e:Ex} {fr:List AV} {st st':St} {r:AV} (h:a1Y rs (some (e,fr,st))=some (r,st')):st'=st:=by
 unfold a1Y at h
 split at h
 · cases h
 · rename_i heq
   cases heq
   split at h <;> first|(cases h; rfl)|cases h
 · cases h
theorem b2q {c:b5} {o:AOper} {σ σ':Sig} (h0:o.kind.setSt=false) (h:d8 c o σ=some σ'):σ'.st=σ.st:=by
 have go:∀ {σ':Sig},m9 c o σ=some σ'→σ'.st=σ.st:=fun h=>by
  obtain ⟨r,b,s,hs,rfl⟩:=e9 h
  rw [a2O]
  exact a0F h0 hs
 unfold d8 at h
 split at h
 · exact go h
 · split at h
   · split at h
     · exact go h
     · cases h; exact a2O _ _ _
   · cases h; exact a2O _ _ _
   · cases h
theorem a1V {c:b5}:∀ {os:List AOper} {σ σ':Sig},(os.all fun o=>!o.kind.setSt)=true→b7 c os σ=some σ'→σ'.st=σ.st
 | [],σ,σ',_,h=>by simp only [b7] at h; cases h; rfl
 | o::os,σ,σ',ho,h=>by
  simp only [List.all_cons,Bool.and_eq_true,Bool.not_eq_true'] at ho
  simp only [b7] at h
  cases hs:d8 c o σ with
  | none=>rw [hs] at h; cases h
  | some σ1 =>
   rw [hs] at h
   rw [a1V (by simpa using ho.2) h,b2q ho.1 hs]
theorem W7 {c:b5} {n:Nat}:∀ {x:ACode} {fr:List AV} {st:St} {o:Out},x.calm=true→exec c n x fr st=some o→o.2.2=st
 | .skip,_,_,_,_,h=>by simp only [exec] at h; cases h; rfl
 | .exit _,_,_,_,_,h=>by simp only [exec] at h; cases h; rfl
 | .ret,_,_,_,_,h=>by simp only [exec] at h; cases h; rfl
 | .reg kill ops,fr,st,o,hx,h=>by
  simp only [exec,fL_eq] at h
  cases hq:b7 c ops ⟨d9 kill fr,fun _=>.undef,st⟩ with
  | none=>rw [hq] at h; cases h
  | some σ=>rw [hq] at h; cases h; exact a1V hx hq
 | .test kill ops y a b,fr,st,o,hx,h=>by
  simp only [ACode.calm,Bool.and_eq_true] at hx
  simp only [exec,fL_eq] at h
  cases hq:b7 c ops ⟨d9 kill fr,fun _=>.undef,st⟩ with
  | none=>rw [hq] at h; cases h
  | some σ =>
   rw [hq] at h
   have h1:=a1V hx.1.1 hq
   dsimp only at h h1
   split at h
   · rw [W7 hx.1.2 h,h1]
   · rw [W7 hx.2 h,h1]
   · cases h
 | .seq a b,fr,st,o,hx,h=>by
  simp only [ACode.calm,Bool.and_eq_true] at hx
  simp only [exec] at h
  cases hq:exec c n a fr st with
  | none=>rw [hq] at h; cases h
  | some p =>
   obtain ⟨e,fr1,st1⟩:=p
   rw [hq] at h
   have h1:=W7 hx.1 hq
   cases e with
   | normal=>rw [W7 hx.2 h]; exact h1
   | exit id=>cases h; exact h1
   | ret=>cases h; exact h1
 | .blk id a,fr,st,o,hx,h=>by
  simp only [exec] at h
  cases hq:exec c n a fr st with
  | none=>rw [hq] at h; cases h
  | some p =>
   obtain ⟨e,fr1,st1⟩:=p
   rw [hq] at h
   have h1:=W7 (x:=a) hx hq
   cases e with
   | normal=>cases h; exact h1
   | exit id=>cases h; exact h1
   | ret=>cases h; exact h1
end Go.Cb
namespace Go.Cb.G
open Go Go.Cb
theorem b1o {tbl:Nat→Option AFn} {k:Nat} {kill:List Nat} {a b:ACode} {fr:List AV} {st:St} {o1 o2 o:Out} (h1:exec (callG tbl k) k a fr st=some o1) (h2:exec (callG tbl k) k b fr st=some o2) (he:n6 kill o1=o) (he2:n6 kill o2=o):XC tbl (.either kill a b) fr st o:=by
 refine ⟨k,?_⟩
 simp only [exec]
 rw [l4 (L8 k) (Nat.le_refl k) h1,l4 (L8 k) (Nat.le_refl k) h2,a1l (he.trans he2.symm),he]
end Go.Cb.G
namespace Go.Cb.CodeA
open Go Go.Cb Go.Cb.G
def Y2:List AOper:=a204r2.set 2 { dst:=.t 5,kind:=.call 205,args:=[.t 4] }
def a204q:AFn:={ np:=2,nv:=4,results:=[.v 3],code:=.seq a1T (.seq (.reg [1000000,1000002,1000001,1000003,1000004,1000005] Y2) .ret) }
/-- the table, where merge's closure calls without a look at the object beside -/
def e7 (f:Nat):Option AFn:=match Nat.beq f 204 with
 | true=>some a204q
 | false=>tbl f
theorem b2i:∀ (n:Nat) (as:List AV) (st:St) (r:AV) (st':St),g9 e7 n 205 as st=some (r,st')→st'=st
 | 0,as,st,r,st',h=>by simp [g9] at h
 | n+1,as,st,r,st',h=>by
  have h:a205.run (g9 e7 n) n as st=some (r,st'):=h
  have hl:as.length=1:=by
   unfold AFn.run at h
   split at h
   · assumption
   · cases h
  rw [L9 _ _ _ _ _ hl] at h
  cases hq:exec (g9 e7 n) n a205.code (as++List.replicate (a205.nv - a205.np) .undef) st with
  | none=>rw [hq] at h; cases h
  | some o =>
   have h1:=W7 (show a205.code.calm=true by kernel_rfl) hq
   obtain ⟨e,fr,s⟩:=o
   rw [hq] at h
   dsimp only at h1
   subst h1
   cases e with
   | exit id=>cases h
   | normal=>exact a9w h
   | ret=>exact a9w h
theorem g4Q {c c':b5} (h:E6 c c') (hk:∀ as st r st',c 205 as st=some (r,st')→st'=st) {n:Nat} {kill:List Nat} {fr:List AV} {st:St} {o:Out} (he:exec c n (.reg kill Y2) fr st=some o):exec c' n (.reg kill a204r2) fr st=some o:=by
 have hr:∀ {σ0 σ':Sig},b7 c Y2 σ0=some σ'→b7 c' a204r2 σ0=some σ':=by
  intro σ0 σ' hq
  rw [show Y2=[a204r2[0],a204r2[1],{ dst:=.t 5,kind:=.call 205,args:=[.t 4] },a204r2[3],a204r2[4],a204r2[5]] from rfl] at hq
  rw [show a204r2=[a204r2[0],a204r2[1],{ dst:=.t 5,kind:=.callA 205 1,args:=[.t 4,.v 1] },a204r2[3],a204r2[4],a204r2[5]] from rfl]
  simp only [b7] at hq ⊢
  cases h0:d8 c a204r2[0] σ0 with
  | none=>rw [h0] at hq; cases hq
  | some σ1 =>
   rw [h0] at hq
   rw [a1Z h h0]
   dsimp only at hq ⊢
   cases h1:d8 c a204r2[1] σ1 with
   | none=>rw [h1] at hq; cases hq
   | some σ2 =>
    rw [h1] at hq
    rw [a1Z h h1]
    dsimp only at hq ⊢
    cases h2:d8 c { dst:=.t 5,kind:=.call 205,args:=[.t 4] } σ2 with
    | none=>rw [h2] at hq; cases hq
    | some σ3 =>
     rw [h2] at hq
     have hrest:b7 c [a204r2[3],a204r2[4],a204r2[5]] σ3=some σ':=hq
     have hgo:d8 c' { dst:=.t 5,kind:=.callA 205 1,args:=[.t 4,.v 1] } σ2=some σ3:=by
      -- the object beside is there
      obtain ⟨r1,b1,s1,hs1,e1⟩:=e9 (show m9 c a204r2[1] σ1=some σ2 from h1)
      have hst:=a0F (show (Kind.ldStR true 7).setSt=false from rfl) hs1
      have hv:(Opd.v 1).read σ2=(Opd.v 1).read σ1:=by rw [e1]; rfl
      have hs2:σ2.st=σ1.st:=by rw [e1,a2O]; exact hst
      have hs1':s7 true 7 c [(Opd.v 1).read σ1,(Opd.v 1).read σ1] (l0 a204r2[1] σ1) σ1.st=some (r1,b1,s1):=hs1
      obtain ⟨p,ob,hp,hob⟩:∃ p ob,C4 ((Opd.v 1).read σ1)=some p∧σ1.st[p]?=some ob:=by
       unfold s7 at hs1'
       split at hs1'
       · rename_i o off r heq
         simp only [List.cons.injEq,and_true] at heq
         obtain ⟨q1,q2⟩:=heq
         rw [← q2,q1] at hs1'
         simp only [C4] at hs1'
         split at hs1'
         · unfold q7 at hs1'
           simp only at hs1'
           cases hz:σ1.st[o]? with
           | none=>rw [hz] at hs1'; cases hs1'
           | some ob=>exact ⟨o,ob,by rw [q1]; rfl,hz⟩
         · cases hs1'
       · cases hs1'
      obtain ⟨r2,b2,s2,hs2',e2⟩:=e9 (show m9 c _ σ2=some σ3 from h2)
      have hc2:l3 205 c [(Opd.t 4).read σ2] (l0 _ σ2) σ2.st=some (r2,b2,s2):=hs2'
      have hc3:l3 205 c' [(Opd.t 4).read σ2] (l0 { dst:=.t 5,kind:=.call 205,args:=[.t 4] } σ2) σ2.st=some (r2,b2,s2):=by
       unfold l3 at hc2 ⊢
       split at hc2
       · rename_i hp
         rw [if_pos hp]
         obtain ⟨x,hx,hx2⟩:=Option.map_eq_some_iff.1 hc2
         rw [h _ _ _ _ hx]
         exact congrArg some hx2
       · cases hc2
      have hs3:s2=σ2.st:=by
       unfold l3 at hc2
       split at hc2
       · obtain ⟨x,hx,hx2⟩:=Option.map_eq_some_iff.1 hc2
         obtain ⟨x1,x2⟩:=x
         simp only [Prod.mk.injEq] at hx2
         rw [← hx2.2.2]
         exact hk _ _ _ _ hx
       · cases hc2
      show m9 c' _ σ2=some σ3
      refine Eq.trans (W6 (p:={ dst:=.t 5,kind:=.callA 205 1,args:=[.t 4,.v 1] }) (r:=r2) (b':=b2) (st':=s2) ?_) ?_
      · show r9 205 1 c' [(Opd.t 4).read σ2,(Opd.v 1).read σ2] _ σ2.st=_
        unfold r9
        simp only [List.take_succ_cons,List.take_zero,List.drop_succ_cons,List.drop_zero]
        have hc3:l3 205 c' [(Opd.t 4).read σ2] (l0 { dst:=.t 5,kind:=.callA 205 1,args:=[.t 4,.v 1] } σ2) σ2.st=some (r2,b2,s2):=hc3
        rw [hc3]
        have hkept:kept σ2.st s2 [(Opd.v 1).read σ2]=true:=by
         rw [hs3,hv]
         simp only [kept,hp,hs2,hob,Bool.and_true]
         exact (S1 ob ob).2 rfl
        simp only [hkept,if_true]
      · rw [e2]; rfl
     rw [hgo]
     exact C8 h hrest
 simp only [exec,fL_eq] at he ⊢
 cases hq:b7 c Y2 ⟨d9 kill fr,fun _=>.undef,st⟩ with
 | none=>rw [hq] at he; cases he
 | some σ=>rw [hq] at he; rw [hr hq]; exact he
theorem b4J:∀ n,E6 (g9 e7 n) (g9 tbl n)
 | 0,f,as,st,r,h=>by simp [g9] at h
 | n+1,f,as,st,r,h=>by
  have ih:=b4J n
  unfold g9 at h ⊢
  cases hb:Nat.beq f 204 with
  | false =>
   rw [show e7 f=tbl f by unfold e7; rw [hb]] at h
   cases ht:tbl f with
   | none=>rw [ht] at h; cases h
   | some fn =>
    rw [ht] at h
    dsimp only at h ⊢
    cases he:fn.ext with
    | some e=>rw [he] at h; exact h
    | none=>rw [he] at h; exact a7Z ih (Nat.le_refl n) h
  | true =>
   have hf:=Nat.eq_of_beq_eq_true hb
   subst hf
   have h:a204q.run (g9 e7 n) n as st=some r:=h
   show a204.run (g9 tbl n) n as st=some r
   have hl:as.length=2:=by
    unfold AFn.run at h
    split at h
    · assumption
    · cases h
   rw [L9 _ _ _ _ _ hl] at h
   rw [L9 _ _ _ _ _ hl]
   cases hq:exec (g9 e7 n) n a204q.code (as++List.replicate (a204q.nv - a204q.np) .undef) st with
   | none=>rw [hq] at h; cases h
   | some o =>
    rw [hq] at h
    have:exec (g9 tbl n) n a204.code (as++List.replicate (a204.nv - a204.np) .undef) st=some o:=by
     have hq:exec (g9 e7 n) n (.seq a1T (.seq (.reg [1000000,1000002,1000001,1000003,1000004,1000005] Y2) .ret)) (as++List.replicate 2 .undef) st=some o:=hq
     show exec (g9 tbl n) n (.seq a1T (.seq (.reg [1000000,1000002,1000001,1000003,1000004,1000005] a204r2) .ret)) (as++List.replicate 2 .undef) st=some o
     rw [exec_seqK] at hq ⊢
     cases h1:exec (g9 e7 n) n a1T (as++List.replicate 2 .undef) st with
     | none=>rw [h1] at hq; cases hq
     | some o1 =>
      obtain ⟨e1,fr1,st1⟩:=o1
      rw [h1] at hq
      rw [l4 ih (Nat.le_refl n) h1]
      cases e1 with
      | exit id=>exact hq
      | ret=>exact hq
      | normal =>
       rw [a3d,exec_seqK] at hq ⊢
       cases h2:exec (g9 e7 n) n (.reg [1000000,1000002,1000001,1000003,1000004,1000005] Y2) fr1 st1 with
       | none=>rw [h2] at hq; cases hq
       | some o2 =>
        rw [h2] at hq
        rw [g4Q ih (b2i n) h2]
        exact hq
    rw [this]
    exact h
theorem Ev.ofQ {f:Nat} {as:List AV} {st:St} {r:AV} {st':St} (h:Ev e7 f as st r st'):Ev tbl f as st r st':=let ⟨n,hn⟩:=h; ⟨n,b4J n _ _ _ _ hn⟩
end Go.Cb.CodeA
