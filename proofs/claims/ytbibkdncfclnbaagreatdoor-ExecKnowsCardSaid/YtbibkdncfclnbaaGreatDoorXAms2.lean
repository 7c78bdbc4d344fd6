import Derived.Test.YtbibkdncfclnbaaGreatDoorXAms1
import Derived.Orders
import Derived.Scope
import Derived.LoopN
set_option maxRecDepth 4000
set_option linter.all false
namespace Go.Cb
open Classical
section
variable {c:Cx} {g:Gh} {w:World} {pr:Nat→Option Pl} {bx:Nat→Nat} {σ:Sig} {a:Act} {o:Oper} {call:d8} {b b' r:AV} {st st':St} {fr as:List AV}
theorem b0w {mine:Nat→Prop} {x:AV} {v:Value} (h:ArgOK g w bx fr mine x v) (t:x.plain=true):RowOK g w x.cellsW v.cells.toList:=by
 have L:=a24 h t;have J:=h.plain t;cases x with
 | agg cs =>have I:=J.rel;simp only[Rel]at I;obtain⟨arr,rfl,C,M⟩:=I;exact⟨C,M,fun k y u l hu=>J.agg cs rfl arr rfl k y u l (by simpa[Value.cells]using hu)⟩
 | list own xs =>
  have I:=J.rel;simp only[Rel]at I;obtain⟨a0,n,cap,rfl,z⟩:=I;refine⟨by simp only[AV.cellsW,Value.cells,RelL]; exact⟨_,[],rfl,by simp only[Rel]; exact⟨a0,n,cap,rfl,z⟩,rfl⟩,by simp[Value.cells,Value.oneCell'],fun k y u l hu ys e=>?_⟩;obtain rfl:k=0:=by cases k with|zero=>rfl|succ k=>simp[AV.cellsW]at l
  simp[AV.cellsW]at l;simp[Value.cells]at hu;subst hu;rw[← l]at e;simp only[AV.list.injEq,AA,List.isEmpty_iff]at e;obtain⟨⟨rfl,rfl⟩,rfl⟩:=e;rcases J.own [] rfl with⟨a1,N,C⟩|⟨_,_,_,_,_,_,_,_,C,_⟩
  · exact⟨a1,N,C⟩
  · exact absurd rfl C
 | undef=>simp[AV.plain]at t
 | loc=>simp[AV.plain]at t
 | box=>simp[AV.plain]at t
 | tuple=>simp[AV.plain]at t
 | fresh=>simp[AV.plain]at t
 | _ =>
  refine⟨L.rel,L.one,fun k y u l _ ys e=>?_⟩;obtain rfl:k=0:=by cases k with|zero=>rfl|succ k=>simp[AV.cellsW]at l
  simp[AV.cellsW]at l;rw[← l]at e;cases e
theorem b7j (h:S c g w pr bx σ a) {x:Operand} {p:Opd} (l:D5 c x p=true) {i f:Nat} (t:p.read σ=.loc i f):p.spend σ=σ:=by
 cases e:p.src with
 | some src=>exact(M4 h l e src).2.1 i f t
 | none=>cases p<;>simp_all [Opd.src,Opd.spend]
theorem a6i (I:Fx c) (h:S c g w pr bx σ a) {x:Operand} {p:Opd} {d:Dst} (ho:o.op=.move x∨o.op=.assign x) (z:D5 c x p=true) (L:s7 c o.dst d=true)
 {next:Act→World→Prop} {Q:Exit→Act→World→Prop} (e:Post c g w a (d.put (p.read σ) (p.spend σ)) next):o.wp c.P a w next Q:=by
 obtain⟨t,J,u,_⟩:=N8 h z d.pl;have l:(execOp a.eval o).run c.P w=.ok (.value (a.eval x)) w:=by rcases ho with ho|ho<;>simp[execOp,ho]
 have y:ArgOK g w bx (p.spend σ).fr (fun b=>t b=some d.pl) (p.read σ) (a.eval x):=by
  cases C:p.read σ<;>rw[C]at u<;>first
   | exact u
   | (rw[b7j h z C]; exact u)
 unfold Oper.wp;rw[l];exact e _ _ g t bx (C2 _ _ _) (a0x I J L (r:=p.read σ) (v:=a.eval x) y fun _ x=>x) (Tr.refl _ _ _)
theorem b4E {elem:TypeId} {x:Operand} (e:o.op=.box elem x) :
 (execOp a.eval o).run c.P w=.ok (.value (.pointer (some (ad w.heap.size 0)))) (w.alloc (.cells (a.eval x).cells elem)):=by
 simp[execOp,e,Instr.box,newVar,newRow]
theorem a5o {elem:TypeId} {z:Value} (l:o.op=.alloc elem) (e:(c.P.info? elem).bind (·.zero)=some z) :
 (execOp a.eval o).run c.P w=.ok (.value (.pointer (some (ad w.heap.size 0)))) (w.alloc (.cells z.cells elem)):=by
 obtain⟨i,hi,e⟩:=Option.bind_eq_some_iff.1 e;simp[execOp,l,Instr.alloc,newVar,newRow,zeroValue,typeInfo,hi,e]
theorem b4o (x:Fx c) (h:S c g w pr bx σ a) {i s:Nat} (u:o.dst=some s) (C:c.slots[i]?=some s) (hi:i∈c.bxs) (hu:σ.fr.getD i .undef=.undef) {cs:List AV} {arr:Array Value} {T:TypeId}
 (l:(execOp a.eval o).run c.P w=.ok (.value (.pointer (some (ad w.heap.size 0)))) (w.alloc (.cells arr T))) (z:RowOK g w cs arr.toList) {next:Act→World→Prop} {Q:Exit→Act→World→Prop}
 (e:Post c g w a { σ with fr:=σ.fr.set i (.box cs) } next):o.wp c.P a w next Q:=by
 obtain⟨v,t,y⟩:=b8b x h C hi hu (T:=T) z;unfold Oper.wp;rw[l,Oper.upon_value,u];exact e _ _ g v t rfl y (Tr.alloc _ h.st.cli _)
theorem a6h (J:Fx c) (h:S c g w pr bx σ a) {d:Dst} (M:s7 c o.dst d=true) {ob:Obj} {O:_root_.Go.Obj} {r:AV} {v:Value} (u:(execOp a.eval o).run c.P w=.ok (.value v) (w.alloc O))
 {cap:Nat} (U:∀ c t z,O=.cells c t z→z=(0,0)) (C:Ext g w (g.more w.heap.size cap) (w.alloc O)→ObjOK (g.more w.heap.size cap) (w.alloc O) g.n ob)
 (T:(r=.ptr σ.st.length 0∧v=.pointer (some (ad w.heap.size 0)))∨(r=.map σ.st.length∧v=.map (some w.heap.size))∨(∃ k sz,r=.sl σ.st.length 0 k sz∧v=.slice (some (ad w.heap.size 0)) k k∧k*sz=cap)) {next:Act→World→Prop} {Q:Exit→Act→World→Prop}
 (l:Post c g w a (d.put r { σ with st:=σ.st++[ob] }) next):o.wp c.P a w next Q:=by
 obtain⟨L,I,y,e⟩:=c55 h (O:=O) U C;unfold Oper.wp;rw[u,Oper.upon_value];refine l _ _ _ pr bx (C2 _ _ _) (a0x J L M (mine:=No) (r:=r) (v:=v) ?_ fun _ x=>x.elim) I;rcases T with⟨rfl,rfl⟩|⟨rfl,rfl⟩|⟨k,sz,rfl,rfl,N⟩
 · exact(show ValOK _ _ No (.ptr _ _) _ from ValOK.mk' (by simp only[Rel]; exact⟨e,by rw[y]⟩) (by simp) (by simp))
 · exact(show ValOK _ _ No (.map _) _ from ValOK.mk' (by simp only[Rel]; exact⟨e,by rw[y]⟩) (by simp) (by simp))
 · exact(show ValOK _ _ No (.sl _ _ _ _) _ from ValOK.mk' (by simp only[Rel]; exact⟨e,k,by rw[y],AK _,by simp[Gh.more,h.st.n,N]⟩) (by simp) (by simp))
def CallPost (g:Gh) (w:World) (st':St) (res:AV) (e:Ending) (w':World):Prop :=
 ∃ v g',e=.returned v∧SRel g' w' st'∧Tr No g w g' w'∧ValOK g' w' (fun b=>g'.sr b=none∧b < w'.heap.size∧(w.heap.size≤b∨g.sr b≠none)) res v
def a3y (P:Program) (f:Nat):Bool:=match P.funcs[f]? with
 | some fn=>!(fn.name == "runtime.NumGoroutine") && fn.body.isSome
 | none=>false
theorem b0l {P:Program} {f:FuncId} (h:a3y P f=true) (args:Array Value) (w:World):(callFunc f args).run P w=.ok (.enter f args) w:=by
 unfold a3y at h;split at h
 · rename_i fn t;simp only[AA,Bool.not_eq_true']at h;obtain⟨l,e⟩:=h;have e:fn.body.isNone=false:=by cases u:fn.body<;>simp_all
   simp only[callFunc,Sem.run_bind,run_program,Result.andThen_ok,t,l,e,Bool.false_eq_true,if_false,Sem.run_pure]
 · cases h
def Z2 (P:Program) (gt:List (Nat×List AV)) (call:d8):Prop :=
 ∀ (f:Nat) (args:List AV) (st:St) (res:AV) (st':St),call f args st=some (res,st')→(∀ x∈args,x.weak=x) →
  a3y P f=true∧∀ (g:Gh) (w:World) (vs:List Value),SRel g w st→Globs gt g w→RelL g w args vs→Calls P f vs.toArray w (CallPost g w st' res)
theorem b2H (d:Dst) (r:AV) (σ:Sig) (st':St):d.put r { σ with st:=st' }={ d.put r σ with st:=st' }:=by cases d<;>rfl
theorem b1Y (fx:Fx c) (h:S c g w pr bx σ a) {f:FuncId} {vs:Array Value} {res:AV} {d:Dst} (N:(execOp a.eval o).run c.P w=.ok (.enter f vs) w)
 (hc:Calls c.P f vs w (CallPost g w st' res)) (hd:s7 c o.dst d=true) {next:Act→World→Prop} {Q:Exit→Act→World→Prop} (y:Post c g w a (d.put res { σ with st:=st' }) next):o.wp c.P a w next Q:=by
 unfold Oper.wp;rw[N,Oper.upon_enter];refine hc.mono fun e w' he=>?_
 obtain⟨v,g',rfl,O,l,hv⟩:=he;show next (a.put o.dst v) w'
 have Z:∀ i f,res≠.loc i f:=fun i f e=>by rw[e]at hv; exact hv.rel
 have C:∀ b p,g'.sr b=some p→c.A b:=fun b p t=>by
  rcases Nat.lt_or_ge b w.heap.size with Y|hge
  · cases J:g.sr b with
    | some q=>exact h.stA b q J
    | none=>have:=(l.keep b Y J (fun x=>x)).2; rw[t]at this; cases this
  · exact h.fresh b hge
 have u:∀ b p,pr b=some p→L1 g w g' w' b∧g'.sr b=none:=fun b p t=>by obtain⟨T,L,_⟩:=h.fr.prv b p t;exact l.keep b L T (fun x=>x)
 cases z:o.dst with
 | none =>
  have W:d=.none:=by cases d<;>simp_all [s7]
  subst W;refine y _ _ g' pr bx rfl ⟨h.fr.evolve l,O,h.gl.ext l.ext,fun b t=>h.fresh b (Nat.le_trans l.size t),C⟩ (l.wider fun _ x=>x.elim)
 | some s =>
  rw[← z];let pr2:Nat→Option Pl:=fun b=>if pr b=none∧g'.sr b=none∧b < w'.heap.size∧(w.heap.size≤b∨g.sr b≠none)then some d.pl else pr b
  have M:∀ b p,pr b=some p→pr2 b=some p:=fun b p t=>by simp only[pr2];rw[if_neg (by rw[t]; simp)];exact t
  refine y _ _ g' pr2 bx (C2 _ _ _) (b2H d res σ st' ▸ a3Q fx h hd (by rw[z]; rfl) l.ext O (fun b p t _=>⟨M b p t,(u b p t).1⟩) (fun b p t=>?_) l.size C ?_) (l.wider fun _ x=>x.elim)
  · simp only[pr2]at t;split at t
    · rename_i I;obtain⟨_,L,U,h4⟩:=I;refine⟨L,U,?_⟩;rcases h4 with h4|h4
      · exact h.fresh b h4
      · cases J:g.sr b with
        | none=>exact absurd J h4
        | some q=>exact h.stA b q J
    · obtain⟨T,L,U⟩:=h.fr.prv b p t;exact⟨(u b p t).2,Nat.lt_of_lt_of_le L l.size,U⟩
  · refine ArgOK.of_val (hv.mono (Ext.refl _ _) fun b t=>⟨?_,rfl,fun _ x=>x⟩) Z;have hn:pr b=none:=by
     cases J:pr b with
     | none=>rfl
     | some q =>
      obtain⟨T,L,_⟩:=h.fr.prv b q J;rcases t.2.2 with h4|h4
      · omega
      · exact absurd T h4
    simp only[pr2];rw[if_pos ⟨hn,t⟩]
theorem OwnN.own {x:AV} {v:Value} {mine:Nat→Prop} (h:OwnN x v):OwnC g w mine x v:=fun xs e=>.inl (h xs e)
theorem b4R {mine:Nat→Prop} {x:AV} {v:Value} (h:OwnC g w mine x v):OwnN x.cellW1 v:=by
 intro xs e;cases x<;>simp only[AV.cellW1]at e<;>try (cases e; done)
 rename_i o ys;simp only[AV.list.injEq,AA,List.isEmpty_iff]at e;obtain⟨⟨rfl,rfl⟩,rfl⟩:=e;rcases h [] rfl with l|⟨_,_,_,_,_,_,_,_,l,_⟩
 · exact l
 · exact absurd rfl l
theorem Rel.cellW1 {x:AV} {v:Value} (h:Rel g w x v):Rel g w x.cellW1 v:=by cases x<;>first|exact h|(simp only[AV.cellW1,Rel]at h ⊢; exact h)
theorem RelL.cellW1:∀ {as:List AV} {vs:List Value},RelL g w as vs→RelL g w (as.map AV.cellW1) vs
 | [],_,h=>h
 | x::as,_,h=>by simp only[RelL,AH]at h ⊢;obtain⟨v,r,e,l,t⟩:=h;exact⟨v,r,e,l.cellW1,RelL.cellW1 t⟩
theorem a7G {mine:Nat→Prop} {x:AV} {v:Value} (h:ArgOK g w bx fr mine x v) (t:x.plain=true):RowOK g w (x.cells.map AV.cellW1) v.cells.toList:=by have e:=a24 h t;refine⟨e.rel.cellW1,e.one,fun k y u l hu=>?_⟩;rw[AU]at l;obtain⟨z,C,rfl⟩:=AL.1 l;exact b4R (e.own k z u C hu)
theorem b9X {cs ds:List AV} {us vs:List Value} {off:Nat} (h:RowOK g w cs us) (t:RowOK g w ds vs) (J:off+vs.length≤us.length):RowOK g w (y8 cs off ds) (us.take off++vs++us.drop (off+vs.length)):=by
 obtain⟨M,N⟩:=a5N (off:=off) h.rel h.one t.rel t.one;refine⟨M,N,fun k x v y L=>?_⟩;have C:=h.rel.length;have I:=t.rel.length;unfold y8 at y;have u:=a2e (by omega) y;have e:=a2e (by omega) L;rcases u with⟨z,z2⟩|⟨z,z2,z3⟩|⟨z,z2⟩
 · rcases e with⟨_,v2⟩|⟨l,_⟩|⟨l,_⟩
   · exact h.own k x v z2 v2
   · omega
   · omega
 · rcases e with⟨l,_⟩|⟨_,_,v3⟩|⟨l,_⟩
   · omega
   · exact t.own _ x v z3 v3
   · omega
 · rcases e with⟨l,_⟩|⟨_,l,_⟩|⟨_,v2⟩
   · omega
   · omega
   · exact h.own k x v z2 v2
inductive RowsW (g:Gh) (w:World):List AV→List Value→Prop where
 | nil:RowsW g w [] []
 | cons {p:AV} {v:Value} {ps:List AV} {vs:List Value} (h:p.plain=true→RowOK g w (p.cells.map AV.cellW1) v.cells.toList) (t:RowsW g w ps vs):RowsW g w (p::ps) (v::vs)
theorem a1D {sz:Nat}:∀ {is:List Nat} {ps:List AV} {rs l:List (List AV)} {arr:Array Value} {vs:List Value},
 D2 sz is ps rs=some l→RowsW g w ps vs→(∀ x∈rs,x.length=sz)→RowOK g w rs.flatten arr.toList →
 ∃ e,Instr.fill (fun i=>some (i*sz,sz)) arr (is.zip vs)=some e∧(∀ x∈l,x.length=sz)∧RowOK g w l.flatten e.toList∧l.length=rs.length
 | [],[],rs,l,arr,vs,h,ha,hr,hl=>by simp only[D2,AD]at h;subst h;exact⟨arr,by simp[Instr.fill],hr,hl,rfl⟩
 | i::is,p::ps,rs,l,arr,vs,h,ha,hr,hl=>by
  simp only[D2]at h;split at h
  · rename_i W;obtain⟨u,z,hi⟩:=W;cases ha with
    | cons T U =>
     rename_i v vs;have t:=T u;have y:(p.cells.map AV.cellW1).length=sz:=by simpa using z
     have J:v.cells.toList.length=v.cells.size:=by simp
     have a0:v.cells.size=sz:=by have:=t.rel.length; omega
     have I:=S8 hr;have C:rs.flatten.length=arr.size:=hl.rel.length.trans (by simp);have Z:i*sz+sz≤arr.size:=by rw[← C,I,← Nat.succ_mul]; exact Nat.mul_le_mul_right _ hi
     have Y:=a7s v (i*sz) arr (by omega);have L:=b9X (off:=i*sz) hl t (by simp; omega);rw[J,← Y]at L;rw[← a3e y hr hi]at L;obtain⟨e,M,e2,N,O⟩:=a1D h U (fun x hx=>by
      rcases List.mem_or_eq_of_mem_set hx with hx|hx
      · exact hr x hx
      · rw[hx]; exact y) L
     refine⟨e,?_,e2,N,by rw[O,Ab]⟩;simp only[List.zip_cons_cons,Instr.fill];rw[if_neg (by simp; omega)];exact M
  · cases h
 | [],_::_,_,_,_,_,h,_,_,_=>by simp[D2]at h
 | _::_,[],_,_,_,_,h,_,_,_=>by simp[D2]at h
theorem b6p (fx:Fx c) (h:S c g w pr bx σ a) {t e len sz:Nat} {parts:Array (Nat×Operand)} {M:TypeInfo} {z:Value} {zero rs:List (List AV)} {z1:List AV} {is:List Nat} {q:Opd} {x:Operand} {d:Dst}
 (ho:o.op=.buildSlice t len parts) (hu:c.P.underlying t=some (.slice e)) (b4:c.P.info? e=some M) (hz:M.zero=some z) (b7:M.size=sz) (U:z.cells.size=sz) (b1:len*sz≤2 ^ 24) (a1:len*sz≠0)
 (c1:E1 z.cells.toList z1=true) (y:zero=List.replicate len z1) (b5:parts.toList.map (·.1)=is) (hx:parts.toList.map (·.2)=[x]) (hq:D5 c x q=true) (hs:D2 sz is [q.read σ] zero=some rs)
 (hd:s7 c o.dst d=true) (T:o.dst.isSome=true) {next:Act→World→Prop} {Q:Exit→Act→World→Prop} (O:Post c g w a (d.put (.fresh rs) (q.spend σ)) next):o.wp c.P a w next Q:=by
 subst b7; subst b5;obtain⟨b0,W,hA,_⟩:=N8 h hq .fly;have a6:(q.spend σ).st=σ.st:=by cases q<;>rfl
 have b3:parts.toList.map (fun p=>a.eval p.2)=[a.eval x]:=by have:=congrArg (List.map a.eval) hx;simpa using this
 have hr:RowsW g w [q.read σ] (parts.toList.map fun p=>a.eval p.2):=by rw[b3];exact .cons (fun hp=>a7G hA hp) .nil
 obtain⟨q1,q2,q3⟩:=J1 c1 g w;have a9:z1.length=M.size:=by rw[q1.length,Array.length_toList]; exact U
 have L:∀ x∈zero,x.length=M.size:=fun x hx=>by rw[y]at hx; rw[List.eq_of_mem_replicate hx]; exact a9
 have a4:∀ n,RowOK g w (List.replicate n z1).flatten (List.replicate n z.cells.toList).flatten:=by
  intro n;induction n with
  | zero=>exact⟨by simp[RelL],by simp,by simp⟩
  | succ n ih =>rw[List.replicate_succ,List.replicate_succ,List.flatten_cons,List.flatten_cons];exact RowOK.append ⟨q1,q2,q3⟩ ih
 have c0:=a1S z.cells len;obtain⟨arr,e1,e2,Y,e5⟩:=a1D (arr:=(Array.range (len*z.cells.size)).map (z.cells[· % z.cells.size]!)) hs hr L (by rw[c0,y]; exact a4 len);rw[U]at e1;rw[← a2U]at e1;have a5:=run_buildSlice (P:=c.P) w t e len (parts.map fun(i,x)=>(i,a.eval x)) arr M z hu b4 hz (by omega) a1 (by rw[U,show(parts.map fun(i,x)=>(i,a.eval x)).toList=parts.toList.map fun p=>(p.1,a.eval p.2)by simp]; exact e1);have N:rs.length=len:=by rw[e5,y,List.length_replicate]
 have c3:arr.toList.length=len*M.size:=by rw[← Y.rel.length,S8 e2,N]
 let g2:=g.claim w.heap.size 0 (len*M.size)
 have Z:=heap_alloc_new w (_root_.Go.Obj.cells arr e);have he:Ext g w g2 (w.alloc (.cells arr e)):=⟨AK _,fun _ _=>rfl,fun _ _=>rfl,fun b f I=>.inl I,fun b f I=>World.cell?_alloc_lt _ _ _ (h.st.cli b f I)⟩;have l:∀ b,b < w.heap.size→L1 g w g2 (w.alloc (.cells arr e)) b:=fun b J=>⟨heap_alloc_old w _ J,fun f I=>by
  rcases I with I|⟨e',_⟩
  · exact I
  · omega⟩
 have C:∀ j,(w.alloc (.cells arr e)).cell? (ad w.heap.size j)=arr.toList[j]?:=fun j=>by rw[cell_of_row _ _ j arr e (0,0) Z,← Array.getElem?_toList]
 have a2:Rel g2 (w.alloc (.cells arr e)) (.fresh rs) (.slice (some (ad w.heap.size 0)) len len):=by
  simp only[Rel];refine⟨_,_,_,M.size,rfl,N.symm,AK _,RelRows.mk e2 (Y.rel.ext he _ _) (fun j u hj=>?_) Y.one (fun j hj=>.inr ⟨rfl,by omega,by omega⟩),fun k ys hk=>?_⟩
  · show(w.alloc (.cells arr e)).cell? (ad w.heap.size (0+j))=some u;rw[Nat.zero_add,C];exact hj
  · obtain⟨v,hv,_⟩:=Y.rel.get hk;obtain⟨a0,n0,b8⟩:=Y.own k _ v hk hv ys rfl;have c4:=(AB.1 hv).1;refine⟨.inr ⟨rfl,by omega,by omega⟩,a0,n0,?_⟩;rw[C,hv,b8]
 unfold Oper.wp;rw[show(execOp a.eval o).run c.P w=.ok (.value (.slice (some ⟨w.heap.size,0,none⟩) len len)) (w.alloc (.cells arr e))by simp only[execOp,ho,Sem.run_bind,a5,Result.andThen_ok,Sem.run_pure]];have a7:SRel g2 (w.alloc (.cells arr e)) σ.st:=h.st.evolve he rfl (by simp) (fun b q hq=>⟨hq,l b (h.st.inn b q hq)⟩) (fun _ _ x=>x) (fun b f I=>by
  rcases I with I|⟨e',_⟩
  · exact .inl I
  · right; simp; omega)
 refine O _ _ g2 b0 bx (C2 _ _ _) ?_ ⟨he,by simp,Env.alloc w _ (by intro c t z e; cases e; rfl),fun b J b6 _=>⟨l b J,b6⟩⟩;have:=a3Q fx W hd T he a7 (pr2:=b0) (fun b p J _=>⟨J,l b (W.fr.prv b p J).2.1⟩)
  (fun b p J=>⟨(W.fr.prv b p J).1,by have:=(W.fr.prv b p J).2.1; simp; omega,(W.fr.prv b p J).2.2⟩) (by simp) W.stA (r:=.fresh rs) (v:=.slice (some ⟨w.heap.size,0,none⟩) len len)
  ⟨a2,fun zs ez=>(by cases ez),fun _ ez=>(by cases ez)⟩
 have b2:∀ (τ:Sig),τ.st=σ.st→({ d.put (.fresh rs) τ with st:=σ.st }:Sig)=d.put (.fresh rs) τ:=fun τ c2=>by cases d<;>simp[Dst.put,← c2]
 rw[b2 _ a6]at this;exact this
theorem b6h (fx:Fx c) (h:S c g w pr bx σ a) {t e len sz:Nat} {parts:Array (Nat×Operand)} {y:TypeInfo} {z:Value} {zero rs:List (List AV)} {Y:List AV} {is:List Nat} {q:Opd} {x:Operand} {d:Dst}
 (ho:o.op=.buildSlice t len parts) (hu:c.P.underlying t=some (.slice e)) (a4:c.P.info? e=some y) (hz:y.zero=some z) (a7:y.size=sz) (I:z.cells.size=sz) (U:len*sz≤2 ^ 24) (L:len*sz≠0)
 (b0:E1 z.cells.toList Y=true) (l:zero=List.replicate len Y) (a5:parts.toList.map (·.1)=is) (W:parts.toList.map (·.2)=[x]) (hq:D5 c x q=true) (hs:D2 sz is [q.read σ] zero=some rs)
 (hd:s7 c o.dst d=true) (a6:o.dst.isSome=true) {next:Act→World→Prop} {Q:Exit→Act→World→Prop} (u:Post c g w a (d.put (.sl σ.st.length 0 len sz) { q.spend σ with st:=σ.st++[.cells rs.flatten] }) next):o.wp c.P a w next Q:=by
 subst a7; subst a5;obtain⟨b1,hS,hA,_⟩:=N8 h hq .fly;have O:(q.spend σ).st=σ.st:=by cases q<;>rfl
 have a2:parts.toList.map (fun p=>a.eval p.2)=[a.eval x]:=by have:=congrArg (List.map a.eval) W;simpa using this
 have hr:RowsW g w [q.read σ] (parts.toList.map fun p=>a.eval p.2):=by rw[a2];exact .cons (fun hp=>a7G hA hp) .nil
 obtain⟨q1,q2,q3⟩:=J1 b0 g w;have T:Y.length=y.size:=by rw[q1.length,Array.length_toList]; exact I
 have v:∀ x∈zero,x.length=y.size:=fun x W=>by rw[l]at W; rw[List.eq_of_mem_replicate W]; exact T
 have M:∀ n,RowOK g w (List.replicate n Y).flatten (List.replicate n z.cells.toList).flatten:=by
  intro n;induction n with
  | zero=>exact⟨by simp[RelL],by simp,by simp⟩
  | succ n ih =>rw[List.replicate_succ,List.replicate_succ,List.flatten_cons,List.flatten_cons];exact RowOK.append ⟨q1,q2,q3⟩ ih
 have a9:=a1S z.cells len;obtain⟨arr,Z,e2,e3,e5⟩:=a1D (arr:=(Array.range (len*z.cells.size)).map (z.cells[· % z.cells.size]!)) hs hr v (by rw[a9,l]; exact M len);rw[I]at Z;rw[← a2U]at Z;have N:=run_buildSlice (P:=c.P) w t e len (parts.map fun(i,x)=>(i,a.eval x)) arr y z hu a4 hz (by omega) L (by rw[I,show(parts.map fun(i,x)=>(i,a.eval x)).toList=parts.toList.map fun p=>(p.1,a.eval p.2)by simp]; exact Z);have J:rs.length=len:=by rw[e5,l,List.length_replicate]
 have a0:arr.toList.length=len*y.size:=by rw[← e3.rel.length,S8 e2,J]
 have a1:arr.size=len*y.size:=by rw[← a0,Array.length_toList]
 have C:(execOp a.eval o).run c.P w=.ok (.value (.slice (some (ad w.heap.size 0)) len len)) (w.alloc (.cells arr e)):=by simp only[execOp,ho,Sem.run_bind,N,Result.andThen_ok,Sem.run_pure]
 rw[← O]at u;exact a6h fx hS hd C (cap:=arr.size) (by intro c t z e; cases e; rfl) (a2B hS e3) (.inr (.inr ⟨len,y.size,rfl,rfl,a1.symm⟩)) u
noncomputable def Gh.grow (g:Gh) (od:Option Nat) (bb cpv:Nat):Gh where
 n:=g.n+1
 m:=fun o=>if o=g.n then bb else g.m o
 cl:=g.cl
 sr:=fun b=>if b=bb then some (g.n,none)else match g.sr b with
  | some (o,some k)=>if od=some o then some (g.n,some k)else some (o,some k)
  | r=>r
 cp:=fun o=>if o=g.n then cpv else g.cp o
theorem c5B {od:Option Nat} {bb cpv b o:Nat} {k:Option Nat} (h:g.sr b=some (o,k)) (e:b≠bb) (l:od≠some o):(g.grow od bb cpv).sr b=some (o,k):=by
 simp only[Gh.grow];rw[if_neg e,h];cases k with
 | none=>rfl
 | some k=>simp only; rw[if_neg l]
theorem b44 {bb cpv b o k:Nat} (h:g.sr b=some (o,some k)) (e:b≠bb):(g.grow (some o) bb cpv).sr b=some (g.n,some k):=by simp only[Gh.grow];rw[if_neg e,h];simp
theorem b1b {od:Option Nat} {bb cpv b:Nat} (h:g.sr b=none) (e:b≠bb):(g.grow od bb cpv).sr b=none:=by simp only[Gh.grow];rw[if_neg e,h]
theorem a6y {od:Option Nat} {bb cpv b:Nat} {p:Nat×Option Nat} (h:(g.grow od bb cpv).sr b=some p):b=bb∨∃ q,g.sr b=some q:=by
 simp only[Gh.grow]at h;split at h
 · exact .inl ‹_›
 · cases e:g.sr b with
   | none=>rw[e]at h; cases h
   | some q=>exact .inr ⟨q,rfl⟩
theorem c3D (h:S c g w pr bx σ a) {u:World} {od:Option Nat} {bb cpv:Nat} {cs:List AV} {st2:St} (J:Env w u) (v:w.heap.size≤u.heap.size) (a0:bb < u.heap.size)
 (z:∀ b,b≠bb→b < w.heap.size→u.heap[b]?=w.heap[b]?) (a4:∀ f,¬ g.cl bb f) (C:bb=w.heap.size∨∃ o,od=some o∧g.sr bb=some (o,none))
 (a1:st2.length=g.n+1) (O:∀ x ob,st2[x]?=some ob→(x=g.n∧ob=.cells cs)∨ob=.dead∨(σ.st[x]?=some ob∧od≠some x))
 (a6:Ext g w (g.grow od bb cpv) u→ObjOK (g.grow od bb cpv) u g.n (.cells cs)) :
 S c (g.grow od bb cpv) u pr bx { σ with st:=st2 } a∧Tr c.A g w (g.grow od bb cpv) u:=by
 have Y:Ext g w (g.grow od bb cpv) u:=⟨by simp[Gh.grow],fun o y=>by simp[Gh.grow,Nat.ne_of_lt y],fun o y=>by simp[Gh.grow,Nat.ne_of_lt y],fun _ _ h=>h,
  fun b f Z=>World.cell?_of_block (z b (fun e=>a4 f (e ▸ Z)) (h.st.cli b f Z))⟩
 have t:∀ b,b≠bb→b < w.heap.size→L1 g w (g.grow od bb cpv) u b:=fun b U W=>⟨z b U W,fun _ x=>x⟩
 have L:∀ b,b < w.heap.size→g.sr b=none→b≠bb:=fun b l N e=>by
  subst e;rcases C with rfl|⟨o,_,y⟩
  · omega
  · rw[N]at y; cases y
 have T:Tr No g w (g.grow od bb cpv) u:=⟨Y,v,J,fun b l N _=>⟨t b (L b l N) l,b1b N (L b l N)⟩⟩;have hA:c.A bb:=by
  rcases C with rfl|⟨o,_,y⟩
  · exact h.fresh _ (AK _)
  · exact h.stA _ _ y
 refine⟨⟨h.fr.evolve T,⟨a1.symm ▸ rfl,fun x ob hx=>?_,fun b p l=>?_,fun b f Z=>Nat.lt_of_lt_of_le (h.st.cli b f Z) v⟩,h.gl.ext Y,fun b l=>h.fresh b (Nat.le_trans v l),fun b p l=>?_⟩,T.wider fun _ x=>x.elim⟩
 · rcases O x ob hx with⟨rfl,rfl⟩|rfl|⟨U,W⟩
   · exact a6 Y
   · trivial
   · refine(h.st.obj x ob U).mono (by rw[h.st.n]; exact(AB.1 U).1) Y fun b k l=>?_
     have a2:=h.st.inn b _ l;have M:b≠bb:=fun e=>by
      subst e;rcases C with rfl|⟨o,a5,I⟩
      · omega
      · rw[l]at I;simp only[AD,AJ]at I;exact W (a5.trans (by rw[I.1]))
     exact⟨c5B l M W,t b M a2⟩
 · rcases a6y l with rfl|⟨q,hq⟩
   · exact a0
   · exact Nat.lt_of_lt_of_le (h.st.inn b q hq) v
 · rcases a6y l with rfl|⟨q,hq⟩
   · exact hA
   · exact h.stA b q hq
theorem X2 {t ty e:TypeId} {i:TypeInfo} {z:Value} (hu:c.P.underlying t=some (.slice e)) (hi:c.P.info? e=some i) (hz:i.zero=some z) (a2:z.cells.size=i.size) (U:0 < i.bytes)
 {a0:Option Addr} {n cap m c1:Nat} {us vs:List Value} {a1:Addr} (M:a0=none→cap=0) (a4:n≤cap) (O:us.length=n*i.size) (uc:∀ J,a0=some J→∀ (j:Nat) u,us[j]?=some u→w.cell? (J.add j)=some u)
 (I:vs.length=m*i.size) (vc:∀ (j:Nat) u,vs[j]?=some u→w.cell? (a1.add j)=some u) (hm:0 < m) (Y:¬ n+m≤cap) (T:(n+m)*i.bytes≤140737488355328) :
 ∃ (C:Array Value) (l:Nat),(Builtin.append_ #[t,t] ty #[.slice a0 n cap,.slice (some a1) m c1]).run c.P w =
  .ok (.slice (some (ad w.heap.size 0)) (n+m) l) (w.drew.alloc (.cells C e))∧C.toList.take ((n+m)*i.size)=us++vs∧C.size=l*i.size∧n+m≤l∧l≤maxLen:=by
 have v:n+m≤140737488355328:=Nat.le_trans (Nat.le_mul_of_pos_right _ U) T;have y:n+m≤maxLen:=by unfold maxLen; omega
 have x:=grownCap_ge w (n+m) cap e;have L:(us++vs).length=(n+m)*i.size:=by rw[AF,O,I,Nat.add_mul]
 have N:∀ k,(Builtin.zeroCells z.cells k).size=k*i.size:=fun k=>by rw[size_zeroCells,a2]
 cases a0 with
 | none =>
  have W:=M rfl;obtain rfl:n=0:=by omega
  subst W;have Z:us=[]:=List.eq_nil_of_length_eq_zero (by simpa using O);subst Z;simp only[Nat.zero_add]at x T v y ⊢;refine⟨_,_,run_append_nil (P:=c.P) w t ty e i z hu hi hz a1 m c1 vs I vc hm (by omega) (by omega),?_,?_,x,grownCap_le_maxLen w m 0 e y⟩
  · rw[Array.toList_append,List.toList_toArray,List.nil_append,← I,List.take_left]
  · rw[Array.size_append,N,List.size_toArray,I,← Nat.add_mul];congr 1; omega
 | some J =>
  refine⟨_,_,run_append_grow (P:=c.P) w t ty e i z hu hi hz J n cap us O (uc J rfl) a1 m c1 vs I vc (by omega) (by omega) (growslice_fits (by omega) T),?_,?_,x,grownCap_le_maxLen w _ cap e y⟩
  · simp only[Array.toList_append,AX];rw[← AX,← L];exact List.take_left
  · simp only[Array.size_append,List.size_toArray,N,O,I,← Nat.add_mul];congr 1; omega
theorem c5i (fx:Fx c) (h:S c g w pr bx σ a) {t e sz bytes:Nat} {i:TypeInfo} {z:Value} {x y:Operand} {p0 p1:Opd} {gs:List AV} {d:Dst} {at_:Array TypeId}
 (ho:o.op=.call { callee:=.builtin .append,args:=#[x,y],argTypes:=at_ }) (g5:at_=#[t,t]) (hu:c.P.underlying t=some (.slice e)) (hi:c.P.info? e=some i) (hz:i.zero=some z) (i4:i.size=sz) (h5:i.bytes=bytes)
 (d4:z.cells.size=sz) (c6:0 < bytes) (i2:D5 c x p0=true) (i3:O3 c y p1=true) (hd:s7 c o.dst d=true) {b b' r:AV} {st':St}
 (hs:F9 sz bytes call (p0.read σ::p1.read σ::gs) b σ.st=some (r,b',st'))
 {next:Act→World→Prop} {Q:Exit→Act→World→Prop} (d0:Post c g w a (d.put r { p0.spend σ with st:=st' }) next):o.wp c.P a w next Q:=by
 subst i4; subst h5;have c4:(2:Nat) ^ 47=140737488355328:=by decide
 obtain⟨b7,hS,hA,_⟩:=N8 h i2 d.pl;have hY:=P9 h i3;have g0:(p0.spend σ).st=σ.st:=by cases p0<;>rfl
 -- the rows that are added
 have rows:∀ (ys:List (List AV)),p1.read σ=.fresh ys→l5 i.size ys=true →
  ∃ c1 bb vs,a.eval y=.slice (some (ad bb 0)) ys.length c1∧vs.length=ys.length*i.size∧RelL g w ys.flatten vs∧(∀ v∈vs,v.oneCell'=true)∧(∀ (k:Nat) (x:AV) (v:Value),ys.flatten[k]?=some x→vs[k]?=some v→OwnN x v) ∧
   ∀ (j:Nat) u,vs[j]?=some u→w.cell? ((ad bb 0).add j)=some u:=by
  intro ys e1 a7;rw[e1]at hY;have hr:Rel g w (.fresh ys) (a.eval y):=ValOK.rel hY;simp only[Rel]at hr;obtain⟨bb,n,c1,i7,ev,rfl,i9,a6,hN⟩:=hr;have e5:=b0P a7 a6;have d3:∃ us,us.length=ys.length*i.size∧RelL g w ys.flatten us∧w.rangeAt bb 0 us∧(∀ u∈us,u.oneCell'=true):=by
   cases ys with
   | nil=>exact⟨[],by simp,by simp[RelL],fun j v hv=>by simp at hv,by simp⟩
   | cons y0 ys =>
    obtain rfl:i7=i.size:=by have h1:=a6.all y0 (by simp); have h2:=e5 y0 (by simp); omega
    obtain⟨us,u1,u2,u3,u4,_⟩:=a6.vals;exact⟨us,u1,u2,u3,u4⟩
  obtain⟨vs,u1,u2,u3,u4⟩:=d3;refine⟨c1,bb,vs,ev,u1,u2,u4,fun k x v L hv zs e2=>?_,fun j u hj=>?_⟩
  · subst e2;obtain⟨_,a0,n0,hc⟩:=hN k zs L;have:=u3 k v hv;rw[Nat.zero_add]at this;rw[show(⟨bb,k,none⟩:Addr)=ad bb k from rfl,hc]at this;exact⟨a0,n0,(Option.some.inj this).symm⟩
  · rw[Addr.add_ad];exact u3 j u hj
 -- what comes out
 have fin:∀ (od:Option Nat) (bb cpv k:Nat) (w2:World) (cs:List AV) (st2:St) (I:Nat),Env w w2→w.heap.size≤w2.heap.size→bb < w2.heap.size→(∀ b,b≠bb→b < w.heap.size→w2.heap[b]?=w.heap[b]?)→(∀ f,¬ g.cl bb f) →
  (bb=w.heap.size∨∃ o,od=some o∧g.sr bb=some (o,none))→st2.length=g.n+1→(∀ x ob,st2[x]?=some ob→(x=g.n∧ob=.cells cs)∨ob=.dead∨(σ.st[x]?=some ob∧od≠some x)) →
  (Ext g w (g.grow od bb cpv) w2→ObjOK (g.grow od bb cpv) w2 g.n (.cells cs))→k≤I→I*i.size=cpv →
  (Builtin.append_ #[t,t] o.type #[a.eval x,a.eval y]).run c.P w=.ok (.slice (some (ad bb 0)) k I) w2→r=.sl σ.st.length 0 k i.size→st'=st2→o.wp c.P a w next Q:=by
  intro od bb cpv k w2 cs st2 I f1 f2 f3 f4 f5 f6 f7 f8 f9 f10 f11 l er es;subst er; subst es;obtain⟨g3,i5⟩:=c3D hS f1 f2 f3 f4 f5 f6 f7 (by rw[g0]; exact f8) f9;have d1:=Z9 (c:=c) (w:=w) ho g5 rfl rfl l;unfold Oper.wp;rw[d1,Oper.upon_value];refine d0 _ _ _ b7 bx (C2 _ _ _) (a0x fx g3 hd (mine:=No) ?_ fun _ x=>x.elim) i5;refine(show ValOK _ _ No (.sl _ _ _ _) _ from ValOK.mk' ?_ (by simp) (by simp));simp only[Rel];rw[← h.st.n];exact⟨by simp[Gh.grow],I,by simp[Gh.grow],f10,by simp[Gh.grow,f11]⟩
 have c3:σ.st.length=g.n:=h.st.n.symm;have last:∀ (b5:St) (cs:List AV) (x:Nat) (ob:Obj),b5.length=σ.st.length→¬ x < σ.st.length→(b5++[Obj.cells cs])[x]?=some ob→x=g.n∧ob=.cells cs:=by
  intro b5 cs x ob k0 j2 L;rw[List.getElem?_append_right (by omega)]at L;have i6:x - b5.length=0:=by
   rcases Nat.eq_zero_or_pos (x - b5.length)with h0|h0
   · exact h0
   · rw[List.getElem?_eq_none (by simp; omega)]at L; cases L
  rw[i6]at L;simp at L;exact⟨by omega,L.symm⟩
 unfold F9 at hs;split at hs<;>first|cases hs; done|skip
 · rename_i ys d5 Z;simp only[AN]at Z;obtain⟨e0,e1,rfl⟩:=Z;split at hs<;>first|cases hs; done|skip
   rename_i O;obtain⟨a4,a7,b2,_⟩:=O;simp only[AD,AJ]at hs;obtain⟨rfl,rfl,rfl⟩:=hs;have hm:0 < ys.length:=by cases ys with|nil=>simp at a4|cons _ _=>simp
   obtain⟨c1,a9,vs,ev,vl,vr,v1,vo,vc⟩:=rows ys e1 a7;rw[e0]at hA;have hA:ValOK g w (fun b=>b7 b=some d.pl) (.list true []) (a.eval x):=hA;obtain⟨a0,n0,eu,h9⟩:∃ a0 n0,a.eval x=.slice a0 n0 n0∧n0=0:=by
    have hr:=hA.rel;simp only[Rel]at hr;obtain⟨g1,n',I,eu,rfl,_⟩:=hr;rcases hA.own [] rfl with⟨a2,n2,h2⟩|⟨_,_,_,_,_,_,_,_,h2,_⟩
    · rw[eu]at h2;simp only[Value.slice.injEq]at h2;obtain⟨rfl,h3,h4⟩:=h2;exact⟨g1,n2,by rw[eu,h4,h3],h3.symm⟩
    · exact absurd rfl h2
   subst h9;obtain⟨C,I,l,hC,b1,J,d7⟩:=X2 (c:=c) (w:=w) (ty:=o.type) hu hi hz d4 c6 (a0:=a0) (n:=0) (cap:=0) (m:=ys.length) (c1:=c1) (us:=[]) (vs:=vs) (a1:=ad a9 0) (fun _=>rfl) (AK _) (by simp) (by simp) vl vc hm (by omega) (by rw[Nat.zero_add,← c4]; exact b2);rw[← eu,← ev]at l;simp only[Nat.zero_add,List.nil_append]at l hC J;have N:(w.drew.alloc (.cells C e)).heap[w.heap.size]?=some (.cells C e (0,0)):=heap_alloc_new w.drew _;have Y:ys.flatten.length=ys.length*i.size:=by rw[vr.length,vl]
   refine fin none w.heap.size C.size ys.length (w.drew.alloc (.cells C e)) ys.flatten _ I ((Env.drawn (w:=w) (w':=w.drew) rfl rfl rfl).trans (Env.alloc w.drew _ (by intro c t z e; cases e; rfl))) (by simp) (by simp)
    (fun b _ hb=>heap_alloc_old w.drew _ hb) (fun f hf=>Nat.lt_irrefl _ (h.st.cli _ f hf)) (.inl rfl) (by rw[AF,← h.st.n]; rfl) (fun x ob L=>?_) (fun he=>?_) J b1.symm l rfl rfl
   · by_cases M:x < σ.st.length
     · rw[List.getElem?_append_left M]at L;exact .inr (.inr ⟨L,by simp⟩)
     · exact .inl (last σ.st _ x ob rfl M L)
   · refine⟨by simp[Gh.grow],fun f hf=>?_,C,e,by simp only[Gh.grow,if_true]; exact N,by simp[Gh.grow],?_,?_,fun k x v L hv=>?_⟩
     · simp only[Gh.grow,if_true]at hf;exact Nat.lt_irrefl _ (h.st.cli _ f hf)
     · rw[Y,hC]; exact vr.ext he _ _
     · rw[Y,hC]; exact v1
     · refine OwnN.own (vo k x v L ?_);rw[← hC,List.getElem?_take,if_pos (by rw[← Y]; exact(AB.1 L).1)];simpa using hv
 · rename_i ys d5 Z;simp only[AN]at Z;obtain⟨e0,e1,rfl⟩:=Z;split at hs<;>first|cases hs; done|skip
   rename_i O;obtain⟨a4,a7,b2,_⟩:=O;simp only[AD,AJ]at hs;obtain⟨rfl,rfl,rfl⟩:=hs;have hm:0 < ys.length:=by cases ys with|nil=>simp at a4|cons _ _=>simp
   obtain⟨c1,a9,vs,ev,vl,vr,v1,vo,vc⟩:=rows ys e1 a7;rw[e0]at hA;have hA:ValOK g w (fun b=>b7 b=some d.pl) .nils (a.eval x):=hA;have eu:a.eval x=.slice none 0 0:=by have hr:=hA.rel;simpa[Rel]using hr
   obtain⟨C,I,l,hC,b1,J,d7⟩:=X2 (c:=c) (w:=w) (ty:=o.type) hu hi hz d4 c6 (a0:=none) (n:=0) (cap:=0) (m:=ys.length) (c1:=c1) (us:=[]) (vs:=vs) (a1:=ad a9 0) (fun _=>rfl) (AK _) (by simp) (by simp) vl vc hm (by omega) (by rw[Nat.zero_add,← c4]; exact b2);rw[← eu,← ev]at l;simp only[Nat.zero_add,List.nil_append]at l hC J;have N:(w.drew.alloc (.cells C e)).heap[w.heap.size]?=some (.cells C e (0,0)):=heap_alloc_new w.drew _;have Y:ys.flatten.length=ys.length*i.size:=by rw[vr.length,vl]
   refine fin none w.heap.size C.size ys.length (w.drew.alloc (.cells C e)) ys.flatten _ I ((Env.drawn (w:=w) (w':=w.drew) rfl rfl rfl).trans (Env.alloc w.drew _ (by intro c t z e; cases e; rfl))) (by simp) (by simp)
    (fun b _ hb=>heap_alloc_old w.drew _ hb) (fun f hf=>Nat.lt_irrefl _ (h.st.cli _ f hf)) (.inl rfl) (by rw[AF,← h.st.n]; rfl) (fun x ob L=>?_) (fun he=>?_) J b1.symm l rfl rfl
   · by_cases M:x < σ.st.length
     · rw[List.getElem?_append_left M]at L;exact .inr (.inr ⟨L,by simp⟩)
     · exact .inl (last σ.st _ x ob rfl M L)
   · refine⟨by simp[Gh.grow],fun f hf=>?_,C,e,by simp only[Gh.grow,if_true]; exact N,by simp[Gh.grow],?_,?_,fun k x v L hv=>?_⟩
     · simp only[Gh.grow,if_true]at hf;exact Nat.lt_irrefl _ (h.st.cli _ f hf)
     · rw[Y,hC]; exact vr.ext he _ _
     · rw[Y,hC]; exact v1
     · refine OwnN.own (vo k x v L ?_);rw[← hC,List.getElem?_take,if_pos (by rw[← Y]; exact(AB.1 L).1)];simpa using hv
 · rename_i oo n s' ys d5 Z;simp only[AN]at Z;obtain⟨e0,e1,rfl⟩:=Z;split at hs<;>first|cases hs; done|skip
   rename_i xs L;split at hs<;>first|cases hs; done|skip
   rename_i O;obtain⟨rfl,a4,a7,b4,b2,_⟩:=O;simp only[AD,AJ]at hs;obtain⟨rfl,rfl,rfl⟩:=hs;have hm:0 < ys.length:=by cases ys with|nil=>simp at a4|cons _ _=>simp
   obtain⟨c1,a9,vs,ev,vl,vr,v1,vo,vc⟩:=rows ys e1 a7;have Y:ys.flatten.length=ys.length*i.size:=by rw[vr.length,vl]
   generalize k1:ys.length=m at *
   rw[e0]at hA;have hA:ValOK g w (fun b=>b7 b=some d.pl) (.sl oo 0 n i.size) (a.eval x):=hA;have hr:=hA.rel;simp only[Rel,Nat.zero_add]at hr;obtain⟨k2,cap,eu,h8,b8⟩:=hr;obtain⟨a5,d6,arr,T,hh,e3,c0,e9,f0⟩:=h.st.obj oo _ L;have b3:(arr.toList.take (n*i.size)).length=n*i.size:=by rw[← b4,← c0.length]
   have c8:(xs++ys.flatten).length=n*i.size+m*i.size:=by rw[AF,b4,Y]
   have c2:∀ x ob,(σ.st.set oo .dead++[Obj.cells (xs++ys.flatten)])[x]?=some ob→(x=g.n∧ob=.cells (xs++ys.flatten))∨ob=.dead∨(σ.st[x]?=some ob∧some oo≠some x):=by
    intro x ob L;by_cases M:x < σ.st.length
    · rw[List.getElem?_append_left (by simpa using M)]at L;by_cases ex:oo=x
      · subst ex;rw[List.getElem?_set_self M]at L;exact .inr (.inl (Option.some.inj L).symm)
      · rw[List.getElem?_set_ne ex]at L;exact .inr (.inr ⟨L,by simpa using ex⟩)
    · exact .inl (last _ _ x ob (by simp) M L)
   have e6:∀ (bb:Nat) (w2:World) (U:Array Value) (T2:TypeId),w2.heap[bb]?=some (.cells U T2 (0,0))→U.toList.take (n*i.size+m*i.size)=arr.toList.take (n*i.size)++vs→(∀ f,¬ g.cl bb f) →
    (∀ b,b≠bb→b < w.heap.size→w2.heap[b]?=w.heap[b]?)→(bb=w.heap.size∨g.sr bb=some (oo,none)) →
    Ext g w (g.grow (some oo) bb U.size) w2→ObjOK (g.grow (some oo) bb U.size) w2 g.n (.cells (xs++ys.flatten)):=by
    intro bb w2 U T2 c7 d2 i0 e7 g7 he;refine⟨by simp[Gh.grow],fun f hf=>?_,U,T2,by simp only[Gh.grow,if_true]; exact c7,by simp[Gh.grow],?_,?_,fun k x v hk hv=>?_⟩
    · simp only[Gh.grow,if_true]at hf;exact i0 f hf
    · rw[c8,d2,← b4]; exact(c0.ext he _ _).append (vr.ext he _ _)
    · rw[c8,d2,← b4];intro v hv;rcases AQ.1 hv with hv|hv
      · exact e9 v hv
      · exact v1 v hv
    · have h6:k < n*i.size+m*i.size:=by rw[← c8]; exact(AB.1 hk).1
      have b6:(arr.toList.take (n*i.size)++vs)[k]?=some v:=by rw[← d2,List.getElem?_take,if_pos h6]; simpa using hv
      by_cases h7:k < xs.length
      · rw[List.getElem?_append_left h7]at hk;rw[List.getElem?_append_left (by rw[b3]; omega),List.getElem?_take,if_pos (by omega)]at b6;refine(f0 k x v hk (by simpa using b6)).mono fun b hb=>?_
        have M:=h.st.inn b _ hb;have a4:b≠bb:=fun e2=>by
         subst e2;rcases g7 with h0|h0
         · omega
         · rw[hb]at h0; simp at h0
        exact⟨b44 hb a4,e7 b a4 M,fun _ x=>x⟩
      · rw[List.getElem?_append_right (by omega)]at hk;rw[List.getElem?_append_right (by rw[b3]; omega),b3,← b4]at b6;exact OwnN.own (vo _ x v hk b6)
   by_cases W:n+m≤cap
   · have e4:n*i.size+vs.length≤arr.size:=by rw[vl,e3,← b8,← Nat.add_mul]; exact Nat.mul_le_mul_right _ W
     have l:=R1 (P:=c.P) (w:=w) t o.type e i T hu hi (g.m oo) n cap arr hh (ad a9 0) m c1 vs vl vc v1 W e4;rw[← eu,← ev]at l;have g4:arr.toList.length=arr.size:=by simp
     generalize N:arr.toList.take (n*i.size)++vs++arr.toList.drop (n*i.size+vs.length)=new at *
     have i1:new.length=arr.size:=by rw[← N]; simp only[AF,AP,List.length_drop,g4]; omega
     have c7:=setRow_heap w (g.m oo) arr new.toArray T _ hh;have M:g.m oo < w.heap.size:=h.st.inn _ _ a5;refine fin (some oo) (g.m oo) new.toArray.size (n+m) (w.setRow (g.m oo) new.toArray) (xs++ys.flatten) _ cap (Env.setRow _ _ _) (by simp) (by simpa using M) (fun b hb _=>setRow_other w _ b _ hb) d6 (.inr ⟨oo,rfl,a5⟩)
      (by rw[AF,Ab,c3]; rfl) c2 (e6 _ _ _ T c7 ?_ d6 (fun b hb _=>setRow_other w _ b _ hb) (.inr a5)) W (by simp[i1,e3,b8]) l rfl rfl
     rw[List.toList_toArray,← N,AX,← AX];rw[show n*i.size+m*i.size=(arr.toList.take (n*i.size)++vs).length by rw[AF,b3,vl]];exact List.take_left
   · obtain⟨C,I,l,hC,b1,J,d7⟩:=X2 (c:=c) (w:=w) (ty:=o.type) hu hi hz d4 c6 (a0:=some (ad (g.m oo) 0)) (n:=n) (cap:=cap) (m:=m) (c1:=c1) (us:=arr.toList.take (n*i.size)) (vs:=vs) (a1:=ad a9 0) (fun h=>by cases h) h8 b3 (fun b0 g6 j u hj=>by
      cases g6;rw[Addr.add_ad,cell_of_row w _ _ arr T _ hh];rw[List.getElem?_take]at hj;split at hj
      · simpa using hj
      · cases hj) vl vc hm W (by rw[← c4]; exact b2)
     rw[← eu,← ev]at l;rw[Nat.add_mul]at hC;have N:(w.drew.alloc (.cells C e)).heap[w.heap.size]?=some (.cells C e (0,0)):=heap_alloc_new w.drew _;refine fin (some oo) w.heap.size C.size (n+m) (w.drew.alloc (.cells C e)) (xs++ys.flatten) _ I ((Env.drawn (w:=w) (w':=w.drew) rfl rfl rfl).trans (Env.alloc w.drew _ (by intro c t z e; cases e; rfl))) (by simp) (by simp)
      (fun b _ hb=>heap_alloc_old w.drew _ hb) (fun f hf=>Nat.lt_irrefl _ (h.st.cli _ f hf)) (.inl rfl) (by rw[AF,Ab,c3]; rfl) c2
      (e6 _ _ _ e N hC (fun f hf=>Nat.lt_irrefl _ (h.st.cli _ f hf)) (fun b _ hb=>heap_alloc_old w.drew _ hb) (.inl rfl)) J b1.symm l rfl rfl
end
end Go.Cb
namespace Go.Cb
open Classical
def C3 (p:AOper) (σ:Sig):AV:=match p.box with|some i=>σ.fr.getD i .undef|none=>.undef
section
variable (c:Cx) (o:Oper) (p:AOper)
def q6 (xs:List Operand):Bool:=p.box.isNone && a1P c xs p.args && s7 c o.dst p.dst
def b9J:Bool:=match o.op,p.args with
 | .move x,[q]|.assign x,[q]=>p.box.isNone && D5 c x q && s7 c o.dst p.dst
 | _,_=>false
def b1t:Bool:=match o.op with|.pick x y z=>q6 c o p [x,y,z]|_=>false
def a7b:Bool:=match o.op with|.nilCheck x=>q6 c o p [x]|_=>false
def a9r (zero:List AV):Bool:=match o.op,o.dst,p.box,p.dst,p.args with
 | .alloc t,some s,some i,.bx,[]=>c.slots[i]? == some s && c.bxs.contains i && a1x c.P t zero
 | _,_,_,_,_=>false
def b08:Bool:=match o.op,o.dst,p.box,p.dst,p.args with
 | .box _ x,some s,some i,.bx,[q]=>c.slots[i]? == some s && c.bxs.contains i && D5 c x q
 | _,_,_,_,_=>false
def a7i (zero:List AV):Bool:=match o.op,p.args with
 | .alloc t,[]=>p.box.isNone && a1x c.P t zero && s7 c o.dst p.dst
 | _,_=>false
def b1p:Bool:=match o.op,p.args with
 | .box _ x,[q]=>p.box.isNone && D5 c x q && s7 c o.dst p.dst
 | _,_=>false
def a8o (places:List (Nat×Nat)):List Nat→List (Nat×Nat)→Bool
 | [],[]=>true
 | i::is,q::qs=>places[i]? == some q && a8o places is qs
 | _,_=>false
def a9E (zero:List AV) (e:List (Nat×Nat)):Bool:=match o.op with
 | .build t parts=>(match a7a c.P t with|some places=>a8o places (parts.toList.map (·.1)) e|none=>false) && a1x c.P t zero && q6 c o p (parts.toList.map (·.2))
 | _=>false
def a7q (sz:Nat) (zero:List (List AV)) (at_:List Nat):Bool:=match o.op with
 | .buildSlice t len parts=>match c.P.underlying t with
  | some (.slice e)=>match c.P.info? e,zero with
   | some ie,z1::_=>match ie.zero with
    | some z=>ie.size == sz && z.cells.size == sz && decide (len*sz≤2 ^ 24) && !(len*sz == 0) && E1 z.cells.toList z1 && zero.length == len && zero.all (R5 · z1) &&
     parts.toList.map (·.1) == at_ && q6 c o p (parts.toList.map (·.2)) && o.dst.isSome
    | none=>false
   | _,_=>false
  | _=>false
 | _=>false
def b1j (i:Nat) (agg:Bool) (n:Nat):Bool:=match o.op,p.box with
 | .load t x,some j=>i == j && decide (i < c.slots.length) && B6 c t == some agg && B1 c t == some n && a1P c [x] p.args && s7 c o.dst p.dst
 | _,_=>false
def W5 (agg:Bool) (n:Nat):Bool:=match o.op with
 | .load t x=>B6 c t == some agg && B1 c t == some n && q6 c o p [x]
 | _=>false
def a9H (i:Nat):Bool:=match o.op,p.box with
 | .load t x,some j=>i == j && decide (i < c.slots.length) && B6 c t == some false && a1P c [x] p.args && s7 c o.dst p.dst
 | _,_=>false
def a3x:Bool:=match o.op with
 | .load t x=>B6 c t == some false && q6 c o p [x]
 | _=>false
def b1E (i n:Nat):Bool:=match o.op,o.dst,p.dst,p.box,p.args with
 | .store t x y,none,.none,some j,[q0,q1]=>i == j && decide (i < c.slots.length) && B1 c t == some n && O3 c x q0 && D5 c y q1
 | _,_,_,_,_=>false
def a5F (n:Nat):Bool:=match o.op,o.dst,p.dst,p.box,p.args with
 | .store t x y,none,.none,none,[q0,q1]=>B1 c t == some n && O3 c x q0 && D5 c y q1
 | _,_,_,_,_=>false
def b54 (off:Nat):Bool:=match o.op with
 | .fieldAddr s x f=>(match a1b c s f with|some fl=>(match B1 c fl.type with|some n=>!(n == 0)|none=>false) && fl.offset == off|none=>false) && q6 c o p [x]
 | _=>false
def b6K (off n:Nat) (agg:Bool):Bool:=match o.op with
 | .field s x f=>(match a1b c s f with|some fl=>B6 c fl.type == some agg && B1 c fl.type == some n && fl.offset == off|none=>false) && q6 c o p [x]
 | _=>false
def b6y (sz:Nat):Bool:=match o.op with
 | .indexAddr t x i=>(match c.P.underlying t with|some (.slice e)=>B1 c e == some sz|_=>false) && q6 c o p [x,i]
 | _=>false
def b2n (len sz:Nat):Bool:=match o.op with
 | .indexAddr t x i=>(match c.P.underlying t with|some (.array n e)=>n == len && B1 c e == some sz|_=>false) && q6 c o p [x,i]
 | _=>false
def b0T:Bool:=match o.op with
 | .index t x i=>(match c.P.underlying t with|some .string=>true|_=>false) && q6 c o p [x,i]
 | _=>false
def b5Q (e hi:Bool):Bool:=match o.op with
 | .slice t x l h none=>(match c.P.underlying t with|some .string=>true|_=>false) && l.isSome == e && h.isSome == hi && q6 c o p (x::(l.toList++h.toList))
 | _=>false
def b6B (sz:Nat) (u hi:Bool):Bool:=match o.op with
 | .slice t x l h none=>(match c.P.underlying t with|some (.slice e)=>B1 c e == some sz|_=>false) && l.isSome == u && h.isSome == hi && q6 c o p (x::(l.toList++h.toList))
 | _=>false
def b57:Bool:=match o.op with
 | .slice t x none (some (.const (.int _ m))) (some (.const (.int _ n)))=>decide (m=0) && decide (n=0) && (match c.P.underlying t with|some (.slice e)=>(B1 c e).isSome|_=>false) && q6 c o p [x]
 | _=>false
def b5Y (len sz:Nat) (u hi:Bool):Bool:=match o.op with
 | .slice t x l h none=>(match c.P.underlying t with|some (.array n e)=>n == len && B1 c e == some sz|_=>false) && l.isSome == u && h.isSome == hi && q6 c o p (x::(l.toList++h.toList))
 | _=>false
def b5l (op:BinOp):Bool:=match o.op with
 | .binOp e _ x y _=>decide (e=op) && q6 c o p [x,y]
 | _=>false
def b2e (op:BinOp):Bool:=match o.op with
 | .binOp e t x y _=>decide (e=op) && (match c.P.underlying t with|some .bool=>true|_=>false) && q6 c o p [x,y]
 | _=>false
def b2r (op:BinOp):Bool:=match o.op with
 | .binOp e t x y _=>decide (e=op) && (match c.P.underlying t with|some (.pointer _)=>true|_=>false) && q6 c o p [x,y]
 | _=>false
def c2h (op:UnOp):Bool:=match o.op with
 | .unOp e _ x=>decide (e=op) && q6 c o p [x]
 | _=>false
def b1N (k:IntKind):Bool:=match o.op with
 | .convert t u x=>(match c.P.underlying t,c.P.underlying u with|some (.int _),some (.int e)=>decide (e=k)|_,_=>false) && q6 c o p [x]
 | _=>false
def b5x (f n:Nat):Bool:=match o.op with
 | .makeFunc (.func l) first e=>l == f && first.size == n && q6 c o p (first++e).toList
 | _=>false
def b4O:Bool:=match o.op,p.args with
 | .makeMap _ none,[]=>p.box.isNone && s7 c o.dst p.dst
 | _,_=>false
def b1H (u:Nat) (zero:List AV) (agg ok:Bool):Bool:=match o.op with
 | .lookup t m k l=>l == ok && (match c.P.underlying t with|some (.map v e)=>K4 c.P u v && B6 c e == some agg && a1x c.P e zero && a9f c.P e agg|_=>false) && q6 c o p [m,k]
 | _=>false
def b2D (e:Nat):Bool:=match o.op with
 | .mapUpdate t m k x|.insert t m k x=>(match c.P.underlying t with|some (.map l _)=>K4 c.P e l|_=>false) && o.dst.isNone && q6 c o p [m,k,x]
 | _=>false
def b6k (i:Nat):Bool:=match o.op with
 | .extract x j=>i == j && q6 c o p [x]
 | _=>false
def a5j (f:Nat):Bool:=match o.op with
 | .call { callee:=.value (.func f'),args:=xs,argTypes:=_ }=>f' == f && q6 c o p xs.toList
 | _=>false
def a8R:Bool:=match o.op with
 | .call { callee:=.value (.tmp s),args:=xs,argTypes:=_ }=>q6 c o p (.tmp s::xs.toList)
 | _=>false
def b1c:Bool:=match o.op with
 | .call { callee:=.builtin .len,args:=⟨[x]⟩,argTypes:=⟨t::_⟩ }=>(match c.P.underlying t with|some .string=>true|_=>false) && q6 c o p [x]
 | _=>false
def b1z:Bool:=match o.op with
 | .call { callee:=.builtin .len,args:=⟨[x]⟩,argTypes:=⟨t::_⟩ }=>(match c.P.underlying t with|some (.slice _)=>true|_=>false) && q6 c o p [x]
 | _=>false
def b8M (P:Program) (t:TypeId):Bool:=match P.underlying t with
 | some (.struct ⟨[f0,f1]⟩)=>f0.name != "_" && f1.name != "_" && f0.offset == 0 && f1.offset == 1 && (match P.underlying f0.type with|some (.int _)=>true|_=>false) && (match P.underlying f1.type with|some .string=>true|_=>false)
 | _=>false
def b1w (neg:Bool):Bool:=match o.op with
 | .binOp op t x y _=>decide (op=if neg then .neq else .eql) && !c.P.eqGuardType c.P.depth t && !c.P.stoodInHeld t && b8M c.P t && q6 c o p [x,y]
 | _=>false
def b1y:Bool:=match o.op with
 | .call { callee:=.builtin .min,args:=⟨[x,y]⟩,.. }=>q6 c o p [x,y]
 | _=>false
def b5w (sz bytes:Nat):Bool:=match o.op,p.args with
 | .call { callee:=.builtin .append,args:=⟨[x,y]⟩,argTypes:=⟨[t,t']⟩ },[q0,q1]=>t == t' && (match c.P.underlying t with
  | some (.slice e)=>(match c.P.info? e with
   | some i=>i.size == sz && i.bytes == bytes && decide (0 < bytes) && (match i.zero with|some z=>z.cells.size == sz|none=>false)
   | none=>false)
  | _=>false) && p.box.isNone && D5 c x q0 && O3 c y q1 && s7 c o.dst p.dst && o.dst.isSome
 | _,_=>false
def b2u (bytes:Nat):Bool:=match o.op,p.args with
 | .call { callee:=.builtin .append,args:=⟨[x,y]⟩,argTypes:=⟨[t,t']⟩ },[q0,q1]=>t == t' && (match c.P.underlying t with
  | some (.slice e)=>(match c.P.info? e with
   | some i=>i.size == 1 && i.bytes == bytes && decide (0 < bytes) && (match i.zero with|some z=>z.cells.size == 1|none=>false)
   | none=>false)
  | _=>false) && p.box.isNone && D5 c x q0 && O3 c y q1 && s7 c o.dst p.dst && o.dst.isSome
 | _,_=>false
def a0l (sz:Nat) (zero:List (List AV)) (at_:List Nat):Bool:=match o.op with
 | .buildSlice t len parts=>match c.P.underlying t with
  | some (.slice e)=>match c.P.info? e,zero with
   | some ie,z1::_=>match ie.zero with
    | some z=>ie.size == sz && z.cells.size == sz && decide (len*sz≤2 ^ 24) && !(len*sz == 0) && E1 z.cells.toList z1 && zero.length == len && zero.all (R5 · z1) &&
     parts.toList.map (·.1) == at_ && p.box.isNone && s7 c o.dst p.dst && (match parts.toList.map (·.2),p.args with|[x],[q]=>D5 c x q|_,_=>false) && o.dst.isSome
    | none=>false
   | _,_=>false
  | _=>false
 | _=>false
def b1J (sz bytes:Nat):Bool:=match o.op,p.args with
 | .call { callee:=.builtin .append,args:=⟨[x,y]⟩,argTypes:=⟨[t,t']⟩ },q0::q1::gs=>t == t' && (match c.P.underlying t with
  | some (.slice e)=>(match c.P.info? e with
   | some i=>i.size == sz && i.bytes == bytes && decide (0 < bytes) && (match i.zero with|some z=>z.cells.size == sz|none=>false)
   | none=>false)
  | _=>false) && p.box.isNone && D5 c x q0 && O3 c y q1 && s7 c o.dst p.dst && o.dst.isSome && gs.all (fun q=>!q.steals)
 | _,_=>false
def b6x:Bool:=match o.op with
 | .convert t u x=>(match c.P.underlying t,c.P.underlying u with|some (.slice e),some .string=>(match c.P.underlying e with|some (.int .u8)=>true|_=>false)|_,_=>false) && q6 c o p [x]
 | _=>false
def AOper.bare (p:AOper):AOper:=match p.kind with
 | .ldStR agg n=>{ p with kind:=.ldSt agg n,args:=p.args.take 1 }
 | .ldStSR _=>{ p with kind:=.ldStS,args:=p.args.take 1 }
 | .stStA n=>{ p with kind:=.stSt n,args:=p.args.take 2 }
 | .callA f m=>{ p with kind:=.call f,args:=p.args.take m }
 | _=>p
def AOper.beside (p:AOper):List Opd:=match p.kind with
 | .ldStR _ _=>p.args.drop 1
 | .ldStSR _=>p.args.drop 1
 | .stStA _=>p.args.drop 2
 | .callA _ m=>p.args.drop m
 | _=>[]
def X9 (qs:List Opd):Bool:=qs.all fun q=>!q.steals
def a6U:Bool:=match p.kind with
 | .mv=>b9J c o p
 | .pick=>b1t c o p
 | .nilchk=>a7b c o p
 | .alloc zero=>a9r c o p zero
 | .boxV=>b08 c o p
 | .allocO zero=>a7i c o p zero
 | .boxO=>b1p c o p
 | .build zero l=>a9E c o p zero l
 | .bslice sz zero at_=>a7q c o p sz zero at_
 | .bsliceM sz zero at_=>a0l c o p sz zero at_
 | .ldLc i agg n=>b1j c o p i agg n
 | .ldSt agg n=>W5 c o p agg n
 | .ldRo agg n=>W5 c o p agg n
 | .ldAn agg n=>W5 c o p agg n
 | .ldStR agg n=>W5 c o p.bare agg n && X9 p.beside
 | .ldStSR _=>a3x c o p.bare && X9 p.beside
 | .stStA n=>a5F c o p.bare n && X9 p.beside
 | .callA f _=>a5j c o p.bare f && X9 p.beside
 | .ldLcS i=>a9H c o p i
 | .ldStS=>a3x c o p
 | .stLc i n=>b1E c o p i n
 | .stSt n=>a5F c o p n
 | .fad off=>b54 c o p off
 | .fld off n agg=>b6K c o p off n agg
 | .iad sz=>b6y c o p sz
 | .iadA len sz=>b2n c o p len sz
 | .idxS=>b0T c o p
 | .slS e hi=>b5Q c o p e hi
 | .slL sz e hi=>b6B c o p sz e hi
 | .slZ=>b57 c o p
 | .slA len sz e hi=>b5Y c o p len sz e hi
 | .bin op=>b5l c o p op
 | .binB op=>b2e c o p op
 | .binP op=>b2r c o p op
 | .un op=>c2h c o p op
 | .conv k=>b1N c o p k
 | .mkF f n=>b5x c o p f n
 | .mkM=>b4O c o p
 | .mget t zero agg ok=>b1H c o p t zero agg ok
 | .mset t=>b2D c o p t
 | .ext i=>b6k c o p i
 | .call f=>a5j c o p f
 | .callV=>a8R c o p
 | .lenS=>b1c c o p
 | .lenL=>b1z c o p
 | .app sz bytes=>b5w c o p sz bytes
 | .appM sz bytes=>b1J c o p sz bytes
 | .b2s=>b6x c o p
 | .appA bytes=>b2u c o p bytes
 | .bsliceO sz zero at_=>a0l c o p sz zero at_
 | .min2=>b1y c o p
 | .eqIS neg=>b1w c o p neg
 | .stuck=>true
def PureK:Prop:=∀ {g:Gh} {w:World} {pr:Nat→Option Pl} {bx:Nat→Nat} {σ:Sig} {a:Act} {call:d8} {r b':AV} {st':St},
 S c g w pr bx σ a→sem p.kind call (p.args.map (·.read σ)) (C3 p σ) σ.st=some (r,b',st')→o9 c g w bx σ.fr a o r∧b'=C3 p σ∧st'=σ.st
def OpK:Prop:=∀ {g:Gh} {w:World} {pr:Nat→Option Pl} {bx:Nat→Nat} {σ σ':Sig} {a:Act} {call:d8} {next:Act→World→Prop} {Q:Exit→Act→World→Prop},
 Fx c→Z2 c.P c.gt call→S c g w pr bx σ a→J4 call p σ=some σ'→Post c g w a σ' next→o.wp c.P a w next Q
end
section
variable {c:Cx} {o:Oper} {p:AOper}
theorem c0m (fr:List AV) (i:Nat):fr.set i (fr.getD i .undef)=fr:=by
 apply List.ext_getElem?;intro j;rw[List.getElem?_set];by_cases e:i=j
 · subst e;rw[if_pos rfl];split
   · rename_i h; simp[h]
   · rename_i h; rw[List.getElem?_eq_none (by omega)]
 · rw[if_neg e]
theorem m9 {call:d8} {σ σ':Sig} (h:J4 call p σ=some σ'):∃ r b' st',sem p.kind call (p.args.map (·.read σ)) (C3 p σ) σ.st=some (r,b',st') ∧
 σ'=p.dst.put r { d9 p.args σ with fr:=(match p.box with|some i=>(d9 p.args σ).fr.set i b'|none=>(d9 p.args σ).fr),st:=st' }:=by
 rw[S7]at h;cases t:p.box with
 | none =>
  have e:C3 p σ=.undef:=by simp only[C3,t]
  rw[e];simp only[t]at h;cases l:sem p.kind call (p.args.map (·.read σ)) .undef σ.st with
  | none=>simp only[l]at h; cases h
  | some x =>obtain⟨r,b',st'⟩:=x;simp only[l]at h;exact⟨r,b',st',rfl,(Option.some.inj h).symm⟩
 | some i =>
  have e:C3 p σ=σ.fr.getD i .undef:=by simp only[C3,t]
  rw[e];simp only[t]at h;cases l:sem p.kind call (p.args.map (·.read σ)) (σ.fr.getD i .undef) σ.st with
  | none=>simp only[l]at h; cases h
  | some x =>obtain⟨r,b',st'⟩:=x;simp only[l]at h;exact⟨r,b',st',rfl,(Option.some.inj h).symm⟩
theorem PureK.op (h:PureK c o p) (x:∀ σ,d9 p.args σ=σ) (I:s7 c o.dst p.dst=true):OpK c o p:=by
 intro g w pr bx σ σ' a call next Q z _ y u l
 obtain⟨r,b',st',L,e⟩:=m9 u;obtain⟨⟨v,t,J⟩,rfl,rfl⟩:=h y L;rw[x]at e;have e:σ'=p.dst.put r σ:=by
  rw[e];cases C:p.box with
  | none=>rfl
  | some i=>simp only[C3,C,c0m]
 subst e;exact b4h z y I t J l
theorem S4 {xs:List Operand} (h:q6 c o p xs=true):p.box=none∧a1P c xs p.args=true∧s7 c o.dst p.dst=true:=by simp only[q6,AA,Option.isNone_iff_eq_none]at h;exact⟨h.1.1,h.1.2,h.2⟩
theorem p7 {xs:List Operand} (h:q6 c o p xs=true)
 (v:∀ {g:Gh} {w:World} {pr:Nat→Option Pl} {bx:Nat→Nat} {σ:Sig} {a:Act} {call:d8} {r b' b:AV} {st':St},S c g w pr bx σ a→ArgsOK g w bx σ.fr (p.args.map (·.read σ)) (xs.map a.eval) →
  sem p.kind call (p.args.map (·.read σ)) b σ.st=some (r,b',st')→o9 c g w bx σ.fr a o r∧b'=b∧st'=σ.st):OpK c o p:=by
 obtain⟨x,l,u⟩:=S4 h;exact PureK.op (fun t e=>v t (R8 t l) e) (fun σ=>D7 l) u
end
end Go.Cb
namespace Go.Cb
open Classical
abbrev nc:d8:=fun _ _ _=>none
section
variable {c:Cx} {o:Oper} {p:AOper}
theorem d16 (N:p.kind=.mv) (h:b9J c o p=true):OpK c o p:=by
 intro g w pr bx σ σ' a call next Q C _ M y l
 obtain⟨r,b',st',z,v⟩:=m9 y;unfold b9J at h;have key:∀ (x:Operand) (q:Opd),(o.op=.move x∨o.op=.assign x)→p.args=[q]→(p.box.isNone && D5 c x q && s7 c o.dst p.dst)=true→o.wp c.P a w next Q:=by
  intro x q u t h;simp only[AA,Option.isNone_iff_eq_none]at h;obtain⟨⟨I,J⟩,L⟩:=h;rw[N,t]at z;simp only[sem,a2V,AH,AM,AD,AJ]at z;obtain⟨rfl,rfl,rfl⟩:=z;rw[I,t]at v;have e:σ'=p.dst.put (q.read σ) (q.spend σ):=by
   rw[v];have:(q.spend σ).st=σ.st:=by cases q<;>rfl
   simp only[d9];rw[← this]
  subst e;exact a6i C M u J L l
 split at h
 · rename_i x q u t; exact key x q (.inl u) t h
 · rename_i x q u t; exact key x q (.inr u) t h
 · cases h
theorem c5m (l:p.kind=.pick) (h:b1t c o p=true):OpK c o p:=by
 unfold b1t at h; split at h
 · rename_i x y z t;exact p7 h fun v u e=>by rw[l]at e; exact c1s (call:=nc) t u e
 · cases h
theorem b8Q (l:p.kind=.nilchk) (h:a7b c o p=true):OpK c o p:=by
 unfold a7b at h; split at h
 · rename_i x t;exact p7 h fun v u e=>by rw[l]at e; exact b4X (call:=nc) t u e
 · cases h
theorem a3q {P:Program} {t:TypeId} {zero:List AV} (h:a1x P t zero=true):∃ z,(P.info? t).bind (·.zero)=some z∧E1 z.cells.toList zero=true:=by
 unfold a1x at h; split at h
 · rename_i z e; exact⟨z,e,h⟩
 · cases h
theorem b2x {zero:List AV} {z:Value} (h:E1 z.cells.toList zero=true) (g:Gh) (w:World):RowOK g w zero z.cells.toList:=by obtain⟨e,l,t⟩:=J1 h g w;exact⟨e,l,t⟩
theorem c0q {zero:List AV} (U:p.kind=.alloc zero) (h:a9r c o p zero=true):OpK c o p:=by
 intro g w pr bx σ σ' a call next Q J _ O v e
 obtain⟨r,b',st',u,l⟩:=m9 v;unfold a9r at h; split at h
 · rename_i t s i W T I x C;simp only[AA,beq_iff_eq]at h;obtain⟨⟨L,M⟩,N⟩:=h;obtain⟨z,Y,y⟩:=a3q N;rw[U,C]at u;simp only[sem,V5,AM,C3,I]at u;cases hu:σ.fr.getD i .undef<;>rw[hu]at u<;>first|cases u; done|skip
   simp only[AD,AJ]at u;obtain⟨rfl,rfl,rfl⟩:=u;rw[I,C,x]at l;simp only[d9,Dst.put]at l;subst l;exact b4o J O T L (by simpa using M) hu (a5o W Y) (b2x y g w) e
 · cases h
theorem b2Y {q:Opd} {σ:Sig} {i:Nat} (hu:σ.fr.getD i .undef=.undef):(q.spend σ).fr.getD i .undef=.undef:=by
 cases q<;>simp only[Opd.spend]<;>try exact hu
 rename_i j;rw[List.getD_eq_getElem?_getD,List.getElem?_set] ;by_cases e:j=i
 · subst e;rw[if_pos rfl,hu];split<;>rfl
 · rw[if_neg e,← List.getD_eq_getElem?_getD]; exact hu
theorem c6u (Z:p.kind=.boxV) (h:b08 c o p=true):OpK c o p:=by
 intro g w pr bx σ σ' a call next Q M _ W z u
 obtain⟨r,b',st',e,l⟩:=m9 z;unfold b08 at h; split at h
 · rename_i t x s i q ho Y L C J;simp only[AA,beq_iff_eq]at h;obtain⟨⟨N,O⟩,T⟩:=h;rw[Z,J]at e;simp only[sem,a05,AH,AM,C3,L]at e;cases hu:σ.fr.getD i .undef<;>rw[hu]at e<;>first|cases e; done|skip
   dsimp only at e;split at e
   · rename_i I;simp only[AD,AJ]at e;obtain⟨rfl,rfl,rfl⟩:=e;rw[L,J,C]at l;simp only[d9,Dst.put]at l;have v:(q.spend σ).st=σ.st:=by cases q<;>rfl
     rw[← v]at l;obtain⟨a0,y,U,_⟩:=N8 W T (.tmp 0);subst l;exact b4o M y Y N (by simpa using O) (b2Y hu) (b4E ho) (b0w U I) u
   · cases e
 · cases h
theorem b8E {zero:List AV} (O:p.kind=.allocO zero) (h:a7i c o p zero=true):OpK c o p:=by
 intro g w pr bx σ σ' a call next Q J _ C v l
 obtain⟨r,b',st',x,u⟩:=m9 v;unfold a7i at h; split at h
 · rename_i t T I;simp only[AA,Option.isNone_iff_eq_none]at h;obtain⟨⟨L,M⟩,N⟩:=h;obtain⟨z,U,y⟩:=a3q M;rw[O,I]at x;simp only[sem,N6,AM,AD,AJ]at x;obtain⟨rfl,rfl,rfl⟩:=x;rw[L,I]at u;subst u;exact a6h J C N (a5o T U) (by intro c t z e; cases e; rfl) (a2B C (b2x y g w)) (.inl ⟨rfl,rfl⟩) l
 · cases h
theorem c45 (Y:p.kind=.boxO) (h:b1p c o p=true):OpK c o p:=by
 intro g w pr bx σ σ' a call next Q M _ W I u
 obtain⟨r,b',st',v,l⟩:=m9 I;unfold b1p at h; split at h
 · rename_i t x q Z L;simp only[AA,Option.isNone_iff_eq_none]at h;obtain⟨⟨N,O⟩,T⟩:=h;rw[Y,L]at v;simp only[sem,X6,AH,AM]at v;split at v
   · rename_i J;simp only[AD,AJ]at v;obtain⟨rfl,rfl,rfl⟩:=v;rw[N,L]at l;simp only[d9]at l;have C:(q.spend σ).st=σ.st:=by cases q<;>rfl
     rw[← C]at l;obtain⟨a0,y,U,_⟩:=N8 W O (.tmp 0);subst l;exact a6h M y T (b4E Z) (by intro c t z e; cases e; rfl) (a2B y (b0w U J)) (.inl ⟨rfl,rfl⟩) u
   · cases v
 · cases h
theorem c7L (M:p.kind=.mkM) (h:b4O c o p=true):OpK c o p:=by
 intro g w pr bx σ σ' a call next Q I _ y v l
 obtain⟨r,b',st',x,u⟩:=m9 v;unfold b4O at h; split at h
 · rename_i t N C;simp only[AA,Option.isNone_iff_eq_none]at h;obtain⟨J,L⟩:=h;rw[M,C]at x;simp only[sem,a1z,AM,AD,AJ]at x;obtain⟨rfl,rfl,rfl⟩:=x;rw[J,C]at u;subst u;refine a6h I y L (O:=.map #[] 0) (by simp[execOp,N,Instr.makeMap]) (by intro c t z e; cases e) (b6u y) (.inr (.inl ⟨rfl,rfl⟩)) l
 · cases h
end
end Go.Cb
namespace Go.Cb
open Classical
section
variable {c:Cx} {o:Oper} {p:AOper}
theorem d3k {op:UnOp} (l:p.kind=.un op) (h:c2h c o p op=true):OpK c o p:=by
 unfold c2h at h; split at h
 · rename_i y t x u;simp only[AA,decide_eq_true_eq]at h;obtain⟨rfl,h⟩:=h;exact p7 h fun z v e=>by rw[l]at e; exact c7d (call:=nc) u v e
 · cases h
theorem c9d {op:BinOp} (l:p.kind=.bin op) (h:b5l c o p op=true):OpK c o p:=by
 unfold b5l at h; split at h
 · rename_i z t x y I u;simp only[AA,decide_eq_true_eq]at h;obtain⟨rfl,h⟩:=h;exact p7 h fun C v e=>by rw[l]at e; exact c4m (call:=nc) u v e
 · cases h
theorem c43 {op:BinOp} (u:p.kind=.binB op) (h:b2e c o p op=true):OpK c o p:=by
 unfold b2e at h; split at h
 · rename_i C t x y J v;simp only[AA,decide_eq_true_eq]at h;obtain⟨⟨rfl,e⟩,h⟩:=h;split at e
   · rename_i hu; exact p7 h fun I z l=>by rw[u]at l; exact c2j (call:=nc) v hu z l
   · cases e
 · cases h
theorem c46 {op:BinOp} (v:p.kind=.binP op) (h:b2r c o p op=true):OpK c o p:=by
 unfold b2r at h; split at h
 · rename_i I t x y L z;simp only[AA,decide_eq_true_eq]at h;obtain⟨⟨rfl,l⟩,h⟩:=h;split at l
   · rename_i e hu; exact p7 h fun J C u=>by rw[v]at u; exact c1g (call:=nc) z hu C u
   · cases l
 · cases h
theorem c5s {k:IntKind} (y:p.kind=.conv k) (h:b1N c o p k=true):OpK c o p:=by
 unfold b1N at h; split at h
 · rename_i t u x z;simp only[AA]at h;obtain⟨hu,h⟩:=h;split at hu
   · rename_i l v;simp only[decide_eq_true_eq]at hu;subst hu;exact p7 h fun I C e=>by rw[y]at e; exact b9m (call:=nc) z l v C e
   · cases hu
 · cases h
theorem d0F {i:Nat} (l:p.kind=.ext i) (h:b6k c o p i=true):OpK c o p:=by
 unfold b6k at h; split at h
 · rename_i x j t;simp only[AA,beq_iff_eq]at h;obtain⟨rfl,h⟩:=h;exact p7 h fun v u e=>by rw[l]at e; exact c4t (call:=nc) t u e
 · cases h
theorem b4c {e:Bool} {n:Nat} (z:p.kind=.ldSt e n) (h:W5 c o p e n=true):OpK c o p:=by
 unfold W5 at h; split at h
 · rename_i t x C;simp only[AA,beq_iff_eq]at h;obtain⟨⟨u,v⟩,h⟩:=h;exact p7 h fun y I l=>by rw[z]at l; exact b1e (call:=nc) y.st C u v I l
 · cases h
theorem c5R {e:Bool} {n:Nat} (y:p.kind=.ldRo e n) (h:W5 c o p e n=true):OpK c o p:=by
 unfold W5 at h; split at h
 · rename_i t x z;simp only[AA,beq_iff_eq]at h;obtain⟨⟨u,v⟩,h⟩:=h;exact p7 h fun I C l=>by rw[y]at l; exact b2E (call:=nc) z u v C l
 · cases h
theorem c5j {e:Bool} {n:Nat} (z:p.kind=.ldAn e n) (h:W5 c o p e n=true):OpK c o p:=by
 unfold W5 at h; split at h
 · rename_i t x C;simp only[AA,beq_iff_eq]at h;obtain⟨⟨u,v⟩,h⟩:=h;exact p7 h fun y I l=>by rw[z]at l; exact b9r (call:=nc) y.st C u v I l
 · cases h
theorem c6I {i:Nat} {l:Bool} {n:Nat} (L:p.kind=.ldLc i l n) (h:b1j c o p i l n=true):OpK c o p:=by
 unfold b1j at h; split at h
 · rename_i t x j M J;simp only[AA,beq_iff_eq,decide_eq_true_eq]at h;obtain⟨⟨⟨⟨⟨rfl,y⟩,z⟩,C⟩,u⟩,I⟩:=h;refine PureK.op (fun v e=>?_) (fun σ=>D7 u) I;rw[L]at e;simp only[C3,J]at e ⊢;exact b9x (call:=nc) v.fr (AE y) M z C (R8 v u) e
 · cases h
theorem c9y {off:Nat} (v:p.kind=.fad off) (h:b54 c o p off=true):OpK c o p:=by
 unfold b54 at h; split at h
 · rename_i s x f z;simp only[AA]at h;obtain⟨e,h⟩:=h;split at e
   · rename_i fl u;simp only[AA,beq_iff_eq]at e;obtain⟨e,t⟩:=e;split at e
     · rename_i n y;exact p7 h fun I C l=>by rw[v]at l; exact c4U (call:=nc) z u y (by simpa using e) t C l
     · cases e
   · cases e
 · cases h
theorem c6X {off n:Nat} {l:Bool} (z:p.kind=.fld off n l) (h:b6K c o p off n l=true):OpK c o p:=by
 unfold b6K at h; split at h
 · rename_i s x f C;simp only[AA]at h;obtain⟨e,h⟩:=h;split at e
   · rename_i fl y;simp only[AA,beq_iff_eq]at e;obtain⟨⟨e,u⟩,v⟩:=e;exact p7 h fun J I t=>by rw[z]at t; exact c5W (call:=nc) C y e u v I t
   · cases e
 · cases h
theorem d0K {sz:Nat} (v:p.kind=.iad sz) (h:b6y c o p sz=true):OpK c o p:=by
 unfold b6y at h; split at h
 · rename_i t x i y;simp only[AA]at h;obtain⟨l,h⟩:=h;split at l
   · rename_i e hu;simp only[beq_iff_eq]at l;exact p7 h fun C z u=>by rw[v]at u; exact c5G (call:=nc) y hu l z u
   · cases l
 · cases h
theorem c5I {len sz:Nat} (v:p.kind=.iadA len sz) (h:b2n c o p len sz=true):OpK c o p:=by
 unfold b2n at h; split at h
 · rename_i t x i y;simp only[AA]at h;obtain⟨l,h⟩:=h;split at l
   · rename_i n e hu;simp only[AA,beq_iff_eq]at l;obtain⟨rfl,l⟩:=l;exact p7 h fun C z u=>by rw[v]at u; exact c0T (call:=nc) y hu l z u
   · cases l
 · cases h
theorem c6d (u:p.kind=.idxS) (h:b0T c o p=true):OpK c o p:=by
 unfold b0T at h; split at h
 · rename_i t x i v;simp only[AA]at h;obtain⟨e,h⟩:=h;split at e
   · rename_i hu;exact p7 h fun z y l=>by rw[u]at l; exact c2t (call:=nc) v hu y l
   · cases e
 · cases h
theorem a7m {a:Act} {x:Operand} {l h:Option Operand}:(x::(l.toList++h.toList)).map a.eval=a.eval x::((l.map a.eval).toList++(h.map a.eval).toList):=by cases l<;>cases h<;>rfl
theorem d0B {y hi:Bool} (z:p.kind=.slS y hi) (h:b5Q c o p y hi=true):OpK c o p:=by
 unfold b5Q at h; split at h
 · rename_i t x l I C;simp only[AA,beq_iff_eq]at h;obtain⟨⟨⟨e,rfl⟩,rfl⟩,h⟩:=h;split at e
   · rename_i hu;exact p7 h fun J u v=>by rw[z]at v; rw[a7m]at u; exact c6a (call:=nc) C hu u v
   · cases e
 · cases h
theorem c7p {sz:Nat} {z hi:Bool} (C:p.kind=.slL sz z hi) (h:b6B c o p sz z hi=true):OpK c o p:=by
 unfold b6B at h; split at h
 · rename_i t x l J I;simp only[AA,beq_iff_eq]at h;obtain⟨⟨⟨u,rfl⟩,rfl⟩,h⟩:=h;split at u
   · rename_i e hu;simp only[beq_iff_eq]at u;exact p7 h fun L v y=>by rw[C]at y; rw[a7m]at v; exact c6A (call:=nc) I hu u v y
   · cases u
 · cases h
theorem c7C (v:p.kind=.slZ) (h:b57 c o p=true):OpK c o p:=by
 unfold b57 at h; split at h
 · rename_i t x k m I n y;simp only[AA,decide_eq_true_eq]at h;obtain⟨⟨⟨rfl,rfl⟩,l⟩,h⟩:=h;split at l
   · rename_i e hu;exact p7 h fun C z u=>by rw[v]at u; exact c6t (call:=nc) y hu l z u
   · cases l
 · cases h
theorem c7K {len sz:Nat} {z hi:Bool} (C:p.kind=.slA len sz z hi) (h:b5Y c o p len sz z hi=true):OpK c o p:=by
 unfold b5Y at h; split at h
 · rename_i t x l J I;simp only[AA,beq_iff_eq]at h;obtain⟨⟨⟨u,rfl⟩,rfl⟩,h⟩:=h;split at u
   · rename_i n e hu;simp only[AA,beq_iff_eq]at u;obtain⟨rfl,u⟩:=u;exact p7 h fun L v y=>by rw[C]at y; rw[a7m]at v; exact c42 (call:=nc) I hu u v y
   · cases u
 · cases h
theorem c8f {f n:Nat} (u:p.kind=.mkF f n) (h:b5x c o p f n=true):OpK c o p:=by
 unfold b5x at h; split at h
 · rename_i y first e v
   simp only[AA,beq_iff_eq]at h;obtain⟨⟨rfl,t⟩,h⟩:=h;exact p7 h fun z x l=>by rw[u]at l; exact c4R (call:=nc) v t x l
 · cases h
theorem c5g {v:Nat} {zero:List AV} {l ok:Bool} (I:p.kind=.mget v zero l ok) (h:b1H c o p v zero l ok=true):OpK c o p:=by
 unfold b1H at h; split at h
 · rename_i t m k M J;simp only[AA,beq_iff_eq]at h;obtain⟨⟨rfl,e⟩,h⟩:=h;split at e
   · rename_i O N hu;simp only[AA,beq_iff_eq]at e;obtain⟨⟨⟨e,x⟩,y⟩,z⟩:=e;exact p7 h fun C L u=>by rw[I]at u; exact c0b (call:=nc) C.st J hu e x y z L u
   · cases e
 · cases h
theorem c5c (u:p.kind=.lenS) (h:b1c c o p=true):OpK c o p:=by
 unfold b1c at h; split at h
 · rename_i x t ts v;simp only[AA]at h;obtain⟨e,h⟩:=h;split at e
   · rename_i hu;exact p7 h fun z y l=>by rw[u]at l; exact c1f (call:=nc) v (by simp) hu y l
   · cases e
 · cases h
theorem c4H (v:p.kind=.lenL) (h:b1z c o p=true):OpK c o p:=by
 unfold b1z at h; split at h
 · rename_i x t ts y;simp only[AA]at h;obtain⟨l,h⟩:=h;split at l
   · rename_i e hu;exact p7 h fun C z u=>by rw[v]at u; exact c05 (call:=nc) y (by simp) hu z u
   · cases l
 · cases h
theorem c4A {neg:Bool} (I:p.kind=.eqIS neg) (h:b1w c o p neg=true):OpK c o p:=by
 unfold b1w at h; split at h
 · rename_i op t x y U L;simp only[AA,decide_eq_true_eq,Bool.not_eq_true']at h;obtain⟨⟨⟨⟨rfl,J⟩,e⟩,hi⟩,h⟩:=h;unfold b8M at hi;split at hi
   case h_2=>cases hi
   rename_i f0 f1 hu;simp only[AA,bne_iff_ne,beq_iff_eq]at hi;obtain⟨⟨⟨⟨⟨n0,N⟩,o0⟩,o1⟩,z⟩,C⟩:=hi;split at z
   case h_2=>cases z
   rename_i T l;split at C
   case h_2=>cases C
   rename_i u;exact p7 h fun O M v=>by rw[I]at v; exact b9R (call:=nc) L J e hu n0 N o0 o1 l u M v
 · cases h
theorem c5K (l:p.kind=.min2) (h:b1y c o p=true):OpK c o p:=by
 unfold b1y at h; split at h
 · rename_i x y _ _ t;exact p7 h fun v u e=>by rw[l]at e; exact c0R (call:=nc) t u e
 · cases h
theorem a6x:∀ {places:List (Nat×Nat)} {is:List Nat} {qs:List (Nat×Nat)},a8o places is qs=true→is.map (fun i=>places[i]?)=qs.map some
 | _,[],[],_=>rfl
 | places,i::is,q::qs,h=>by simp only[a8o,AA,beq_iff_eq]at h;simp only[AH,h.1,a6x h.2]
theorem b9U {zero:List AV} {e:List (Nat×Nat)} (I:p.kind=.build zero e) (h:a9E c o p zero e=true):OpK c o p:=by
 unfold a9E at h; split at h
 · rename_i t parts J;simp only[AA]at h;obtain⟨⟨l,C⟩,h⟩:=h;split at l
   · rename_i places u;obtain⟨z,L,v⟩:=a3q C;refine p7 h fun {g w pr bx σ a call r b' b st'} M x y=>?_
     rw[I]at y;rw[List.map_map]at x;exact b7R (call:=nc) J u L v (a6x l) x y
   · cases l
 · cases h
end
end Go.Cb
namespace Go.Cb
open Classical
section
variable {c:Cx} {o:Oper} {p:AOper}
theorem b8l {sz:Nat} {zero:List (List AV)} {at_:List Nat} (hk:p.kind=.bslice sz zero at_) (h:a7q c o p sz zero at_=true):OpK c o p:=by
 intro g w pr bx σ σ' a call next Q U _ O J u
 obtain⟨r,b',st',v,C⟩:=m9 J;unfold a7q at h;split at h
 case h_2=>cases h
 rename_i t len parts ho;split at h
 case h_2=>cases h
 rename_i e hu;split at h
 case h_2=>cases h
 rename_i ie T zs L;split at h
 case h_2=>cases h
 rename_i z hz;simp only[AA,beq_iff_eq,decide_eq_true_eq]at h;obtain⟨⟨⟨⟨⟨⟨⟨⟨⟨W,Y⟩,Z⟩,h4⟩,h5⟩,h6⟩,h7⟩,h8⟩,h9⟩,I⟩:=h;obtain⟨p1,p2,p3⟩:=S4 h9;rw[hk]at v;simp only[sem,Q6]at v;obtain⟨rs,M,v⟩:=AL.1 v;simp only[AJ]at v;obtain⟨rfl,rfl,rfl⟩:=v;rw[p1,D7 p2]at C;subst C;have l:=R8 O p2;rw[List.map_map]at l;have x:T::zs=List.replicate len T:=by apply List.eq_replicate_iff.2;refine⟨h6,fun y hy=>?_⟩;have N:=List.all_eq_true.1 h7 y hy;exact(E5 _ _).1 N
 exact b7u U O ho hu L hz W Y Z (by simpa using h4) h5 x h8 l M p3 I u
theorem b62 {sz:Nat} {zero:List (List AV)} {at_:List Nat} (hk:p.kind=.bsliceM sz zero at_) (h:a0l c o p sz zero at_=true):OpK c o p:=by
 intro g w pr bx σ σ' a call next Q Y _ hS M u
 obtain⟨r,b',st',v,l⟩:=m9 M;unfold a0l at h;split at h
 case h_2=>cases h
 rename_i t len parts ho;split at h
 case h_2=>cases h
 rename_i e hu;split at h
 case h_2=>cases h
 rename_i ie W zs N;split at h
 case h_2=>cases h
 rename_i z hz;simp only[AA,beq_iff_eq,decide_eq_true_eq]at h;simp only[Option.isNone_iff_eq_none]at h;obtain⟨⟨⟨⟨⟨⟨⟨⟨⟨⟨⟨Z,h2⟩,h3⟩,h4⟩,h5⟩,h6⟩,h7⟩,h8⟩,p1⟩,p3⟩,L⟩,J⟩:=h;split at L
 case h_2=>cases L
 rename_i x q hx U;rw[hk,U]at v;simp only[sem,N5,AH,AM]at v;obtain⟨rs,O,v⟩:=AL.1 v;simp only[AJ]at v;obtain⟨rfl,rfl,rfl⟩:=v;rw[p1,U]at l;simp only[d9]at l;have I:(q.spend σ).st=σ.st:=by cases q<;>rfl
 rw[← I]at l;subst l;have C:W::zs=List.replicate len W:=by apply List.eq_replicate_iff.2;refine⟨h6,fun y hy=>?_⟩;have T:=List.all_eq_true.1 h7 y hy;exact(E5 _ _).1 T
 exact b6p Y hS ho hu N hz Z h2 h3 (by simpa using h4) h5 C h8 hx L O p3 J u
theorem b6L {sz:Nat} {zero:List (List AV)} {at_:List Nat} (hk:p.kind=.bsliceO sz zero at_) (h:a0l c o p sz zero at_=true):OpK c o p:=by
 intro g w pr bx σ σ' a call next Q Z _ hS L l
 obtain⟨r,b',st',v,u⟩:=m9 L;unfold a0l at h;split at h
 case h_2=>cases h
 rename_i t len parts ho;split at h
 case h_2=>cases h
 rename_i e hu;split at h
 case h_2=>cases h
 rename_i ie U zs M;split at h
 case h_2=>cases h
 rename_i z hz;simp only[AA,beq_iff_eq,decide_eq_true_eq]at h;simp only[Option.isNone_iff_eq_none]at h;obtain⟨⟨⟨⟨⟨⟨⟨⟨⟨⟨⟨h1,h2⟩,h3⟩,h4⟩,h5⟩,W⟩,h7⟩,h8⟩,p1⟩,p3⟩,J⟩,I⟩:=h;split at J
 case h_2=>cases J
 rename_i x q hx Y;rw[hk,Y]at v;simp only[sem,N2,AH,AM]at v;obtain⟨rs,N,v⟩:=AL.1 v;simp only[AJ]at v;obtain⟨rfl,rfl,rfl⟩:=v;rw[p1,Y]at u;simp only[d9]at u;subst u;have C:U::zs=List.replicate len U:=by apply List.eq_replicate_iff.2;refine⟨W,fun y hy=>?_⟩;have O:=List.all_eq_true.1 h7 y hy;exact(E5 _ _).1 O
 have T:(U::zs).length=len:=W;rw[T]at l;exact b6h Z hS ho hu M hz h1 h2 h3 (by simpa using h4) h5 C h8 hx J N p3 I l
theorem b9S {i:Nat} (Y:p.kind=.ldLcS i) (h:a9H c o p i=true):OpK c o p:=by
 intro g w pr bx σ σ' a call next Q N _ L C l
 obtain⟨r,b',st',e,v⟩:=m9 C;unfold a9H at h; split at h
 · rename_i t x j Z M;simp only[AA,beq_iff_eq,decide_eq_true_eq]at h;obtain⟨⟨⟨⟨rfl,O⟩,T⟩,J⟩,U⟩:=h;obtain⟨q,hq,W⟩:=(R8 L J).one;rw[Y,hq]at e;simp only[C3,M,sem]at e;unfold U6 at e;split at e<;>first|cases e; done|skip
   rename_i j off cs u y;simp only[AN,and_true]at u;subst u;split at e<;>first|cases e; done|skip
   rename_i I;subst I;split at e<;>first|cases e; done|skip
   rename_i z hz;simp only[AD,AJ]at e;obtain⟨rfl,rfl,rfl⟩:=e;rw[M,D7 J]at v;subst v;exact b9B N L (AE O) Z T y hz W.2 U l
 · cases h
theorem b0Z (O:p.kind=.ldStS) (h:a3x c o p=true):OpK c o p:=by
 intro g w pr bx σ σ' a call next Q L _ I C l
 obtain⟨r,b',st',e,v⟩:=m9 C;unfold a3x at h; split at h
 · rename_i t x T;simp only[AA,beq_iff_eq]at h;obtain⟨M,h⟩:=h;obtain⟨p1,p2,Y⟩:=S4 h;obtain⟨q,U,N⟩:=(R8 I p2).one;rw[O,U]at e;simp only[sem]at e;unfold F6 at e;split at e<;>first|cases e; done|skip
   rename_i oo off u;simp only[AN,and_true]at u;subst u;split at e<;>first|cases e; done|skip
   rename_i cs y;split at e<;>first|cases e; done|skip
   rename_i z W;simp only[AD,AJ]at e;obtain⟨rfl,rfl,rfl⟩:=e;rw[p1,D7 p2]at v;subst v;have J:=ValOK.rel N;simp only[Rel]at J;exact b9F L I T M y W J.2 Y l
 · cases h
theorem c4w {i n:Nat} (hk:p.kind=.stLc i n) (h:b1E c o p i n=true):OpK c o p:=by
 intro g w pr bx σ σ' a call next Q fx _ T M v
 obtain⟨r,b',st',e,l⟩:=m9 M;unfold b1E at h; split at h
 · rename_i t x y j Y Z ho hd N W U;simp only[Bool.and_eq_true,beq_iff_eq,decide_eq_true_eq]at h;obtain⟨⟨⟨⟨rfl,h0⟩,h1⟩,J⟩,h3⟩:=h;have O:=P9 T J;have C:Y.spend σ=σ:=by simp only[O3,Bool.and_eq_true]at J;have:=J.2;cases Y<;>simp_all [Opd.steals,Opd.spend]
   rw[hk,U]at e;simp only[C3,W,sem,AH,AM]at e;unfold L5 at e;split at e<;>first|cases e; done|skip
   rename_i j off x' cs z L;simp only[AN,and_true]at z;obtain⟨e0,e1⟩:=z;split at e<;>first|cases e; done|skip
   rename_i u;obtain⟨rfl,c1,c2,c3⟩:=u;simp only[AD,AJ]at e;obtain⟨rfl,rfl,rfl⟩:=e;rw[W,U,N]at l;simp only[d9,C,Dst.put]at l;have I:(Z.spend σ).st=σ.st:=by cases Z<;>rfl
   subst e1;rw[← I]at l;subst l;rw[e0]at O;exact c4Z T (AE h0) ho h1 L O.2 h3 c1 c2 c3 hd v
 · cases h
theorem b3F {n:Nat} (hk:p.kind=.stSt n) (h:a5F c o p n=true):OpK c o p:=by
 intro g w pr bx σ σ' a call next Q fx _ O L u
 obtain⟨r,b',st',e,v⟩:=m9 L;unfold a5F at h; split at h
 · rename_i t x y W q1 ho hd M hb T;simp only[Bool.and_eq_true,beq_iff_eq]at h;obtain⟨⟨h1,I⟩,h3⟩:=h;have N:=P9 O I;have C:W.spend σ=σ:=by simp only[O3,Bool.and_eq_true]at I;have:=I.2;cases W<;>simp_all [Opd.steals,Opd.spend]
   rw[hk,T]at e;simp only[sem,AH,AM]at e;unfold J5 at e;split at e<;>first|cases e; done|skip
   rename_i oo off x' z;simp only[AN,and_true]at z;obtain⟨e0,e1⟩:=z;split at e<;>first|cases e; done|skip
   rename_i cs J;split at e<;>first|cases e; done|skip
   rename_i l;obtain⟨c1,Y,Z⟩:=l;simp only[fL_eq,AD,AJ]at e;obtain⟨rfl,rfl,rfl⟩:=e;rw[hb,T,M]at v;simp only[d9,C,Dst.put]at v;subst e1;subst v;rw[e0]at N;have U:=ValOK.rel N;simp only[Rel]at U;exact c57 O ho h1 J U.2 h3 c1 Y Z hd u
 · cases h
theorem c6z {kc:Nat} (hk:p.kind=.mset kc) (h:b2D c o p kc=true):OpK c o p:=by
 intro g w pr bx σ σ' a call next Q fx _ T Y l
 obtain⟨r,b',st',e,u⟩:=m9 Y;unfold b2D at h;have key:∀ (t:TypeId) (m k x:Operand),(o.op=.mapUpdate t m k x∨o.op=.insert t m k x) →
  ((match c.P.underlying t with|some (.map kt _)=>K4 c.P kc kt|_=>false) && o.dst.isNone && q6 c o p [m,k,x])=true→o.wp c.P a w next Q:=by
  intro t m k x y h;simp only[AA,Option.isNone_iff_eq_none]at h;obtain⟨⟨M,N⟩,h⟩:=h;split at M
  case h_2=>cases M
  rename_i kt et hu;obtain⟨p1,p2,p3⟩:=S4 h;obtain⟨q0,q1,q2,hq,O,z,C⟩:=(R8 T p2).three;rw[hk,hq]at e;simp only[sem]at e;unfold a1a at e;split at e<;>first|cases e; done|skip
  rename_i oo kv xv I;simp only[AN,and_true]at I;obtain⟨rfl,rfl,rfl⟩:=I;split at e<;>first|cases e; done|skip
  rename_i L;split at e<;>first|cases e; done|skip
  rename_i es J;have Z:=ValOK.rel O;simp only[Rel]at Z;have U:p.dst=.none:=by rw[N]at p3;cases a0:p.dst<;>simp_all [s7]
  rw[p1,D7 p2,U]at u;simp only[Dst.put]at u;subst u;split at e
  · rename_i i v W;simp only[AD,AJ]at e;obtain⟨rfl,rfl,rfl⟩:=e;exact b3V T y hu M J Z.2 z C L N (by rw[W]) l
  · rename_i W;obtain⟨zz,hz,e⟩:=Option.bind_eq_some_iff.1 e;simp only[AD,AJ]at e;obtain⟨rfl,rfl,rfl⟩:=e;exact b3V T y hu M J Z.2 z C L N (by rw[W]; simp[hz]) l
  · cases e
 split at h
 · rename_i t m k x y; exact key t m k x (.inl y) h
 · rename_i t m k x y; exact key t m k x (.inr y) h
 · cases h
theorem c99 {sz bytes:Nat} (hk:p.kind=.app sz bytes) (h:b5w c o p sz bytes=true):OpK c o p:=by
 intro g w pr bx σ σ' a call next Q fx _ hS T C
 obtain⟨r,b',st',u,v⟩:=m9 T;unfold b5w at h; split at h
 · rename_i x y t t' M Y ho W;simp only[AA,beq_iff_eq,Option.isNone_iff_eq_none]at h;obtain⟨⟨⟨⟨⟨⟨rfl,I⟩,h2⟩,h3⟩,O⟩,h5⟩,h6⟩:=h;split at I<;>first|cases I; done|skip
   rename_i e hu;split at I<;>first|cases I; done|skip
   rename_i ie U;simp only[AA,beq_iff_eq,decide_eq_true_eq]at I;obtain⟨⟨⟨z1,z2⟩,z3⟩,z4⟩:=I;split at z4<;>first|cases z4; done|skip
   rename_i z hz;simp only[beq_iff_eq]at z4;have L:Y.spend (M.spend σ)=M.spend σ:=by simp only[O3,Bool.and_eq_true]at O;have:=O.2;cases Y<;>simp_all [Opd.steals,Opd.spend]
   rw[hk,W]at u;simp only[sem,AH,AM]at u;unfold a0N at u;split at u<;>first|cases u; done|skip
   rename_i xs own ys J;simp only[AN,and_true]at J;obtain⟨e0,e1⟩:=J;split at u<;>first|cases u; done|skip
   rename_i l;simp only[AA,decide_eq_true_eq]at l;obtain⟨⟨c1,Z⟩,c3⟩:=l;simp only[AD,AJ]at u;obtain⟨rfl,rfl,rfl⟩:=u;rw[h2,W]at v;simp only[d9,L]at v;have N:(M.spend σ).st=σ.st:=by cases M<;>rfl
   rw[← N]at v;subst v;exact b7P fx hS ho rfl hu U hz z1 z2 z4 z3 h3 O h5 h6 e0 e1 c1 Z c3 C
 · cases h
theorem c5u {sz bytes:Nat} (hk:p.kind=.appM sz bytes) (h:b1J c o p sz bytes=true):OpK c o p:=by
 intro g w pr bx σ σ' a call next Q W _ hS M l
 obtain⟨r,b',st',O,u⟩:=m9 M;unfold b1J at h; split at h
 · rename_i x y t t' q0 U gs ho T;simp only[AA,beq_iff_eq,Option.isNone_iff_eq_none]at h;obtain⟨⟨⟨⟨⟨⟨⟨rfl,v⟩,Y⟩,Z⟩,J⟩,h5⟩,h6⟩,h7⟩:=h;split at v<;>first|cases v; done|skip
   rename_i e hu;split at v<;>first|cases v; done|skip
   rename_i ie N;simp only[AA,beq_iff_eq,decide_eq_true_eq]at v;obtain⟨⟨⟨z1,z2⟩,z3⟩,z4⟩:=v;split at z4<;>first|cases z4; done|skip
   rename_i z hz;simp only[beq_iff_eq]at z4;have C:∀ τ:Sig,U.spend τ=τ:=fun τ=>by simp only[O3,Bool.and_eq_true]at J;have:=J.2;cases U<;>simp_all [Opd.steals,Opd.spend]
   have I:∀ (gs:List Opd) (τ:Sig),gs.all (fun q=>!q.steals)=true→d9 gs τ=τ:=by
    intro gs;induction gs with
    | nil=>intro τ _; rfl
    | cons q gs ih =>
     intro τ L;simp only[List.all_cons,Bool.and_eq_true]at L;have hq:q.spend τ=τ:=by have:=L.1;cases q<;>simp_all [Opd.steals,Opd.spend]
     rw[d9,hq];exact ih τ L.2
   rw[hk,T]at O;simp only[sem,AH]at O;rw[Y,T]at u;simp only[d9,C,I gs _ h7]at u;subst u;exact c5i W hS ho rfl hu N hz z1 z2 z4 z3 Z J h5 O l
 · cases h
theorem c4e {bytes:Nat} (hk:p.kind=.appA bytes) (h:b2u c o p bytes=true):OpK c o p:=by
 intro g w pr bx σ σ' a call next Q fx _ hS a0 I
 obtain⟨r,b',st',u,v⟩:=m9 a0;unfold b2u at h; split at h
 · rename_i x y t t' T q1 ho ha;simp only[AA,beq_iff_eq,Option.isNone_iff_eq_none]at h;obtain⟨⟨⟨⟨⟨⟨rfl,J⟩,h2⟩,h3⟩,O⟩,h5⟩,h6⟩:=h;split at J<;>first|cases J; done|skip
   rename_i e hu;split at J<;>first|cases J; done|skip
   rename_i ie M;simp only[AA,beq_iff_eq,decide_eq_true_eq]at J;obtain⟨⟨⟨z1,z2⟩,z3⟩,z4⟩:=J;split at z4<;>first|cases z4; done|skip
   rename_i z hz;simp only[beq_iff_eq]at z4;have N:q1.spend (T.spend σ)=T.spend σ:=by simp only[O3,Bool.and_eq_true]at O;have:=O.2;cases q1<;>simp_all [Opd.steals,Opd.spend]
   have L:(T.spend σ).st=σ.st:=by cases T<;>rfl
   rw[hk,ha]at u;simp only[sem,AH,AM]at u;rw[h2,ha]at v;simp only[d9,N]at v;unfold a3M at u;split at u<;>first|cases u; done|skip
   · rename_i xs C;simp only[AN,and_true]at C;obtain⟨W,Y⟩:=C;split at u<;>first|cases u; done|skip
     rename_i l;simp only[AA,decide_eq_true_eq]at l;obtain⟨c1,U⟩:=l;simp only[AD,AJ]at u;obtain⟨rfl,rfl,rfl⟩:=u;rw[← L]at v;subst v;exact b69 fx hS ho rfl hu M hz z1 z2 z4 z3 h3 O h5 h6 W Y c1 U I
   · rename_i xs ob n C;simp only[AN,and_true]at C;obtain⟨W,Y⟩:=C;split at u<;>first|cases u; done|skip
     rename_i cs Z;split at u<;>first|cases u; done|skip
     rename_i l;simp only[AA,decide_eq_true_eq]at l;obtain⟨⟨c1,c4⟩,U⟩:=l;simp only[AD,AJ]at u;obtain⟨rfl,rfl,rfl⟩:=u;rw[← L]at v;subst v;obtain rfl:=Nat.eq_of_beq_eq_true c4;exact c4I fx hS ho rfl hu M hz z1 z2 z4 z3 h3 O h5 h6 W Y Z c1 U I
 · cases h
theorem c7Q (C:p.kind=.b2s) (h:b6x c o p=true):OpK c o p:=by
 unfold b6x at h; split at h
 · rename_i t u x I;simp only[AA]at h;obtain⟨hu,h⟩:=h;split at hu
   · rename_i e v y;split at hu
     · rename_i z;exact p7 h fun L J l=>by rw[C]at l; exact c5C (call:=nc) I v z y J l
     · cases hu
   · cases hu
 · cases h
theorem b38 {f:Nat} (Y:p.kind=.call f) (h:a5j c o p f=true):OpK c o p:=by
 intro g w pr bx σ σ' a call next Q T W C L u
 obtain⟨r,b',st',l,z⟩:=m9 L;unfold a5j at h; split at h
 · rename_i O xs N Z;simp only[AA,beq_iff_eq]at h;obtain⟨rfl,h⟩:=h;obtain⟨p1,p2,p3⟩:=S4 h;have U:=R8 C p2;rw[Y]at l;simp only[sem,p8]at l;split at l<;>first|cases l; done|skip
   rename_i M;obtain⟨⟨v,st2⟩,t,l⟩:=AL.1 l;simp only[AJ]at l;obtain⟨rfl,rfl,rfl⟩:=l;rw[p1,D7 p2]at z;subst z;obtain⟨J,I⟩:=W _ _ _ _ _ t (fun x hx=>by obtain⟨y,_,rfl⟩:=List.mem_map.1 hx; exact L3 y);refine b1Y T C (f:=O) (vs:=xs.map a.eval) ?_ ?_ p3 u
   · unfold execOp;simp only[Z,resolve,Deferred.ofValue,Act.eval,Sem.run_bind,Sem.run_pure,Result.andThen_ok,invoke,Array.append_empty,Array.empty_append];exact b0l J _ _
   · have:=I g w _ C.st C.gl (a0W U M);have e:(xs.toList.map a.eval).toArray=xs.map a.eval:=by apply Array.ext'; simp
     rw[e]at this;exact this
 · cases h
theorem c0u (hk:p.kind=.callV) (h:a8R c o p=true):OpK c o p:=by
 intro g w pr bx σ σ' a call next Q fx hc T a1 I
 obtain⟨r,b',st',t,M⟩:=m9 a1;unfold a8R at h; split at h
 · rename_i s xs a7 ho;obtain⟨p1,p2,p3⟩:=S4 h;obtain⟨q,qs,hq,W,hA⟩:=(R8 T p2).cons_inv;rw[hk,hq]at t;simp only[sem]at t;unfold L9 at t;split at t<;>first|cases t; done|skip
   rename_i f first a6 as J
   simp only[AN]at J;obtain⟨rfl,rfl⟩:=J;split at t<;>first|cases t; done|skip
   rename_i a2;obtain⟨⟨v,st2⟩,C,t⟩:=AL.1 t;simp only[AJ]at t;obtain⟨rfl,rfl,rfl⟩:=t;rw[p1,D7 p2]at M;subst M;obtain⟨Z,Y⟩:=hc _ _ _ _ _ C (fun x hx=>by obtain⟨y,_,rfl⟩:=List.mem_map.1 hx; exact L3 y);have U:=ValOK.rel W;simp only[Rel]at U;obtain⟨O,N,a0,a4,a5⟩:=U;refine b1Y fx T (f:=f) (vs:=O++xs.map a.eval++N) ?_ ?_ p3 I
   · unfold execOp;simp only[ho,resolve,a0,Deferred.ofValue,Sem.run_bind,Sem.run_pure,Result.andThen_ok,invoke];exact b0l Z _ _
   · have hw:∀ {l:List AV} {us:List Value},RelL g w l us→RelL g w (l.map AV.weak) us:=fun {l} {us} hl=>RelL.of_get (by rw[AG]; exact hl.length) fun i y u hy hu=>by rw[AU]at hy;obtain⟨z,hz,rfl⟩:=AL.1 hy;obtain⟨u',L,U⟩:=hl.get hz;rw[hu]at L;cases L;exact U.weak
     have:=Y g w (O.toList++xs.toList.map a.eval++N.toList) T.st T.gl (by rw[AW,AW];exact((hw a4).append (a0W hA a2)).append (hw a5));have e:(O.toList++xs.toList.map a.eval++N.toList).toArray=O++xs.map a.eval++N:=by apply Array.ext'; simp
     rw[e]at this;exact this
 · cases h
theorem b2Z {q:Opd} (h:(!q.steals)=true) (σ:Sig):q.spend σ=σ:=by cases q<;>simp_all [Opd.steals,Opd.spend]
theorem a30:∀ {qs:List Opd},X9 qs=true→∀ σ:Sig,d9 qs σ=σ
 | [],_,_=>rfl
 | q::qs,h,σ=>by simp only[X9,List.all_cons,AA]at h;rw[d9,b2Z h.1];exact a30 h.2 σ
theorem a49:∀ (ps qs:List Opd) (σ:Sig),d9 (ps++qs) σ=d9 qs (d9 ps σ)
 | [],_,_=>rfl
 | p::ps,qs,σ=>by rw[List.cons_append,d9,d9,a49 ps]
theorem a4l {e:AOper} {m:Nat} (O:OpK c o e) (N:e.dst=p.dst) (L:e.box=p.box) (J:e.args=p.args.take m) (T:X9 (p.args.drop m)=true)
 (U:∀ {call:d8} {σ:Sig} {r b':AV} {st':St},sem p.kind call (p.args.map (·.read σ)) (C3 p σ) σ.st=some (r,b',st')→sem e.kind call (e.args.map (·.read σ)) (C3 e σ) σ.st=some (r,b',st')):OpK c o p:=by
 intro g w pr bx σ σ' a call next Q z M I v l
 obtain⟨r,b',st',C,y⟩:=m9 v;refine O z M I (σ':=σ') ?_ l;have u:=U C;rw[S7];have x:d9 p.args σ=d9 e.args σ:=by
  rw[J];conv=>lhs; rw[← List.take_append_drop m p.args]
  rw[a49,a30 T]
 rw[y,x,← N,← L];cases t:e.box with
 | none=>simp only[C3,t]at u ⊢; rw[u]
 | some i=>simp only[C3,t]at u ⊢; rw[u]
theorem c0f {t:Bool} {n:Nat} (v:p.kind=.ldStR t n) (h:(W5 c o p.bare t n && X9 p.beside)=true):OpK c o p:=by
 simp only[AA]at h;have e:p.bare={ p with kind:=.ldSt t n,args:=p.args.take 1 }:=by unfold AOper.bare; rw[v]
 have e2:p.beside=p.args.drop 1:=by unfold AOper.beside; rw[v]
 rw[e,e2]at h;refine @a4l c o p { p with kind:=.ldSt t n,args:=p.args.take 1 } 1 (b4c (p:={ p with kind:=.ldSt t n,args:=p.args.take 1 }) rfl h.1) rfl rfl rfl h.2 ?_;intro call σ r b' st' l;rw[v]at l;simp only[sem]at l ⊢;unfold M1 at l;split at l<;>first|cases l; done|skip
 rename_i oo off rt u;split at l<;>first|cases l; done|skip
 split at l<;>first|cases l; done|skip
 rw[List.map_take,u];exact l
theorem b7z {d:Nat} (u:p.kind=.ldStSR d) (h:(a3x c o p.bare && X9 p.beside)=true):OpK c o p:=by
 simp only[AA]at h;have e:p.bare={ p with kind:=.ldStS,args:=p.args.take 1 }:=by unfold AOper.bare; rw[u]
 have e2:p.beside=p.args.drop 1:=by unfold AOper.beside; rw[u]
 rw[e,e2]at h;refine @a4l c o p { p with kind:=.ldStS,args:=p.args.take 1 } 1 (b0Z (p:={ p with kind:=.ldStS,args:=p.args.take 1 }) rfl h.1) rfl rfl rfl h.2 ?_;intro call σ r b' st' l;rw[u]at l;simp only[sem]at l ⊢;unfold G8 at l;split at l<;>first|cases l; done|skip
 rename_i oo off v f t;split at l<;>first|cases l; done|skip
 rw[List.map_take,t];exact l
theorem c0X {n:Nat} (u:p.kind=.stStA n) (h:(a5F c o p.bare n && X9 p.beside)=true):OpK c o p:=by
 simp only[AA]at h;have e:p.bare={ p with kind:=.stSt n,args:=p.args.take 2 }:=by unfold AOper.bare; rw[u]
 have e2:p.beside=p.args.drop 2:=by unfold AOper.beside; rw[u]
 rw[e,e2]at h;refine @a4l c o p { p with kind:=.stSt n,args:=p.args.take 2 } 2 (b3F (p:={ p with kind:=.stSt n,args:=p.args.take 2 }) rfl h.1) rfl rfl rfl h.2 ?_;intro call σ r b' st' l;rw[u]at l;simp only[sem]at l ⊢;unfold K1 at l;split at l<;>first|cases l; done|skip
 rename_i oo off x rt gs t;split at l<;>first|cases l; done|skip
 split at l<;>first|cases l; done|skip
 rw[List.map_take,t];exact l
theorem c1l {f m:Nat} (u:p.kind=.callA f m) (h:(a5j c o p.bare f && X9 p.beside)=true):OpK c o p:=by
 simp only[AA]at h;have e:p.bare={ p with kind:=.call f,args:=p.args.take m }:=by unfold AOper.bare; rw[u]
 have e2:p.beside=p.args.drop m:=by unfold AOper.beside; rw[u]
 rw[e,e2]at h;refine @a4l c o p { p with kind:=.call f,args:=p.args.take m } m (b38 (p:={ p with kind:=.call f,args:=p.args.take m }) rfl h.1) rfl rfl rfl h.2 ?_;intro call σ r b' st' l;rw[u]at l;simp only[sem]at l ⊢;unfold H8 at l;split at l<;>first|cases l; done|skip
 rename_i v x y t;split at l<;>first|cases l; done|skip
 simp only[AD,AJ]at l;obtain⟨rfl,rfl,rfl⟩:=l;rw[List.map_take];exact t
theorem c0z (u:p.kind=.stuck):OpK c o p:=by
 intro g w pr bx σ σ' a call next Q x _ y e l
 obtain⟨r,b',st',t,v⟩:=m9 e;rw[u]at t;cases t
theorem c3h (h:a6U c o p=true):OpK c o p:=by
 unfold a6U at h;split at h
 case h_1 hk=>exact d16 hk h
 case h_2 hk=>exact c5m hk h
 case h_3 hk=>exact b8Q hk h
 case h_4 hk=>exact c0q hk h
 case h_5 hk=>exact c6u hk h
 case h_6 hk=>exact b8E hk h
 case h_7 hk=>exact c45 hk h
 case h_8 hk=>exact b9U hk h
 case h_9 hk=>exact b8l hk h
 case h_10 hk=>exact b62 hk h
 case h_11 hk=>exact c6I hk h
 case h_12 hk=>exact b4c hk h
 case h_13 hk=>exact c5R hk h
 case h_14 hk=>exact c5j hk h
 case h_15 hk=>exact c0f hk h
 case h_16 hk=>exact b7z hk h
 case h_17 hk=>exact c0X hk h
 case h_18 hk=>exact c1l hk h
 case h_19 hk=>exact b9S hk h
 case h_20 hk=>exact b0Z hk h
 case h_21 hk=>exact c4w hk h
 case h_22 hk=>exact b3F hk h
 case h_23 hk=>exact c9y hk h
 case h_24 hk=>exact c6X hk h
 case h_25 hk=>exact d0K hk h
 case h_26 hk=>exact c5I hk h
 case h_27 hk=>exact c6d hk h
 case h_28 hk=>exact d0B hk h
 case h_29 hk=>exact c7p hk h
 case h_30 hk=>exact c7C hk h
 case h_31 hk=>exact c7K hk h
 case h_32 hk=>exact c9d hk h
 case h_33 hk=>exact c43 hk h
 case h_34 hk=>exact c46 hk h
 case h_35 hk=>exact d3k hk h
 case h_36 hk=>exact c5s hk h
 case h_37 hk=>exact c8f hk h
 case h_38 hk=>exact c7L hk h
 case h_39 hk=>exact c5g hk h
 case h_40 hk=>exact c6z hk h
 case h_41 hk=>exact d0F hk h
 case h_42 hk=>exact b38 hk h
 case h_43 hk=>exact c0u hk h
 case h_44 hk=>exact c5c hk h
 case h_45 hk=>exact c4H hk h
 case h_46 hk=>exact c99 hk h
 case h_47 hk=>exact c5u hk h
 case h_48 hk=>exact c7Q hk h
 case h_49 hk=>exact c4e hk h
 case h_50 hk=>exact b6L hk h
 case h_51 hk=>exact c5K hk h
 case h_52 hk=>exact c4A hk h
 case h_53 hk=>exact c0z hk
end
end Go.Cb
namespace Go.Cb
open Classical
inductive Atom where
 | t (s:Nat)|v (i:Nat)|st
 deriving DecidableEq
def Opd.atoms:Opd→List Atom
 | .t s|.ts s=>[.t s]
 | .v i|.vs i|.l i=>[.v i]
 | .c _=>[]
def Opd.spent:Opd→List Atom
 | .ts s=>[.t s]
 | .vs i=>[.v i]
 | _=>[]
def Kind.useSt:Kind→Bool
 | .allocO _|.boxO|.bsliceO ..|.appM ..|.appA _|.ldSt ..|.ldAn ..|.ldStR ..|.ldStSR _|.stStA _|.callA ..|.ldStS|.stSt _|.mkM|.mget ..|.mset _|.call _|.callV=>true
 | _=>false
def Kind.setSt:Kind→Bool
 | .allocO _|.boxO|.bsliceO ..|.appM ..|.ldStSR _|.stStA _|.callA ..|.ldStS|.stSt _|.mkM|.mset _|.call _|.callV=>true
 | _=>false
def Dst.atoms:Dst→List Atom
 | .t s=>[.t s]
 | .v i=>[.v i]
 | _=>[]
def AOper.reads (p:AOper):List Atom :=
 p.args.flatMap Opd.atoms++(match p.box with|some i=>[.v i]|none=>[])++(match p.guard with|some (x,_)=>x.atoms|none=>[])++(if p.kind.useSt then [.st]else [])
def AOper.writes (p:AOper):List Atom :=
 p.dst.atoms++p.args.flatMap Opd.spent++(match p.box with|some i=>if p.kind.alters then [.v i]else []|none=>[])++(if p.kind.setSt then [.st]else [])
def Atom.beq:Atom→Atom→Bool
 | .t a,.t b=>Nat.beq a b
 | .v a,.v b=>Nat.beq a b
 | .st,.st=>true
 | _,_=>false
def meets (x y:List Atom):Bool:=x.any fun a=>y.any (Atom.beq a)
def Kind.isLd:Kind→Bool
 | .ldSt ..|.ldAn ..|.ldStR ..=>true
 | _=>false
def Kind.upto:Kind→Option Nat
 | .appM ..=>some 2
 | .callA _ m=>some m
 | .stStA _=>some 3
 | _=>none
def Opd.same:Opd→Opd→Bool
 | .t a,.t b=>Nat.beq a b
 | .v a,.v b=>Nat.beq a b
 | _,_=>false
def b1M (p q:AOper):Bool:=p.box.isNone && q.box.isNone && X9 p.args
def b18 (p q:AOper):Bool:=!meets (p.dst.atoms) q.reads && !meets p.dst.atoms q.writes && !meets q.writes (p.args.flatMap Opd.atoms++p.dst.atoms++(match p.guard with|some (x,_)=>x.atoms|none=>[]))
def b8K (p q:AOper):Bool:=(match p.kind with|.ldStR ..=>true|_=>false) && (match q.kind.upto,p.args with|some m,[_,r]=>(q.args.drop m).any (Opd.same r)|_,_=>false)
def b72 (p q:AOper):Bool:=match p.kind,q.kind,p.args with|.stStA _,.stStA _,_::_::r::_=>(q.args.drop 3).any (Opd.same r)|_,_,_=>false
def Kind.isSt:Kind→Bool
 | .ldStS|.ldStSR _=>true
 | _=>false
def c8w (p q:AOper):Bool:=(p.kind.isSt && q.kind.isLd) || (p.kind.isLd && q.kind.isSt)
def b8I (p q:AOper):Bool:=match p.kind,q.kind,p.args,q.args with|.ldStSR d,.ldStSR e,[_,r],[_,s]=>Opd.same r s && !Nat.beq d e|_,_,_,_=>false
def a2m (p q:AOper):Bool:=b1M p q && b18 p q && (b8K p q || b72 p q || c8w p q || b8I p q)
def Z0 (p q:AOper):Bool:=!meets p.writes q.reads && !meets p.writes q.writes && !meets q.writes p.reads
def a1p (p q:AOper):Bool:=Z0 p q || a2m p q
def r9 (ops:Array Oper) (j:Nat):List Nat:=match ops[j]? with
 | some o=>o.after.toList.filterMap fun e=>if Region.binds .any e then some e.on else none
 | none=>[]
def a09 (ops:Array Oper):Nat→List Nat→List Nat
 | 0,l=>l
 | n+1,l=>l++a09 ops n (l.flatMap (r9 ops))
def Atom.same (x:Atom) (σ1 σ2:Sig):Prop:=match x with
 | .t s=>σ1.τ s=σ2.τ s
 | .v i=>σ1.fr.getD i .undef=σ2.fr.getD i .undef
 | .st=>σ1.st=σ2.st
theorem Atom.same_refl (x:Atom) (σ:Sig):x.same σ σ:=by cases x<;>rfl
theorem Atom.same_trans {x:Atom} {σ1 σ2 e:Sig} (h:x.same σ1 σ2) (l:x.same σ2 e):x.same σ1 e:=by cases x<;>exact Eq.trans h l
theorem Atom.same_symm {x:Atom} {σ1 σ2:Sig} (h:x.same σ1 σ2):x.same σ2 σ1:=by cases x<;>exact Eq.symm h
theorem Sig.ext_atoms {σ1 σ2:Sig} (L:σ1.fr.length=σ2.fr.length) (h:∀ x:Atom,x.same σ1 σ2):σ1=σ2:=by
 obtain⟨e,u,st1⟩:=σ1;obtain⟨l,y,st2⟩:=σ2;have z:u=y:=funext fun s=>h (.t s)
 have e2:st1=st2:=h .st;have C:e=l:=by apply List.ext_getElem L;intro i I J;have:=h (.v i);simp only[Atom.same]at this;simpa[I,J]using this
 rw[z,e2,C]
theorem Atom.beq_iff (x y:Atom):Atom.beq x y=true↔x=y:=by cases x<;>cases y<;>simp[Atom.beq]
theorem I9 {xs ys:List Atom} (h:meets xs ys=false):∀ x∈xs,x ∉ ys:=by
 intro x e l;have:meets xs ys=true:=by unfold meets;rw[List.any_eq_true];refine⟨x,e,?_⟩;rw[List.any_eq_true];exact⟨x,l,(Atom.beq_iff x x).2 rfl⟩
 rw[h]at this; cases this
theorem a0p {q:Opd} {σ1 σ2:Sig} (h:∀ x∈q.atoms,x.same σ1 σ2):q.read σ1=q.read σ2:=by cases q<;>simp only[Opd.atoms,List.mem_cons,List.not_mem_nil,or_false,forall_eq,false_imp_iff,implies_true,Atom.same]at h<;>simp only[Opd.read]<;>first|rw[h]|rfl
theorem O4 (fr:List AV) (i j:Nat) (a:AV):(fr.set i a).getD j .undef=if i=j∧i < fr.length then a else fr.getD j .undef:=by
 rw[List.getD_eq_getElem?_getD,List.getElem?_set];by_cases e:i=j
 · subst e;rw[if_pos rfl];by_cases l:i < fr.length
   · rw[if_pos l,if_pos ⟨rfl,l⟩]; rfl
   · rw[if_neg l,if_neg (fun h=>l h.2)];simp[l]
 · rw[if_neg e,if_neg (fun h=>e h.1),List.getD_eq_getElem?_getD]
theorem a5g (q:Opd) (σ:Sig):(q.spend σ).fr.length=σ.fr.length:=by cases q<;>simp[Opd.spend]
theorem M2:∀ (qs:List Opd) (σ:Sig),(d9 qs σ).fr.length=σ.fr.length
 | [],_=>rfl
 | q::qs,σ=>by rw[d9,M2 qs,a5g]
theorem a2l (d:Dst) (r:AV) (σ:Sig):(d.put r σ).fr.length=σ.fr.length:=by cases d<;>simp[Dst.put]
theorem a8s {q:Opd} {σ1 σ2:Sig} (u:σ1.fr.length=σ2.fr.length) {x:Atom} (h:x.same σ1 σ2) (l:∀ x∈q.spent,x.same σ1 σ2):x.same (q.spend σ1) (q.spend σ2):=by
 cases q<;>simp only[Opd.spend]<;>try exact h
 · rename_i s;have e:=l (.t s) (by simp[Opd.spent]);cases x<;>simp only[Atom.same]at*<;> try exact h
   simp only[C4];split
   · rw[e]
   · exact h
 · rename_i i;have e:=l (.v i) (by simp[Opd.spent]);cases x<;>simp only[Atom.same]at*<;> try exact h
   rw[O4,O4,u,e,h]
theorem a1E:∀ {qs:List Opd} {σ1 σ2:Sig},σ1.fr.length=σ2.fr.length→∀ {x:Atom},x.same σ1 σ2→(∀ q∈qs,∀ x∈q.spent,x.same σ1 σ2)→x.same (d9 qs σ1) (d9 qs σ2)
 | [],_,_,_,_,h,_=>h
 | q::qs,σ1,σ2,hl,x,h,hq=>by
  simp only[d9];have t:∀ y∈q.spent,y.same σ1 σ2:=fun y l=>hq q (by simp) y l
  exact a1E (by rw[a5g,a5g,hl]) (a8s hl h t) fun u e y l=>a8s hl (hq u (by simp[e]) y l) t
theorem b22 {q:Opd} {σ:Sig} {x:Atom} (h:x ∉ q.spent):x.same (q.spend σ) σ:=by
 cases q<;>simp only[Opd.spend]<;>try exact x.same_refl _
 · rename_i s;simp only[Opd.spent,List.mem_cons,List.not_mem_nil,or_false]at h;cases x<;>simp only[Atom.same];rename_i t;simp only[C4];rw[if_neg];simp only[Nat.beq_eq];intro e; exact h (by rw[e])
 · rename_i i;simp only[Opd.spent,List.mem_cons,List.not_mem_nil,or_false]at h;cases x<;>simp only[Atom.same];rename_i j;rw[O4,if_neg];intro e; exact h (by rw[e.1])
theorem a3S:∀ {qs:List Opd} {σ:Sig} {x:Atom},x ∉ qs.flatMap Opd.spent→x.same (d9 qs σ) σ
 | [],_,x,_=>x.same_refl _
 | q::qs,σ,x,h=>by simp only[List.flatMap_cons,AQ,not_or]at h;exact Atom.same_trans (x:=x) (a3S (qs:=qs) (σ:=q.spend σ) h.2) (b22 h.1)
theorem a2y {d:Dst} {r:AV} {σ1 σ2:Sig} (u:σ1.fr.length=σ2.fr.length) {x:Atom} (h:x.same σ1 σ2∨x∈d.atoms):x.same (d.put r σ1) (d.put r σ2):=by
 cases d<;>simp only[Dst.put,Dst.atoms,List.mem_cons,List.not_mem_nil,or_false]at h ⊢<;>try exact h
 · rename_i s;cases x<;>simp only[Atom.same,reduceCtorEq,or_false,Atom.t.injEq]at h ⊢<;>try exact h
   rename_i t;simp only[C4];split
   · rfl
   · rename_i e;rcases h with h|h
     · exact h
     · exact absurd (by simp[h]) e
 · rename_i i;cases x<;>simp only[Atom.same,reduceCtorEq,or_false,Atom.v.injEq]at h ⊢<;>try exact h
   rename_i j;rw[O4,O4,u];split
   · rfl
   · rename_i e;rcases h with h|rfl
     · exact h
     · have:¬ j < σ2.fr.length:=fun l=>e ⟨rfl,l⟩
       simp[show ¬ j < σ1.fr.length by omega,this]
theorem a2W {d:Dst} {r:AV} {σ:Sig} {x:Atom} (h:x ∉ d.atoms):x.same (d.put r σ) σ:=by
 cases d<;>simp only[Dst.put,Dst.atoms,List.mem_cons,List.not_mem_nil,or_false]at h ⊢<;>try exact x.same_refl _
 · rename_i s;cases x<;>simp only[Atom.same];rename_i t;simp only[C4];rw[if_neg];simp only[Nat.beq_eq];intro e; exact h (by rw[e])
 · rename_i i;cases x<;>simp only[Atom.same];rename_i j;rw[O4,if_neg];intro e; exact h (by rw[e.1])
theorem b5Z {i:Nat} {b:AV} {st1 st2:St} {σ1 σ2:Sig} (t:σ1.fr.length=σ2.fr.length) {x:Atom} (h:x.same { σ1 with st:=st1 } { σ2 with st:=st2 }∨x=.v i) :
 x.same { σ1 with fr:=σ1.fr.set i b,st:=st1 } { σ2 with fr:=σ2.fr.set i b,st:=st2 }:=by
 cases x<;>simp only[Atom.same,reduceCtorEq,or_false,Atom.v.injEq]at h ⊢<;>try exact h
 rename_i j;rw[O4,O4,t];split
 · rfl
 · rename_i l;rcases h with h|rfl
   · exact h
   · have:¬ j < σ2.fr.length:=fun e=>l ⟨rfl,e⟩
     simp[show ¬ j < σ1.fr.length by omega,this]
theorem a4V {k:Kind} (e:k.setSt=false) {call:d8} {as:List AV} {b r b':AV} {st st':St} (h:sem k call as b st=some (r,b',st')):st'=st:=by
 cases k<;>simp only[Kind.setSt,Bool.true_eq_false]at e<;>simp only[sem,a2V,G5,G7,V5,a05,N6,X6,O5,Q6,N5,N2,a1c,a0X,F9,M1,G8,K1,H8,P3,G4,X3,J6,U6,F6,L5,J5,O0,a0T,L8,P5,S3,Z3,Y9,a0G,a0F,E3,Y4,Y3,a1g,Y5,a0L,a1z,S6,a1a,Z4,p8,L9,Y2,H6,a0N,a0Q,a3M]at h;all_goals (repeat' split at h)
 all_goals first
  | (cases h; done)
  | (simp only[AD,AJ]at h; exact h.2.2.symm)
  | (obtain⟨z,t,h⟩:=AL.1 h; simp only[AJ]at h; exact h.2.2.symm)
  | (obtain⟨⟨l,u⟩,t,h⟩:=AL.1 h; simp only[AJ]at h; exact h.2.2.symm)
theorem b4M {f:Nat} {call:d8} {as:List AV} {b r b':AV} {st st':St} (h:p8 f call as b st=some (r,b',st')):b'=b:=by
 unfold p8 at h;split at h
 · obtain⟨⟨v,s⟩,_,h⟩:=AL.1 h;simp only[AJ]at h;exact h.2.1.symm
 · cases h
theorem b9G {f m:Nat} {call:d8} {as:List AV} {b r b':AV} {st st':St} (h:H8 f m call as b st=some (r,b',st')):b'=b:=by
 unfold H8 at h;split at h<;>first|cases h; done|skip
 rename_i e;split at h<;>first|cases h; done|skip
 simp only[AD,AJ]at h;obtain⟨_,rfl,_⟩:=h;exact b4M e
theorem a3W {k:Kind} (x:k.alters=false) {call:d8} {as:List AV} {b r b':AV} {st st':St} (h:sem k call as b st=some (r,b',st')):b'=b:=by
 have v:∀ f m,k=.callA f m→b'=b:=fun f m e=>by subst e; exact b9G h
 cases k<;>simp only[Kind.alters,Bool.true_eq_false]at x<;>simp only[sem,a2V,G5,G7,V5,a05,N6,X6,O5,Q6,N5,N2,a1c,a0X,F9,M1,G8,K1,H8,P3,G4,X3,J6,U6,F6,L5,J5,O0,a0T,L8,P5,S3,Z3,Y9,a0G,a0F,E3,Y4,Y3,a1g,Y5,a0L,a1z,S6,a1a,Z4,p8,L9,Y2,H6,a0N,a0Q,a3M]at h;all_goals first
  | exact v _ _ rfl
  | skip
 all_goals (repeat' split at h)
 all_goals first
  | (cases h; done)
  | (simp only[AD,AJ]at h; exact h.2.1.symm)
  | (simp only[fL_eq,AD,AJ]at h; exact h.2.1.symm)
  | (obtain⟨z,t,h⟩:=AL.1 h; simp only[AJ]at h; exact h.2.1.symm)
  | (obtain⟨⟨l,u⟩,t,h⟩:=AL.1 h; simp only[AJ]at h; exact h.2.1.symm)
  | (obtain⟨z,t,h⟩:=Option.bind_eq_some_iff.1 h; simp only[AD,AJ]at h; exact h.2.1.symm)
theorem c4C {k:Kind} (e:k.useSt=false) {call:d8} {as:List AV} {b r b':AV} {st st':St} (h:sem k call as b st=some (r,b',st')) (st2:St):sem k call as b st2=some (r,b',st2):=by
 cases k<;>simp only[Kind.useSt,Bool.true_eq_false]at e<;>simp only[sem,a2V,G5,G7,V5,a05,N6,X6,O5,Q6,N5,N2,a1c,a0X,F9,M1,G8,K1,H8,P3,G4,X3,J6,U6,F6,L5,J5,O0,a0T,L8,P5,S3,Z3,Y9,a0G,a0F,E3,Y4,Y3,a1g,Y5,a0L,a1z,S6,a1a,Z4,p8,L9,Y2,H6,a0N,a0Q,a3M]at h ⊢;all_goals (repeat' split at h)
 all_goals first
  | (cases h; done)
  | (simp only[AD,AJ]at h; obtain⟨rfl,rfl,rfl⟩:=h; simp_all; done)
  | (obtain⟨z,t,h⟩:=AL.1 h; simp only[AJ]at h; obtain⟨rfl,rfl,rfl⟩:=h; simp_all; done)
  | (obtain⟨⟨l,u⟩,t,h⟩:=AL.1 h; simp only[AJ]at h; obtain⟨rfl,rfl,rfl⟩:=h; simp_all; done)
  | skip
end Go.Cb
namespace Go.Cb
open Classical
section
variable {p q:AOper} {call:d8} {σ σ' σ1 σ2:Sig}
theorem a6r {r b':AV} {st':St} (h:sem p.kind call (p.args.map (·.read σ)) (C3 p σ) σ.st=some (r,b',st')) :
 J4 call p σ=some (p.dst.put r { d9 p.args σ with fr:=(match p.box with|some i=>(d9 p.args σ).fr.set i b'|none=>(d9 p.args σ).fr),st:=st' }):=by
 rw[S7];cases l:p.box with
 | none =>
  have e:C3 p σ=.undef:=by simp only[C3,l]
  rw[e]at h;simp only[l,h]
 | some i =>
  have e:C3 p σ=σ.fr.getD i .undef:=by simp only[C3,l]
  rw[e]at h;simp only[l,h]
theorem a3D {k:Kind} (h:k.setSt=true):k.useSt=true:=by cases k<;>first|rfl|cases h
theorem a3k (x:Opd):∀ y∈x.spent,y∈x.atoms:=by cases x<;>simp[Opd.spent,Opd.atoms]
theorem a1j:∀ (qs:List Opd) (σ:Sig),(d9 qs σ).st=σ.st
 | [],_=>rfl
 | x::qs,σ=>by rw[d9,a1j qs];cases x<;>rfl
theorem a2K (h:J4 call p σ=some σ'):(∀ x,x ∉ p.writes→x.same σ' σ)∧σ'.fr.length=σ.fr.length:=by
 obtain⟨r,b',st',J,rfl⟩:=m9 h;refine⟨fun x L=>?_,?_⟩
 · simp only[AOper.writes,AQ,not_or]at L;obtain⟨⟨⟨M,N⟩,C⟩,I⟩:=L;refine Atom.same_trans (a2W M) ?_;have l:=a3S (qs:=p.args) (σ:=σ) N;have y:x=.st→st'=σ.st:=fun e=>by
    subst e;cases u:p.kind.setSt with
    | true=>rw[u]at I; simp at I
    | false=>exact a4V u J
   cases z:p.box with
   | none =>
    cases x<;>simp only[Atom.same]at l ⊢
    · exact l
    · exact l
    · exact y rfl
   | some i =>
    cases x with
    | t s=>exact l
    | st=>exact y rfl
    | v j =>
     simp only[Atom.same]at l ⊢;rw[O4];split
     · rename_i O;obtain⟨rfl,_⟩:=O;cases u:p.kind.alters with
       | true=>rw[z,u]at C; simp at C
       | false =>rw[a3W u J];simp only[C3,z]
     · exact l
 · rw[a2l];cases z:p.box with
   | none=>exact M2 _ _
   | some i=>simp[M2]
theorem c0t (hl:σ1.fr.length=σ2.fr.length) (U:∀ x∈p.reads,x.same σ1 σ2) {M:Sig} (h:J4 call p σ1=some M) :
 ∃ N,J4 call p σ2=some N∧∀ x:Atom,(x.same σ1 σ2∨x∈p.writes)→x.same M N:=by
 obtain⟨r,b',st',O,rfl⟩:=m9 h;have z:p.args.map (·.read σ1)=p.args.map (·.read σ2):=List.map_congr_left fun y T=>a0p fun x hx=>U x (by simp only[AOper.reads,AQ,List.mem_flatMap];exact .inl (.inl (.inl ⟨y,T,hx⟩)))
 have J:C3 p σ1=C3 p σ2:=by
  unfold C3;cases I:p.box with
  | none=>rfl
  | some i =>have:=U (.v i) (by simp[AOper.reads,I]);exact this
 have l:∀ y∈p.args,∀ x∈y.spent,x.same σ1 σ2:=fun y T x hx=>U x (by simp only[AOper.reads,AQ,List.mem_flatMap];exact .inl (.inl (.inl ⟨y,T,a3k y x hx⟩)))
 have C:(d9 p.args σ1).fr.length=(d9 p.args σ2).fr.length:=by rw[M2,M2,hl]
 -- the meaning on the other side
 obtain⟨st2,Y,u⟩:∃ st2,sem p.kind call (p.args.map (·.read σ2)) (C3 p σ2) σ2.st=some (r,b',st2)∧∀ x:Atom,(x.same σ1 σ2∨(x=.st∧p.kind.setSt=true))→x.same { d9 p.args σ1 with st:=st' } { d9 p.args σ2 with st:=st2 }:=by
  have other:∀ (st2:St) (x:Atom),x≠.st→x.same σ1 σ2→x.same { d9 p.args σ1 with st:=st' } { d9 p.args σ2 with st:=st2 }:=fun st2 x hx h=>by have:=a1E hl h l;cases x<;>first|exact this|exact absurd rfl hx
  cases hu:p.kind.useSt with
  | true =>
   have he:σ1.st=σ2.st:=U .st (by simp[AOper.reads,hu]);rw[z,J,he]at O;refine⟨st',O,fun x hx=>?_⟩;cases x with
   | st=>rfl
   | t s=>exact other _ _ (by simp) (hx.resolve_right (by simp))
   | v i=>exact other _ _ (by simp) (hx.resolve_right (by simp))
  | false =>
   have L:p.kind.setSt=false:=by
    cases W:p.kind.setSt with
    | false=>rfl
    | true=>rw[a3D W]at hu; cases hu
   have e1:=a4V L O;rw[z,J]at O;refine⟨σ2.st,c4C hu O σ2.st,fun x hx=>?_⟩;rw[L]at hx;have hx:=hx.resolve_right (by simp);cases x with
   | st=>rw[e1]; exact hx
   | t s=>exact other _ _ (by simp) hx
   | v i=>exact other _ _ (by simp) hx
 refine⟨_,a6r Y,fun x hx=>a2y ?_ ?_⟩
 · cases I:p.box with
   | none=>exact C
   | some i=>simp[C]
 · by_cases Z:x∈p.dst.atoms
   · exact .inr Z
   left
   -- either as before, or written
   have hx':x.same σ1 σ2∨(∃ i,p.box=some i∧x=.v i)∨(x=.st∧p.kind.setSt=true):=by
    rcases hx with hx|hx
    · exact .inl hx
    · simp only[AOper.writes,AQ]at hx;rcases hx with((hx|hx)|hx)|hx
      · exact absurd hx Z
      · obtain⟨y,T,hx⟩:=List.mem_flatMap.1 hx;exact .inl (l y T x hx)
      · right; left;cases I:p.box with
        | none=>rw[I]at hx; simp at hx
        | some i =>
         rw[I]at hx;refine⟨i,rfl,?_⟩;simp only at hx;split at hx
         · simpa using hx
         · simp at hx
      · right; right;split at hx
        · rename_i W; exact⟨by simpa using hx,W⟩
        · simp at hx
   cases I:p.box with
   | none =>
    rcases hx' with hx'|⟨i,hi,_⟩|hx'
    · exact u x (.inl hx')
    · rw[I]at hi; cases hi
    · exact u x (.inr hx')
   | some i =>
    refine b5Z C ?_;rcases hx' with hx'|⟨j,hj,e⟩|hx'
    · exact .inl (u x (.inl hx'))
    · rw[I]at hj; cases hj; exact .inr e
    · exact .inl (u x (.inr hx'))
theorem a6F {x:Opd} {want:Bool} (e:p.guard=some (x,want)):∀ y∈x.atoms,y∈p.reads:=fun y l=>by simp only[AOper.reads,e,AQ];exact .inl (.inr l)
theorem a10:∀ y∈p.dst.atoms,y∈p.writes:=fun y e=>by simp only[AOper.writes,AQ];exact .inl (.inl (.inl e))
theorem R3 (h:l9 call p σ=some σ'):(∀ x,x ∉ p.writes→x.same σ' σ)∧σ'.fr.length=σ.fr.length:=by
 unfold l9 at h;have e:∀ {σ'},some (p.dst.put (.tuple []) σ)=some σ'→(∀ x,x ∉ p.writes→x.same σ' σ)∧σ'.fr.length=σ.fr.length:=fun {σ'} h=>by obtain rfl:=Option.some.inj h;exact⟨fun x t=>a2W fun l=>t (a10 x l),a2l _ _ _⟩
 split at h
 · exact a2K h
 · split at h
   · split at h
     · exact a2K h
     · exact e h
   · exact e h
   · cases h
theorem a8m (L:σ1.fr.length=σ2.fr.length) (z:∀ x∈p.reads,x.same σ1 σ2) {e:Sig} (h:l9 call p σ1=some e) :
 ∃ l,l9 call p σ2=some l∧∀ x:Atom,(x.same σ1 σ2∨x∈p.writes)→x.same e l:=by
 have u:∀ {e},J4 call p σ1=some e→∃ l,J4 call p σ2=some l∧∀ x:Atom,(x.same σ1 σ2∨x∈p.writes)→x.same e l:=fun h=>c0t L z h
 have t:∀ {e},some (p.dst.put (.tuple []) σ1)=some e→∃ l,some (p.dst.put (.tuple []) σ2)=some l∧∀ x:Atom,(x.same σ1 σ2∨x∈p.writes)→x.same e l:=fun {e} h=>by
  obtain rfl:=Option.some.inj h;refine⟨_,rfl,fun x hx=>?_⟩;by_cases N:x∈p.dst.atoms
  · exact a2y L (.inr N)
  · refine a2y L (.inl ?_);rcases hx with hx|hx
    · exact hx
    · simp only[AOper.writes,AQ]at hx;rcases hx with((hx|hx)|hx)|hx
      · exact absurd hx N
      · obtain⟨y,M,hx⟩:=List.mem_flatMap.1 hx;exact z x (by simp only[AOper.reads,AQ,List.mem_flatMap]; exact .inl (.inl (.inl ⟨y,M,a3k y x hx⟩)))
      · cases C:p.box with
        | none=>rw[C]at hx; simp at hx
        | some i =>
         rw[C]at hx;simp only at hx;split at hx
         · have:x=.v i:=by simpa using hx
           exact z x (by simp[AOper.reads,C,this])
         · simp at hx
      · split at hx
        · rename_i O;have:x=.st:=by simpa using hx
          exact z x (by simp[AOper.reads,a3D O,this])
        · simp at hx
 unfold l9 at h ⊢;cases J:p.guard with
 | none=>simp only[J]at h ⊢; exact u h
 | some T =>
  obtain⟨x,want⟩:=T;simp only[J]at h ⊢;rw[← a0p (q:=x) (σ1:=σ1) fun y M=>z y (a6F J y M)];split at h
  · rename_i b C;split at h
    · rename_i I;rw[if_pos I];exact u h
    · rename_i I;rw[if_neg I];exact t h
  · exact t h
  · cases h
theorem b0D (u:Z0 p q=true) {σ1 σ2:Sig} (J:l9 call p σ=some σ1) (L:l9 call q σ1=some σ2) :
 ∃ t,l9 call q σ=some t∧l9 call p t=some σ2:=by
 simp only[Z0,AA,Bool.not_eq_true']at u;obtain⟨⟨a1,a2⟩,a3⟩:=u;have a1:=I9 a1;have a2:=I9 a2;have a3:=I9 a3;obtain⟨f1,l1⟩:=R3 J;obtain⟨f2,l2⟩:=R3 L
 -- q first
 obtain⟨l,N,Z⟩:=a8m (σ1:=σ1) (σ2:=σ) (p:=q) l1 (fun x C=>f1 x fun z=>a1 x z C) L;obtain⟨U,O⟩:=R3 N;obtain⟨v,M,Y⟩:=a8m (σ1:=σ) (σ2:=l) (p:=p) O.symm (fun x C=>Atom.same_symm (U x fun z=>a3 x z C)) J;obtain⟨T,W⟩:=R3 M;refine⟨l,N,?_⟩;rw[M];congr 1;refine Sig.ext_atoms (by rw[W,O,l2,l1]) fun x=>?_
 by_cases e:x∈p.writes
 · -- p wrote it last, in both
   have y:x.same σ1 v:=Y x (.inr e);have e2:x.same σ2 σ1:=f2 x (a2 x e);exact Atom.same_symm (Atom.same_trans e2 y)
 · have y:x.same v l:=T x e;have e2:x.same σ2 l:=Z x (by
    by_cases I:x∈q.writes
    · exact .inr I
    · exact .inl (f1 x e))
   exact Atom.same_trans y (Atom.same_symm e2)
theorem a7t {x y:Opd} (h:x.same y=true):x=y:=by cases x<;>cases y<;>simp[Opd.same]at h<;>rw[h]
theorem X4 {o:Option Nat} {n:Nat}:∀ {gs:List AV},T8 o n gs=true→∀ g∈gs,∃ p,u9 g=some p∧p < n∧o≠some p
 | [],_,g,hg=>by simp at hg
 | g0::gs,h,g,hg=>by
  simp only[T8,AA]at h;obtain⟨l,u⟩:=h;rcases List.mem_cons.1 hg with rfl|hg
  · split at l
    · rename_i p v;simp only[AA]at l;refine⟨p,v,by simpa using l.1,?_⟩;have t:=l.2;cases o with
      | none=>simp
      | some o =>simp only[Bool.not_eq_true']at t;intro e;simp only[AD]at e;subst e;simp at t
    · cases l
  · exact X4 u g hg
theorem b0o {st st':St}:∀ {gs:List AV},kept st st' gs=true→∀ g∈gs,∃ p,u9 g=some p∧st'[p]?=st[p]?
 | [],_,g,hg=>by simp at hg
 | g0::gs,h,g,hg=>by
  simp only[kept,AA]at h;obtain⟨e,l⟩:=h;rcases List.mem_cons.1 hg with rfl|hg
  · split at e
    · rename_i p v;refine⟨p,v,?_⟩;split at e
      · rename_i a b t u;rw[t,u,(a0k _ _).1 e]
      · cases e
    · cases e
  · exact b0o l g hg
theorem b59 {k:Kind} {m:Nat} (z:k.upto=some m) {call:d8} {as:List AV} {b b' r:AV} {st st':St} (h:sem k call as b st=some (r,b',st')):∀ g∈as.drop m,∃ p,u9 g=some p∧st'[p]?=st[p]?:=by
 cases k<;>simp only[Kind.upto,AD,reduceCtorEq]at z
 · -- stStA
   subst z;simp only[sem]at h;unfold K1 at h;split at h<;>first|cases h; done|skip
   rename_i o off x rt gs;split at h<;>first|cases h; done|skip
   split at h<;>first|cases h; done|skip
   rename_i l;intro g t;obtain⟨p,v,y,u⟩:=X4 l.2 g (by simpa using t);refine⟨p,v,?_⟩;simp only[J5]at h;split at h<;>first|cases h; done|skip
   split at h<;>first|cases h; done|skip
   simp only[fL_eq,AD,AJ]at h;obtain⟨_,_,rfl⟩:=h;exact List.getElem?_set_ne fun e=>u (by rw[e])
 · -- callA
   subst z;simp only[sem]at h;unfold H8 at h;split at h<;>first|cases h; done|skip
   split at h<;>first|cases h; done|skip
   rename_i l;simp only[AD,AJ]at h;obtain⟨_,_,rfl⟩:=h;exact fun g t=>b0o l g t
 · -- appM
   subst z;simp only[sem]at h;unfold F9 at h;split at h<;>first|cases h; done|skip
   · rename_i ys gs;split at h<;>first|cases h; done|skip
     rename_i l;simp only[AD,AJ]at h;obtain⟨_,_,rfl⟩:=h;intro g t;obtain⟨p,v,y,_⟩:=X4 l.2.2.2 g (by simpa using t);exact⟨p,v,List.getElem?_append_left y⟩
   · rename_i ys gs;split at h<;>first|cases h; done|skip
     rename_i l;simp only[AD,AJ]at h;obtain⟨_,_,rfl⟩:=h;intro g t;obtain⟨p,v,y,_⟩:=X4 l.2.2.2 g (by simpa using t);exact⟨p,v,List.getElem?_append_left y⟩
   · rename_i o n s ys gs;split at h<;>first|cases h; done|skip
     split at h<;>first|cases h; done|skip
     rename_i l;simp only[AD,AJ]at h;obtain⟨_,_,rfl⟩:=h;intro g t;obtain⟨p,v,y,u⟩:=X4 l.2.2.2.2.2 g (by simpa using t);refine⟨p,v,?_⟩;rw[List.getElem?_append_left (by simpa using y),List.getElem?_set_ne (fun e=>u (by rw[e]))]
def Sw (kp u:Kind) (call:d8) (A B:List AV):Prop:=∀ (s0 y z:St) (v C x t:AV),sem kp call A .undef s0=some (v,C,y)→sem u call B .undef y=some (x,t,z) →
 ∃ e l,sem u call B .undef s0=some (x,t,e)∧sem kp call A .undef e=some (v,l,z)
theorem a9t {k:Kind} (U:k.isLd=true) {call:d8} {A:List AV} {b r b':AV} {st st':St} (h:sem k call A b st=some (r,b',st')):st'=st ∧
 ∃ (t:Bool) (n:Nat),(∀ u,sem k call A b u=some (r,b',u))∨∃ (o off:Nat) (cs:List AV),A.head?=some (.ptr o off)∧st[o]?=some (Obj.cells cs)∧l8 t n (cs.drop off)=some r∧∀ (u:St) (l:List AV),u[o]?=some (Obj.cells l)→l8 t n (l.drop off)=some r→sem k call A b u=some (r,b',u):=by
 have one:∀ t n (A:List AV),G4 t n call A b st=some (r,b',st')→st'=st∧∃ (o off:Nat) (cs:List AV),A=[.ptr o off]∧st[o]?=some (Obj.cells cs)∧l8 t n (cs.drop off)=some r∧b'=b:=by
  intro t n A h;unfold G4 at h;split at h<;>first|cases h; done|skip
  rename_i o off;split at h<;>first|cases h; done|skip
  rename_i cs M;obtain⟨v,T,y⟩:=AL.1 h;simp only[AJ]at y;obtain⟨rfl,rfl,rfl⟩:=y;exact⟨rfl,o,off,cs,rfl,M,T,rfl⟩
 have x:∀ (t:Bool) (n o off:Nat) (u:St) (l:List AV),u[o]?=some (Obj.cells l)→l8 t n (l.drop off)=some r→G4 t n call [.ptr o off] b u=some (r,b,u):=by intro t n o off u l z C;unfold G4;simp only[z,C,AO]
 cases k<;>simp only[Kind.isLd,Bool.false_eq_true]at U
 · rename_i t n;simp only[sem]at h ⊢;obtain⟨e,o,off,cs,rfl,z,C,rfl⟩:=one t n A h;exact⟨e,t,n,.inr ⟨o,off,cs,rfl,z,C,fun u l I J=>x t n o off u l I J⟩⟩
 · rename_i t n;simp only[sem]at h ⊢;unfold J6 at h;split at h<;>first|cases h; done|skip
   · rename_i cs;obtain⟨v,T,y⟩:=AL.1 h;simp only[AJ]at y;obtain⟨rfl,rfl,rfl⟩:=y;refine⟨rfl,t,n,.inl fun u=>?_⟩;unfold J6;simp only[T,AO]
   · rename_i o off;obtain⟨e,W,L,cs,y,z,C,rfl⟩:=one t n [.ptr o off] h;simp only[AN,AV.ptr.injEq,and_true]at y;obtain⟨rfl,rfl⟩:=y;exact⟨e,t,n,.inr ⟨o,off,cs,rfl,z,C,fun u l I J=>x t n o off u l I J⟩⟩
 · rename_i t n;simp only[sem]at h ⊢;unfold M1 at h;split at h<;>first|cases h; done|skip
   rename_i o off rt;split at h<;>first|cases h; done|skip
   rename_i p O;split at h<;>first|cases h; done|skip
   rename_i N;obtain⟨e,W,L,cs,y,z,C,rfl⟩:=one t n [.ptr o off] h;simp only[AN,AV.ptr.injEq,and_true]at y;obtain⟨rfl,rfl⟩:=y;refine⟨e,t,n,.inr ⟨o,off,cs,rfl,z,C,fun u l I J=>?_⟩⟩;unfold M1;simp only[O,N,if_true];exact x t n o off u l I J
theorem a6l {k:Kind} (M:k.isSt=true) {call:d8} {A:List AV} {b r b':AV} {st st':St} (h:sem k call A b st=some (r,b',st')) :
 ∃ (o off:Nat) (cs:List AV),st[o]?=some (Obj.cells cs)∧cs[off]?=some r∧st'=st.set o (.cells (cs.set off r.weak1))∧(∃ x,A.head?=some (.ptr o off)∧x=A)∧∀ (l:St) (e:List AV),l[o]?=some (Obj.cells e)→e[off]?=some r→sem k call A b l=some (r,b',l.set o (.cells (e.set off r.weak1))):=by
 have one:∀ (A:List AV),F6 call A b st=some (r,b',st')→∃ (o off:Nat) (cs:List AV),A=[.ptr o off]∧st[o]?=some (Obj.cells cs)∧cs[off]?=some r∧st'=st.set o (.cells (cs.set off r.weak1))∧b'=b:=by
  intro A h;unfold F6 at h;split at h<;>first|cases h; done|skip
  rename_i o off;split at h<;>first|cases h; done|skip
  rename_i cs I;split at h<;>first|cases h; done|skip
  rename_i c C;simp only[AD,AJ]at h;obtain⟨rfl,rfl,rfl⟩:=h;exact⟨o,off,cs,rfl,I,C,rfl,rfl⟩
 have t:∀ (o off:Nat) (l:St) (e:List AV),l[o]?=some (Obj.cells e)→e[off]?=some r→F6 call [.ptr o off] b l=some (r,b,l.set o (.cells (e.set off r.weak1))):=by intro o off l e v y;unfold F6;simp only[v,y]
 cases k<;>simp only[Kind.isSt,Bool.false_eq_true]at M
 · simp only[sem]at h ⊢;obtain⟨o,off,cs,rfl,v,y,u,rfl⟩:=one A h;exact⟨o,off,cs,v,y,u,⟨_,rfl,rfl⟩,fun l e u z=>t o off l e u z⟩
 · simp only[sem]at h ⊢;unfold G8 at h;split at h<;>first|cases h; done|skip
   split at h<;>first|cases h; done|skip
   rename_i o off p f C;obtain⟨N,L,cs,J,v,y,u,rfl⟩:=one [.ptr o off] h;simp only[AN,AV.ptr.injEq,and_true]at J;obtain⟨rfl,rfl⟩:=J;refine⟨o,off,cs,v,y,u,⟨_,rfl,rfl⟩,fun l e u z=>?_⟩;unfold G8;simp only[C,and_self,if_true];exact t o off l e u z
theorem b20 (x:AV):x.weak1.weak1=x.weak1:=by cases x<;>rfl
theorem a5a {u:Bool} {n off k:Nat} {cs:List AV} {x:AV} (h:cs[k]?=some x):l8 u n ((cs.set k x.weak1).drop off)=l8 u n (cs.drop off):=by
 have v:(cs.set k x.weak1).map AV.weak1=cs.map AV.weak1:=by
  rw[List.map_set,b20];apply List.ext_getElem?;intro i;rw[List.getElem?_set];split
  · rename_i e;subst e;have t:=(AB.1 h).1;simp[t,h];rw[AE t]at h;exact congrArg AV.weak1 (Option.some.inj h).symm
  · rfl
 have l:((cs.set k x.weak1).drop off).map AV.weak1=(cs.drop off).map AV.weak1:=by rw[List.map_drop,v,List.map_drop]
 have t:((cs.set k x.weak1).drop off).length=(cs.drop off).length:=by simp
 unfold l8;cases u with
 | true=>simp only[if_true]; rw[t,List.map_take,l,List.map_take]
 | false =>simp only[Bool.false_eq_true,if_false];revert l;cases (cs.set k x.weak1).drop off<;>cases cs.drop off<;>intro l<;>simp at l<;>simp[l]
theorem d4T {kp J:Kind} {call:d8} {A B:List AV} {a r:AV} {m:Nat} (I:(match kp with|.ldStR ..=>true|_=>false)=true) (T:A=[a,r]) (W:J.upto=some m) (Y:r∈B.drop m):Sw kp J call A B:=by
 intro s0 sp y rp L rq bq z C;have U:kp.isLd=true:=by cases kp<;>first|rfl|cases I
 obtain⟨rfl,Z,n,h⟩:=a9t U z;refine⟨y,L,C,?_⟩;rcases h with h|⟨o,off,cs,t,M,N,O⟩
 · exact h y
 · obtain⟨p,v,x⟩:=b59 W C r Y;have u:o=p:=by
    cases kp<;>simp only[Bool.false_eq_true]at I;have l:=z;rw[T]at t l;simp only[List.head?_cons,AD]at t;subst t;simp only[sem,M1,v]at l;split at l
    · rename_i e;simpa using e
    · cases l
   subst u;exact O y cs (x.trans M) N
theorem d3q {kp L:Kind} {call:d8} {A B:List AV} (h:((kp.isSt && L.isLd) || (kp.isLd && L.isSt))=true):Sw kp L call A B:=by
 intro s0 W Y T M U O y z;simp only[Bool.or_eq_true,AA]at h;rcases h with⟨I,J⟩|⟨I,J⟩
 · obtain⟨o,off,cs,a1,a2,rfl,_,a4⟩:=a6l I y;obtain⟨rfl,N,n,h⟩:=a9t J z;refine⟨s0,M,?_,y⟩;rcases h with h|⟨o2,x,t,_,l,u,v⟩
   · exact h s0
   · have C:=(AB.1 a1).1;by_cases e:o=o2
     · subst e;rw[List.getElem?_set_self C]at l;simp only[AD,Obj.cells.injEq]at l;subst l;rw[a5a a2]at u;exact v s0 cs a1 u
     · rw[List.getElem?_set_ne e]at l;exact v s0 t l u
 · obtain⟨rfl,N,n,h⟩:=a9t I y;obtain⟨o,off,cs,a1,a2,rfl,_,a4⟩:=a6l J z;refine⟨_,M,z,?_⟩;rcases h with h|⟨o2,x,t,_,l,u,v⟩
   · exact h _
   · have C:=(AB.1 a1).1;by_cases e:o=o2
     · subst e;rw[a1]at l;simp only[AD,Obj.cells.injEq]at l;subst l;exact v _ _ (List.getElem?_set_self C) (by rw[a5a a2]; exact u)
     · exact v _ t (by rw[List.getElem?_set_ne e]; exact l) u
theorem d43 {d e:Nat} {call:d8} {A B:List AV} {a b r:AV} (T:A=[a,r]) (U:B=[b,r]) (a5:d≠e):Sw (.ldStSR d) (.ldStSR e) call A B:=by
 intro s0 sp sq rp bp rq bq N O;obtain⟨o,off,cs,a1,a2,rfl,⟨_,a3,_⟩,a4⟩:=a6l (k:=.ldStSR d) rfl N;obtain⟨o2,Y,a0,J,M,rfl,⟨_,L,_⟩,b4⟩:=a6l (k:=.ldStSR e) rfl O;have x:=N;have y:=O;simp only[sem,T]at x;simp only[sem,U]at y;unfold G8 at x y;split at x<;>first|cases x; done|skip
 rename_i o3 v Z f3 t;simp only[AN,and_true]at t;obtain⟨rfl,rfl⟩:=t;split at x<;>first|cases x; done|skip
 rename_i c1;split at y<;>first|cases y; done|skip
 rename_i o4 l p4 f4 t;simp only[AN,AV.ptr.injEq,and_true]at t;obtain⟨rfl,rfl,rfl⟩:=t;split at y<;>first|cases y; done|skip
 rename_i C;rw[T]at a3;rw[U]at L;simp only[List.head?_cons,AD,AV.ptr.injEq]at a3 L;obtain⟨rfl,rfl⟩:=a3;obtain⟨rfl,rfl⟩:=L;obtain⟨c1,z⟩:=c1;obtain⟨C,I⟩:=C;have c1:o3=Z:=by simpa using c1
 have C:o4=Z:=by simpa using C
 have z:v=f3+d:=by simpa using z
 have I:l=f3+e:=by simpa using I
 subst c1; subst C;have W:=(AB.1 a1).1;have u:v≠l:=by omega
 rw[List.getElem?_set_self W]at J;simp only[AD,Obj.cells.injEq]at J;subst J;rw[List.getElem?_set_ne u]at M;refine⟨_,bp,b4 s0 cs a1 M,?_⟩;have:=a4 (s0.set o4 (.cells (cs.set l rq.weak1))) (cs.set l rq.weak1) (List.getElem?_set_self W) (by rw[List.getElem?_set_ne (Ne.symm u)]; exact a2);rw[this];simp only[List.set_set];rw[List.set_comm _ _ u]
theorem d4z {n n':Nat} {call:d8} {A B As Bs:List AV} {a x r:AV} (hA:A=a::x::r::As) (T:r∈B.drop 3):Sw (.stStA n) (.stStA n') call A B:=by
 intro s0 sp sq rp W rq bq M N;have form:∀ {n:Nat} {A:List AV} {s s':St} {r b:AV},K1 n call A .undef s=some (r,b,s')→∃ (o off:Nat) (x rt:AV) (gs:List AV) (cs:List AV),A=.ptr o off::x::rt::gs∧u9 rt=some o∧T8 (some o) s.length gs=true∧s[o]?=some (Obj.cells cs)∧s'=s.set o (.cells (y8 cs off x.cells)) ∧
  ∀ (y:St) (l:List AV),y.length=s.length→y[o]?=some (Obj.cells l)→l=cs→K1 n call A .undef y=some (r,b,y.set o (.cells (y8 cs off x.cells))):=by
  intro n A s s' r b h;unfold K1 at h;split at h<;>first|cases h; done|skip
  rename_i o off x rt gs;split at h<;>first|cases h; done|skip
  rename_i p O;split at h<;>first|cases h; done|skip
  rename_i hc;obtain⟨c1,L⟩:=hc;have z:o=p:=by simpa using c1
  subst z;simp only[J5]at h;split at h<;>first|cases h; done|skip
  rename_i cs I;split at h<;>first|cases h; done|skip
  rename_i t;simp only[fL_eq,AD,AJ]at h;obtain⟨rfl,rfl,rfl⟩:=h;refine⟨o,off,x,rt,gs,cs,rfl,O,L,I,rfl,fun y l hl h3 e=>?_⟩;subst e;unfold K1;simp only[O,c1,hl,L,and_self,if_true];unfold J5;simp only[h3,t,and_self,if_true,fL_eq]
 simp only[sem]at M N ⊢;obtain⟨o,off,x1,rt,gs,cs,C,e2,e3,Y,rfl,Z⟩:=form M;obtain⟨o2,U,x2,a1,a0,l,f1,f2,f3,f4,rfl,f6⟩:=form N;rw[hA]at C;simp only[AN]at C;obtain⟨rfl,rfl,rfl,rfl⟩:=C;rw[f1]at T;obtain⟨p,v,_,J⟩:=X4 f3 r (by simpa using T);rw[e2]at v;simp only[AD]at v;subst v;have u:o2≠o:=fun e=>J (by rw[e])
 rw[List.getElem?_set_ne (Ne.symm u)]at f4;refine⟨_,W,f6 s0 l (by simp) f4 rfl,?_⟩;rw[Z _ cs (by simp) (by rw[List.getElem?_set_ne u]; exact Y) rfl];rw[List.set_comm _ _ u]
theorem b30 (d:Dst) (r:AV) (σ:Sig):(d.put r σ).st=σ.st:=by cases d<;>rfl
theorem d1b (a5:a2m p q=true) {σ1 σ2:Sig} (h1:J4 call p σ=some σ1) (h2:J4 call q σ1=some σ2) :
 ∃ Y,J4 call q σ=some Y∧J4 call p Y=some σ2:=by
 simp only[a2m,b1M,b18,AA,Bool.not_eq_true',Option.isNone_iff_eq_none]at a5;obtain⟨⟨⟨⟨b1,b2⟩,I⟩,⟨a1,a2⟩,a3⟩,hsw⟩:=a5;have a1:=I9 a1;have a2:=I9 a2;have a3:=I9 a3;obtain⟨rp,bp,sp,hp,l⟩:=m9 h1;obtain⟨rq,bq,sq,hq,u⟩:=m9 h2;have W:∀ τ:Sig,d9 p.args τ=τ:=fun τ=>by
  clear hsw hp l h1 a3;revert I;induction p.args with
  | nil=>intro _; rfl
  | cons y ys ih =>
   intro I;simp only[X9,List.all_cons,Bool.and_eq_true]at I;have:y.spend τ=τ:=by have:=I.1;cases y<;>simp_all [Opd.steals,Opd.spend]
   rw[d9,this];exact ih I.2
 have O:∀ (x:AOper) (τ:Sig),x.box=none→C3 x τ=.undef:=fun x τ h=>by unfold C3; rw[h]
 rw[O p _ b1]at hp;rw[O q _ b2]at hq;rw[W,b1]at l;rw[b2]at u;simp only at l u
 -- what q reads is not what p writes
 have t:∀ x:Atom,x≠.st→x ∉ p.dst.atoms→x.same σ1 σ:=fun x v M=>by rw[l];refine Atom.same_trans (a2W M) ?_;cases x<;>first|rfl|exact absurd rfl v
 have Z:q.args.map (·.read σ1)=q.args.map (·.read σ):=List.map_congr_left fun y J=>a0p fun x v=>by
  have b6:x∈q.reads:=by simp only[AOper.reads,AQ,List.mem_flatMap];exact .inl (.inl (.inl ⟨y,J,v⟩))
  refine t x ?_ fun M=>a1 x M b6
  intro e;subst e;cases y<;>simp[Opd.atoms]at v
 have a6:σ1.st=sp:=by rw[l,b2H]
 rw[Z,a6]at hq;have a9:Sw p.kind q.kind call (p.args.map (·.read σ)) (q.args.map (·.read σ)):=by
  simp only[Bool.or_eq_true]at hsw;rcases hsw with((hsw|hsw)|hsw)|hsw
  · simp only[b8K,AA]at hsw;obtain⟨k1,k2⟩:=hsw;split at k2
    case h_2=>cases k2
    rename_i m x r hm v;obtain⟨y,J,a0⟩:=List.any_eq_true.1 k2;obtain rfl:=a7t a0;exact d4T k1 (a:=x.read σ) (r:=r.read σ) (by rw[v]; rfl) hm (by rw[← List.map_drop]; exact List.mem_map.2 ⟨r,J,rfl⟩)
  · simp only[b72]at hsw;split at hsw
    case h_2=>cases hsw
    rename_i n n' x1 x2 r rest k1 k2 v;obtain⟨y,J,a0⟩:=List.any_eq_true.1 hsw;obtain rfl:=a7t a0;rw[k1,k2];exact d4z (As:=rest.map (·.read σ)) (Bs:=[]) (a:=x1.read σ) (x:=x2.read σ) (r:=r.read σ) (by rw[v]; rfl) (by rw[← List.map_drop]; exact List.mem_map.2 ⟨r,J,rfl⟩)
  · exact d3q hsw
  · simp only[b8I]at hsw;split at hsw
    case h_2=>cases hsw
    rename_i d e x1 r x2 s k1 k2 v J;simp only[AA,Bool.not_eq_true']at hsw;obtain rfl:=a7t hsw.1;have b3:d≠e:=by intro h;subst h;simp at hsw
    rw[k1,k2];exact d43 (a:=x1.read σ) (b:=x2.read σ) (r:=r.read σ) (by rw[v]; rfl) (by rw[J]; rfl) b3
 obtain⟨a4,c0,b5,b4⟩:=a9 _ _ _ _ _ _ _ hp hq;have C:=a6r (p:=q) (σ:=σ) (call:=call) (by rw[O q _ b2]; exact b5);rw[b2]at C;simp only at C;refine⟨_,C,?_⟩;generalize L:q.dst.put rq { d9 q.args σ with st:=a4 }=σq at C;have b8:q.dst.put rq { fr:=(d9 q.args σ).fr,τ:=(d9 q.args σ).τ,st:=a4 }=σq:=L;obtain⟨fq,lq⟩:=a2K C;have a7:σq.st=a4:=by rw[← L,b2H]
 have N:p.args.map (·.read σq)=p.args.map (·.read σ):=List.map_congr_left fun y J=>a0p fun x v=>fq x fun hw=>a3 x hw (AQ.2 (.inl (AQ.2 (.inl (List.mem_flatMap.2 ⟨y,J,v⟩)))))
 rw[a6r (p:=p) (σ:=σq) (call:=call) (by rw[O p _ b1,N,a7]; exact b4)];rw[W,b1];congr 1;refine Sig.ext_atoms ?_ fun x=>?_
 · rw[a2l,u,a2l,M2,l,a2l];exact lq
 by_cases U:x=.st
 · subst U;show(p.dst.put rp _).st=σ2.st;rw[u,b30,b30]
 by_cases M:x∈p.dst.atoms
 · have e1:x.same σ1 (p.dst.put rp { fr:=σq.fr,τ:=σq.τ,st:=sq }):=by rw[l];exact a2y (σ1:=⟨σ.fr,σ.τ,sp⟩) (σ2:=⟨σq.fr,σq.τ,sq⟩) (show σ.fr.length=σq.fr.length from lq.symm) (.inr M)
   have e2:x.same σ2 σ1:=(a2K h2).1 x (a2 x M);exact Atom.same_symm (Atom.same_trans e2 e1)
 · have e1:x.same (p.dst.put rp { fr:=σq.fr,τ:=σq.τ,st:=sq }) σq:=Atom.same_trans (a2W M) (by cases x<;>first|rfl|exact absurd rfl U);have l1:σ1.fr.length=σ.fr.length:=by rw[l,a2l]
   have T:∀ y∈q.args,∀ z∈y.spent,z.same σ1 σ:=fun y J z hz=>by
    have b7:z∈q.reads:=by simp only[AOper.reads,AQ,List.mem_flatMap];exact .inl (.inl (.inl ⟨y,J,a3k y z hz⟩))
    refine t z ?_ fun M=>a1 z M b7
    intro e;subst e;cases y<;>simp[Opd.spent]at hz
   have e2:x.same σ2 σq:=by
    rw[u,← L];refine a2y (by simp[M2,l1]) ?_;by_cases b0:x∈q.dst.atoms
    · exact .inr b0
    · left;have:=a1E l1 (t x U M) T;cases x<;>first|exact this|exact absurd rfl U
   exact Atom.same_trans e1 (Atom.same_symm e2)
def Goes (p:AOper) (σ:Sig):Prop:=∀ x want,p.guard=some (x,want)→∃ b,x.read σ=.bool b∧(b == want)=true
def Skips (p:AOper) (σ:Sig):Prop:=∃ x want,p.guard=some (x,want)∧(x.read σ=.tuple []∨∃ b,x.read σ=.bool b∧(b == want)=false)
theorem a8p (h:l9 call p σ=some σ'):(Goes p σ∧J4 call p σ=some σ')∨(Skips p σ∧σ'=p.dst.put (.tuple []) σ):=by
 unfold l9 at h;split at h
 · rename_i l;exact .inl ⟨fun x want e=>(by rw[l]at e; cases e),h⟩
 · rename_i x want l;split at h
   · rename_i b t;split at h
     · rename_i u;refine .inl ⟨fun y v e=>?_,h⟩;rw[l]at e;cases e;exact⟨b,t,u⟩
     · rename_i u;exact .inr ⟨⟨x,want,l,.inr ⟨b,t,by simpa using u⟩⟩,(Option.some.inj h).symm⟩
   · rename_i t;exact .inr ⟨⟨x,want,l,.inl t⟩,(Option.some.inj h).symm⟩
   · cases h
theorem Goes.step (h:Goes p σ):l9 call p σ=J4 call p σ:=by
 unfold l9;cases t:p.guard with
 | none=>rfl
 | some u =>obtain⟨x,want⟩:=u;obtain⟨b,e,l⟩:=h x want t;simp only[e,l,if_true]
theorem Skips.step (h:Skips p σ):l9 call p σ=some (p.dst.put (.tuple []) σ):=by
 obtain⟨x,want,t,h⟩:=h;unfold l9;rw[t];rcases h with h|⟨b,e,l⟩
 · simp only[h]
 · simp only[e,l,Bool.false_eq_true,if_false]
theorem Goes.same {σ1 σ2:Sig} (h:Goes p σ1) (l:∀ x want,p.guard=some (x,want)→x.read σ1=x.read σ2):Goes p σ2:=fun x want e=>by rw[← l x want e]; exact h x want e
theorem Skips.same {σ1 σ2:Sig} (h:Skips p σ1) (l:∀ x want,p.guard=some (x,want)→x.read σ1=x.read σ2):Skips p σ2:=by obtain⟨x,want,e,h⟩:=h;exact⟨x,want,e,by rw[← l x want e]; exact h⟩
def N1 (p:AOper):AOper:={ dst:=p.dst,kind:=.mv,args:=[.c (.tuple [])] }
theorem Q2 (τ:Sig):l9 call (N1 p) τ=some (p.dst.put (.tuple []) τ):=by show J4 call (N1 p) τ=_;rw[S7];rfl
theorem b8H:Atom.st ∉ p.dst.atoms:=by cases p.dst<;>simp[Dst.atoms]
theorem a07:(N1 p).writes=p.dst.atoms:=by simp[AOper.writes,N1,Opd.spent,Kind.setSt]
theorem a1J:(N1 p).reads=[]:=by simp[AOper.reads,N1,Opd.atoms,Kind.useSt]
theorem I8 {xs ys:List Atom} (h:∀ x∈xs,x ∉ ys):meets xs ys=false:=by
 cases l:meets xs ys with
 | false=>rfl
 | true =>exfalso;unfold meets at l;rw[List.any_eq_true]at l;obtain⟨x,u,t⟩:=l;rw[List.any_eq_true]at t;obtain⟨y,v,e⟩:=t;rw[Atom.beq_iff]at e;subst e;exact h x u v
theorem d1L (z:a2m p q=true) {σ1 σ2:Sig} (T:l9 call p σ=some σ1) (U:l9 call q σ1=some σ2) :
 ∃ v,l9 call q σ=some v∧l9 call p v=some σ2:=by
 have I:=z;simp only[a2m,b1M,b18,AA,Bool.not_eq_true',Option.isNone_iff_eq_none]at z;obtain⟨⟨⟨⟨b1,b2⟩,Y⟩,⟨a1,a2⟩,a3⟩,_⟩:=z;have a1:=I9 a1;have a2:=I9 a2;have a3:=I9 a3
 -- guards are read alike
 have O:∀ {x:AOper} {y:Opd} {want:Bool},x.guard=some (y,want)→Atom.st ∉ y.atoms:=fun {x y want} _=>by cases y<;>simp[Opd.atoms]
 have f1:=(R3 T).1;have pw:∀ x,x∈p.writes→x∈p.dst.atoms∨x=.st:=fun x hx=>by
  simp only[AOper.writes,b1,AQ]at hx;rcases hx with((hx|hx)|hx)|hx
  · exact .inl hx
  · obtain⟨y,hy,hx⟩:=List.mem_flatMap.1 hx;have:=List.all_eq_true.1 Y y hy;cases y<;>simp_all [Opd.spent,Opd.steals]
  · simp at hx
  · split at hx
    · exact .inr (by simpa using hx)
    · simp at hx
 have gq:∀ y want,q.guard=some (y,want)→y.read σ1=y.read σ:=fun y want L=>a0p fun x hx=>f1 x fun Z=>by
  rcases pw x Z with u|rfl
  · exact a1 x u (a6F L x hx)
  · exact O L hx
 have N:∀ {τ:Sig},(∀ x,x ∉ q.writes→x.same τ σ)→∀ y want,p.guard=some (y,want)→y.read σ=y.read τ:=fun {τ} a0 y want L=>(a0p fun x hx=>a0 x fun Z=>a3 x Z (by rw[L];exact AQ.2 (.inr hx))).symm
 rcases a8p T with⟨M,J⟩|⟨M,J⟩<;>rcases a8p U with⟨k2,e2⟩|⟨k2,e2⟩
 · obtain⟨σ',l,t⟩:=d1b I J e2;refine⟨σ',by rw[(k2.same gq).step]; exact l,?_⟩;rw[(M.same (N (a2K l).1)).step];exact t
 · -- p runs, q is passed over
   have W:l9 call (N1 q) σ1=some σ2:=by rw[Q2,e2]
   have e:Z0 p (N1 q)=true:=by
    simp only[Z0,a07,a1J,AA,Bool.not_eq_true'];refine⟨⟨I8 fun x _=>by simp,I8 fun x hx u=>?_⟩,I8 fun x u hx=>?_⟩
    · rcases pw x hx with h|rfl
      · exact a2 x h (a10 x u)
      · exact b8H u
    · simp only[AOper.reads,b1,AQ]at hx;rcases hx with((hx|hx)|hx)|hx
      · exact a3 x (a10 x u) (AQ.2 (.inl (AQ.2 (.inl hx))))
      · simp at hx
      · exact a3 x (a10 x u) (AQ.2 (.inr hx))
      · split at hx
        · simp only[List.mem_cons,List.not_mem_nil,or_false]at hx;subst hx;exact b8H u
        · simp at hx
   obtain⟨σ',l,t⟩:=b0D e T W;rw[Q2]at l;exact⟨σ',by rw[(k2.same gq).step]; exact l,t⟩
 · -- p is passed over
   have C:l9 call (N1 p) σ=some σ1:=by rw[Q2,J]
   have e:Z0 (N1 p) q=true:=by simp only[Z0,a07,a1J,AA,Bool.not_eq_true'];exact⟨⟨I8 fun x hx=>a1 x hx,I8 fun x hx=>a2 x hx⟩,I8 fun x _=>by simp⟩
   obtain⟨σ',l,t⟩:=b0D e C U;rw[Q2]at t;refine⟨σ',l,?_⟩;rw[(M.same (N (R3 l).1)).step];exact t
 · have C:l9 call (N1 p) σ=some σ1:=by rw[Q2,J]
   have e:Z0 (N1 p) q=true:=by simp only[Z0,a07,a1J,AA,Bool.not_eq_true'];exact⟨⟨I8 fun x hx=>a1 x hx,I8 fun x hx=>a2 x hx⟩,I8 fun x _=>by simp⟩
   obtain⟨σ',l,t⟩:=b0D e C U;rw[Q2]at t;refine⟨σ',l,?_⟩;rw[(M.same (N (R3 l).1)).step];exact t
theorem c5X (hap:a1p p q=true) {σ1 σ2:Sig} (l:l9 call p σ=some σ1) (t:l9 call q σ1=some σ2) :
 ∃ e,l9 call q σ=some e∧l9 call p e=some σ2:=by
 simp only[a1p,Bool.or_eq_true]at hap;rcases hap with hap|hap
 · exact b0D hap l t
 · exact d1L hap l t
theorem b77 {ps:List AOper} {rest:List AOper} (l:∀ r∈ps,a1p r p=true) (h:q8 call (ps++p::rest) σ=some σ') :
 ∃ σ1,l9 call p σ=some σ1∧q8 call (ps++rest) σ1=some σ':=by
 induction ps generalizing σ with
 | nil =>
  simp only[List.nil_append,q8]at h;cases e:l9 call p σ with
  | none=>simp[e]at h
  | some σ1=>simp only[e]at h; exact⟨σ1,rfl,h⟩
 | cons r ps x =>
  simp only[List.cons_append,q8]at h;cases e:l9 call r σ with
  | none=>simp[e]at h
  | some y =>simp only[e]at h;obtain⟨σ2,t,u⟩:=x (fun r v=>l r (by simp[v])) h;obtain⟨σ1,g1,g2⟩:=c5X (l r (by simp)) e t;refine⟨σ1,g1,?_⟩;simp only[List.cons_append,q8,g2];exact u
end
end Go.Cb
namespace Go.Cb
open Classical
def a2i (c:Cx) (ops:Array Oper) (o:Oper) (p:AOper):Bool:=match o.guard,p.guard with
 | none,none=>true
 | some (j,w),some (x,w')=>(w == w') && (match (ops[j]?).bind (·.dst)with|some d=>O3 c (.tmp d) x && decide (d < c.nt)|none=>false) && s7 c o.dst p.dst
 | _,_=>false
def a2S (c:Cx) (ops:Array Oper):List Oper→List AOper→Bool
 | [],[]=>true
 | o::os,p::ps=>a6U c o p && a2i c ops o p && a2S c ops os ps
 | _,_=>false
def a4a (ops:Array Oper):List (Nat×List Atom×List Atom×AOper)→Nat→List AOper→Bool
 | _,_,[]=>true
 | es,j,p::ps =>
  (r9 ops j).all (fun i=>Nat.blt i j) &&
  es.all (fun e=>(!meets e.2.2.1 p.reads && !meets e.2.2.1 p.writes && !meets p.writes e.2.1) || (a09 ops 4 (r9 ops j)).any (Nat.beq e.1) || a2m e.2.2.2 p) &&
  a4a ops ((j,p.reads,p.writes,p)::es) (j+1) ps
def d0w (c:Cx) (ops:Array Oper) (qs:List (Nat×AOper)):Bool:=qs.all fun x=>match ops[x.1]? with
 | some o=>a6U c o x.2 && a2i c ops o x.2
 | none=>false
def a3P (ops:Array Oper):List (Nat×AOper)→List (Nat×AOper)→Bool
 | _,[]=>true
 | es,x::qs =>(r9 ops x.1).all (fun i=>es.any fun e=>Nat.beq e.1 i) && es.all (fun e=>!Nat.beq e.1 x.1 && (a1p e.2 x.2 || (a09 ops 4 (r9 ops x.1)).any (Nat.beq e.1))) && a3P ops (x::es) qs
def a6s (kill:List Nat):List Nat:=kill.filterMap fun k=>if Nat.ble 1000000 k then some (k - 1000000)else none
def c8Y (c:Cx) (ops:Array Oper) (kill:List Nat) (ps:List AOper):Bool :=
 let e:=a6s kill
 Nat.beq e.length ops.size && Nat.beq ps.length ops.size && d0w c ops (e.zip ps) && a3P ops [] (e.zip ps)
def a6u (c:Cx) (ops:Array Oper) (draw:Bool) (kill:List Nat) (ps:List AOper):Bool :=
 if draw && !(a6s kill).isEmpty then c8Y c ops kill ps else a2S c ops ops.toList ps && (!draw || a4a ops [] 0 ps)
section
variable {c:Cx} {g:Gh} {w:World} {pr:Nat→Option Pl} {bx:Nat→Nat} {σ σ':Sig} {a:Act} {call:d8} {ops:Array Oper} {next:Act→World→Prop} {Q:Exit→Act→World→Prop}
theorem a9l (O:Fx c) (hc:Z2 c.P c.gt call) (h:S c g w pr bx σ a) {i:Nat} {o:Oper} {p:AOper} (hi:ops[i]?=some o) (L:a6U c o p=true) (u:a2i c ops o p=true)
 (t:l9 call p σ=some σ') (l:Post c g w a σ' next):wpOp c.P ops Q i next a w:=by
 unfold wpOp;simp only[hi];unfold l9 at t;unfold a2i at u;split at u
 · rename_i I T;rw[T]at t;have M:Region.wanted o (yielded ops a.tmps)=true:=by simp[Region.wanted,I]
   rw[if_pos M];exact .inl (c3h L O hc h t l)
 · rename_i j want x Z I T;simp only[AA,beq_iff_eq]at u;obtain⟨⟨rfl,u⟩,hd⟩:=u;split at u
   · rename_i d J;simp only[AA,decide_eq_true_eq]at u;obtain⟨hx,W⟩:=u;have N:=P9 h hx;have Y:d < a.tmps.size:=by rw[h.fr.size]; exact W
     have hy:∀ v,a.eval (.tmp d)=v→yielded ops a.tmps j=(match v with|.bool b=>some b|_=>none):=fun v y=>by
      have e:a.tmps[d]?=some v:=by rw[← y]; simp[Act.eval,Y]
      simp only[yielded,J,Option.bind_some,e];cases v<;>rfl
     rw[T]at t;simp only at t;have skip:Region.wanted o (yielded ops a.tmps)=false→some (p.dst.put (.tuple []) σ)=some σ'→(if Region.wanted o (yielded ops a.tmps)=true then o.wp c.P a w next Q∨(o.asks c.P a w∧LetsOut Q)else next (a.put o.dst undef) w):=fun M t=>by rw[if_neg (by rw[M]; simp)];obtain rfl:=Option.some.inj t;refine l _ _ g pr bx (C2 _ _ _) (a0x O h hd (mine:=No) (r:=.tuple []) (v:=undef) ?_ fun _ x=>x.elim) (Tr.refl _ _ _);exact(show ValOK g w No (.tuple []) undef from ValOK.mk' (by simp only[Rel]; exact⟨#[],rfl,by simp[RelL]⟩) (by simp) (by simp))
     split at t
     · rename_i b U;rw[U]at N;have y:=ValOK.rel N;simp only[Rel]at y;have z:=hy _ y;split at t
       · rename_i C;have M:Region.wanted o (yielded ops a.tmps)=true:=by simp only[Region.wanted,I,z];simpa using C
         rw[if_pos M];exact .inl (c3h L O hc h t l)
       · rename_i C;exact skip (by simp only[Region.wanted,I,z];simpa using C) t
     · rename_i U;rw[U]at N;have y:=ValOK.rel N;simp only[Rel]at y;obtain⟨arr,y,hr⟩:=y;have z:=hy _ y;exact skip (by simp[Region.wanted,I,z]) t
     · cases t
   · cases u
 · cases u
theorem a5s {os:List Oper}:∀ {ps:List AOper},a2S c ops os ps=true→os.length=ps.length∧∀ (i:Nat) (p:AOper),ps[i]?=some p→∃ o,os[i]?=some o∧a6U c o p=true∧a2i c ops o p=true:=by
 induction os with
 | nil =>
  intro ps h;cases ps with
  | nil=>exact⟨rfl,fun i p h=>by simp at h⟩
  | cons p ps=>simp[a2S]at h
 | cons o os x =>
  intro ps h;cases ps with
  | nil=>simp[a2S]at h
  | cons p ps =>
   rw[a2S,AA,AA]at h;obtain⟨⟨e,t⟩,u⟩:=h;obtain⟨l,v⟩:=x u;refine⟨by rw[AY,AY,l],fun i q hi=>?_⟩;cases i with
   | zero =>rw[List.getElem?_cons_zero]at hi;obtain rfl:=Option.some.inj hi;exact⟨o,rfl,e,t⟩
   | succ i =>rw[List.getElem?_cons_succ]at hi ⊢;exact v i q hi
theorem Post.trans {e:Sig} {g':Gh} {w':World} {t:Act} (h:Post c g w a e next) (u:t.defers=a.defers) (v:Tr c.A g w g' w'):Post c g' w' t e next :=
 fun a2 y g2 pr2 l d2 x t2=>h a2 y g2 pr2 l (d2.trans u) x (v.trans t2)
theorem b09 (J:Fx c) (L:Z2 c.P c.gt call) {ps:List AOper} (u:a2S c ops ops.toList ps=true):∀ (n k:Nat) (g:Gh) (w:World) (pr:Nat→Option Pl) (bx:Nat→Nat) (σ:Sig) (a:Act),k+n=ps.length →
 S c g w pr bx σ a→q8 call (ps.drop k) σ=some σ'→Post c g w a σ' (Q .normal)→wpOps c.P ops Q (List.range' k n) a w
 | 0,k,g,w,pr,bx,σ,a,O,h,l,e=>by rw[List.drop_of_length_le (by omega)]at l;simp only[q8,AD]at l;subst l;exact e a w g pr bx rfl h (Tr.refl _ _ _)
 | n+1,k,g,w,pr,bx,σ,a,O,h,l,e=>by
  obtain⟨U,t⟩:=a5s u;rw[List.drop_eq_getElem_cons (by omega)]at l;simp only[q8]at l;obtain⟨o,T,M,N⟩:=t k _ (AE (show k < ps.length by omega));cases z:l9 call (ps[k]'(by omega)) σ with
  | none=>simp[z]at l
  | some σ1 =>
   simp only[z]at l;rw[List.range'_succ,wpOps_cons];refine a9l J L h (by simpa using T) M N z fun a1 w1 g1 I v y x C=>?_
   exact b09 J L u n (k+1) g1 w1 I v σ1 a1 (by omega) x l (e.trans y C)
end
end Go.Cb
namespace Go.Cb
open Classical
section
variable {c:Cx} {σ':Sig} {call:d8} {ops:Array Oper} {Q:Exit→Act→World→Prop}
theorem a8i (all:List AOper):∀ (ps:List AOper) (k:Nat) (es:List (Nat×List Atom×List Atom×AOper)),ps=all.drop k→(∀ (i:Nat) (q:AOper),i < k→all[i]?=some q→(i,q.reads,q.writes,q)∈es)→a4a ops es k ps=true →
 ∀ (j:Nat) (p:AOper),k≤j→all[j]?=some p→(∀ i∈r9 ops j,i < j)∧∀ (i:Nat) (q:AOper),i < j→all[i]?=some q→a1p q p=true∨i∈a09 ops 4 (r9 ops j)
 | [],k,es,l,_,_,j,p,hkj,hj=>by
  have:all.length≤k:=by have:=congrArg List.length l;simp at this; omega
  rw[List.getElem?_eq_none (by omega)]at hj; cases hj
 | p0::ps,k,es,l,hes,h,j,p,hkj,hj=>by
  have u:k < all.length:=by have:=congrArg List.length l;simp at this; omega
  rw[List.drop_eq_getElem_cons u]at l;simp only[AN]at l;obtain⟨x,l⟩:=l;simp only[a4a,AA]at h;obtain⟨⟨z,C⟩,I⟩:=h;rcases Nat.lt_or_ge k j with v|hge
  · refine a8i all ps (k+1) _ l (fun i q hi t=>?_) I j p v hj;rcases Nat.lt_or_ge i k with h4|h4
    · exact List.mem_cons_of_mem _ (hes i q h4 t)
    · obtain rfl:i=k:=by omega
      rw[AE u]at t;simp only[AD]at t;rw[x,t];simp
  · obtain rfl:j=k:=by omega
    rw[AE u]at hj;simp only[AD]at hj;rw[← hj,← x];refine⟨fun i hi=>?_,fun i q hi t=>?_⟩
    · have:=List.all_eq_true.1 z i hi;simpa using this
    · have:=List.all_eq_true.1 C _ (hes i q hi t);simp only[Bool.or_eq_true]at this;rcases this with(h5|h5)|h5
      · left; simp only[a1p,Z0,Bool.or_eq_true]; exact .inl (by simpa using h5)
      · right;rw[List.any_eq_true]at h5;obtain⟨y,J,e⟩:=h5;have:i=y:=by simpa using e
        rw[this]; exact J
      · left; simp only[a1p,Bool.or_eq_true]; exact .inr h5
def Q3 (n:Nat) (listed:Array Bool):List Nat:=(List.range n).filter fun i=>!listed.getD i true
theorem mem_rem {n:Nat} {listed:Array Bool} {i:Nat}:i∈Q3 n listed↔i < n∧listed.getD i true=false:=by simp[Q3]
theorem a4F (n:Nat) (listed:Array Bool):(Q3 n listed).Pairwise (· < ·):=List.Pairwise.filter _ List.pairwise_lt_range
theorem a3d {l:Array Bool} {i:Nat} (h:i < l.size) (d e:Bool):l.getD i d=l.getD i e:=by simp[Array.getD_eq_getD_getElem?,h]
theorem b32 {n:Nat} {listed:Array Bool} (C:listed.size=n) {i:Nat} {l1 l2:List Nat} (h:Q3 n listed=l1++i::l2):Q3 n (listed.setIfInBounds i true)=l1++l2:=by
 have hi:i∈Q3 n listed:=by rw[h]; simp
 have z:=(mem_rem.1 hi).1;have e:Q3 n (listed.setIfInBounds i true)=(Q3 n listed).filter (fun x=>x != i):=by
  unfold Q3;rw[List.filter_filter];apply List.filter_congr;intro x l;have u:x < n:=by simpa using l
  by_cases ex:x=i
  · subst ex;simp[Array.getD_eq_getD_getElem?,C,u]
  · have:(listed.setIfInBounds i true).getD x true=listed.getD x true:=by simp[Array.getD_eq_getD_getElem?,Array.getElem?_setIfInBounds_ne (Ne.symm ex)]
    rw[this];simp[ex]
 rw[e,h];have t:=a4F n listed;rw[h]at t;have t:=List.pairwise_append.1 t;have v:∀ x∈l1,x≠i:=fun x l=>Nat.ne_of_lt (t.2.2 x l i (by simp))
 have y:∀ x∈l2,x≠i:=fun x l=>Nat.ne_of_gt ((List.pairwise_cons.1 t.2.1).1 x l)
 rw[List.filter_append,List.filter_cons_of_neg (by simp),List.filter_eq_self.2 (fun x l=>by simpa using v x l),List.filter_eq_self.2 (fun x l=>by simpa using y x l)]
theorem a04 {listed:Array Bool} (t:∀ j,listed.getD j false=true→∀ i∈r9 ops j,listed.getD i false=true) :
 ∀ (n:Nat) (l:List Nat),(∀ x∈l,listed.getD x false=true)→∀ x∈a09 ops n l,listed.getD x false=true
 | 0,l,h,x,hx=>h x hx
 | n+1,l,h,x,hx=>by
  simp only[a09,AQ]at hx;rcases hx with hx|hx
  · exact h x hx
  · refine a04 t n _ (fun y e=>?_) x hx;obtain⟨z,u,e⟩:=List.mem_flatMap.1 e;exact t z (h z u) y e
theorem ready_iff {listed:Array Bool} {i:Nat}:i∈Region.ready .any ops listed↔i < ops.size∧listed.getD i true=false∧∀ b∈r9 ops i,listed.getD b false=true:=by
 unfold Region.ready;rw[List.mem_filter,List.mem_range];constructor
 · rintro⟨v,x⟩;simp only[AA,Bool.not_eq_true']at x;refine⟨v,x.1,fun b t=>?_⟩;have u:=x.2;unfold r9 at t;rw[Array.getElem?_eq_getElem v]at u t;simp only[AO,Option.getD_some]at u;simp only at t;obtain⟨e,y,t⟩:=List.mem_filterMap.1 t;have:=Array.all_eq_true_iff_forall_mem.1 u e (by simpa using y);split at t
   · rename_i l;simp only[AD]at t;subst t;simpa[l]using this
   · cases t
 · rintro⟨v,x,u⟩;refine⟨v,?_⟩;simp only[AA,Bool.not_eq_true'];refine⟨x,?_⟩;unfold r9 at u;rw[Array.getElem?_eq_getElem v]at u ⊢;simp only[AO,Option.getD_some];refine Array.all_eq_true_iff_forall_mem.2 fun e y=>?_
   cases l:Region.binds .any e with
   | false=>simp
   | true =>have:=u e.on (List.mem_filterMap.2 ⟨e,by simpa using y,by simp[l]⟩);simp[this]
theorem c4g (fx:Fx c) (hc:Z2 c.P c.gt call) {ps:List AOper} (b2:a2S c ops ops.toList ps=true) (L:a4a ops [] 0 ps=true) :
 ∀ (n:Nat) (listed:Array Bool) (g:Gh) (w:World) (pr:Nat→Option Pl) (bx:Nat→Nat) (σ:Sig) (a:Act),listed.size=ps.length→(Q3 ps.length listed).length=n →
  (∀ j,listed.getD j false=true→∀ i∈r9 ops j,listed.getD i false=true) →
  S c g w pr bx σ a→q8 call ((Q3 ps.length listed).filterMap (ps[·]?)) σ=some σ'→Post c g w a σ' (Q .normal)→wpAny c.P .any ops Q n listed a w:=by
 obtain⟨hl,a2⟩:=a5s b2;have b8:ops.size=ps.length:=by simpa using hl
 have a4:=fun(j:Nat) (p:AOper) hj=>a8i (ops:=ops) ps ps 0 [] rfl (fun i q hi=>by omega) L j p (Aa _) hj
 have J:∀ (listed:Array Bool),listed.size=ps.length→Region.ready .any ops listed=[]→Q3 ps.length listed=[]:=by
  intro listed v I;cases u:Q3 ps.length listed with
  | nil=>rfl
  | cons i l =>
   exfalso;have hi:i∈Q3 ps.length listed:=by rw[u]; simp
   obtain⟨h1,Y⟩:=mem_rem.1 hi;have:i∈Region.ready .any ops listed:=by
    refine ready_iff.2 ⟨by omega,Y,fun b hb=>?_⟩;have b7:=(a4 i _ (AE h1)).1 b hb;have b1:b ∉ Q3 ps.length listed:=fun hm=>by
     have T:=a4F ps.length listed;rw[u]at T hm;rcases List.mem_cons.1 hm with rfl|hm
     · omega
     · have:=(List.pairwise_cons.1 T).1 b hm; omega
    have a7:b < ps.length:=by omega
    cases hq:listed.getD b true with
    | false=>exact absurd (mem_rem.2 ⟨a7,hq⟩) b1
    | true=>rw[a3d (by omega) false true]; exact hq
   rw[I]at this;cases this
 intro n;induction n with
 | zero =>intro listed g w pr bx σ a v W _ h I y;have u:Q3 ps.length listed=[]:=List.eq_nil_of_length_eq_zero W;rw[u]at I;simp only[List.filterMap_nil,q8,AD]at I;subst I;refine⟨?_,y a w g pr bx rfl h (Tr.refl _ _ _)⟩;apply List.eq_nil_iff_forall_not_mem.2;intro i hi;obtain⟨h1,Y,_⟩:=ready_iff.1 hi;have:=(mem_rem (n:=ps.length)).2 ⟨show i < ps.length by omega,Y⟩;rw[u]at this;cases this
 | succ n ih =>
  intro listed g w pr bx σ a v W Z h I y;refine⟨fun he=>?_,fun i hi=>?_⟩
  · have:=J listed v he;rw[this]at W;cases W
  · obtain⟨h1,Y,h3⟩:=ready_iff.1 hi;have z:i < ps.length:=by omega
    have M:i∈Q3 ps.length listed:=mem_rem.2 ⟨z,Y⟩;obtain⟨l1,l2,t⟩:=List.append_of_mem M;obtain⟨o,ho,b3,hg⟩:=a2 i _ (AE z);have T:=a4F ps.length listed;rw[t]at T;have T:=List.pairwise_append.1 T;rw[t,List.filterMap_append,List.filterMap_cons_some (AE z)]at I;obtain⟨σ1,U,C⟩:=b77 (fun r I=>by
     obtain⟨k,hk,b4⟩:=List.mem_filterMap.1 I;have b0:k < i:=T.2.2 k hk i (by simp);refine((a4 i _ (AE z)).2 k r b0 b4).resolve_right fun a0=>?_
     have O:=a04 Z 4 _ h3 k a0;have N:k∈Q3 ps.length listed:=by rw[t]; simp[hk]
     have:=(mem_rem.1 N).2;rw[a3d (by omega) true false,O]at this;cases this) I
    rw[← List.filterMap_append,← b32 v t]at C;refine a9l fx hc h (by simpa using ho) b3 hg U fun a1 w1 g1 b6 a5 a9 a6 b5=>?_
    refine ih (listed.setIfInBounds i true) g1 w1 b6 a5 σ1 a1 (by simpa using v) ?_ (fun j hj b hb=>?_) a6 C (y.trans a9 b5)
    · rw[b32 v t];rw[t]at W;simp at W ⊢;omega
    · have up:∀ x,listed.getD x false=true→(listed.setIfInBounds i true).getD x false=true:=fun x hx=>by
       by_cases e:i=x
       · subst e; simp[Array.getD_eq_getD_getElem?,v,z]
       · simpa[Array.getD_eq_getD_getElem?,Array.getElem?_setIfInBounds_ne e]using hx
      by_cases e:i=j
      · subst e;exact up b (h3 b hb)
      · refine up b (Z j ?_ b hb);simpa[Array.getD_eq_getD_getElem?,Array.getElem?_setIfInBounds_ne e]using hj
def Q9 (qs:List (Nat×AOper)) (listed:Array Bool):List (Nat×AOper):=qs.filter fun x=>!listed.getD x.1 true
theorem a1e:∀ {qs es:List (Nat×AOper)},a3P ops es qs=true→∀ {l1 l2:List (Nat×AOper)} {j:Nat} {p:AOper},qs=l1++(j,p)::l2 →
 (∀ i∈r9 ops j,∃ q,(i,q)∈es∨(i,q)∈l1)∧(∀ i q,(i,q)∈es∨(i,q)∈l1→i≠j∧(a1p q p=true∨i∈a09 ops 4 (r9 ops j)))
 | [],es,_,l1,l2,j,p,e=>by simp at e
 | x::qs,es,h,l1,l2,j,p,e=>by
  simp only[a3P,AA]at h;obtain⟨⟨u,v⟩,z⟩:=h;cases l1 with
  | nil =>
   simp only[List.nil_append,AN]at e;obtain⟨rfl,rfl⟩:=e;refine⟨fun i hi=>?_,fun i q hq=>?_⟩
   · have:=List.all_eq_true.1 u i hi;obtain⟨e,C,l⟩:=List.any_eq_true.1 this;have l:e.1=i:=by simpa using l
     exact⟨e.2,.inl (by rw[← l]; exact C)⟩
   · have hq:(i,q)∈es:=by simpa using hq
     have:=List.all_eq_true.1 v _ hq;simp only[AA,Bool.not_eq_true',Bool.or_eq_true]at this;obtain⟨t1,t2⟩:=this;refine⟨fun e=>by subst e; simp at t1,?_⟩;rcases t2 with t2|t2
     · exact .inl t2
     · right;obtain⟨y,I,t⟩:=List.any_eq_true.1 t2;have:i=y:=by simpa using t
       rw[this]; exact I
  | cons y l1 =>
   simp only[List.cons_append,AN]at e;obtain⟨rfl,e⟩:=e;obtain⟨J,L⟩:=a1e z e;refine⟨fun i hi=>?_,fun i q hq=>L i q ?_⟩
   · obtain⟨q,hq⟩:=J i hi;refine⟨q,?_⟩;rcases hq with hq|hq
     · rcases List.mem_cons.1 hq with rfl|hq
       · exact .inr (by simp)
       · exact .inl hq
     · exact .inr (by simp[hq])
   · rcases hq with hq|hq
     · exact .inl (by simp[hq])
     · rcases List.mem_cons.1 hq with rfl|hq
       · exact .inl (by simp)
       · exact .inr hq
theorem a5H {qs:List (Nat×AOper)} (h:a3P ops [] qs=true):(qs.map (·.1)).Nodup:=by
 rw[List.Nodup,List.pairwise_map];rw[List.pairwise_iff_getElem];intro i j hi t l;have e:qs=qs.take j++qs[j]::qs.drop (j+1):=by rw[← List.drop_eq_getElem_cons t,List.take_append_drop]
 have:=(a1e h (l1:=qs.take j) (l2:=qs.drop (j+1)) (j:=qs[j].1) (p:=qs[j].2) e).2 qs[i].1 qs[i].2 (.inr (by rw[List.mem_take_iff_getElem];exact⟨i,by omega,rfl⟩));exact this.1
theorem b92 (fx:Fx c) (hc:Z2 c.P c.gt call) {qs:List (Nat×AOper)} (b8:d0w c ops qs=true) (v:a3P ops [] qs=true) (L:∀ i,i < ops.size→∃ p,(i,p)∈qs) :
 ∀ (n:Nat) (listed:Array Bool) (g:Gh) (w:World) (pr:Nat→Option Pl) (bx:Nat→Nat) (σ:Sig) (a:Act),listed.size=ops.size→(Q9 qs listed).length=n →
  (∀ j,listed.getD j false=true→∀ i∈r9 ops j,listed.getD i false=true) →
  S c g w pr bx σ a→q8 call ((Q9 qs listed).map (·.2)) σ=some σ'→Post c g w a σ' (Q .normal)→wpAny c.P .any ops Q n listed a w:=by
 have M:∀ {i p},(i,p)∈qs→∃ o,ops[i]?=some o∧a6U c o p=true∧a2i c ops o p=true:=fun {i p} hm=>by
  have:=List.all_eq_true.1 b8 _ hm;simp only at this;split at this
  · rename_i o ho;simp only[AA]at this;exact⟨o,ho,this.1,this.2⟩
  · cases this
 have U:∀ {i p},(i,p)∈qs→i < ops.size:=fun {i p} hm=>by obtain⟨o,ho,_⟩:=M hm;exact(Array.getElem?_eq_some_iff.1 ho).1
 have a7:=a5H v;have J:∀ (listed:Array Bool),listed.size=ops.size→Region.ready .any ops listed=[]→Q9 qs listed=[]:=by
  intro listed y I;cases u:Q9 qs listed with
  | nil=>rfl
  | cons x l =>
   exfalso;obtain⟨i,p⟩:=x;obtain⟨l1,l2,t,b7,hi,_⟩:=List.filter_eq_cons_iff.1 u;simp only[Bool.not_eq_true']at hi;have hm:(i,p)∈qs:=by rw[t]; simp
   have:i∈Region.ready .any ops listed:=by
    refine ready_iff.2 ⟨U hm,hi,fun b hb=>?_⟩;obtain⟨q,hq⟩:=(a1e v t).1 b hb;have hq:(b,q)∈l1:=by simpa using hq
    have a0:=b7 _ hq;simp only[Bool.not_eq_true',Bool.not_eq_false]at a0;have b4:b < listed.size:=by rw[y]; exact U (p:=q) (by rw[t]; simp[hq])
    rw[a3d b4 false true];exact a0
   rw[I]at this;cases this
 intro n;induction n with
 | zero =>intro listed g w pr bx σ a y Y _ h I z;have u:Q9 qs listed=[]:=List.eq_nil_of_length_eq_zero Y;rw[u]at I;simp only[AM,q8,AD]at I;subst I;refine⟨?_,z a w g pr bx rfl h (Tr.refl _ _ _)⟩;apply List.eq_nil_iff_forall_not_mem.2;intro i hi;obtain⟨Z,h2,_⟩:=ready_iff.1 hi;obtain⟨p,hp⟩:=L i Z;have:(i,p)∈Q9 qs listed:=List.mem_filter.2 ⟨hp,by simp[h2]⟩;rw[u]at this;cases this
 | succ n ih =>
  intro listed g w pr bx σ a y Y a2 h I z;refine⟨fun he=>?_,fun i hi=>?_⟩
  · have:=J listed y he;rw[this]at Y;cases Y
  · obtain⟨Z,h2,h3⟩:=ready_iff.1 hi;obtain⟨p,a5⟩:=L i Z;obtain⟨o,ho,c0,hg⟩:=M a5;obtain⟨l1,l2,t⟩:=List.append_of_mem a5;have u:Q9 qs listed=Q9 l1 listed++(i,p)::Q9 l2 listed:=by unfold Q9;rw[t,List.filter_append,List.filter_cons_of_pos (by simp[h2])]
    rw[u,AW,AH]at I;obtain⟨σ1,W,C⟩:=b77 (fun r I=>by
     obtain⟨⟨k,r'⟩,hk,rfl⟩:=List.mem_map.1 I;obtain⟨a6,O⟩:=List.mem_filter.1 hk;refine((a1e v t).2 k r' (.inr a6)).2.resolve_right fun a4=>?_
     have T:=a04 a2 4 _ h3 k a4;have b6:k < listed.size:=by rw[y]; exact U (p:=r') (by rw[t]; simp[a6])
     simp only[Bool.not_eq_true']at O;rw[a3d b6 true false,T]at O;cases O) I
    have b1:∀ x∈l1++l2,x.1≠i:=by
     rw[t,AW,AH,List.Nodup,List.pairwise_append]at a7;obtain⟨_,a9,b0⟩:=a7;intro x hx e;rcases AQ.1 hx with hx|hx
     · exact b0 x.1 (List.mem_map.2 ⟨x,hx,rfl⟩) i (by simp) e
     · exact(List.pairwise_cons.1 a9).1 x.1 (List.mem_map.2 ⟨x,hx,rfl⟩) e.symm
    have N:Q9 qs (listed.setIfInBounds i true)=Q9 l1 listed++Q9 l2 listed:=by
     have e:∀ l:List (Nat×AOper),(∀ x∈l,x.1≠i)→Q9 l (listed.setIfInBounds i true)=Q9 l listed:=fun l hl=>by unfold Q9;apply List.filter_congr;intro x hx;have c3:=hl x hx;rw[Array.getD_eq_getD_getElem?,Array.getD_eq_getD_getElem?,Array.getElem?_setIfInBounds_ne (Ne.symm c3)]
     have c2:(listed.setIfInBounds i true).getD i true=true:=by simp[Array.getD_eq_getD_getElem?,y,Z]
     rw[← e l1 (fun x hx=>b1 x (by simp[hx])),← e l2 (fun x hx=>b1 x (by simp[hx]))];unfold Q9;rw[t,List.filter_append,List.filter_cons_of_neg (by simp[c2])]
    rw[← AW,← N]at C;refine a9l fx hc h ho c0 hg W fun a1 w1 g1 c4 b2 b5 b3 c1=>?_
    refine ih (listed.setIfInBounds i true) g1 w1 c4 b2 σ1 a1 (by simpa using y) ?_ (fun j hj b hb=>?_) b3 C (z.trans b5 c1)
    · rw[N];rw[u]at Y;simp at Y ⊢;omega
    · have up:∀ x,listed.getD x false=true→(listed.setIfInBounds i true).getD x false=true:=fun x hx=>by
       by_cases e:i=x
       · subst e; simp[Array.getD_eq_getD_getElem?,y,Z]
       · simpa[Array.getD_eq_getD_getElem?,Array.getElem?_setIfInBounds_ne e]using hx
      by_cases e:i=j
      · subst e;exact up b (h3 b hb)
      · refine up b (a2 j ?_ b hb);simpa[Array.getD_eq_getD_getElem?,Array.getElem?_setIfInBounds_ne e]using hj
theorem b88:∀ {n:Nat} {l:List Nat},l.Nodup→(∀ x∈l,x < n)→l.length≤n
 | 0,l,_,h=>by
  cases l with
  | nil=>simp
  | cons x l=>exact absurd (h x (by simp)) (by omega)
 | n+1,l,t,h=>by
  have z:(l.erase n).length≤n:=b88 (t.erase n) fun x u=>by
   have v:=List.mem_of_mem_erase u;have y:x≠n:=fun e=>by subst e;exact(List.Nodup.not_mem_erase t) u
   have:=h x v;omega
  have C:l.length≤(l.erase n).length+1:=by rw[List.length_erase];split<;>omega
  omega
theorem b1r {n:Nat} {l:List Nat} (t:l.Nodup) (e:∀ x∈l,x < n) (u:l.length=n):∀ i,i < n→i∈l:=by
 intro i hi;by_cases v:i∈l
 · exact v
 · exfalso;have:=b88 (n:=n) (List.nodup_cons.2 ⟨v,t⟩) fun x hx=>by
    rcases List.mem_cons.1 hx with rfl|hx
    · exact hi
    · exact e x hx
   simp at this;omega
end
end Go.Cb
namespace Go.Cb
open Classical
def a5A (c:Cx) (x:Operand) (y:Opd):Bool:=O3 c x y
def a5I (c:Cx) (ops:Array Oper) (d:Bool) (x:Operand):Bool:=match ops.toList,x with
 | [o0,o1,o2,o3],.tmp s1=>match o0.op,o0.dst,o1.op,o2.op,o3.op,o3.dst with
  | .alloc t,some s0,.store t1 (.tmp l) (.const (.bool _)),.store t2 (.tmp u) (.const (.bool _)),.load t3 (.tmp v),some e =>
   d && t1 == t && t2 == t && t3 == t && l == s0 && u == s0 && v == s0 && e == s1 && o1.dst.isNone && o2.dst.isNone && o0.guard.isNone && o1.guard.isNone && o2.guard.isNone && o3.guard.isNone &&
    !c.slots.contains s0 && !c.slots.contains s1 && s0 != s1 && decide (s0 < c.nt) && decide (s1 < c.nt) && B6 c t == some false && B1 c t == some 1 &&
    (match (c.P.info? t).bind (·.zero)with|some (.bool _)=>true|_=>false) && r9 ops 0 == [] && r9 ops 1 == [0] && r9 ops 2 == [0] && r9 ops 3 == [0,0,1,2]
  | _,_,_,_,_,_=>false
 | _,_=>false
def E4 (c:Cx):Code→ACode→Bool
 | .skip,.skip=>true
 | .exit id,.exit t=>id == t
 | .ret,.ret=>true
 | .region _ ops d,.reg kill ps=>a6u c ops d kill ps
 | .seq (.region _ ops d) (.cond x a b),.test kill ps y e b'=>a6u c ops d kill ps && a5A c x y && E4 c a e && E4 c b b'
 | .seq (.region _ ops d) (.seq (.cond x a b) rest),.seq (.test kill ps y e b') l=>a6u c ops d kill ps && a5A c x y && E4 c a e && E4 c b b' && E4 c rest l
 | .seq (.region _ ops d) (.cond x a b),.either _ e b'=>a5I c ops d x && E4 c a e && E4 c b b'
 | .seq (.region _ ops d) (.seq (.cond x a b) rest),.seq (.either _ e b') l=>a5I c ops d x && E4 c a e && E4 c b b' && E4 c rest l
 | .seq a b,.seq e b'=>E4 c a e && E4 c b b'
 | .cond x a b,.test kill ps y e b'=>kill.isEmpty && ps.isEmpty && a5A c x y && E4 c a e && E4 c b b'
 | .block id a,.blk t e=>id == t && E4 c a e
 | .loop a,.loop e=>E4 c a e
 | .scope a,e=>E4 c a e
 | _,_=>false
def Ex.toExit:Ex→Exit
 | .normal=>.normal
 | .exit id=>.exit id
 | .ret=>.ret
def After (c:Cx) (g:Gh) (w:World) (a:Act) (out:Out) (Q:Exit→Act→World→Prop):Prop :=
 ∀ e w' g' t l u,e.defers=a.defers→S c g' w' t l ⟨out.2.1,u,out.2.2⟩ e→Tr c.A g w g' w'→Q out.1.toExit e w'
def a6e (c:Cx) (x:Code) (y:ACode):Prop :=
 ∀ {call:d8} {n:Nat} {g:Gh} {w:World} {pr:Nat→Option Pl} {bx:Nat→Nat} {fr:List AV} {τ:Nat→AV} {st:St} {a:Act} {out:Out} {Q:Exit→Act→World→Prop},
  Fx c→c.P.follows .mixedOrders=true→Z2 c.P c.gt call→S c g w pr bx ⟨fr,τ,st⟩ a→j1 call n y fr st=some out→After c g w a out Q→x.wp c.P Q a w
section
variable {c:Cx}
theorem After.trans {g g':Gh} {w w':World} {a t:Act} {out:Out} {Q:Exit→Act→World→Prop} (h:After c g w a out Q) (u:t.defers=a.defers) (v:Tr c.A g w g' w'):After c g' w' t out Q :=
 fun a2 y g2 pr2 e l d2 x t2=>h a2 y g2 pr2 e l (d2.trans u) x (v.trans t2)
theorem a2I:∀ (kill:List Nat) (fr:List AV) (i:Nat),(n5 kill fr).getD i .undef=fr.getD i .undef∨(n5 kill fr).getD i .undef=.undef
 | [],fr,i=>.inl rfl
 | k::kill,fr,i=>by
  simp only[n5];rcases a2I kill (fr.set k .undef) i with h|h
  · rw[h,O4];split
    · exact .inr rfl
    · exact .inl rfl
  · exact .inr h
theorem a6C:∀ (kill:List Nat) (fr:List AV),(n5 kill fr).length=fr.length
 | [],_=>rfl
 | k::kill,fr=>by rw[n5,a6C kill,Ab]
theorem VarOK.undef {g:Gh} {w:World} {pr:Nat→Option Pl} {bx:Nat→Nat} {i:Nat} {v:Value}:VarOK g w pr bx i .undef v:=ValOK.undef
theorem S.reset {g:Gh} {w:World} {pr:Nat→Option Pl} {bx:Nat→Nat} {fr:List AV} {τ:Nat→AV} {st:St} {a:Act} (h:S c g w pr bx ⟨fr,τ,st⟩ a) (kill:List Nat) :
 S c g w pr bx ⟨n5 kill fr,fun _=>.undef,st⟩ a:=by
 refine⟨⟨h.fr.size,by rw[a6C]; exact h.fr.len,fun i s l=>?_,fun s l=>ValOK.undef,h.fr.prv,fun i cs hi=>?_⟩,h.st,h.gl,h.fresh,h.stA⟩
 · rcases a2I kill fr i with e|e
   · rw[e]; exact h.fr.var i s l
   · rw[e]; exact VarOK.undef
 · rcases a2I kill fr i with e|e
   · rw[e]at hi; exact h.fr.bxs i cs hi
   · rw[e]at hi; cases hi
theorem S.drawn {g:Gh} {w:World} {pr:Nat→Option Pl} {bx:Nat→Nat} {σ:Sig} {a:Act} (h:S c g w pr bx σ a) (n:Nat):S c g { w with drawn:=n } pr bx σ a∧Tr c.A g w g { w with drawn:=n }:=by have e:Ext g w g { w with drawn:=n }:=⟨AK _,fun _ _=>rfl,fun _ _=>rfl,fun _ _ x=>x,fun _ _ _=>rfl⟩;have l:Tr No g w g { w with drawn:=n }:=⟨e,AK _,Env.drawn rfl rfl rfl,fun b _ u _=>⟨⟨rfl,fun _ x=>x⟩,u⟩⟩;exact⟨⟨h.fr.evolve l,h.st.evolve e rfl (AK _) (fun b p t=>⟨t,rfl,fun _ x=>x⟩) (fun _ _ x=>x) (fun _ _ x=>.inl x),h.gl.ext e,h.fresh,h.stA⟩,l.wider fun _ x=>x.elim⟩
theorem a2r (ps:List AOper):∀ (n k:Nat),k+n=ps.length→(List.range' k n).filterMap (ps[·]?)=ps.drop k
 | 0,k,h=>by rw[List.drop_of_length_le (by omega)]; rfl
 | n+1,k,h=>by rw[List.range'_succ,List.filterMap_cons_some (AE (show k < ps.length by omega)),a2r ps n (k+1) (by omega),← List.drop_eq_getElem_cons]
theorem a7E (ps:List AOper):(List.range ps.length).filterMap (ps[·]?)=ps:=by rw[List.range_eq_range',a2r ps ps.length 0 (by omega)];rfl
theorem b7e (O:Fx c) (hm:c.P.follows .mixedOrders=true) {call:d8} (Y:Z2 c.P c.gt call) {g:Gh} {w:World} {pr:Nat→Option Pl} {bx:Nat→Nat} {fr:List AV} {τ:Nat→AV} {st:St} {a:Act}
 {id:Nat} {ops:Array Oper} {d:Bool} {kill:List Nat} {ps:List AOper} (t:a6u c ops d kill ps=true) (h:S c g w pr bx ⟨fr,τ,st⟩ a) {σ':Sig} (hr:q8 call ps ⟨n5 kill fr,fun _=>.undef,st⟩=some σ')
 {Q:Exit→Act→World→Prop} (l:Post c g w a σ' (Q .normal)):(Code.region id ops d).wp c.P Q a w:=by
 unfold a6u at t;have T:=h.reset kill;split at t
 · -- in an order of its own
   rename_i N;simp only[AA]at N;have N:=N.1;subst N;simp only[c8Y,AA]at t;obtain⟨⟨⟨q1,q2⟩,q3⟩,q4⟩:=t;have q1:(a6s kill).length=ops.size:=by simpa using q1
   have q2:ps.length=ops.size:=by simpa using q2
   generalize a6s kill=π at *
   refine wp_region_any hm ?_;obtain⟨z,C⟩:=T.drawn (w.drawn+1);have J:(π.zip ps).map (·.1)=π:=List.map_fst_zip (by omega);have M:(π.zip ps).map (·.2)=ps:=List.map_snd_zip (by omega);have Z:=a5H q4;have v:∀ x∈(π.zip ps).map (·.1),x < ops.size:=fun x hx=>by
    obtain⟨y,hy,rfl⟩:=List.mem_map.1 hx;have:=List.all_eq_true.1 q3 y hy;split at this
    · rename_i o ho;exact(Array.getElem?_eq_some_iff.1 ho).1
    · cases this
   have I:∀ i,i < ops.size→∃ p,(i,p)∈π.zip ps:=fun i hi=>by have:=b1r Z v (by rw[J]; exact q1) i hi;obtain⟨y,hy,rfl⟩:=List.mem_map.1 this;exact⟨y.2,hy⟩
   have e:Q9 (π.zip ps) (Array.replicate ops.size false)=π.zip ps:=by unfold Q9;apply List.filter_eq_self.2;intro x hx;have:=v x.1 (List.mem_map.2 ⟨x,hx,rfl⟩);simp[this]
   refine b92 O Y q3 q4 I ops.size (Array.replicate ops.size false) g _ pr bx _ a (by simp) (by rw[e,List.length_zip]; omega) (fun j L=>?_) z (by rw[e,M]; exact hr) (l.trans rfl C);exfalso;rcases Nat.lt_or_ge j ops.size with hl|hl
   · simp[hl]at L
   · simp[Array.getD_eq_getD_getElem?,Nat.not_lt.2 hl]at L
 simp only[AA,Bool.or_eq_true,Bool.not_eq_true']at t;obtain⟨U,W⟩:=t;obtain⟨hl,_⟩:=a5s U;cases d with
 | false =>
  refine wp_region ?_;have:=b09 (Q:=Q) O Y U ops.size 0 g w pr bx _ a (by simpa using hl) T (by simpa using hr) l
  rwa [← List.range_eq_range']at this
 | true =>
  have W:=W.resolve_left (by simp);refine wp_region_any hm ?_;obtain⟨z,C⟩:=T.drawn (w.drawn+1);have u:ops.size=ps.length:=by simpa using hl
  have e:Q3 ps.length (Array.replicate ops.size false)=List.range ps.length:=by
   unfold Q3;apply List.filter_eq_self.2;intro i hi;have:i < ps.length:=by simpa using hi
   simp[u,this]
  refine c4g O Y U W ops.size (Array.replicate ops.size false) g _ pr bx _ a (by simpa using u) (by rw[e]; simpa using u.symm) (fun j L=>?_) z (by rw[e,a7E]; exact hr) (l.trans rfl C);exfalso;have v:j < ps.length:=by
   rcases Nat.lt_or_ge j ps.length with h|h
   · exact h
   · simp[Array.getD_eq_getD_getElem?,u,Nat.not_lt.2 h]at L
  simp[u,v]at L
theorem a3H {g:Gh} {w:World} {pr:Nat→Option Pl} {bx:Nat→Nat} {σ:Sig} {a:Act} (h:S c g w pr bx σ a) {x:Operand} {y:Opd} (e:a5A c x y=true) {b:Bool} (t:y.read σ=.bool b):a.eval x=.bool b:=by have l:=P9 h e;rw[t]at l;have u:=ValOK.rel l;simpa only [Rel]using u
theorem b05 {id:Nat} {ops:Array Oper} {d:Bool} {kill:List Nat} {ps:List AOper} {x:Operand} {y:Opd} {A B:Code} {M N:ACode} (Y:a6u c ops d kill ps=true) (T:a5A c x y=true) (Z:a6e c A M) (hB:a6e c B N)
 {call:d8} {n:Nat} {g:Gh} {w:World} {pr:Nat→Option Pl} {bx:Nat→Nat} {fr:List AV} {τ:Nat→AV} {st:St} {a:Act} {out:Out} {Q Q':Exit→Act→World→Prop}
 (z:Fx c) (J:c.P.follows .mixedOrders=true) (I:Z2 c.P c.gt call) (h:S c g w pr bx ⟨fr,τ,st⟩ a) (l:j1 call n (.test kill ps y M N) fr st=some out) (U:After c g w a out Q') {K:Act→World→Prop}
 (hK:∀ O w',(Code.cond x A B).wp c.P Q' O w'→K O w'):(Code.region id ops d).wp c.P (Exit.then K Q) a w:=by
 simp only[j1]at l;cases L:q8 call ps ⟨n5 kill fr,fun _=>.undef,st⟩with
 | none=>simp[L]at l
 | some σ =>
  simp only[L,fL_eq]at l;refine b7e z J I Y h L fun a1 w1 g1 a0 W u e v=>?_
  show K a1 w1;refine hK a1 w1 ?_;split at l
  · rename_i C;exact wp_cond (t:=true) (a3H e T C) (Z z J I (τ:=σ.τ) e l (U.trans u v))
  · rename_i C;exact wp_cond (t:=false) (a3H e T C) (hB z J I (τ:=σ.τ) e l (U.trans u v))
  · cases l
theorem a0I {P:Program} {ops:Array Oper} {Q:Exit→Act→World→Prop} {i:Nat} {o:Oper} {K:Act→World→Prop} {a:Act} {w:World} (hi:ops[i]?=some o) (e:o.guard=none) (h:o.wp P a w K Q):wpOp P ops Q i K a w:=by unfold wpOp;simp only[hi];rw[if_pos (by simp[Region.wanted,e])];exact .inl h
theorem S.alloc {g:Gh} {w:World} {pr:Nat→Option Pl} {bx:Nat→Nat} {σ:Sig} {a:Act} (h:S c g w pr bx σ a) (cs:Array Value) (T:TypeId):S c g (w.alloc (.cells cs T)) pr bx σ a :=
 ⟨h.fr.evolve (Tr.alloc No h.st.cli (.cells cs T)),h.st.alloc (.cells cs T),h.gl.ext (Ext.alloc h.st.cli (.cells cs T)),fun b e=>h.fresh b (by simp at e; omega),h.stA⟩
theorem S.put_undef {g:Gh} {w:World} {pr:Nat→Option Pl} {bx:Nat→Nat} {fr:List AV} {st:St} {a:Act} (h:S c g w pr bx ⟨fr,fun _=>.undef,st⟩ a) {s:Nat} (u:s ∉ c.slots) (t:s < c.nt) (v:Value) :
 S c g w pr bx ⟨fr,fun _=>.undef,st⟩ (a.put (some s) v):=by
 have l:=h.fr.put_t u t (a:=.undef) (v:=v) ValOK.undef;have e:C4 (fun _=>AV.undef) s .undef=fun _=>AV.undef:=by funext j;unfold C4;split<;>rfl
 rw[e]at l;exact⟨l,h.st,h.gl,h.fresh,h.stA⟩
structure Toss (c:Cx) (g:Gh) (w0:World) (pr:Nat→Option Pl) (bx:Nat→Nat) (fr:List AV) (st:St) (a0:Act) (s0 blk:Nat) (a:Act) (w:World):Prop where
 s:S c g w pr bx ⟨fr,fun _=>.undef,st⟩ a
 tr:Tr c.A g w0 g w
 df:a.defers=a0.defers
 ptr:a.eval (.tmp s0)=.pointer (some (ad blk 0))
 cell:∃ T b,w.heap[blk]?=some (.cells #[.bool b] T (0,0))
 free:(∀ f,¬ g.cl blk f)∧g.sr blk=none∧(∀ p,pr blk≠some p)∧c.A blk
section
variable {g:Gh} {w0 w:World} {pr:Nat→Option Pl} {bx:Nat→Nat} {fr:List AV} {st:St} {a0 a:Act} {s0 blk:Nat} {o:Oper} {K:Act→World→Prop} {Q:Exit→Act→World→Prop}
theorem Toss.store (h:Toss c g w0 pr bx fr st a0 s0 blk a w) {t:TypeId} {b:Bool} (U:o.op=.store t (.tmp s0) (.const (.bool b))) (M:o.dst=none) (O:B1 c t=some 1) (L:∀ w',Toss c g w0 pr bx fr st a0 s0 blk a w'→K a w'):o.wp c.P a w K Q:=by
 obtain⟨T,C,I⟩:=h.cell;have y:=a1C (c:=c) (w:=w) (a:=a) (o:=o) (v:=.bool b) U h.ptr rfl (by simpa[Value.cells]using O) I (by simp[Value.cells]) (by simp[Value.cells,Value.oneCell']);unfold Oper.wp;rw[y];simp only[Oper.upon,M,Act.put];have e:(#[Value.bool C].toList.take 0++(Value.bool b).cells.toList++#[Value.bool C].toList.drop (0+(Value.bool b).cells.size)).toArray=#[.bool b]:=by simp[Value.cells]
 rw[e];have z:Ext g w g (w.setRow blk #[.bool b]):=Ext.setRow _ h.free.1;have l:∀ b',b'≠blk→L1 g w g (w.setRow blk #[.bool b]) b':=fun b' u=>⟨setRow_other w _ b' _ u,fun _ x=>x⟩
 have Y:Tr c.A g w g (w.setRow blk #[.bool b]):=⟨z,by simp,Env.setRow _ _ _,fun b' _ W J=>⟨l b' (fun e=>J (e ▸ h.free.2.2.2)),W⟩⟩;refine L _ ⟨⟨?_,h.s.st.evolve z rfl (by simp) (fun b' p u=>⟨u,l b' (fun e=>by rw[e,h.free.2.1]at u; cases u)⟩) (fun _ _ x=>x) (fun _ _ x=>.inl x),h.s.gl.ext z,fun b' u=>h.s.fresh b' (by simpa using u),h.s.stA⟩,h.tr.trans Y,h.df,h.ptr,⟨T,b,setRow_heap w _ _ _ T _ I⟩,h.free⟩;refine h.s.fr.change (fun _=>True) z (fun b' p u _=>⟨u,l b' (fun e=>h.free.2.2.1 p (e ▸ u))⟩) (fun b' p u=>?_) (fun j s _=>.inl ⟨⟨trivial,trivial,fun _=>trivial⟩,rfl⟩) (fun s _=>.inl ⟨trivial,rfl⟩) rfl (fun j cs N=>⟨cs,N⟩) h.s.fr.bxs;obtain⟨Z,q2,q3⟩:=h.s.fr.prv b' p u;exact⟨Z,by simpa using q2,q3⟩
theorem Toss.load (h:Toss c g w0 pr bx fr st a0 s0 blk a w) {t:TypeId} {l:Nat} (M:o.op=.load t (.tmp s0)) (J:o.dst=some l) (x:B6 c t=some false) (C:l ∉ c.slots) (z:l < c.nt)
 (I:∀ u b,u.defers=a0.defers→S c g w pr bx ⟨fr,fun _=>.undef,st⟩ u→Tr c.A g w0 g w→u.eval (.tmp l)=.bool b→K u w):o.wp c.P a w K Q:=by
 obtain⟨T,y,L⟩:=h.cell;have e:=a1H (c:=c) (w:=w) (a:=a) (o:=o) (v:=.bool y) M x h.ptr (by rw[cell_of_row w _ 0 _ T _ L]; rfl);unfold Oper.wp;rw[e,Oper.upon_value,J];refine I _ y h.df (h.s.put_undef C z _) h.tr ?_;have:l < a.tmps.size:=by rw[h.s.fr.size]; exact z
 simp only[Act.eval,Act.put];exact K0 this
end
theorem W7 {ops:Array Oper} (x:ops.size=4) (L:r9 ops 0=[]) (C:r9 ops 1=[0]) (I:r9 ops 2=[0]) (J:r9 ops 3=[0,0,1,2]) {l u v y:Bool} {i:Nat} (hi:i∈Region.ready .any ops #[l,u,v,y]) :
 (i=0∧l=false)∨(i=1∧u=false∧l=true)∨(i=2∧v=false∧l=true)∨(i=3∧y=false∧l=true∧u=true∧v=true):=by
 obtain⟨z,t,e⟩:=ready_iff.1 hi;rw[x]at z;match i,z with
 | 0,_=>exact .inl ⟨rfl,by simpa using t⟩
 | 1,_=>rw[C]at e; exact .inr (.inl ⟨rfl,by simpa using t,by simpa using e⟩)
 | 2,_=>rw[I]at e; exact .inr (.inr (.inl ⟨rfl,by simpa using t,by simpa using e⟩))
 | 3,_ =>rw[J]at e;simp only[List.mem_cons,List.not_mem_nil,or_false,forall_eq_or_imp,forall_eq]at e;exact .inr (.inr (.inr ⟨rfl,by simpa using t,by simpa using e.1,by simpa using e.2.2.1,by simpa using e.2.2.2⟩))
theorem a1t {ops:Array Oper} (v:ops.size=4) (C:r9 ops 0=[]) (I:r9 ops 1=[0]) (J:r9 ops 2=[0]) (L:r9 ops 3=[0,0,1,2]) {e l t u:Bool} (N:e=false∨l=false∨t=false∨u=false):Region.ready .any ops #[e,l,t,u]≠[]:=by
 intro M;have no:∀ i,i ∉ Region.ready .any ops #[e,l,t,u]:=fun i=>by rw[M]; simp
 have n0:=fun h=>no 0 (ready_iff.2 h)
 have x:=fun h=>no 1 (ready_iff.2 h)
 have y:=fun h=>no 2 (ready_iff.2 h)
 have z:=fun h=>no 3 (ready_iff.2 h)
 rw[C]at n0;rw[I]at x;rw[J]at y;rw[L]at z;simp[v]at n0 x y z;cases e<;>cases l<;>cases t<;>cases u<;>simp_all
theorem c5a (hm:c.P.follows .mixedOrders=true) {g:Gh} {w:World} {pr:Nat→Option Pl} {bx:Nat→Nat} {fr:List AV} {τ:Nat→AV} {st:St} {a:Act} {id:Nat} {ops:Array Oper} {d:Bool} {x:Operand} (J:a5I c ops d x=true)
 (h:S c g w pr bx ⟨fr,τ,st⟩ a) {Q:Exit→Act→World→Prop} (Y:∀ b a' w',a'.defers=a.defers→S c g w' pr bx ⟨fr,fun _=>.undef,st⟩ a'→Tr c.A g w g w'→a'.eval x=.bool b→Q .normal a' w'):(Code.region id ops d).wp c.P Q a w:=by
 unfold a5I at J;split at J
 case h_2=>cases J
 rename_i o0 o1 o2 o3 s1 N;split at J
 case h_2=>cases J
 rename_i t s0 t1 u1 k1 t2 u2 k2 t3 u3 s3 e0 d0 e1 e2 e3 d3;simp only[AA,beq_iff_eq,bne_iff_ne,ne_eq,Option.isNone_iff_eq_none,decide_eq_true_eq,Bool.not_eq_true']at J;obtain⟨⟨⟨⟨⟨⟨⟨⟨⟨⟨⟨⟨⟨⟨⟨⟨⟨⟨⟨⟨⟨⟨⟨⟨⟨c1,c2⟩,c3⟩,c4⟩,c5⟩,c6⟩,c7⟩,c8⟩,c9⟩,Z⟩,a6⟩,a0⟩,a1⟩,a7⟩,O⟩,T⟩,b5⟩,a4⟩,a9⟩,b0⟩,c21⟩,a5⟩,u⟩,v⟩,y⟩,C⟩:=J;have c2:=c2.symm; have c3:=c3.symm; have c4:=c4.symm; have c5:=c5.symm; have c6:=c6.symm; have c7:=c7.symm;subst c1; subst c2; subst c3; subst c4; subst c5; subst c6; subst c7; subst c8;have O:s0 ∉ c.slots:=by simpa using O
 have T:s3 ∉ c.slots:=by simpa using T
 have l:ops.size=4:=by rw[← Array.length_toList,N]; rfl
 have at_:∀ (i:Nat) o,[o0,o1,o2,o3][i]?=some o→ops[i]?=some o:=fun i o hi=>by rw[← Array.getElem?_toList,N]; exact hi
 split at a5
 case h_2=>cases a5
 rename_i z hz;refine wp_region_any hm ?_;rw[l];obtain⟨I,b3⟩:=(h.reset []).drawn (w.drawn+1);have I:S c g { w with drawn:=w.drawn+1 } pr bx ⟨fr,fun _=>.undef,st⟩ a:=I;show wpAny c.P .any ops Q 4 #[false,false,false,false] a { w with drawn:=w.drawn+1 };generalize ({ w with drawn:=w.drawn+1 }:World)=w1 at *
 -- the last one
 have last:∀ blk a2 M,Toss c g w pr bx fr st a s0 blk a2 M→wpAny c.P .any ops Q 1 #[true,true,true,false] a2 M:=by
  intro blk a2 M hT;refine⟨fun L=>absurd L (a1t l u v y C (by simp)),fun i hi=>?_⟩;rcases W7 l u v y C hi with⟨_,e⟩|⟨_,e,_⟩|⟨_,e,_⟩|⟨rfl,_⟩<;>try (cases e; done)
  refine a0I (at_ 3 o3 rfl) a7 (hT.load e3 d3 b0 T a9 fun a3 b b2 b1 b4 e=>?_);show wpAny c.P .any ops Q 0 #[true,true,true,true] a3 M;refine⟨?_,Y b a3 M b2 b1 b4 e⟩;apply List.eq_nil_iff_forall_not_mem.2;intro j hj;rcases W7 l u v y C hj with⟨_,e⟩|⟨_,e,_⟩|⟨_,e,_⟩|⟨_,e,_⟩<;>cases e
 have one:∀ blk a2 M,Toss c g w pr bx fr st a s0 blk a2 M→wpAny c.P .any ops Q 3 #[true,false,false,false] a2 M:=by
  intro blk a2 M hT;refine⟨fun L=>absurd L (a1t l u v y C (by simp)),fun i hi=>?_⟩;rcases W7 l u v y C hi with⟨_,e⟩|⟨rfl,_⟩|⟨rfl,_⟩|⟨_,_,_,e,_⟩<;>try (cases e; done)
  · refine a0I (at_ 1 o1 rfl) a0 (hT.store e1 c9 c21 fun w3 U=>?_);show wpAny c.P .any ops Q 2 #[true,true,false,false] a2 w3;refine⟨fun L=>absurd L (a1t l u v y C (by simp)),fun i hi=>?_⟩;rcases W7 l u v y C hi with⟨_,e⟩|⟨_,e,_⟩|⟨rfl,_⟩|⟨_,_,_,_,e⟩<;>try (cases e; done)
    exact a0I (at_ 2 o2 rfl) a1 (U.store e2 Z c21 fun w4 W=>last blk a2 w4 W)
  · refine a0I (at_ 2 o2 rfl) a1 (hT.store e2 Z c21 fun w3 U=>?_);show wpAny c.P .any ops Q 2 #[true,false,true,false] a2 w3;refine⟨fun L=>absurd L (a1t l u v y C (by simp)),fun i hi=>?_⟩;rcases W7 l u v y C hi with⟨_,e⟩|⟨rfl,_⟩|⟨_,e,_⟩|⟨_,_,_,e,_⟩<;>try (cases e; done)
    exact a0I (at_ 1 o1 rfl) a0 (U.store e1 c9 c21 fun w4 W=>last blk a2 w4 W)
 refine⟨fun L=>absurd L (a1t l u v y C (by simp)),fun i hi=>?_⟩;rcases W7 l u v y C hi with⟨rfl,_⟩|⟨_,_,e⟩|⟨_,_,e⟩|⟨_,_,e,_⟩<;>try (cases e; done)
 refine a0I (at_ 0 o0 rfl) a6 ?_;unfold Oper.wp;rw[a5o e0 hz,Oper.upon_value,d0];show wpAny c.P .any ops Q 3 #[true,false,false,false] _ _;refine one w1.heap.size _ _ ⟨(I.alloc _ _).put_undef O a4 _,b3.trans (Tr.alloc _ I.st.cli _),rfl,?_,⟨t,z,?_⟩,fun f hf=>Nat.lt_irrefl _ (I.st.cli _ f hf),?_,fun p hp=>?_,I.fresh _ (AK _)⟩
 · have:s0 < a.tmps.size:=by rw[I.fr.size]; exact a4
   simp only[Act.eval,Act.put];exact K0 this
 · exact heap_alloc_new w1 _
 · cases hq:g.sr w1.heap.size with
   | none=>rfl
   | some p=>exact absurd (I.st.inn _ p hq) (Nat.lt_irrefl _)
 · have:=(I.fr.prv _ p hp).2.1;omega
theorem a6T {call:d8} {n:Nat} {A B:ACode} {fr:List AV} {st:St} {out:Out} (h:j1 call n (.seq A B) fr st=some out) :
 (∃ l st1,j1 call n A fr st=some (.normal,l,st1)∧j1 call n B l st1=some out)∨(j1 call n A fr st=some out∧out.1≠.normal):=by
 simp only[j1]at h;split at h
 · rename_i l st1 u; exact .inl ⟨l,st1,u,h⟩
 · rename_i u;obtain⟨e,t,st'⟩:=out;refine .inr ⟨h,fun v=>?_⟩;simp only at v;subst v;exact u t st' h
theorem a6W {id:Nat} {ops:Array Oper} {d:Bool} {kill:List Nat} {x:Operand} {A B:Code} {J L:ACode} (Z:a5I c ops d x=true) (hA:a6e c A J) (hB:a6e c B L)
 {call:d8} {n:Nat} {g:Gh} {w:World} {pr:Nat→Option Pl} {bx:Nat→Nat} {fr:List AV} {τ:Nat→AV} {st:St} {a:Act} {out:Out} {Q Q':Exit→Act→World→Prop}
 (N:Fx c) (z:c.P.follows .mixedOrders=true) (T:Z2 c.P c.gt call) (h:S c g w pr bx ⟨fr,τ,st⟩ a) (U:j1 call n (.either kill J L) fr st=some out) (hQ:After c g w a out Q') {K:Act→World→Prop}
 (hK:∀ M w',(Code.cond x A B).wp c.P Q' M w'→K M w'):(Code.region id ops d).wp c.P (Exit.then K Q) a w:=by
 simp only[j1]at U;obtain⟨oa,ob,W,Y,ka,kb⟩:=a7Q U;refine c5a z Z h fun b a1 w1 v e C O=>?_
 show K a1 w1;refine hK a1 w1 ?_;have after:∀ o,P0 kill o=out→After c g w1 a1 o Q':=fun o ho a2 w2 g2 pr2 l a0 y u I=>by subst ho;exact hQ a2 w2 g2 pr2 l _ (y.trans v) (u.reset kill) (C.trans I)
 cases b with
 | true=>exact wp_cond (t:=true) O (hA N z T e W (after oa ka))
 | false=>exact wp_cond (t:=false) O (hB N z T e Y (after ob kb))
theorem t8:∀ (x:Code) (y:ACode),E4 c x y=true→a6e c x y:=by
 intro x y h;unfold E4 at h;split at h
 · -- skip
   intro call n g w pr bx fr τ st a out Q N T O M l L;simp only[j1,AD]at l;subst l;exact wp_skip (L a w g pr bx τ rfl M (Tr.refl _ _ _))
 · intro call n g w pr bx fr τ st a out Q N T O M l L;simp only[beq_iff_eq]at h;subst h;simp only[j1,AD]at l;subst l;exact wp_exit (L a w g pr bx τ rfl M (Tr.refl _ _ _))
 · intro call n g w pr bx fr τ st a out Q N T O M l L;simp only[j1,AD]at l;subst l;exact wp_ret (L a w g pr bx τ rfl M (Tr.refl _ _ _))
 · -- a region
   intro call n g w pr bx fr τ st a out Q N T O M l L;rename_i id ops d kill ps;simp only[j1]at l;cases hr:q8 call ps ⟨n5 kill fr,fun _=>.undef,st⟩with
   | none=>simp[hr]at l
   | some σ =>simp only[hr,fL_eq,AD]at l;subst l;exact b7e N T O h M hr fun a1 w1 g1 I C v u z=>L a1 w1 g1 I C σ.τ v u z
 · -- a region and a test
   intro call n g w pr bx fr τ st a out Q N T O M l L;simp only[AA]at h;obtain⟨⟨⟨Y,h2⟩,Z⟩,h4⟩:=h;exact wp_seq (b05 Y h2 (t8 _ _ Z) (t8 _ _ h4) N T O M l L fun _ _ x=>x)
 · -- a region, a test, and more
   intro call n g w pr bx fr τ st a out Q N T O M l L;simp only[AA]at h;obtain⟨⟨⟨⟨Y,h2⟩,Z⟩,h4⟩,h5⟩:=h;rename_i rest kill ps y A' B' a5;rcases a6T l with⟨U,st1,W,e2⟩|⟨W,hn⟩
   · refine wp_seq (b05 (Q':=Exit.then (rest.wp c.P Q) Q) Y h2 (t8 _ _ Z) (t8 _ _ h4) N T O M W (fun a1 w1 g1 I C J v u z=>?_) fun _ _ x=>wp_seq x);exact t8 _ _ h5 N T O u e2 (L.trans v z)
   · refine wp_seq (b05 (Q':=Exit.then (rest.wp c.P Q) Q) Y h2 (t8 _ _ Z) (t8 _ _ h4) N T O M W (fun a1 w1 g1 I C J v u z=>?_) fun _ _ x=>wp_seq x);have:=L a1 w1 g1 I C J v u z;revert this hn;cases out.1<;>simp[Ex.toExit,Exit.then]
 · -- a coin
   intro call n g w pr bx fr τ st a out Q N T O M l L;simp only[AA]at h;obtain⟨⟨Y,Z⟩,h4⟩:=h;exact wp_seq (a6W Y (t8 _ _ Z) (t8 _ _ h4) N T O M l L fun _ _ x=>x)
 · -- a coin, and more
   intro call n g w pr bx fr τ st a out Q N T O M l L;simp only[AA]at h;obtain⟨⟨⟨Y,Z⟩,h4⟩,h5⟩:=h;rename_i rest kill A' B' a5;rcases a6T l with⟨U,st1,W,e2⟩|⟨W,hn⟩
   · refine wp_seq (a6W (Q':=Exit.then (rest.wp c.P Q) Q) Y (t8 _ _ Z) (t8 _ _ h4) N T O M W (fun a1 w1 g1 I C J v u z=>?_) fun _ _ x=>wp_seq x);exact t8 _ _ h5 N T O u e2 (L.trans v z)
   · refine wp_seq (a6W (Q':=Exit.then (rest.wp c.P Q) Q) Y (t8 _ _ Z) (t8 _ _ h4) N T O M W (fun a1 w1 g1 I C J v u z=>?_) fun _ _ x=>wp_seq x);have:=L a1 w1 g1 I C J v u z;revert this hn;cases out.1<;>simp[Ex.toExit,Exit.then]
 · -- one after the other
   intro call n g w pr bx fr τ st a out Q N T O M l L;simp only[AA]at h;obtain⟨Y,h2⟩:=h;refine wp_seq ?_;rcases a6T l with⟨U,st1,W,e2⟩|⟨W,hn⟩
   · exact t8 _ _ Y N T O M W fun a1 w1 g1 I C J v u z=>t8 _ _ h2 N T O u e2 (L.trans v z)
   · refine t8 _ _ Y N T O M W fun a1 w1 g1 I C J v u z=>?_
     have:=L a1 w1 g1 I C J v u z;revert this hn;cases out.1<;>simp[Ex.toExit,Exit.then]
 · -- a bare test
   intro call n g w pr bx fr τ st a out Q N T O M l L;simp only[AA,List.isEmpty_iff]at h;obtain⟨⟨⟨⟨rfl,rfl⟩,h2⟩,Z⟩,h4⟩:=h;simp only[j1,q8,n5,fL_eq]at l;have a0:=M.reset [];split at l
   · rename_i hb;exact wp_cond (t:=true) (a3H a0 h2 hb) (t8 _ _ Z N T O a0 l L)
   · rename_i hb;exact wp_cond (t:=false) (a3H a0 h2 hb) (t8 _ _ h4 N T O a0 l L)
   · cases l
 · -- a block
   intro call n g w pr bx fr τ st a out Q N T O M l L;simp only[AA,beq_iff_eq]at h;obtain⟨rfl,Y⟩:=h;simp only[j1]at l;refine wp_block ?_;split at l
   · rename_i a4 U st1 W;simp only[AD]at l;subst l;refine t8 _ _ Y N T O M W fun a1 w1 g1 I C J v u z=>?_
     have:=L a1 w1 g1 I C J v u z;simp only[Ex.toExit,Exit.inBlock];split
     · rename_i e; simpa[e,Ex.toExit]using this
     · rename_i e; simpa[e,Ex.toExit]using this
   · rename_i a2;refine t8 _ _ Y N T O M l fun a1 w1 g1 I C J v u z=>?_
     have:=L a1 w1 g1 I C J v u z;obtain⟨e,U,st1⟩:=out;cases e with
     | normal=>exact this
     | exit a4=>exact absurd l (a2 a4 U st1)
     | ret=>exact this
 · -- a loop
   intro call n g w pr bx fr τ st a out Q N T O M l L;rename_i A A';simp only[j1]at l;refine wp_loop_rounds n ?_;have body:a6e c A A':=t8 A A' h;have key:∀ (m:Nat) (g:Gh) (w:World) (pr:Nat→Option Pl) (bx:Nat→Nat) (fr:List AV) (τ:Nat→AV) (st:St) (a:Act),S c g w pr bx ⟨fr,τ,st⟩ a→a0u (j1 call n A') m fr st=some out→After c g w a out Q→Code.rounds c.P A Q m a w:=by
    intro m;induction m with
    | zero=>intro g w pr bx fr τ st a _ l; simp[a0u]at l
    | succ m ih =>
     intro g w pr bx fr τ st a M l L;rw[rounds_succ];simp only[a0u]at l;split at l
     · rename_i U st1 W;exact body N T O M W fun a1 w1 g1 I C J v u z=>ih g1 w1 I C U J st1 a1 u l (L.trans v z)
     · rename_i a2;refine body N T O M l fun a1 w1 g1 I C J v u z=>?_
       have:=L a1 w1 g1 I C J v u z;obtain⟨e,U,st1⟩:=out;cases e with
       | normal=>exact absurd l (a2 U st1)
       | exit a4=>exact this
       | ret=>exact this
   exact key n g w pr bx fr τ st a M l L
 · -- a scope
   intro call n g w pr bx fr τ st a out Q N T O M l L;refine wp_scope_straight (t8 _ _ h N T O M l fun a1 w1 g1 I C J v u z=>?_);have:=L a1 w1 g1 I C J v u z;revert this;cases out.1<;>simp[Ex.toExit,Exit.noGoto]
 · cases h
termination_by x=>x
end
end Go.Cb
