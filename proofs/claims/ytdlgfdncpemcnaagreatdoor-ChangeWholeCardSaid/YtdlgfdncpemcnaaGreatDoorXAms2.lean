import Derived.Test.YtdlgfdncpemcnaaGreatDoorXAms1
import Derived.Orders
import Derived.Scope
import Derived.LoopN
set_option maxRecDepth 4000
set_option linter.all false
namespace Go.Cb
open Classical
section
variable {c:Cx} {g:Gh} {w:World} {pr:Nat→Option Pl} {bx:Nat→Nat} {σ:Sig} {a:Act} {o:Oper} {call:d8} {b b' r:AV} {st st':St} {fr as:List AV}
theorem a8l {mine:Nat→Prop} {x:AV} {v:Value} (h:ArgOK g w bx fr mine x v) (j:x.plain=true):RowOK g w x.cellsW v.cells.toList:=by
 have D:=a1I h j;have B:=h.plain j;cases x with
 | agg cs =>have z:=B.rel;simp only[Rel]at z;obtain⟨arr,rfl,t,E⟩:=z;exact⟨t,E,fun k y u i hu=>B.agg cs rfl arr rfl k y u i (by simpa[Value.cells]using hu)⟩
 | list own xs =>
  have z:=B.rel;simp only[Rel]at z;obtain⟨a0,n,cap,rfl,l⟩:=z;refine⟨by simp only[AV.cellsW,Value.cells,RelL]; exact⟨_,[],rfl,by simp only[Rel]; exact⟨a0,n,cap,rfl,l⟩,rfl⟩,by simp[Value.cells,Value.oneCell'],fun k y u i hu ys e=>?_⟩;obtain rfl:k=0:=by cases k with|zero=>rfl|succ k=>simp[AV.cellsW]at i
  simp[AV.cellsW]at i;simp[Value.cells]at hu;subst hu;rw[← i]at e;simp only[AV.list.injEq,AA,List.isEmpty_iff]at e;obtain⟨⟨rfl,rfl⟩,rfl⟩:=e;rcases B.own [] rfl with⟨a1,F,t⟩|⟨_,_,_,_,_,_,_,_,t,_⟩
  · exact⟨a1,F,t⟩
  · exact absurd rfl t
 | undef=>simp[AV.plain]at j
 | loc=>simp[AV.plain]at j
 | box=>simp[AV.plain]at j
 | tuple=>simp[AV.plain]at j
 | fresh=>simp[AV.plain]at j
 | _ =>
  refine⟨D.rel,D.one,fun k y u i _ ys e=>?_⟩;obtain rfl:k=0:=by cases k with|zero=>rfl|succ k=>simp[AV.cellsW]at i
  simp[AV.cellsW]at i;rw[← i]at e;cases e
theorem b5G (h:S c g w pr bx σ a) {x:Operand} {p:Opd} (l:B3 c x p=true) {i f:Nat} (t:p.read σ=.loc i f):p.spend σ=σ:=by
 cases j:p.src with
 | some src=>exact(I4 h l j src).2.1 i f t
 | none=>cases p<;>simp_all [Opd.src,Opd.spend]
theorem a4K (B:Fx c) (h:S c g w pr bx σ a) {x:Operand} {p:Opd} {d:Dst} (ho:o.op=.move x∨o.op=.assign x) (y:B3 c x p=true) (E:q6 c o.dst d=true)
 {next:Act→World→Prop} {Q:Exit→Act→World→Prop} (i:Post c g w a (d.put (p.read σ) (p.spend σ)) next):o.wp c.P a w next Q:=by
 obtain⟨l,D,t,_⟩:=L0 h y d.pl;have j:(execOp a.eval o).run c.P w=.ok (.value (a.eval x)) w:=by rcases ho with ho|ho<;>simp[execOp,ho]
 have u:ArgOK g w bx (p.spend σ).fr (fun b=>l b=some d.pl) (p.read σ) (a.eval x):=by
  cases z:p.read σ<;>rw[z]at t<;>first
   | exact t
   | (rw[b5G h y z]; exact t)
 unfold Oper.wp;rw[j];exact i _ _ g l bx (s7 _ _ _) (V0 B D E (r:=p.read σ) (v:=a.eval x) u fun _ x=>x) (Tr.refl _ _ _)
theorem b10 {elem:TypeId} {x:Operand} (i:o.op=.box elem x) :
 (execOp a.eval o).run c.P w=.ok (.value (.pointer (some (ad w.heap.size 0)))) (w.alloc (.cells (a.eval x).cells elem)):=by
 simp[execOp,i,Instr.box,newVar,newRow]
theorem a3G {elem:TypeId} {z:Value} (l:o.op=.alloc elem) (j:(c.P.info? elem).bind (·.zero)=some z) :
 (execOp a.eval o).run c.P w=.ok (.value (.pointer (some (ad w.heap.size 0)))) (w.alloc (.cells z.cells elem)):=by
 obtain⟨i,hi,j⟩:=Option.bind_eq_some_iff.1 j;simp[execOp,l,Instr.alloc,newVar,newRow,zeroValue,typeInfo,hi,j]
theorem b2a (x:Fx c) (h:S c g w pr bx σ a) {i s:Nat} (u:o.dst=some s) (hs:c.slots[i]?=some s) (hi:i∈c.bxs) (hu:σ.fr.getD i .undef=.undef) {cs:List AV} {arr:Array Value} {T:TypeId}
 (l:(execOp a.eval o).run c.P w=.ok (.value (.pointer (some (ad w.heap.size 0)))) (w.alloc (.cells arr T))) (z:RowOK g w cs arr.toList) {next:Act→World→Prop} {Q:Exit→Act→World→Prop}
 (j:Post c g w a { σ with fr:=σ.fr.set i (.box cs) } next):o.wp c.P a w next Q:=by
 obtain⟨v,t,y⟩:=b5z x h hs hi hu (T:=T) z;unfold Oper.wp;rw[l,Oper.upon_value,u];exact j _ _ g v t rfl y (Tr.alloc _ h.st.cli _)
theorem a4L (F:Fx c) (h:S c g w pr bx σ a) {d:Dst} (I:q6 c o.dst d=true) {E:Obj} {O:_root_.Go.Obj} {r:AV} {v:Value} (l:(execOp a.eval o).run c.P w=.ok (.value v) (w.alloc O))
 {cap:Nat} (M:∀ c t z,O=.cells c t z→z=(0,0)) (y:Ext g w (g.more w.heap.size cap) (w.alloc O)→ObjOK (g.more w.heap.size cap) (w.alloc O) g.n E)
 (J:(r=.ptr σ.st.length 0∧v=.pointer (some (ad w.heap.size 0)))∨(r=.map σ.st.length∧v=.map (some w.heap.size))∨(∃ k D,r=.sl σ.st.length 0 k D∧v=.slice (some (ad w.heap.size 0)) k k∧k*D=cap)) {next:Act→World→Prop} {Q:Exit→Act→World→Prop}
 (j:Post c g w a (d.put r { σ with st:=σ.st++[E] }) next):o.wp c.P a w next Q:=by
 obtain⟨G,B,u,i⟩:=c7p h (O:=O) M y;unfold Oper.wp;rw[l,Oper.upon_value];refine j _ _ _ pr bx (s7 _ _ _) (V0 F G I (mine:=No) (r:=r) (v:=v) ?_ fun _ x=>x.elim) B;rcases J with⟨rfl,rfl⟩|⟨rfl,rfl⟩|⟨k,D,rfl,rfl,hk⟩
 · exact(show ValOK _ _ No (.ptr _ _) _ from ValOK.mk' (by simp only[Rel]; exact⟨i,by rw[u]⟩) (by simp) (by simp))
 · exact(show ValOK _ _ No (.map _) _ from ValOK.mk' (by simp only[Rel]; exact⟨i,by rw[u]⟩) (by simp) (by simp))
 · exact(show ValOK _ _ No (.sl _ _ _ _) _ from ValOK.mk' (by simp only[Rel]; exact⟨i,k,by rw[u],AJ _,by simp[Gh.more,h.st.n,hk]⟩) (by simp) (by simp))
def CallPost (g:Gh) (w:World) (st':St) (res:AV) (e:Ending) (w':World):Prop :=
 ∃ v g',e=.returned v∧SRel g' w' st'∧Tr No g w g' w'∧ValOK g' w' (fun b=>g'.sr b=none∧b < w'.heap.size∧(w.heap.size≤b∨g.sr b≠none)) res v
def U8 (P:Program) (f:Nat):Bool:=match P.funcs[f]? with
 | some fn=>!(fn.name == "runtime.NumGoroutine") && fn.body.isSome
 | none=>false
theorem a1Q {P:Program} {f:FuncId} (h:U8 P f=true) (args:Array Value) (w:World):(callFunc f args).run P w=.ok (.enter f args) w:=by
 unfold U8 at h;split at h
 · rename_i fn l;simp only[AA,Bool.not_eq_true']at h;obtain⟨j,i⟩:=h;have i:fn.body.isNone=false:=by cases t:fn.body<;>simp_all
   simp only[callFunc,Sem.run_bind,run_program,Result.andThen_ok,l,j,i,Bool.false_eq_true,if_false,Sem.run_pure]
 · cases h
def F5 (P:Program) (gt:List (Nat×List AV)) (call:d8):Prop :=
 ∀ (f:Nat) (args:List AV) (st:St) (res:AV) (st':St),call f args st=some (res,st')→(∀ x∈args,x.weak=x) →
  U8 P f=true∧∀ (g:Gh) (w:World) (vs:List Value),SRel g w st→Globs gt g w→RelL g w args vs→Calls P f vs.toArray w (CallPost g w st' res)
theorem a80 (d:Dst) (r:AV) (σ:Sig) (st':St):d.put r { σ with st:=st' }={ d.put r σ with st:=st' }:=by cases d<;>rfl
theorem a8N (V:Fx c) (h:S c g w pr bx σ a) {f:FuncId} {vs:Array Value} {res:AV} {d:Dst} (G:(execOp a.eval o).run c.P w=.ok (.enter f vs) w)
 (W:Calls c.P f vs w (CallPost g w st' res)) (Y:q6 c o.dst d=true) {next:Act→World→Prop} {Q:Exit→Act→World→Prop} (u:Post c g w a (d.put res { σ with st:=st' }) next):o.wp c.P a w next Q:=by
 unfold Oper.wp;rw[G,Oper.upon_enter];refine W.mono fun e w' Z=>?_
 obtain⟨v,g',rfl,I,j,U⟩:=Z;show next (a.put o.dst v) w'
 have T:∀ i f,res≠.loc i f:=fun i f e=>by rw[e]at U; exact U.rel
 have z:∀ b p,g'.sr b=some p→c.A b:=fun b p l=>by
  rcases Nat.lt_or_ge b w.heap.size with O|hge
  · cases D:g.sr b with
    | some q=>exact h.stA b q D
    | none=>have:=(j.keep b O D (fun x=>x)).2; rw[l]at this; cases this
  · exact h.fresh b hge
 have t:∀ b p,pr b=some p→H2 g w g' w' b∧g'.sr b=none:=fun b p l=>by obtain⟨J,E,_⟩:=h.fr.prv b p l;exact j.keep b E J (fun x=>x)
 cases y:o.dst with
 | none =>
  have N:d=.none:=by cases d<;>simp_all [q6]
  subst N;refine u _ _ g' pr bx rfl ⟨h.fr.evolve j,I,h.gl.ext j.ext,fun b l=>h.fresh b (Nat.le_trans j.size l),z⟩ (j.wider fun _ x=>x.elim)
 | some s =>
  rw[← y];let pr2:Nat→Option Pl:=fun b=>if pr b=none∧g'.sr b=none∧b < w'.heap.size∧(w.heap.size≤b∨g.sr b≠none)then some d.pl else pr b
  have F:∀ b p,pr b=some p→pr2 b=some p:=fun b p l=>by simp only[pr2];rw[if_neg (by rw[l]; simp)];exact l
  refine u _ _ g' pr2 bx (s7 _ _ _) (a80 d res σ st' ▸ a2x V h Y (by rw[y]; rfl) j.ext I (fun b p l _=>⟨F b p l,(t b p l).1⟩) (fun b p l=>?_) j.size z ?_) (j.wider fun _ x=>x.elim)
  · simp only[pr2]at l;split at l
    · rename_i B;obtain⟨_,E,M,h4⟩:=B;refine⟨E,M,?_⟩;rcases h4 with h4|h4
      · exact h.fresh b h4
      · cases D:g.sr b with
        | none=>exact absurd D h4
        | some q=>exact h.stA b q D
    · obtain⟨J,E,M⟩:=h.fr.prv b p l;exact⟨(t b p l).2,Nat.lt_of_lt_of_le E j.size,M⟩
  · refine ArgOK.of_val (U.mono (Ext.refl _ _) fun b l=>⟨?_,rfl,fun _ x=>x⟩) T;have hn:pr b=none:=by
     cases D:pr b with
     | none=>rfl
     | some q =>
      obtain⟨J,E,_⟩:=h.fr.prv b q D;rcases l.2.2 with h4|h4
      · omega
      · exact absurd J h4
    simp only[pr2];rw[if_pos ⟨hn,l⟩]
theorem OwnN.own {x:AV} {v:Value} {mine:Nat→Prop} (h:OwnN x v):OwnC g w mine x v:=fun xs e=>.inl (h xs e)
theorem b3Q {mine:Nat→Prop} {x:AV} {v:Value} (h:OwnC g w mine x v):OwnN x.cellW1 v:=by
 intro xs e;cases x<;>simp only[AV.cellW1]at e<;>try (cases e; done)
 rename_i o ys;simp only[AV.list.injEq,AA,List.isEmpty_iff]at e;obtain⟨⟨rfl,rfl⟩,rfl⟩:=e;rcases h [] rfl with i|⟨_,_,_,_,_,_,_,_,i,_⟩
 · exact i
 · exact absurd rfl i
theorem Rel.cellW1 {x:AV} {v:Value} (h:Rel g w x v):Rel g w x.cellW1 v:=by cases x<;>first|exact h|(simp only[AV.cellW1,Rel]at h ⊢; exact h)
theorem RelL.cellW1:∀ {as:List AV} {vs:List Value},RelL g w as vs→RelL g w (as.map AV.cellW1) vs
 | [],_,h=>h
 | x::as,_,h=>by simp only[RelL,AG]at h ⊢;obtain⟨v,r,e,i,j⟩:=h;exact⟨v,r,e,i.cellW1,RelL.cellW1 j⟩
theorem a6e {mine:Nat→Prop} {x:AV} {v:Value} (h:ArgOK g w bx fr mine x v) (l:x.plain=true):RowOK g w (x.cells.map AV.cellW1) v.cells.toList:=by have i:=a1I h l;refine⟨i.rel.cellW1,i.one,fun k y u j hu=>?_⟩;rw[AQ]at j;obtain⟨z,t,rfl⟩:=AK.1 j;exact b3Q (i.own k z u t hu)
theorem b7k {cs u:List AV} {us vs:List Value} {off:Nat} (h:RowOK g w cs us) (l:RowOK g w u vs) (E:off+vs.length≤us.length):RowOK g w (n8 cs off u) (us.take off++vs++us.drop (off+vs.length)):=by
 obtain⟨G,I⟩:=a4r (off:=off) h.rel h.one l.rel l.one;refine⟨G,I,fun k x v y F=>?_⟩;have B:=h.rel.length;have D:=l.rel.length;unfold n8 at y;have t:=a04 (by omega) y;have i:=a04 (by omega) F;rcases t with⟨z,z2⟩|⟨z,z2,z3⟩|⟨z,z2⟩
 · rcases i with⟨_,v2⟩|⟨j,_⟩|⟨j,_⟩
   · exact h.own k x v z2 v2
   · omega
   · omega
 · rcases i with⟨j,_⟩|⟨_,_,v3⟩|⟨j,_⟩
   · omega
   · exact l.own _ x v z3 v3
   · omega
 · rcases i with⟨j,_⟩|⟨_,j,_⟩|⟨_,v2⟩
   · omega
   · omega
   · exact h.own k x v z2 v2
inductive RowsW (g:Gh) (w:World):List AV→List Value→Prop where
 | nil:RowsW g w [] []
 | cons {p:AV} {v:Value} {ps:List AV} {vs:List Value} (h:p.plain=true→RowOK g w (p.cells.map AV.cellW1) v.cells.toList) (t:RowsW g w ps vs):RowsW g w (p::ps) (v::vs)
theorem a0z {u:Nat}:∀ {is:List Nat} {G:List AV} {rs l:List (List AV)} {arr:Array Value} {vs:List Value},
 m9 u is G rs=some l→RowsW g w G vs→(∀ x∈rs,x.length=u)→RowOK g w rs.flatten arr.toList →
 ∃ j,Instr.fill (fun i=>some (i*u,u)) arr (is.zip vs)=some j∧(∀ x∈l,x.length=u)∧RowOK g w l.flatten j.toList∧l.length=rs.length
 | [],[],rs,l,arr,vs,h,ha,hr,hl=>by simp only[m9,AC]at h;subst h;exact⟨arr,by simp[Instr.fill],hr,hl,rfl⟩
 | i::is,p::G,rs,l,arr,vs,h,ha,hr,hl=>by
  simp only[m9]at h;split at h
  · rename_i U;obtain⟨y,B,hi⟩:=U;cases ha with
    | cons S T =>
     rename_i v vs;have t:=S y;have z:(p.cells.map AV.cellW1).length=u:=by simpa using B
     have F:v.cells.toList.length=v.cells.size:=by simp
     have Y:v.cells.size=u:=by have:=t.rel.length; omega
     have E:=R2 hr;have D:rs.flatten.length=arr.size:=hl.rel.length.trans (by simp);have W:i*u+u≤arr.size:=by rw[← D,E,← Nat.succ_mul]; exact Nat.mul_le_mul_right _ hi
     have V:=a5j v (i*u) arr (by omega);have I:=b7k (off:=i*u) hl t (by simp; omega);rw[F,← V]at I;rw[← a1W z hr hi]at I;obtain⟨j,J,M,N,O⟩:=a0z h T (fun x hx=>by
      rcases List.mem_or_eq_of_mem_set hx with hx|hx
      · exact hr x hx
      · rw[hx]; exact z) I
     refine⟨j,?_,M,N,by rw[O,List.length_set]⟩;simp only[List.zip_cons_cons,Instr.fill];rw[if_neg (by simp; omega)];exact J
  · cases h
 | [],_::_,_,_,_,_,h,_,_,_=>by simp[m9]at h
 | _::_,[],_,_,_,_,h,_,_,_=>by simp[m9]at h
theorem b2r (fx:Fx c) (h:S c g w pr bx σ a) {t e len sz:Nat} {parts:Array (Nat×Operand)} {G:TypeInfo} {z:Value} {zero rs:List (List AV)} {z1:List AV} {is:List Nat} {q:Opd} {x:Operand} {d:Dst}
 (ho:o.op=.buildSlice t len parts) (hu:c.P.underlying t=some (.slice e)) (b4:c.P.info? e=some G) (hz:G.zero=some z) (b7:G.size=sz) (N:z.cells.size=sz) (b1:len*sz≤2 ^ 24) (V:len*sz≠0)
 (c1:C6 z.cells.toList z1=true) (y:zero=List.replicate len z1) (b5:parts.toList.map (·.1)=is) (hx:parts.toList.map (·.2)=[x]) (hq:B3 c x q=true) (hs:m9 sz is [q.read σ] zero=some rs)
 (hd:q6 c o.dst d=true) (M:o.dst.isSome=true) {next:Act→World→Prop} {Q:Exit→Act→World→Prop} (J:Post c g w a (d.put (.fresh rs) (q.spend σ)) next):o.wp c.P a w next Q:=by
 subst b7; subst b5;obtain⟨b0,O,hA,_⟩:=L0 h hq .fly;have a1:(q.spend σ).st=σ.st:=by cases q<;>rfl
 have b3:parts.toList.map (fun p=>a.eval p.2)=[a.eval x]:=by have:=congrArg (List.map a.eval) hx;simpa using this
 have hr:RowsW g w [q.read σ] (parts.toList.map fun p=>a.eval p.2):=by rw[b3];exact .cons (fun hp=>a6e hA hp) .nil
 obtain⟨q1,q2,q3⟩:=F9 c1 g w;have a3:z1.length=G.size:=by rw[q1.length,Array.length_toList]; exact N
 have F:∀ x∈zero,x.length=G.size:=fun x hx=>by rw[y]at hx; rw[List.eq_of_mem_replicate hx]; exact a3
 have Y:∀ n,RowOK g w (List.replicate n z1).flatten (List.replicate n z.cells.toList).flatten:=by
  intro n;induction n with
  | zero=>exact⟨by simp[RelL],by simp,by simp⟩
  | succ n ih =>rw[List.replicate_succ,List.replicate_succ,List.flatten_cons,List.flatten_cons];exact RowOK.append ⟨q1,q2,q3⟩ ih
 have c0:=a0W z.cells len;obtain⟨arr,e1,e2,T,e5⟩:=a0z (arr:=(Array.range (len*z.cells.size)).map (z.cells[· % z.cells.size]!)) hs hr F (by rw[c0,y]; exact Y len);rw[N]at e1;rw[← a1J]at e1;have Z:=run_buildSlice (P:=c.P) w t e len (parts.map fun(i,x)=>(i,a.eval x)) arr G z hu b4 hz (by omega) V (by rw[N,show(parts.map fun(i,x)=>(i,a.eval x)).toList=parts.toList.map fun p=>(p.1,a.eval p.2)by simp]; exact e1);have I:rs.length=len:=by rw[e5,y,List.length_replicate]
 have c3:arr.toList.length=len*G.size:=by rw[← T.rel.length,R2 e2,I]
 let g2:=g.claim w.heap.size 0 (len*G.size)
 have U:=heap_alloc_new w (_root_.Go.Obj.cells arr e);have he:Ext g w g2 (w.alloc (.cells arr e)):=⟨AJ _,fun _ _=>rfl,fun _ _=>rfl,fun b f D=>.inl D,fun b f D=>World.cell?_alloc_lt _ _ _ (h.st.cli b f D)⟩;have l:∀ b,b < w.heap.size→H2 g w g2 (w.alloc (.cells arr e)) b:=fun b E=>⟨heap_alloc_old w _ E,fun f D=>by
  rcases D with D|⟨e',_⟩
  · exact D
  · omega⟩
 have B:∀ j,(w.alloc (.cells arr e)).cell? (ad w.heap.size j)=arr.toList[j]?:=fun j=>by rw[cell_of_row _ _ j arr e (0,0) U,← Array.getElem?_toList]
 have W:Rel g2 (w.alloc (.cells arr e)) (.fresh rs) (.slice (some (ad w.heap.size 0)) len len):=by
  simp only[Rel];refine⟨_,_,_,G.size,rfl,I.symm,AJ _,RelRows.mk e2 (T.rel.ext he _ _) (fun j u hj=>?_) T.one (fun j hj=>.inr ⟨rfl,by omega,by omega⟩),fun k ys hk=>?_⟩
  · show(w.alloc (.cells arr e)).cell? (ad w.heap.size (0+j))=some u;rw[Nat.zero_add,B];exact hj
  · obtain⟨v,hv,_⟩:=T.rel.get hk;obtain⟨a0,n0,b8⟩:=T.own k _ v hk hv ys rfl;have c4:=(AB.1 hv).1;refine⟨.inr ⟨rfl,by omega,by omega⟩,a0,n0,?_⟩;rw[B,hv,b8]
 unfold Oper.wp;rw[show(execOp a.eval o).run c.P w=.ok (.value (.slice (some ⟨w.heap.size,0,none⟩) len len)) (w.alloc (.cells arr e))by simp only[execOp,ho,Sem.run_bind,Z,Result.andThen_ok,Sem.run_pure]];have a2:SRel g2 (w.alloc (.cells arr e)) σ.st:=h.st.evolve he rfl (by simp) (fun b q hq=>⟨hq,l b (h.st.inn b q hq)⟩) (fun _ _ x=>x) (fun b f D=>by
  rcases D with D|⟨e',_⟩
  · exact .inl D
  · right; simp; omega)
 refine J _ _ g2 b0 bx (s7 _ _ _) ?_ ⟨he,by simp,Env.alloc w _ (by intro c t z e; cases e; rfl),fun b E b6 _=>⟨l b E,b6⟩⟩;have:=a2x fx O hd M he a2 (pr2:=b0) (fun b p E _=>⟨E,l b (O.fr.prv b p E).2.1⟩)
  (fun b p E=>⟨(O.fr.prv b p E).1,by have:=(O.fr.prv b p E).2.1; simp; omega,(O.fr.prv b p E).2.2⟩) (by simp) O.stA (r:=.fresh rs) (v:=.slice (some ⟨w.heap.size,0,none⟩) len len)
  ⟨W,fun zs ez=>(by cases ez),fun _ ez=>(by cases ez)⟩
 have b2:∀ (τ:Sig),τ.st=σ.st→({ d.put (.fresh rs) τ with st:=σ.st }:Sig)=d.put (.fresh rs) τ:=fun τ c2=>by cases d<;>simp[Dst.put,← c2]
 rw[b2 _ a1]at this;exact this
theorem b36 (fx:Fx c) (h:S c g w pr bx σ a) {t e len D:Nat} {parts:Array (Nat×Operand)} {v:TypeInfo} {z:Value} {zero rs:List (List AV)} {T:List AV} {is:List Nat} {q:Opd} {x:Operand} {d:Dst}
 (ho:o.op=.buildSlice t len parts) (hu:c.P.underlying t=some (.slice e)) (Z:c.P.info? e=some v) (hz:v.zero=some z) (a2:v.size=D) (B:z.cells.size=D) (N:len*D≤2 ^ 24) (F:len*D≠0)
 (b0:C6 z.cells.toList T=true) (j:zero=List.replicate len T) (a0:parts.toList.map (·.1)=is) (O:parts.toList.map (·.2)=[x]) (hq:B3 c x q=true) (hs:m9 D is [q.read σ] zero=some rs)
 (hd:q6 c o.dst d=true) (a1:o.dst.isSome=true) {next:Act→World→Prop} {Q:Exit→Act→World→Prop} (l:Post c g w a (d.put (.sl σ.st.length 0 len D) { q.spend σ with st:=σ.st++[.cells rs.flatten] }) next):o.wp c.P a w next Q:=by
 subst a2; subst a0;obtain⟨b1,hS,hA,_⟩:=L0 h hq .fly;have J:(q.spend σ).st=σ.st:=by cases q<;>rfl
 have Y:parts.toList.map (fun p=>a.eval p.2)=[a.eval x]:=by have:=congrArg (List.map a.eval) O;simpa using this
 have hr:RowsW g w [q.read σ] (parts.toList.map fun p=>a.eval p.2):=by rw[Y];exact .cons (fun hp=>a6e hA hp) .nil
 obtain⟨q1,q2,q3⟩:=F9 b0 g w;have M:T.length=v.size:=by rw[q1.length,Array.length_toList]; exact B
 have u:∀ x∈zero,x.length=v.size:=fun x O=>by rw[j]at O; rw[List.eq_of_mem_replicate O]; exact M
 have G:∀ n,RowOK g w (List.replicate n T).flatten (List.replicate n z.cells.toList).flatten:=by
  intro n;induction n with
  | zero=>exact⟨by simp[RelL],by simp,by simp⟩
  | succ n ih =>rw[List.replicate_succ,List.replicate_succ,List.flatten_cons,List.flatten_cons];exact RowOK.append ⟨q1,q2,q3⟩ ih
 have a3:=a0W z.cells len;obtain⟨arr,U,e2,e3,e5⟩:=a0z (arr:=(Array.range (len*z.cells.size)).map (z.cells[· % z.cells.size]!)) hs hr u (by rw[a3,j]; exact G len);rw[B]at U;rw[← a1J]at U;have I:=run_buildSlice (P:=c.P) w t e len (parts.map fun(i,x)=>(i,a.eval x)) arr v z hu Z hz (by omega) F (by rw[B,show(parts.map fun(i,x)=>(i,a.eval x)).toList=parts.toList.map fun p=>(p.1,a.eval p.2)by simp]; exact U);have E:rs.length=len:=by rw[e5,j,List.length_replicate]
 have V:arr.toList.length=len*v.size:=by rw[← e3.rel.length,R2 e2,E]
 have W:arr.size=len*v.size:=by rw[← V,Array.length_toList]
 have y:(execOp a.eval o).run c.P w=.ok (.value (.slice (some (ad w.heap.size 0)) len len)) (w.alloc (.cells arr e)):=by simp only[execOp,ho,Sem.run_bind,I,Result.andThen_ok,Sem.run_pure]
 rw[← J]at l;exact a4L fx hS hd y (cap:=arr.size) (by intro c t z e; cases e; rfl) (a07 hS e3) (.inr (.inr ⟨len,v.size,rfl,rfl,W.symm⟩)) l
noncomputable def Gh.grow (g:Gh) (od:Option Nat) (bb cpv:Nat):Gh where
 n:=g.n+1
 m:=fun o=>if o=g.n then bb else g.m o
 cl:=g.cl
 sr:=fun b=>if b=bb then some (g.n,none)else match g.sr b with
  | some (o,some k)=>if od=some o then some (g.n,some k)else some (o,some k)
  | r=>r
 cp:=fun o=>if o=g.n then cpv else g.cp o
theorem c5t {od:Option Nat} {bb cpv b o:Nat} {k:Option Nat} (h:g.sr b=some (o,k)) (i:b≠bb) (j:od≠some o):(g.grow od bb cpv).sr b=some (o,k):=by
 simp only[Gh.grow];rw[if_neg i,h];cases k with
 | none=>rfl
 | some k=>simp only; rw[if_neg j]
theorem b4A {bb cpv b o k:Nat} (h:g.sr b=some (o,some k)) (i:b≠bb):(g.grow (some o) bb cpv).sr b=some (g.n,some k):=by simp only[Gh.grow];rw[if_neg i,h];simp
theorem a9H {od:Option Nat} {bb cpv b:Nat} (h:g.sr b=none) (i:b≠bb):(g.grow od bb cpv).sr b=none:=by simp only[Gh.grow];rw[if_neg i,h]
theorem a4X {od:Option Nat} {bb cpv b:Nat} {p:Nat×Option Nat} (h:(g.grow od bb cpv).sr b=some p):b=bb∨∃ q,g.sr b=some q:=by
 simp only[Gh.grow]at h;split at h
 · exact .inl ‹_›
 · cases i:g.sr b with
   | none=>rw[i]at h; cases h
   | some q=>exact .inr ⟨q,rfl⟩
theorem c0B (h:S c g w pr bx σ a) {l:World} {od:Option Nat} {bb cpv:Nat} {cs:List AV} {st2:St} (D:Env w l) (t:w.heap.size≤l.heap.size) (T:bb < l.heap.size)
 (v:∀ b,b≠bb→b < w.heap.size→l.heap[b]?=w.heap[b]?) (W:∀ f,¬ g.cl bb f) (y:bb=w.heap.size∨∃ o,od=some o∧g.sr bb=some (o,none))
 (U:st2.length=g.n+1) (G:∀ x B,st2[x]?=some B→(x=g.n∧B=.cells cs)∨B=.dead∨(σ.st[x]?=some B∧od≠some x))
 (Z:Ext g w (g.grow od bb cpv) l→ObjOK (g.grow od bb cpv) l g.n (.cells cs)) :
 S c (g.grow od bb cpv) l pr bx { σ with st:=st2 } a∧Tr c.A g w (g.grow od bb cpv) l:=by
 have N:Ext g w (g.grow od bb cpv) l:=⟨by simp[Gh.grow],fun o u=>by simp[Gh.grow,Nat.ne_of_lt u],fun o u=>by simp[Gh.grow,Nat.ne_of_lt u],fun _ _ h=>h,
  fun b f O=>World.cell?_of_block (v b (fun e=>W f (e ▸ O)) (h.st.cli b f O))⟩
 have j:∀ b,b≠bb→b < w.heap.size→H2 g w (g.grow od bb cpv) l b:=fun b J M=>⟨v b J M,fun _ x=>x⟩
 have E:∀ b,b < w.heap.size→g.sr b=none→b≠bb:=fun b i hs e=>by
  subst e;rcases y with rfl|⟨o,_,u⟩
  · omega
  · rw[hs]at u; cases u
 have I:Tr No g w (g.grow od bb cpv) l:=⟨N,t,D,fun b i hs _=>⟨j b (E b i hs) i,a9H hs (E b i hs)⟩⟩;have hA:c.A bb:=by
  rcases y with rfl|⟨o,_,u⟩
  · exact h.fresh _ (AJ _)
  · exact h.stA _ _ u
 refine⟨⟨h.fr.evolve I,⟨U.symm ▸ rfl,fun x B hx=>?_,fun b p i=>?_,fun b f O=>Nat.lt_of_lt_of_le (h.st.cli b f O) t⟩,h.gl.ext N,fun b i=>h.fresh b (Nat.le_trans t i),fun b p i=>?_⟩,I.wider fun _ x=>x.elim⟩
 · rcases G x B hx with⟨rfl,rfl⟩|rfl|⟨J,M⟩
   · exact Z N
   · trivial
   · refine(h.st.obj x B J).mono (by rw[h.st.n]; exact(AB.1 J).1) N fun b k i=>?_
     have V:=h.st.inn b _ i;have F:b≠bb:=fun e=>by
      subst e;rcases y with rfl|⟨o,Y,z⟩
      · omega
      · rw[i]at z;simp only[AC,AH]at z;exact M (Y.trans (by rw[z.1]))
     exact⟨c5t i F M,j b F V⟩
 · rcases a4X i with rfl|⟨q,hq⟩
   · exact T
   · exact Nat.lt_of_lt_of_le (h.st.inn b q hq) t
 · rcases a4X i with rfl|⟨q,hq⟩
   · exact hA
   · exact h.stA b q hq
theorem U1 {t ty e:TypeId} {i:TypeInfo} {z:Value} (hu:c.P.underlying t=some (.slice e)) (hi:c.P.info? e=some i) (U:i.zero=some z) (T:z.cells.size=i.size) (M:0 < i.bytes)
 {a0:Option Addr} {n cap m c1:Nat} {us vs:List Value} {a1:Addr} (F:a0=none→cap=0) (W:n≤cap) (I:us.length=n*i.size) (Z:∀ D,a0=some D→∀ (j:Nat) u,us[j]?=some u→w.cell? (D.add j)=some u)
 (B:vs.length=m*i.size) (V:∀ (j:Nat) u,vs[j]?=some u→w.cell? (a1.add j)=some u) (Y:0 < m) (O:¬ n+m≤cap) (J:(n+m)*i.bytes≤140737488355328) :
 ∃ (C:Array Value) (l:Nat),(Builtin.append_ #[t,t] ty #[.slice a0 n cap,.slice (some a1) m c1]).run c.P w =
  .ok (.slice (some (ad w.heap.size 0)) (n+m) l) (w.drew.alloc (.cells C e))∧C.toList.take ((n+m)*i.size)=us++vs∧C.size=l*i.size∧n+m≤l∧l≤maxLen:=by
 have v:n+m≤140737488355328:=Nat.le_trans (Nat.le_mul_of_pos_right _ M) J;have y:n+m≤maxLen:=by unfold maxLen; omega
 have x:=grownCap_ge w (n+m) cap e;have E:(us++vs).length=(n+m)*i.size:=by rw[AE,I,B,Nat.add_mul]
 have G:∀ k,(Builtin.zeroCells z.cells k).size=k*i.size:=fun k=>by rw[size_zeroCells,T]
 cases a0 with
 | none =>
  have N:=F rfl;obtain rfl:n=0:=by omega
  subst N;have S:us=[]:=List.eq_nil_of_length_eq_zero (by simpa using I);subst S;simp only[Nat.zero_add]at x J v y ⊢;refine⟨_,_,run_append_nil (P:=c.P) w t ty e i z hu hi U a1 m c1 vs B V Y (by omega) (by omega),?_,?_,x,grownCap_le_maxLen w m 0 e y⟩
  · rw[Array.toList_append,List.toList_toArray,List.nil_append,← B,List.take_left]
  · rw[Array.size_append,G,List.size_toArray,B,← Nat.add_mul];congr 1; omega
 | some D =>
  refine⟨_,_,run_append_grow (P:=c.P) w t ty e i z hu hi U D n cap us I (Z D rfl) a1 m c1 vs B V (by omega) (by omega) (growslice_fits (by omega) J),?_,?_,x,grownCap_le_maxLen w _ cap e y⟩
  · simp only[Array.toList_append,AU];rw[← AU,← E];exact List.take_left
  · simp only[Array.size_append,List.size_toArray,G,I,B,← Nat.add_mul];congr 1; omega
theorem c39 (fx:Fx c) (h:S c g w pr bx σ a) {t e sz bytes:Nat} {i:TypeInfo} {z:Value} {x y:Operand} {p0 p1:Opd} {gs:List AV} {d:Dst} {at_:Array TypeId}
 (ho:o.op=.call { callee:=.builtin .append,args:=#[x,y],argTypes:=at_ }) (e5:at_=#[t,t]) (hu:c.P.underlying t=some (.slice e)) (hi:c.P.info? e=some i) (hz:i.zero=some z) (l4:i.size=sz) (i0:i.bytes=bytes)
 (e4:z.cells.size=sz) (d3:0 < bytes) (l0:B3 c x p0=true) (l1:M0 c y p1=true) (hd:q6 c o.dst d=true) {b b' r:AV} {st':St}
 (hs:B8 sz bytes call (p0.read σ::p1.read σ::gs) b σ.st=some (r,b',st'))
 {next:Act→World→Prop} {Q:Exit→Act→World→Prop} (a3:Post c g w a (d.put r { p0.spend σ with st:=st' }) next):o.wp c.P a w next Q:=by
 subst l4; subst i0;have d2:(2:Nat) ^ 47=140737488355328:=by decide
 obtain⟨b5,hS,V,_⟩:=L0 h l0 d.pl;have hY:=N4 h l1;have c7:(p0.spend σ).st=σ.st:=by cases p0<;>rfl
 -- the rows that are added
 have rows:∀ (ys:List (List AV)),p1.read σ=.fresh ys→m4 i.size ys=true →
  ∃ c1 bb vs,a.eval y=.slice (some (ad bb 0)) ys.length c1∧vs.length=ys.length*i.size∧RelL g w ys.flatten vs∧(∀ v∈vs,v.oneCell'=true)∧(∀ (k:Nat) (x:AV) (v:Value),ys.flatten[k]?=some x→vs[k]?=some v→OwnN x v) ∧
   ∀ (j:Nat) u,vs[j]?=some u→w.cell? ((ad bb 0).add j)=some u:=by
  intro ys e1 b3;rw[e1]at hY;have hr:Rel g w (.fresh ys) (a.eval y):=ValOK.rel hY;simp only[Rel]at hr;obtain⟨bb,n,c1,o0,ev,rfl,o1,b2,hN⟩:=hr;have g3:=b0k b3 b2;have e3:∃ us,us.length=ys.length*i.size∧RelL g w ys.flatten us∧w.rangeAt bb 0 us∧(∀ u∈us,u.oneCell'=true):=by
   cases ys with
   | nil=>exact⟨[],by simp,by simp[RelL],fun j v hv=>by simp at hv,by simp⟩
   | cons y0 ys =>
    obtain rfl:o0=i.size:=by have h1:=b2.all y0 (by simp); have h2:=g3 y0 (by simp); omega
    obtain⟨us,u1,u2,u3,u4,_⟩:=b2.vals;exact⟨us,u1,u2,u3,u4⟩
  obtain⟨vs,u1,u2,u3,u4⟩:=e3;refine⟨c1,bb,vs,ev,u1,u2,u4,fun k x v E hv zs e2=>?_,fun j u hj=>?_⟩
  · subst e2;obtain⟨_,a0,n0,hc⟩:=hN k zs E;have:=u3 k v hv;rw[Nat.zero_add]at this;rw[show(⟨bb,k,none⟩:Addr)=ad bb k from rfl,hc]at this;exact⟨a0,n0,(Option.some.inj this).symm⟩
  · rw[Addr.add_ad];exact u3 j u hj
 -- what comes out
 have fin:∀ (od:Option Nat) (bb cpv k:Nat) (w2:World) (cs:List AV) (st2:St) (B:Nat),Env w w2→w.heap.size≤w2.heap.size→bb < w2.heap.size→(∀ b,b≠bb→b < w.heap.size→w2.heap[b]?=w.heap[b]?)→(∀ f,¬ g.cl bb f) →
  (bb=w.heap.size∨∃ o,od=some o∧g.sr bb=some (o,none))→st2.length=g.n+1→(∀ x U,st2[x]?=some U→(x=g.n∧U=.cells cs)∨U=.dead∨(σ.st[x]?=some U∧od≠some x)) →
  (Ext g w (g.grow od bb cpv) w2→ObjOK (g.grow od bb cpv) w2 g.n (.cells cs))→k≤B→B*i.size=cpv →
  (Builtin.append_ #[t,t] o.type #[a.eval x,a.eval y]).run c.P w=.ok (.slice (some (ad bb 0)) k B) w2→r=.sl σ.st.length 0 k i.size→st'=st2→o.wp c.P a w next Q:=by
  intro od bb cpv k w2 cs st2 B f1 f2 f3 f4 f5 f6 f7 f8 f9 f10 f11 l er es;subst er; subst es;obtain⟨h6,n1⟩:=c0B hS f1 f2 f3 f4 f5 f6 f7 (by rw[c7]; exact f8) f9;have d6:=Q1 (c:=c) (w:=w) ho e5 rfl rfl l;unfold Oper.wp;rw[d6,Oper.upon_value];refine a3 _ _ _ b5 bx (s7 _ _ _) (V0 fx h6 hd (mine:=No) ?_ fun _ x=>x.elim) n1;refine(show ValOK _ _ No (.sl _ _ _ _) _ from ValOK.mk' ?_ (by simp) (by simp));simp only[Rel];rw[← h.st.n];exact⟨by simp[Gh.grow],B,by simp[Gh.grow],f10,by simp[Gh.grow,f11]⟩
 have d0:σ.st.length=g.n:=h.st.n.symm;have last:∀ (c2:St) (cs:List AV) (x:Nat) (U:Obj),c2.length=σ.st.length→¬ x < σ.st.length→(c2++[Obj.cells cs])[x]?=some U→x=g.n∧U=.cells cs:=by
  intro c2 cs x U o3 o2 E;rw[List.getElem?_append_right (by omega)]at E;have n3:x - c2.length=0:=by
   rcases Nat.eq_zero_or_pos (x - c2.length)with h0|h0
   · exact h0
   · rw[List.getElem?_eq_none (by simp; omega)]at E; cases E
  rw[n3]at E;simp at E;exact⟨by omega,E.symm⟩
 unfold B8 at hs;split at hs<;>first|cases hs; done|skip
 · rename_i ys d1 J;simp only[AM]at J;obtain⟨e0,e1,rfl⟩:=J;split at hs<;>first|cases hs; done|skip
   rename_i I;obtain⟨W,b3,b7,_⟩:=I;simp only[AC,AH]at hs;obtain⟨rfl,rfl,rfl⟩:=hs;have hm:0 < ys.length:=by cases ys with|nil=>simp at W|cons _ _=>simp
   obtain⟨c1,b4,vs,ev,vl,vr,v1,vo,vc⟩:=rows ys e1 b3;rw[e0]at V;have V:ValOK g w (fun b=>b5 b=some d.pl) (.list true []) (a.eval x):=V;obtain⟨a0,n0,eu,i4⟩:∃ a0 n0,a.eval x=.slice a0 n0 n0∧n0=0:=by
    have hr:=V.rel;simp only[Rel]at hr;obtain⟨h5,n',B,eu,rfl,_⟩:=hr;rcases V.own [] rfl with⟨a2,n2,h2⟩|⟨_,_,_,_,_,_,_,_,h2,_⟩
    · rw[eu]at h2;simp only[Value.slice.injEq]at h2;obtain⟨rfl,h3,h4⟩:=h2;exact⟨h5,n2,by rw[eu,h4,h3],h3.symm⟩
    · exact absurd rfl h2
   subst i4;obtain⟨C,B,l,hC,b6,D,f0⟩:=U1 (c:=c) (w:=w) (ty:=o.type) hu hi hz e4 d3 (a0:=a0) (n:=0) (cap:=0) (m:=ys.length) (c1:=c1) (us:=[]) (vs:=vs) (a1:=ad b4 0) (fun _=>rfl) (AJ _) (by simp) (by simp) vl vc hm (by omega) (by rw[Nat.zero_add,← d2]; exact b7);rw[← eu,← ev]at l;simp only[Nat.zero_add,List.nil_append]at l hC D;have G:(w.drew.alloc (.cells C e)).heap[w.heap.size]?=some (.cells C e (0,0)):=heap_alloc_new w.drew _;have O:ys.flatten.length=ys.length*i.size:=by rw[vr.length,vl]
   refine fin none w.heap.size C.size ys.length (w.drew.alloc (.cells C e)) ys.flatten _ B ((Env.drawn (w:=w) (w':=w.drew) rfl rfl rfl).trans (Env.alloc w.drew _ (by intro c t z e; cases e; rfl))) (by simp) (by simp)
    (fun b _ hb=>heap_alloc_old w.drew _ hb) (fun f Z=>Nat.lt_irrefl _ (h.st.cli _ f Z)) (.inl rfl) (by rw[AE,← h.st.n]; rfl) (fun x U E=>?_) (fun he=>?_) D b6.symm l rfl rfl
   · by_cases F:x < σ.st.length
     · rw[List.getElem?_append_left F]at E;exact .inr (.inr ⟨E,by simp⟩)
     · exact .inl (last σ.st _ x U rfl F E)
   · refine⟨by simp[Gh.grow],fun f Z=>?_,C,e,by simp only[Gh.grow,if_true]; exact G,by simp[Gh.grow],?_,?_,fun k x v E hv=>?_⟩
     · simp only[Gh.grow,if_true]at Z;exact Nat.lt_irrefl _ (h.st.cli _ f Z)
     · rw[O,hC]; exact vr.ext he _ _
     · rw[O,hC]; exact v1
     · refine OwnN.own (vo k x v E ?_);rw[← hC,List.getElem?_take,if_pos (by rw[← O]; exact(AB.1 E).1)];simpa using hv
 · rename_i ys d1 J;simp only[AM]at J;obtain⟨e0,e1,rfl⟩:=J;split at hs<;>first|cases hs; done|skip
   rename_i I;obtain⟨W,b3,b7,_⟩:=I;simp only[AC,AH]at hs;obtain⟨rfl,rfl,rfl⟩:=hs;have hm:0 < ys.length:=by cases ys with|nil=>simp at W|cons _ _=>simp
   obtain⟨c1,b4,vs,ev,vl,vr,v1,vo,vc⟩:=rows ys e1 b3;rw[e0]at V;have V:ValOK g w (fun b=>b5 b=some d.pl) .nils (a.eval x):=V;have eu:a.eval x=.slice none 0 0:=by have hr:=V.rel;simpa[Rel]using hr
   obtain⟨C,B,l,hC,b6,D,f0⟩:=U1 (c:=c) (w:=w) (ty:=o.type) hu hi hz e4 d3 (a0:=none) (n:=0) (cap:=0) (m:=ys.length) (c1:=c1) (us:=[]) (vs:=vs) (a1:=ad b4 0) (fun _=>rfl) (AJ _) (by simp) (by simp) vl vc hm (by omega) (by rw[Nat.zero_add,← d2]; exact b7);rw[← eu,← ev]at l;simp only[Nat.zero_add,List.nil_append]at l hC D;have G:(w.drew.alloc (.cells C e)).heap[w.heap.size]?=some (.cells C e (0,0)):=heap_alloc_new w.drew _;have O:ys.flatten.length=ys.length*i.size:=by rw[vr.length,vl]
   refine fin none w.heap.size C.size ys.length (w.drew.alloc (.cells C e)) ys.flatten _ B ((Env.drawn (w:=w) (w':=w.drew) rfl rfl rfl).trans (Env.alloc w.drew _ (by intro c t z e; cases e; rfl))) (by simp) (by simp)
    (fun b _ hb=>heap_alloc_old w.drew _ hb) (fun f Z=>Nat.lt_irrefl _ (h.st.cli _ f Z)) (.inl rfl) (by rw[AE,← h.st.n]; rfl) (fun x U E=>?_) (fun he=>?_) D b6.symm l rfl rfl
   · by_cases F:x < σ.st.length
     · rw[List.getElem?_append_left F]at E;exact .inr (.inr ⟨E,by simp⟩)
     · exact .inl (last σ.st _ x U rfl F E)
   · refine⟨by simp[Gh.grow],fun f Z=>?_,C,e,by simp only[Gh.grow,if_true]; exact G,by simp[Gh.grow],?_,?_,fun k x v E hv=>?_⟩
     · simp only[Gh.grow,if_true]at Z;exact Nat.lt_irrefl _ (h.st.cli _ f Z)
     · rw[O,hC]; exact vr.ext he _ _
     · rw[O,hC]; exact v1
     · refine OwnN.own (vo k x v E ?_);rw[← hC,List.getElem?_take,if_pos (by rw[← O]; exact(AB.1 E).1)];simpa using hv
 · rename_i d1 J;simp only[AM]at J;obtain⟨e0,e1,rfl⟩:=J;split at hs<;>first|cases hs; done|skip
   simp only[AC,AH]at hs;obtain⟨rfl,rfl,rfl⟩:=hs;rw[e0]at V;have V:ValOK g w (fun b=>b5 b=some d.pl) .nils (a.eval x):=V;have eu:a.eval x=.slice none 0 0:=by have hr:=V.rel;simpa[Rel]using hr
   rw[e1]at hY;have ev:a.eval y=.slice none 0 0:=by have hr:Rel g w .nils (a.eval y):=ValOK.rel hY;simpa[Rel]using hr
   have l:=Q1 (c:=c) (w:=w) ho e5 eu ev (R6 (P:=c.P) t o.type e i hu hi none none 0 0 0 (AJ _));have l2:({ p0.spend σ with st:=σ.st }:Sig)=p0.spend σ:=by rw[← c7]
   rw[l2]at a3;unfold Oper.wp;rw[l,Oper.upon_value,← eu];exact a3 _ _ g b5 bx (s7 _ _ _) (V0 fx hS hd V fun _ x=>x) (Tr.refl _ _ _)
 · rename_i Y n s' ys d1 J;simp only[AM]at J;obtain⟨e0,e1,rfl⟩:=J;split at hs<;>first|cases hs; done|skip
   rename_i xs E;split at hs<;>first|cases hs; done|skip
   rename_i I;obtain⟨rfl,W,b3,c0,b7,_⟩:=I;simp only[AC,AH]at hs;obtain⟨rfl,rfl,rfl⟩:=hs;have hm:0 < ys.length:=by cases ys with|nil=>simp at W|cons _ _=>simp
   obtain⟨c1,b4,vs,ev,vl,vr,v1,vo,vc⟩:=rows ys e1 b3;have O:ys.flatten.length=ys.length*i.size:=by rw[vr.length,vl]
   generalize o4:ys.length=m at *
   rw[e0]at V;have V:ValOK g w (fun b=>b5 b=some d.pl) (.sl Y 0 n i.size) (a.eval x):=V;have hr:=V.rel;simp only[Rel,Nat.zero_add]at hr;obtain⟨o5,cap,eu,i3,c4⟩:=hr;obtain⟨b1,e6,arr,T,hh,g0,c6,g6,g7⟩:=h.st.obj Y _ E;have b8:(arr.toList.take (n*i.size)).length=n*i.size:=by rw[← c0,← c6.length]
   have d5:(xs++ys.flatten).length=n*i.size+m*i.size:=by rw[AE,c0,O]
   have c8:∀ x U,(σ.st.set Y .dead++[Obj.cells (xs++ys.flatten)])[x]?=some U→(x=g.n∧U=.cells (xs++ys.flatten))∨U=.dead∨(σ.st[x]?=some U∧some Y≠some x):=by
    intro x U E;by_cases F:x < σ.st.length
    · rw[List.getElem?_append_left (by simpa using F)]at E;by_cases ex:Y=x
      · subst ex;rw[List.getElem?_set_self F]at E;exact .inr (.inl (Option.some.inj E).symm)
      · rw[List.getElem?_set_ne ex]at E;exact .inr (.inr ⟨E,by simpa using ex⟩)
    · exact .inl (last _ _ x U (by simp) F E)
   have g4:∀ (bb:Nat) (w2:World) (M:Array Value) (T2:TypeId),w2.heap[bb]?=some (.cells M T2 (0,0))→M.toList.take (n*i.size+m*i.size)=arr.toList.take (n*i.size)++vs→(∀ f,¬ g.cl bb f) →
    (∀ b,b≠bb→b < w.heap.size→w2.heap[b]?=w.heap[b]?)→(bb=w.heap.size∨g.sr bb=some (Y,none)) →
    Ext g w (g.grow (some Y) bb M.size) w2→ObjOK (g.grow (some Y) bb M.size) w2 g.n (.cells (xs++ys.flatten)):=by
    intro bb w2 M T2 d4 d7 i5 g5 h9 he;refine⟨by simp[Gh.grow],fun f Z=>?_,M,T2,by simp only[Gh.grow,if_true]; exact d4,by simp[Gh.grow],?_,?_,fun k x v hk hv=>?_⟩
    · simp only[Gh.grow,if_true]at Z;exact i5 f Z
    · rw[d5,d7,← c0]; exact(c6.ext he _ _).append (vr.ext he _ _)
    · rw[d5,d7,← c0];intro v hv;rcases AP.1 hv with hv|hv
      · exact g6 v hv
      · exact v1 v hv
    · have i1:k < n*i.size+m*i.size:=by rw[← d5]; exact(AB.1 hk).1
      have c3:(arr.toList.take (n*i.size)++vs)[k]?=some v:=by rw[← d7,List.getElem?_take,if_pos i1]; simpa using hv
      by_cases i2:k < xs.length
      · rw[List.getElem?_append_left i2]at hk;rw[List.getElem?_append_left (by rw[b8]; omega),List.getElem?_take,if_pos (by omega)]at c3;refine(g7 k x v hk (by simpa using c3)).mono fun b hb=>?_
        have F:=h.st.inn b _ hb;have W:b≠bb:=fun e2=>by
         subst e2;rcases h9 with h0|h0
         · omega
         · rw[hb]at h0; simp at h0
        exact⟨b4A hb W,g5 b W F,fun _ x=>x⟩
      · rw[List.getElem?_append_right (by omega)]at hk;rw[List.getElem?_append_right (by rw[b8]; omega),b8,← c0]at c3;exact OwnN.own (vo _ x v hk c3)
   by_cases N:n+m≤cap
   · have g1:n*i.size+vs.length≤arr.size:=by rw[vl,g0,← c4,← Nat.add_mul]; exact Nat.mul_le_mul_right _ N
     have l:=P4 (P:=c.P) (w:=w) t o.type e i T hu hi (g.m Y) n cap arr hh (ad b4 0) m c1 vs vl vc v1 N g1;rw[← eu,← ev]at l;have h7:arr.toList.length=arr.size:=by simp
     generalize G:arr.toList.take (n*i.size)++vs++arr.toList.drop (n*i.size+vs.length)=new at *
     have i9:new.length=arr.size:=by rw[← G]; simp only[AE,AO,List.length_drop,h7]; omega
     have d4:=setRow_heap w (g.m Y) arr new.toArray T _ hh;have F:g.m Y < w.heap.size:=h.st.inn _ _ b1;refine fin (some Y) (g.m Y) new.toArray.size (n+m) (w.setRow (g.m Y) new.toArray) (xs++ys.flatten) _ cap (Env.setRow _ _ _) (by simp) (by simpa using F) (fun b hb _=>setRow_other w _ b _ hb) e6 (.inr ⟨Y,rfl,b1⟩)
      (by rw[AE,List.length_set,d0]; rfl) c8 (g4 _ _ _ T d4 ?_ e6 (fun b hb _=>setRow_other w _ b _ hb) (.inr b1)) N (by simp[i9,g0,c4]) l rfl rfl
     rw[List.toList_toArray,← G,AU,← AU];rw[show n*i.size+m*i.size=(arr.toList.take (n*i.size)++vs).length by rw[AE,b8,vl]];exact List.take_left
   · obtain⟨C,B,l,hC,b6,D,f0⟩:=U1 (c:=c) (w:=w) (ty:=o.type) hu hi hz e4 d3 (a0:=some (ad (g.m Y) 0)) (n:=n) (cap:=cap) (m:=m) (c1:=c1) (us:=arr.toList.take (n*i.size)) (vs:=vs) (a1:=ad b4 0) (fun h=>by cases h) i3 b8 (fun b0 h8 j u hj=>by
      cases h8;rw[Addr.add_ad,cell_of_row w _ _ arr T _ hh];rw[List.getElem?_take]at hj;split at hj
      · simpa using hj
      · cases hj) vl vc hm N (by rw[← d2]; exact b7)
     rw[← eu,← ev]at l;rw[Nat.add_mul]at hC;have G:(w.drew.alloc (.cells C e)).heap[w.heap.size]?=some (.cells C e (0,0)):=heap_alloc_new w.drew _;refine fin (some Y) w.heap.size C.size (n+m) (w.drew.alloc (.cells C e)) (xs++ys.flatten) _ B ((Env.drawn (w:=w) (w':=w.drew) rfl rfl rfl).trans (Env.alloc w.drew _ (by intro c t z e; cases e; rfl))) (by simp) (by simp)
      (fun b _ hb=>heap_alloc_old w.drew _ hb) (fun f Z=>Nat.lt_irrefl _ (h.st.cli _ f Z)) (.inl rfl) (by rw[AE,List.length_set,d0]; rfl) c8
      (g4 _ _ _ e G hC (fun f Z=>Nat.lt_irrefl _ (h.st.cli _ f Z)) (fun b _ hb=>heap_alloc_old w.drew _ hb) (.inl rfl)) D b6.symm l rfl rfl
end
end Go.Cb
namespace Go.Cb
open Classical
def q8 (p:AOper) (σ:Sig):AV:=match p.box with|some i=>σ.fr.getD i .undef|none=>.undef
section
variable (c:Cx) (o:Oper) (p:AOper)
def m6 (xs:List Operand):Bool:=p.box.isNone && a0R c xs p.args && q6 c o.dst p.dst
def b9P:Bool:=match o.op,p.args with
 | .move x,[q]|.assign x,[q]=>p.box.isNone && B3 c x q && q6 c o.dst p.dst
 | _,_=>false
def b0p:Bool:=match o.op with|.pick x y z=>m6 c o p [x,y,z]|_=>false
def a5P:Bool:=match o.op with|.nilCheck x=>m6 c o p [x]|_=>false
def a6F (zero:List AV):Bool:=match o.op,o.dst,p.box,p.dst,p.args with
 | .alloc t,some s,some i,.bx,[]=>c.slots[i]? == some s && c.bxs.contains i && a0w c.P t zero
 | _,_,_,_,_=>false
def b0O:Bool:=match o.op,o.dst,p.box,p.dst,p.args with
 | .box _ x,some s,some i,.bx,[q]=>c.slots[i]? == some s && c.bxs.contains i && B3 c x q
 | _,_,_,_,_=>false
def a5s (zero:List AV):Bool:=match o.op,p.args with
 | .alloc t,[]=>p.box.isNone && a0w c.P t zero && q6 c o.dst p.dst
 | _,_=>false
def a9e:Bool:=match o.op,p.args with
 | .box _ x,[q]=>p.box.isNone && B3 c x q && q6 c o.dst p.dst
 | _,_=>false
def a6s (places:List (Nat×Nat)):List Nat→List (Nat×Nat)→Bool
 | [],[]=>true
 | i::is,q::qs=>places[i]? == some q && a6s places is qs
 | _,_=>false
def a7w (zero:List AV) (i:List (Nat×Nat)):Bool:=match o.op with
 | .build t parts=>(match a5o c.P t with|some places=>a6s places (parts.toList.map (·.1)) i|none=>false) && a0w c.P t zero && m6 c o p (parts.toList.map (·.2))
 | _=>false
def a5D (i:Nat) (zero:List (List AV)) (at_:List Nat):Bool:=match o.op with
 | .buildSlice t len parts=>match c.P.underlying t with
  | some (.slice e)=>match c.P.info? e,zero with
   | some ie,z1::_=>match ie.zero with
    | some z=>ie.size == i && z.cells.size == i && decide (len*i≤2 ^ 24) && !(len*i == 0) && C6 z.cells.toList z1 && zero.length == len && zero.all (O6 · z1) &&
     parts.toList.map (·.1) == at_ && m6 c o p (parts.toList.map (·.2)) && o.dst.isSome
    | none=>false
   | _,_=>false
  | _=>false
 | _=>false
def a9h (i:Nat) (agg:Bool) (n:Nat):Bool:=match o.op,p.box with
 | .load t x,some j=>i == j && decide (i < c.slots.length) && s4 c t == some agg && r5 c t == some n && a0R c [x] p.args && q6 c o.dst p.dst
 | _,_=>false
def S0 (agg:Bool) (n:Nat):Bool:=match o.op with
 | .load t x=>s4 c t == some agg && r5 c t == some n && m6 c o p [x]
 | _=>false
def a6D (i:Nat):Bool:=match o.op,p.box with
 | .load t x,some j=>i == j && decide (i < c.slots.length) && s4 c t == some false && a0R c [x] p.args && q6 c o.dst p.dst
 | _,_=>false
def a2w:Bool:=match o.op with
 | .load t x=>s4 c t == some false && m6 c o p [x]
 | _=>false
def a9A (i n:Nat):Bool:=match o.op,o.dst,p.dst,p.box,p.args with
 | .store t x y,none,.none,some j,[q0,q1]=>i == j && decide (i < c.slots.length) && r5 c t == some n && M0 c x q0 && B3 c y q1
 | _,_,_,_,_=>false
def a3J (n:Nat):Bool:=match o.op,o.dst,p.dst,p.box,p.args with
 | .store t x y,none,.none,none,[q0,q1]=>r5 c t == some n && M0 c x q0 && B3 c y q1
 | _,_,_,_,_=>false
def b2q (off:Nat):Bool:=match o.op with
 | .fieldAddr s x f=>(match Z5 c s f with|some i=>(match r5 c i.type with|some n=>!(n == 0)|none=>false) && i.offset == off|none=>false) && m6 c o p [x]
 | _=>false
def b2z (off n:Nat) (agg:Bool):Bool:=match o.op with
 | .field s x f=>(match Z5 c s f with|some i=>s4 c i.type == some agg && r5 c i.type == some n && i.offset == off|none=>false) && m6 c o p [x]
 | _=>false
def b3k (j:Nat):Bool:=match o.op with
 | .indexAddr t x i=>(match c.P.underlying t with|some (.slice e)=>r5 c e == some j|_=>false) && m6 c o p [x,i]
 | _=>false
def a9y (len j:Nat):Bool:=match o.op with
 | .indexAddr t x i=>(match c.P.underlying t with|some (.array n e)=>n == len && r5 c e == some j|_=>false) && m6 c o p [x,i]
 | _=>false
def b0C:Bool:=match o.op with
 | .index t x i=>(match c.P.underlying t with|some .string=>true|_=>false) && m6 c o p [x,i]
 | _=>false
def b3O (i hi:Bool):Bool:=match o.op with
 | .slice t x l h none=>(match c.P.underlying t with|some .string=>true|_=>false) && l.isSome == i && h.isSome == hi && m6 c o p (x::(l.toList++h.toList))
 | _=>false
def b3C (j:Nat) (i hi:Bool):Bool:=match o.op with
 | .slice t x l h none=>(match c.P.underlying t with|some (.slice e)=>r5 c e == some j|_=>false) && l.isSome == i && h.isSome == hi && m6 c o p (x::(l.toList++h.toList))
 | _=>false
def b3u:Bool:=match o.op with
 | .slice t x none (some (.const (.int _ m))) (some (.const (.int _ n)))=>decide (m=0) && decide (n=0) && (match c.P.underlying t with|some (.slice e)=>(r5 c e).isSome|_=>false) && m6 c o p [x]
 | _=>false
def b2K (len j:Nat) (i hi:Bool):Bool:=match o.op with
 | .slice t x l h none=>(match c.P.underlying t with|some (.array n e)=>n == len && r5 c e == some j|_=>false) && l.isSome == i && h.isSome == hi && m6 c o p (x::(l.toList++h.toList))
 | _=>false
def b2o (op:BinOp):Bool:=match o.op with
 | .binOp i _ x y _=>decide (i=op) && m6 c o p [x,y]
 | _=>false
def a8L (op:BinOp):Bool:=match o.op with
 | .binOp i t x y _=>decide (i=op) && (match c.P.underlying t with|some .bool=>true|_=>false) && m6 c o p [x,y]
 | _=>false
def a9p (op:BinOp):Bool:=match o.op with
 | .binOp i t x y _=>(match c.P.underlying t with|some (.pointer _)=>decide (i=op) && !decide (op=.lss) && !decide (op=.gtr)|some (.interface _)=>(decide (i=.eql) && decide (op=.lss) || decide (i=.neq) && decide (op=.gtr)) && (match y with|.const .nilIface=>true|_=>false)|_=>false) && m6 c o p [x,y]
 | _=>false
def b8h (op:UnOp):Bool:=match o.op with
 | .unOp i _ x=>decide (i=op) && m6 c o p [x]
 | _=>false
def b0L (k:IntKind):Bool:=match o.op with
 | .convert t u x=>(match c.P.underlying t,c.P.underlying u with|some (.int _),some (.int i)=>decide (i=k)|_,_=>false) && m6 c o p [x]
 | _=>false
def b2Z (f n:Nat):Bool:=match o.op with
 | .makeFunc (.func j) first i=>j == f && first.size == n && m6 c o p (first++i).toList
 | _=>false
def b2x:Bool:=match o.op,p.args with
 | .makeMap _ none,[]=>p.box.isNone && q6 c o.dst p.dst
 | _,_=>false
def b0m (l:Nat) (zero:List AV) (agg ok:Bool):Bool:=match o.op with
 | .lookup t m k j=>j == ok && (match c.P.underlying t with|some (.map u i)=>G8 c.P l u && s4 c i == some agg && a0w c.P i zero && a7u c.P i agg|_=>false) && m6 c o p [m,k]
 | _=>false
def a9V (i:Nat):Bool:=match o.op with
 | .mapUpdate t m k x|.insert t m k x=>(match c.P.underlying t with|some (.map j _)=>G8 c.P i j|_=>false) && o.dst.isNone && m6 c o p [m,k,x]
 | _=>false
def b3x (i:Nat):Bool:=match o.op with
 | .extract x j=>i == j && m6 c o p [x]
 | _=>false
def a3P (f:Nat):Bool:=match o.op with
 | .call { callee:=.value (.func f'),args:=xs,argTypes:=_ }=>f' == f && m6 c o p xs.toList
 | _=>false
def a7I:Bool:=match o.op with
 | .call { callee:=.value (.tmp s),args:=xs,argTypes:=_ }=>m6 c o p (.tmp s::xs.toList)
 | _=>false
def a9g:Bool:=match o.op with
 | .call { callee:=.builtin .len,args:=⟨[x]⟩,argTypes:=⟨t::_⟩ }=>(match c.P.underlying t with|some .string=>true|_=>false) && m6 c o p [x]
 | _=>false
def b0I:Bool:=match o.op with
 | .call { callee:=.builtin .len,args:=⟨[x]⟩,argTypes:=⟨t::_⟩ }=>(match c.P.underlying t with|some (.slice _)=>true|_=>false) && m6 c o p [x]
 | _=>false
def b5q (P:Program) (t:TypeId):Bool:=match P.underlying t with
 | some (.struct ⟨[f0,f1]⟩)=>f0.name != "_" && f1.name != "_" && f0.offset == 0 && f1.offset == 1 && (match P.underlying f0.type with|some (.int _)=>true|_=>false) && (match P.underlying f1.type with|some .string=>true|_=>false)
 | _=>false
def a9d (neg:Bool):Bool:=match o.op with
 | .binOp op t x y _=>decide (op=if neg then .neq else .eql) && !c.P.eqGuardType c.P.depth t && !c.P.stoodInHeld t && b5q c.P t && m6 c o p [x,y]
 | _=>false
def a9G:Bool:=match o.op with
 | .call { callee:=.builtin .min,args:=⟨[x,y]⟩,.. }=>m6 c o p [x,y]
 | _=>false
def b4I (j bytes:Nat):Bool:=match o.op,p.args with
 | .call { callee:=.builtin .append,args:=⟨[x,y]⟩,argTypes:=⟨[t,t']⟩ },[q0,q1]=>t == t' && (match c.P.underlying t with
  | some (.slice e)=>(match c.P.info? e with
   | some i=>i.size == j && i.bytes == bytes && decide (0 < bytes) && (match i.zero with|some z=>z.cells.size == j|none=>false)
   | none=>false)
  | _=>false) && p.box.isNone && B3 c x q0 && M0 c y q1 && q6 c o.dst p.dst && o.dst.isSome
 | _,_=>false
def b0r (bytes:Nat):Bool:=match o.op,p.args with
 | .call { callee:=.builtin .append,args:=⟨[x,y]⟩,argTypes:=⟨[t,t']⟩ },[q0,q1]=>t == t' && (match c.P.underlying t with
  | some (.slice e)=>(match c.P.info? e with
   | some i=>i.size == 1 && i.bytes == bytes && decide (0 < bytes) && (match i.zero with|some z=>z.cells.size == 1|none=>false)
   | none=>false)
  | _=>false) && p.box.isNone && B3 c x q0 && M0 c y q1 && q6 c o.dst p.dst && o.dst.isSome
 | _,_=>false
def X2 (i:Nat) (zero:List (List AV)) (at_:List Nat):Bool:=match o.op with
 | .buildSlice t len parts=>match c.P.underlying t with
  | some (.slice e)=>match c.P.info? e,zero with
   | some ie,z1::_=>match ie.zero with
    | some z=>ie.size == i && z.cells.size == i && decide (len*i≤2 ^ 24) && !(len*i == 0) && C6 z.cells.toList z1 && zero.length == len && zero.all (O6 · z1) &&
     parts.toList.map (·.1) == at_ && p.box.isNone && q6 c o.dst p.dst && (match parts.toList.map (·.2),p.args with|[x],[q]=>B3 c x q|_,_=>false) && o.dst.isSome
    | none=>false
   | _,_=>false
  | _=>false
 | _=>false
def a9S (j bytes:Nat):Bool:=match o.op,p.args with
 | .call { callee:=.builtin .append,args:=⟨[x,y]⟩,argTypes:=⟨[t,t']⟩ },q0::q1::gs=>t == t' && (match c.P.underlying t with
  | some (.slice e)=>(match c.P.info? e with
   | some i=>i.size == j && i.bytes == bytes && decide (0 < bytes) && (match i.zero with|some z=>z.cells.size == j|none=>false)
   | none=>false)
  | _=>false) && p.box.isNone && B3 c x q0 && M0 c y q1 && q6 c o.dst p.dst && o.dst.isSome && gs.all (fun q=>!q.steals)
 | _,_=>false
def b3F:Bool:=match o.op with
 | .convert t u x=>(match c.P.underlying t,c.P.underlying u with|some (.slice e),some .string=>(match c.P.underlying e with|some (.int .u8)=>true|_=>false)|_,_=>false) && m6 c o p [x]
 | _=>false
def AOper.bare (p:AOper):AOper:=match p.kind with
 | .ldStR agg n=>{ p with kind:=.ldSt agg n,args:=p.args.take 1 }
 | .ldStSR _=>{ p with kind:=.ldStS,args:=p.args.take 1 }
 | .stStA n=>{ p with kind:=.stSt n,args:=p.args.take 2 }
 | .callA f m=>{ p with kind:=.call f,args:=p.args.take m }
 | _=>p
def AOper.beside (p:AOper):List Opd:=match p.kind with
 | .ldStR _ _=>p.args.drop 1
 | .ldStSR _=>p.args.drop 1
 | .stStA _=>p.args.drop 2
 | .callA _ m=>p.args.drop m
 | _=>[]
def T9 (qs:List Opd):Bool:=qs.all fun q=>!q.steals
def a5Q:Bool:=match p.kind with
 | .mv=>b9P c o p
 | .pick=>b0p c o p
 | .nilchk=>a5P c o p
 | .alloc zero=>a6F c o p zero
 | .boxV=>b0O c o p
 | .allocO zero=>a5s c o p zero
 | .boxO=>a9e c o p
 | .build zero t=>a7w c o p zero t
 | .bslice j zero at_=>a5D c o p j zero at_
 | .bsliceM j zero at_=>X2 c o p j zero at_
 | .ldLc i agg n=>a9h c o p i agg n
 | .ldSt agg n=>S0 c o p agg n
 | .ldRo agg n=>S0 c o p agg n
 | .ldAn agg n=>S0 c o p agg n
 | .ldStR agg n=>S0 c o p.bare agg n && T9 p.beside
 | .ldStSR _=>a2w c o p.bare && T9 p.beside
 | .stStA n=>a3J c o p.bare n && T9 p.beside
 | .callA f _=>a3P c o p.bare f && T9 p.beside
 | .ldLcS i=>a6D c o p i
 | .ldStS=>a2w c o p
 | .stLc i n=>a9A c o p i n
 | .stSt n=>a3J c o p n
 | .fad off=>b2q c o p off
 | .fld off n agg=>b2z c o p off n agg
 | .iad j=>b3k c o p j
 | .iadA len j=>a9y c o p len j
 | .idxS=>b0C c o p
 | .slS l hi=>b3O c o p l hi
 | .slL j l hi=>b3C c o p j l hi
 | .slZ=>b3u c o p
 | .slA len j l hi=>b2K c o p len j l hi
 | .bin op=>b2o c o p op
 | .binB op=>a8L c o p op
 | .binP op=>a9p c o p op
 | .un op=>b8h c o p op
 | .conv k=>b0L c o p k
 | .mkF f n=>b2Z c o p f n
 | .mkM=>b2x c o p
 | .mget u zero agg ok=>b0m c o p u zero agg ok
 | .mset u=>a9V c o p u
 | .ext i=>b3x c o p i
 | .call f=>a3P c o p f
 | .callV=>a7I c o p
 | .lenS=>a9g c o p
 | .lenL=>b0I c o p
 | .app j bytes=>b4I c o p j bytes
 | .appM j bytes=>a9S c o p j bytes
 | .b2s=>b3F c o p
 | .appA bytes=>b0r c o p bytes
 | .bsliceO j zero at_=>X2 c o p j zero at_
 | .min2=>a9G c o p
 | .eqIS neg=>a9d c o p neg
 | .stuck=>true
def PureK:Prop:=∀ {g:Gh} {w:World} {pr:Nat→Option Pl} {bx:Nat→Nat} {σ:Sig} {a:Act} {call:d8} {r b':AV} {st':St},
 S c g w pr bx σ a→sem p.kind call (p.args.map (·.read σ)) (q8 p σ) σ.st=some (r,b',st')→l9 c g w bx σ.fr a o r∧b'=q8 p σ∧st'=σ.st
def OpK:Prop:=∀ {g:Gh} {w:World} {pr:Nat→Option Pl} {bx:Nat→Nat} {σ σ':Sig} {a:Act} {call:d8} {next:Act→World→Prop} {Q:Exit→Act→World→Prop},
 Fx c→F5 c.P c.gt call→S c g w pr bx σ a→y9 call p σ=some σ'→Post c g w a σ' next→o.wp c.P a w next Q
end
section
variable {c:Cx} {o:Oper} {p:AOper}
theorem b9e (fr:List AV) (i:Nat):fr.set i (fr.getD i .undef)=fr:=by
 apply List.ext_getElem?;intro j;rw[List.getElem?_set];by_cases e:i=j
 · subst e;rw[if_pos rfl];split
   · rename_i h; simp[h]
   · rename_i h; rw[List.getElem?_eq_none (by omega)]
 · rw[if_neg e]
theorem l6 {call:d8} {σ σ':Sig} (h:y9 call p σ=some σ'):∃ r b' st',sem p.kind call (p.args.map (·.read σ)) (q8 p σ) σ.st=some (r,b',st') ∧
 σ'=p.dst.put r { d9 p.args σ with fr:=(match p.box with|some i=>(d9 p.args σ).fr.set i b'|none=>(d9 p.args σ).fr),st:=st' }:=by
 rw[J4]at h;cases j:p.box with
 | none =>
  have e:q8 p σ=.undef:=by simp only[q8,j]
  rw[e];simp only[j]at h;cases hs:sem p.kind call (p.args.map (·.read σ)) .undef σ.st with
  | none=>simp only[hs]at h; cases h
  | some x =>obtain⟨r,b',st'⟩:=x;simp only[hs]at h;exact⟨r,b',st',rfl,(Option.some.inj h).symm⟩
 | some i =>
  have e:q8 p σ=σ.fr.getD i .undef:=by simp only[q8,j]
  rw[e];simp only[j]at h;cases hs:sem p.kind call (p.args.map (·.read σ)) (σ.fr.getD i .undef) σ.st with
  | none=>simp only[hs]at h; cases h
  | some x =>obtain⟨r,b',st'⟩:=x;simp only[hs]at h;exact⟨r,b',st',rfl,(Option.some.inj h).symm⟩
theorem PureK.op (h:PureK c o p) (x:∀ σ,d9 p.args σ=σ) (D:q6 c o.dst p.dst=true):OpK c o p:=by
 intro g w pr bx σ σ' a call next Q z _ y u l
 obtain⟨r,b',st',hs,j⟩:=l6 u;obtain⟨⟨v,t,E⟩,rfl,rfl⟩:=h y hs;rw[x]at j;have j:σ'=p.dst.put r σ:=by
  rw[j];cases B:p.box with
  | none=>rfl
  | some i=>simp only[q8,B,b9e]
 subst j;exact b2k z y D t E l
theorem Q8 {xs:List Operand} (h:m6 c o p xs=true):p.box=none∧a0R c xs p.args=true∧q6 c o.dst p.dst=true:=by simp only[m6,AA,Option.isNone_iff_eq_none]at h;exact⟨h.1.1,h.1.2,h.2⟩
theorem m0 {xs:List Operand} (h:m6 c o p xs=true)
 (hs:∀ {g:Gh} {w:World} {pr:Nat→Option Pl} {bx:Nat→Nat} {σ:Sig} {a:Act} {call:d8} {r b' b:AV} {st':St},S c g w pr bx σ a→ArgsOK g w bx σ.fr (p.args.map (·.read σ)) (xs.map a.eval) →
  sem p.kind call (p.args.map (·.read σ)) b σ.st=some (r,b',st')→l9 c g w bx σ.fr a o r∧b'=b∧st'=σ.st):OpK c o p:=by
 obtain⟨u,j,t⟩:=Q8 h;exact PureK.op (fun l i=>hs l (P0 l j) i) (fun σ=>B9 j) t
end
end Go.Cb
namespace Go.Cb
open Classical
abbrev nc:d8:=fun _ _ _=>none
section
variable {c:Cx} {o:Oper} {p:AOper}
theorem f8L (hk:p.kind=.mv) (h:b9P c o p=true):OpK c o p:=by
 intro g w pr bx σ σ' a call next Q v _ D u i
 obtain⟨r,b',st',hs,t⟩:=l6 u;unfold b9P at h;have key:∀ (x:Operand) (q:Opd),(o.op=.move x∨o.op=.assign x)→p.args=[q]→(p.box.isNone && B3 c x q && q6 c o.dst p.dst)=true→o.wp c.P a w next Q:=by
  intro x q l j h;simp only[AA,Option.isNone_iff_eq_none]at h;obtain⟨⟨y,z⟩,B⟩:=h;rw[hk,j]at hs;simp only[sem,a0k,AG,AL,AC,AH]at hs;obtain⟨rfl,rfl,rfl⟩:=hs;rw[y,j]at t;have e:σ'=p.dst.put (q.read σ) (q.spend σ):=by
   rw[t];have:(q.spend σ).st=σ.st:=by cases q<;>rfl
   simp only[d9];rw[← this]
  subst e;exact a4K v D l z B i
 split at h
 · rename_i x q l j; exact key x q (.inl l) j h
 · rename_i x q l j; exact key x q (.inr l) j h
 · cases h
theorem c6s (hk:p.kind=.pick) (h:b0p c o p=true):OpK c o p:=by
 unfold b0p at h; split at h
 · rename_i x y z i;exact m0 h fun l j hs=>by rw[hk]at hs; exact b9T (call:=nc) i j hs
 · cases h
theorem b6D (hk:p.kind=.nilchk) (h:a5P c o p=true):OpK c o p:=by
 unfold a5P at h; split at h
 · rename_i x i;exact m0 h fun l j hs=>by rw[hk]at hs; exact b4e (call:=nc) i j hs
 · cases h
theorem a1Z {P:Program} {t:TypeId} {zero:List AV} (h:a0w P t zero=true):∃ z,(P.info? t).bind (·.zero)=some z∧C6 z.cells.toList zero=true:=by
 unfold a0w at h; split at h
 · rename_i z i; exact⟨z,i,h⟩
 · cases h
theorem a8T {zero:List AV} {z:Value} (h:C6 z.cells.toList zero=true) (g:Gh) (w:World):RowOK g w zero z.cells.toList:=by obtain⟨i,j,l⟩:=F9 h g w;exact⟨i,j,l⟩
theorem b9d {zero:List AV} (hk:p.kind=.alloc zero) (h:a6F c o p zero=true):OpK c o p:=by
 intro g w pr bx σ σ' a call next Q D _ I u j
 obtain⟨r,b',st',hs,l⟩:=l6 u;unfold a6F at h; split at h
 · rename_i t s i M J B v y;simp only[AA,beq_iff_eq]at h;obtain⟨⟨E,F⟩,G⟩:=h;obtain⟨z,N,x⟩:=a1Z G;rw[hk,y]at hs;simp only[sem,O8,AL,q8,B]at hs;cases hu:σ.fr.getD i .undef<;>rw[hu]at hs<;>first|cases hs; done|skip
   simp only[AC,AH]at hs;obtain⟨rfl,rfl,rfl⟩:=hs;rw[B,y,v]at l;simp only[d9,Dst.put]at l;subst l;exact b2a D I J E (by simpa using F) hu (a3G M N) (a8T x g w) j
 · cases h
theorem b1f {q:Opd} {σ:Sig} {i:Nat} (hu:σ.fr.getD i .undef=.undef):(q.spend σ).fr.getD i .undef=.undef:=by
 cases q<;>simp only[Opd.spend]<;>try exact hu
 rename_i j;rw[List.getD_eq_getElem?_getD,List.getElem?_set] ;by_cases e:j=i
 · subst e;rw[if_pos rfl,hu];split<;>rfl
 · rw[if_neg e,← List.getD_eq_getElem?_getD]; exact hu
theorem c74 (hk:p.kind=.boxV) (h:b0O c o p=true):OpK c o p:=by
 intro g w pr bx σ σ' a call next Q F _ N y l
 obtain⟨r,b',st',hs,j⟩:=l6 y;unfold b0O at h; split at h
 · rename_i t x s i q S O E z D;simp only[AA,beq_iff_eq]at h;obtain⟨⟨G,I⟩,J⟩:=h;rw[hk,D]at hs;simp only[sem,Q5,AG,AL,q8,E]at hs;cases hu:σ.fr.getD i .undef<;>rw[hu]at hs<;>first|cases hs; done|skip
   dsimp only at hs;split at hs
   · rename_i B;simp only[AC,AH]at hs;obtain⟨rfl,rfl,rfl⟩:=hs;rw[E,D,z]at j;simp only[d9,Dst.put]at j;have u:(q.spend σ).st=σ.st:=by cases q<;>rfl
     rw[← u]at j;obtain⟨T,v,M,_⟩:=L0 N J (.tmp 0);subst j;exact b2a F v O G (by simpa using I) (b1f hu) (b10 S) (a8l M B) l
   · cases hs
 · cases h
theorem b6C {zero:List AV} (hk:p.kind=.allocO zero) (h:a5s c o p zero=true):OpK c o p:=by
 intro g w pr bx σ σ' a call next Q y _ v l i
 obtain⟨r,b',st',hs,j⟩:=l6 l;unfold a5s at h; split at h
 · rename_i t F x;simp only[AA,Option.isNone_iff_eq_none]at h;obtain⟨⟨B,D⟩,E⟩:=h;obtain⟨z,G,u⟩:=a1Z D;rw[hk,x]at hs;simp only[sem,E4,AL,AC,AH]at hs;obtain⟨rfl,rfl,rfl⟩:=hs;rw[B,x]at j;subst j;exact a4L y v E (a3G F G) (by intro c t z e; cases e; rfl) (a07 v (a8T u g w)) (.inl ⟨rfl,rfl⟩) i
 · cases h
theorem c8C (hk:p.kind=.boxO) (h:a9e c o p=true):OpK c o p:=by
 intro g w pr bx σ σ' a call next Q D _ J v j
 obtain⟨r,b',st',hs,i⟩:=l6 v;unfold a9e at h; split at h
 · rename_i t x q M B;simp only[AA,Option.isNone_iff_eq_none]at h;obtain⟨⟨E,F⟩,G⟩:=h;rw[hk,B]at hs;simp only[sem,J9,AG,AL]at hs;split at hs
   · rename_i y;simp only[AC,AH]at hs;obtain⟨rfl,rfl,rfl⟩:=hs;rw[E,B]at i;simp only[d9]at i;have u:(q.spend σ).st=σ.st:=by cases q<;>rfl
     rw[← u]at i;obtain⟨N,l,I,_⟩:=L0 J F (.tmp 0);subst i;exact a4L D l G (b10 M) (by intro c t z e; cases e; rfl) (a07 l (a8l I y)) (.inl ⟨rfl,rfl⟩) j
   · cases hs
 · cases h
theorem f0Y (hk:p.kind=.mkM) (h:b2x c o p=true):OpK c o p:=by
 intro g w pr bx σ σ' a call next Q x _ u l i
 obtain⟨r,b',st',hs,j⟩:=l6 l;unfold b2x at h; split at h
 · rename_i t D v;simp only[AA,Option.isNone_iff_eq_none]at h;obtain⟨y,B⟩:=h;rw[hk,v]at hs;simp only[sem,S8,AL,AC,AH]at hs;obtain⟨rfl,rfl,rfl⟩:=hs;rw[y,v]at j;subst j;refine a4L x u B (O:=.map #[] 0) (by simp[execOp,D,Instr.makeMap]) (by intro c t z e; cases e) (b3l u) (.inr (.inl ⟨rfl,rfl⟩)) i
 · cases h
end
end Go.Cb
namespace Go.Cb
open Classical
section
variable {c:Cx} {o:Oper} {p:AOper}
theorem f5E {op:UnOp} (hk:p.kind=.un op) (h:b8h c o p op=true):OpK c o p:=by
 unfold b8h at h; split at h
 · rename_i l t x i;simp only[AA,decide_eq_true_eq]at h;obtain⟨rfl,h⟩:=h;exact m0 h fun u j hs=>by rw[hk]at hs; exact e5T (call:=nc) i j hs
 · cases h
theorem d4q {op:BinOp} (hk:p.kind=.bin op) (h:b2o c o p op=true):OpK c o p:=by
 unfold b2o at h; split at h
 · rename_i l t x y v i;simp only[AA,decide_eq_true_eq]at h;obtain⟨rfl,h⟩:=h;exact m0 h fun u j hs=>by rw[hk]at hs; exact c76 (call:=nc) i j hs
 · cases h
theorem c0Z {op:BinOp} (hk:p.kind=.binB op) (h:a8L c o p op=true):OpK c o p:=by
 unfold a8L at h; split at h
 · rename_i u t x y z j;simp only[AA,decide_eq_true_eq]at h;obtain⟨⟨rfl,i⟩,h⟩:=h;split at i
   · rename_i hu; exact m0 h fun v l hs=>by rw[hk]at hs; exact b73 (call:=nc) j hu l hs
   · cases i
 · cases h
theorem c47 {op:BinOp} (hk:p.kind=.binP op) (h:a9p c o p op=true):OpK c o p:=by
 unfold a9p at h; split at h
 · rename_i B t x y E v;rw[AA]at h;obtain⟨i,h⟩:=h;split at i
   · rename_i e hu;simp only[AA,decide_eq_true_eq,Bool.not_eq_true',decide_eq_false_iff_not]at i;obtain⟨⟨rfl,j⟩,l⟩:=i;exact m0 h fun z u hs=>by rw[hk]at hs; exact b9W (call:=nc) v hu ⟨j,l⟩ u hs
   · rename_i D hu;rw[AA]at i;obtain⟨j,l⟩:=i;split at l
     case h_2=>cases l
     simp only[Bool.or_eq_true,AA,decide_eq_true_eq]at j;exact m0 h fun z u hs=>by rw[hk]at hs; exact b9B (call:=nc) v hu j u hs
   · cases i
 · cases h
theorem d13 {k:IntKind} (hk:p.kind=.conv k) (h:b0L c o p k=true):OpK c o p:=by
 unfold b0L at h; split at h
 · rename_i t u x l;simp only[AA]at h;obtain⟨hu,h⟩:=h;split at hu
   · rename_i i j;simp only[decide_eq_true_eq]at hu;subst hu;exact m0 h fun y v hs=>by rw[hk]at hs; exact b7Y (call:=nc) l i j v hs
   · cases hu
 · cases h
theorem d8U {i:Nat} (hk:p.kind=.ext i) (h:b3x c o p i=true):OpK c o p:=by
 unfold b3x at h; split at h
 · rename_i x j l;simp only[AA,beq_iff_eq]at h;obtain⟨rfl,h⟩:=h;exact m0 h fun u t hs=>by rw[hk]at hs; exact d10 (call:=nc) l t hs
 · cases h
theorem b1G {i:Bool} {n:Nat} (hk:p.kind=.ldSt i n) (h:S0 c o p i n=true):OpK c o p:=by
 unfold S0 at h; split at h
 · rename_i t x v;simp only[AA,beq_iff_eq]at h;obtain⟨⟨j,l⟩,h⟩:=h;exact m0 h fun u y hs=>by rw[hk]at hs; exact a9F (call:=nc) u.st v j l y hs
 · cases h
theorem d2l {i:Bool} {n:Nat} (hk:p.kind=.ldRo i n) (h:S0 c o p i n=true):OpK c o p:=by
 unfold S0 at h; split at h
 · rename_i t x u;simp only[AA,beq_iff_eq]at h;obtain⟨⟨j,l⟩,h⟩:=h;exact m0 h fun y v hs=>by rw[hk]at hs; exact a9T (call:=nc) u j l v hs
 · cases h
theorem d2f {i:Bool} {n:Nat} (hk:p.kind=.ldAn i n) (h:S0 c o p i n=true):OpK c o p:=by
 unfold S0 at h; split at h
 · rename_i t x v;simp only[AA,beq_iff_eq]at h;obtain⟨⟨j,l⟩,h⟩:=h;exact m0 h fun u y hs=>by rw[hk]at hs; exact b7K (call:=nc) u.st v j l y hs
 · cases h
theorem c93 {i:Nat} {l:Bool} {n:Nat} (hk:p.kind=.ldLc i l n) (h:a9h c o p i l n=true):OpK c o p:=by
 unfold a9h at h; split at h
 · rename_i t x j F E;simp only[AA,beq_iff_eq,decide_eq_true_eq]at h;obtain⟨⟨⟨⟨⟨rfl,y⟩,z⟩,B⟩,u⟩,D⟩:=h;refine PureK.op (fun v hs=>?_) (fun σ=>B9 u) D;rw[hk]at hs;simp only[q8,E]at hs ⊢;exact b8k (call:=nc) v.fr (AD y) F z B (P0 v u) hs
 · cases h
theorem f2H {off:Nat} (hk:p.kind=.fad off) (h:b2q c o p off=true):OpK c o p:=by
 unfold b2q at h; split at h
 · rename_i s x f u;simp only[AA]at h;obtain⟨i,h⟩:=h;split at i
   · rename_i y l;simp only[AA,beq_iff_eq]at i;obtain⟨i,j⟩:=i;split at i
     · rename_i n t;exact m0 h fun z v hs=>by rw[hk]at hs; exact d3C (call:=nc) u l t (by simpa using i) j v hs
     · cases i
   · cases i
 · cases h
theorem d7f {off n:Nat} {j:Bool} (hk:p.kind=.fld off n j) (h:b2z c o p off n j=true):OpK c o p:=by
 unfold b2z at h; split at h
 · rename_i s x f v;simp only[AA]at h;obtain⟨i,h⟩:=h;split at i
   · rename_i z u;simp only[AA,beq_iff_eq]at i;obtain⟨⟨i,l⟩,t⟩:=i;exact m0 h fun B y hs=>by rw[hk]at hs; exact d3X (call:=nc) v u i l t y hs
   · cases i
 · cases h
theorem f0s {l:Nat} (hk:p.kind=.iad l) (h:b3k c o p l=true):OpK c o p:=by
 unfold b3k at h; split at h
 · rename_i t x i u;simp only[AA]at h;obtain⟨j,h⟩:=h;split at j
   · rename_i e hu;simp only[beq_iff_eq]at j;exact m0 h fun y v hs=>by rw[hk]at hs; exact c1Q (call:=nc) u hu j v hs
   · cases j
 · cases h
theorem c6R {len l:Nat} (hk:p.kind=.iadA len l) (h:a9y c o p len l=true):OpK c o p:=by
 unfold a9y at h; split at h
 · rename_i t x i u;simp only[AA]at h;obtain⟨j,h⟩:=h;split at j
   · rename_i n e hu;simp only[AA,beq_iff_eq]at j;obtain⟨rfl,j⟩:=j;exact m0 h fun y v hs=>by rw[hk]at hs; exact b95 (call:=nc) u hu j v hs
   · cases j
 · cases h
theorem c4a (hk:p.kind=.idxS) (h:b0C c o p=true):OpK c o p:=by
 unfold b0C at h; split at h
 · rename_i t x i l;simp only[AA]at h;obtain⟨j,h⟩:=h;split at j
   · rename_i hu;exact m0 h fun v u hs=>by rw[hk]at hs; exact b8a (call:=nc) l hu u hs
   · cases j
 · cases h
theorem a5G {a:Act} {x:Operand} {l h:Option Operand}:(x::(l.toList++h.toList)).map a.eval=a.eval x::((l.map a.eval).toList++(h.map a.eval).toList):=by cases l<;>cases h<;>rfl
theorem f2q {u hi:Bool} (hk:p.kind=.slS u hi) (h:b3O c o p u hi=true):OpK c o p:=by
 unfold b3O at h; split at h
 · rename_i t x l y v;simp only[AA,beq_iff_eq]at h;obtain⟨⟨⟨i,rfl⟩,rfl⟩,h⟩:=h;split at i
   · rename_i hu;exact m0 h fun z j hs=>by rw[hk]at hs; rw[a5G]at j; exact c1s (call:=nc) v hu j hs
   · cases i
 · cases h
theorem e7g {v:Nat} {u hi:Bool} (hk:p.kind=.slL v u hi) (h:b3C c o p v u hi=true):OpK c o p:=by
 unfold b3C at h; split at h
 · rename_i t x l z y;simp only[AA,beq_iff_eq]at h;obtain⟨⟨⟨i,rfl⟩,rfl⟩,h⟩:=h;split at i
   · rename_i e hu;simp only[beq_iff_eq]at i;exact m0 h fun B j hs=>by rw[hk]at hs; rw[a5G]at j; exact c67 (call:=nc) y hu i j hs
   · cases i
 · cases h
theorem d4E (hk:p.kind=.slZ) (h:b3u c o p=true):OpK c o p:=by
 unfold b3u at h; split at h
 · rename_i t x k m v n j;simp only[AA,decide_eq_true_eq]at h;obtain⟨⟨⟨rfl,rfl⟩,i⟩,h⟩:=h;split at i
   · rename_i e hu;exact m0 h fun u l hs=>by rw[hk]at hs; exact c8W (call:=nc) j hu i l hs
   · cases i
 · cases h
theorem e8Z {len v:Nat} {u hi:Bool} (hk:p.kind=.slA len v u hi) (h:b2K c o p len v u hi=true):OpK c o p:=by
 unfold b2K at h; split at h
 · rename_i t x l z y;simp only[AA,beq_iff_eq]at h;obtain⟨⟨⟨i,rfl⟩,rfl⟩,h⟩:=h;split at i
   · rename_i n e hu;simp only[AA,beq_iff_eq]at i;obtain⟨rfl,i⟩:=i;exact m0 h fun B j hs=>by rw[hk]at hs; rw[a5G]at j; exact c79 (call:=nc) y hu i j hs
   · cases i
 · cases h
theorem d5E {f n:Nat} (hk:p.kind=.mkF f n) (h:b2Z c o p f n=true):OpK c o p:=by
 unfold b2Z at h; split at h
 · rename_i u first i l
   simp only[AA,beq_iff_eq]at h;obtain⟨⟨rfl,j⟩,h⟩:=h;exact m0 h fun v t hs=>by rw[hk]at hs; exact d04 (call:=nc) l j t hs
 · cases h
theorem c7T {l:Nat} {zero:List AV} {j ok:Bool} (hk:p.kind=.mget l zero j ok) (h:b0m c o p l zero j ok=true):OpK c o p:=by
 unfold b0m at h; split at h
 · rename_i t m k D z;simp only[AA,beq_iff_eq]at h;obtain⟨⟨rfl,i⟩,h⟩:=h;split at i
   · rename_i F E hu;simp only[AA,beq_iff_eq]at i;obtain⟨⟨⟨i,u⟩,v⟩,x⟩:=i;exact m0 h fun y B hs=>by rw[hk]at hs; exact b88 (call:=nc) y.st z hu i u v x B hs
   · cases i
 · cases h
theorem c6Y (hk:p.kind=.lenS) (h:a9g c o p=true):OpK c o p:=by
 unfold a9g at h; split at h
 · rename_i x t ts j;simp only[AA]at h;obtain⟨i,h⟩:=h;split at i
   · rename_i hu;exact m0 h fun u l hs=>by rw[hk]at hs; exact b8b (call:=nc) j (by simp) hu l hs
   · cases i
 · cases h
theorem d3c (hk:p.kind=.lenL) (h:b0I c o p=true):OpK c o p:=by
 unfold b0I at h; split at h
 · rename_i x t ts j;simp only[AA]at h;obtain⟨i,h⟩:=h;split at i
   · rename_i e hu;exact m0 h fun u l hs=>by rw[hk]at hs; exact b9o (call:=nc) j (by simp) hu l hs
   · cases i
 · cases h
theorem c4X {neg:Bool} (hk:p.kind=.eqIS neg) (h:a9d c o p neg=true):OpK c o p:=by
 unfold a9d at h; split at h
 · rename_i op t x y I B;simp only[AA,decide_eq_true_eq,Bool.not_eq_true']at h;obtain⟨⟨⟨⟨rfl,z⟩,i⟩,hi⟩,h⟩:=h;unfold b5q at hi;split at hi
   case h_2=>cases hi
   rename_i f0 f1 hu;simp only[AA,bne_iff_ne,beq_iff_eq]at hi;obtain⟨⟨⟨⟨⟨E,F⟩,o0⟩,o1⟩,u⟩,v⟩:=hi;split at u
   case h_2=>cases u
   rename_i k0 j;split at v
   case h_2=>cases v
   rename_i l;exact m0 h fun G D hs=>by rw[hk]at hs; exact b8X (call:=nc) B z i hu E F o0 o1 j l D hs
 · cases h
theorem c4C (hk:p.kind=.min2) (h:a9G c o p=true):OpK c o p:=by
 unfold a9G at h; split at h
 · rename_i x y _ _ i;exact m0 h fun l j hs=>by rw[hk]at hs; exact b84 (call:=nc) i j hs
 · cases h
theorem a4T:∀ {places:List (Nat×Nat)} {is:List Nat} {qs:List (Nat×Nat)},a6s places is qs=true→is.map (fun i=>places[i]?)=qs.map some
 | _,[],[],_=>rfl
 | places,i::is,q::qs,h=>by simp only[a6s,AA,beq_iff_eq]at h;simp only[AG,h.1,a4T h.2]
theorem b93 {zero:List AV} {i:List (Nat×Nat)} (hk:p.kind=.build zero i) (h:a7w c o p zero i=true):OpK c o p:=by
 unfold a7w at h; split at h
 · rename_i t parts y;simp only[AA]at h;obtain⟨⟨j,x⟩,h⟩:=h;split at j
   · rename_i places l;obtain⟨z,B,u⟩:=a1Z x;refine m0 h fun {g w pr bx σ a call r b' b st'} D v hs=>?_
     rw[hk]at hs;rw[List.map_map]at v;exact b6q (call:=nc) y l B u (a4T j) v hs
   · cases j
 · cases h
end
end Go.Cb
namespace Go.Cb
open Classical
section
variable {c:Cx} {o:Oper} {p:AOper}
theorem b6e {G:Nat} {zero:List (List AV)} {at_:List Nat} (hk:p.kind=.bslice G zero at_) (h:a5D c o p G zero at_=true):OpK c o p:=by
 intro g w pr bx σ σ' a call next Q J _ F x j
 obtain⟨r,b',st',hs,u⟩:=l6 x;unfold a5D at h;split at h
 case h_2=>cases h
 rename_i t len parts Z;split at h
 case h_2=>cases h
 rename_i e hu;split at h
 case h_2=>cases h
 rename_i ie I zs B;split at h
 case h_2=>cases h
 rename_i z hz;simp only[AA,beq_iff_eq,decide_eq_true_eq]at h;obtain⟨⟨⟨⟨⟨⟨⟨⟨⟨M,N⟩,O⟩,S⟩,T⟩,U⟩,V⟩,W⟩,Y⟩,v⟩:=h;obtain⟨p1,p2,p3⟩:=Q8 Y;rw[hk]at hs;simp only[sem,H5]at hs;obtain⟨rs,D,hs⟩:=AK.1 hs;simp only[AH]at hs;obtain⟨rfl,rfl,rfl⟩:=hs;rw[p1,B9 p2]at u;subst u;have i:=P0 F p2;rw[List.map_map]at i;have l:I::zs=List.replicate len I:=by apply List.eq_replicate_iff.2;refine⟨U,fun y hy=>?_⟩;have E:=List.all_eq_true.1 V y hy;exact(D1 _ _).1 E
 exact b5x J F Z hu B hz M N O (by simpa using S) T l W i D p3 v j
theorem b48 {J:Nat} {zero:List (List AV)} {at_:List Nat} (hk:p.kind=.bsliceM J zero at_) (h:X2 c o p J zero at_=true):OpK c o p:=by
 intro g w pr bx σ σ' a call next Q N _ hS D j
 obtain⟨r,b',st',hs,i⟩:=l6 D;unfold X2 at h;split at h
 case h_2=>cases h
 rename_i t len parts ho;split at h
 case h_2=>cases h
 rename_i e hu;split at h
 case h_2=>cases h
 rename_i ie M zs E;split at h
 case h_2=>cases h
 rename_i z hz;simp only[AA,beq_iff_eq,decide_eq_true_eq]at h;simp only[Option.isNone_iff_eq_none]at h;obtain⟨⟨⟨⟨⟨⟨⟨⟨⟨⟨⟨O,S⟩,T⟩,U⟩,V⟩,W⟩,Y⟩,Z⟩,p1⟩,p3⟩,B⟩,v⟩:=h;split at B
 case h_2=>cases B
 rename_i x q hx I;rw[hk,I]at hs;simp only[sem,F3,AG,AL]at hs;obtain⟨rs,F,hs⟩:=AK.1 hs;simp only[AH]at hs;obtain⟨rfl,rfl,rfl⟩:=hs;rw[p1,I]at i;simp only[d9]at i;have u:(q.spend σ).st=σ.st:=by cases q<;>rfl
 rw[← u]at i;subst i;have l:M::zs=List.replicate len M:=by apply List.eq_replicate_iff.2;refine⟨W,fun y hy=>?_⟩;have G:=List.all_eq_true.1 Y y hy;exact(D1 _ _).1 G
 exact b2r N hS ho hu E hz O S T (by simpa using U) V l Z hx B F p3 v j
theorem b43 {N:Nat} {zero:List (List AV)} {at_:List Nat} (hk:p.kind=.bsliceO N zero at_) (h:X2 c o p N zero at_=true):OpK c o p:=by
 intro g w pr bx σ σ' a call next Q O _ hS B i
 obtain⟨r,b',st',hs,j⟩:=l6 B;unfold X2 at h;split at h
 case h_2=>cases h
 rename_i t len parts ho;split at h
 case h_2=>cases h
 rename_i e hu;split at h
 case h_2=>cases h
 rename_i ie I zs D;split at h
 case h_2=>cases h
 rename_i z hz;simp only[AA,beq_iff_eq,decide_eq_true_eq]at h;simp only[Option.isNone_iff_eq_none]at h;obtain⟨⟨⟨⟨⟨⟨⟨⟨⟨⟨⟨S,T⟩,U⟩,V⟩,W⟩,J⟩,Y⟩,Z⟩,p1⟩,p3⟩,v⟩,u⟩:=h;split at v
 case h_2=>cases v
 rename_i x q hx M;rw[hk,M]at hs;simp only[sem,F2,AG,AL]at hs;obtain⟨rs,E,hs⟩:=AK.1 hs;simp only[AH]at hs;obtain⟨rfl,rfl,rfl⟩:=hs;rw[p1,M]at j;simp only[d9]at j;subst j;have l:I::zs=List.replicate len I:=by apply List.eq_replicate_iff.2;refine⟨J,fun y hy=>?_⟩;have F:=List.all_eq_true.1 Y y hy;exact(D1 _ _).1 F
 have G:(I::zs).length=len:=J;rw[G]at i;exact b36 O hS ho hu D hz S T U (by simpa using V) W l Z hx v E p3 u i
theorem b7N {i:Nat} (hk:p.kind=.ldLcS i) (h:a6D c o p i=true):OpK c o p:=by
 intro g w pr bx σ σ' a call next Q I _ F B l
 obtain⟨r,b',st',hs,v⟩:=l6 B;unfold a6D at h; split at h
 · rename_i t x j S G;simp only[AA,beq_iff_eq,decide_eq_true_eq]at h;obtain⟨⟨⟨⟨rfl,J⟩,M⟩,E⟩,N⟩:=h;obtain⟨q,T,O⟩:=(P0 F E).one;rw[hk,T]at hs;simp only[q8,G,sem]at hs;unfold I6 at hs;split at hs<;>first|cases hs; done|skip
   rename_i j off cs u y;simp only[AM,and_true]at u;subst u;split at hs<;>first|cases hs; done|skip
   rename_i D;subst D;split at hs<;>first|cases hs; done|skip
   rename_i z U;simp only[AC,AH]at hs;obtain⟨rfl,rfl,rfl⟩:=hs;rw[G,B9 E]at v;subst v;exact b7Q I F (AD J) S M y U O.2 N l
 · cases h
theorem b0j (hk:p.kind=.ldStS) (h:a2w c o p=true):OpK c o p:=by
 intro g w pr bx σ σ' a call next Q D _ y v i
 obtain⟨r,b',st',hs,l⟩:=l6 v;unfold a2w at h; split at h
 · rename_i t x G;simp only[AA,beq_iff_eq]at h;obtain⟨E,h⟩:=h;obtain⟨p1,p2,p3⟩:=Q8 h;obtain⟨q,I,F⟩:=(P0 y p2).one;rw[hk,I]at hs;simp only[sem]at hs;unfold B2 at hs;split at hs<;>first|cases hs; done|skip
   rename_i M off j;simp only[AM,and_true]at j;subst j;split at hs<;>first|cases hs; done|skip
   rename_i cs u;split at hs<;>first|cases hs; done|skip
   rename_i z J;simp only[AC,AH]at hs;obtain⟨rfl,rfl,rfl⟩:=hs;rw[p1,B9 p2]at l;subst l;have B:=ValOK.rel F;simp only[Rel]at B;exact b9k D y G E u J B.2 p3 i
 · cases h
theorem c6S {i n:Nat} (hk:p.kind=.stLc i n) (h:a9A c o p i n=true):OpK c o p:=by
 intro g w pr bx σ σ' a call next Q fx _ M G v
 obtain⟨r,b',st',hs,l⟩:=l6 G;unfold a9A at h; split at h
 · rename_i t x y j S T ho hd I O N;simp only[Bool.and_eq_true,beq_iff_eq,decide_eq_true_eq]at h;obtain⟨⟨⟨⟨rfl,Z⟩,h1⟩,E⟩,h3⟩:=h;have J:=N4 M E;have B:S.spend σ=σ:=by simp only[M0,Bool.and_eq_true]at E;have:=E.2;cases S<;>simp_all [Opd.steals,Opd.spend]
   rw[hk,N]at hs;simp only[q8,O,sem,AG,AL]at hs;unfold J5 at hs;split at hs<;>first|cases hs; done|skip
   rename_i j off x' cs z F;simp only[AM,and_true]at z;obtain⟨W,Y⟩:=z;split at hs<;>first|cases hs; done|skip
   rename_i u;obtain⟨rfl,c1,U,V⟩:=u;simp only[AC,AH]at hs;obtain⟨rfl,rfl,rfl⟩:=hs;rw[O,N,I]at l;simp only[d9,B,Dst.put]at l;have D:(T.spend σ).st=σ.st:=by cases T<;>rfl
   subst Y;rw[← D]at l;subst l;rw[W]at J;exact c9z M (AD Z) ho h1 F J.2 h3 c1 U V hd v
 · cases h
theorem b13 {n:Nat} (hk:p.kind=.stSt n) (h:a3J c o p n=true):OpK c o p:=by
 intro g w pr bx σ σ' a call next Q fx _ G D j
 obtain⟨r,b',st',hs,l⟩:=l6 D;unfold a3J at h; split at h
 · rename_i t x y M q1 Z Y E W I;simp only[Bool.and_eq_true,beq_iff_eq]at h;obtain⟨⟨U,z⟩,V⟩:=h;have F:=N4 G z;have v:M.spend σ=σ:=by simp only[M0,Bool.and_eq_true]at z;have:=z.2;cases M<;>simp_all [Opd.steals,Opd.spend]
   rw[hk,I]at hs;simp only[sem,AG,AL]at hs;unfold D2 at hs;split at hs<;>first|cases hs; done|skip
   rename_i oo off x' u;simp only[AM,and_true]at u;obtain⟨S,T⟩:=u;split at hs<;>first|cases hs; done|skip
   rename_i cs B;split at hs<;>first|cases hs; done|skip
   rename_i i;obtain⟨c1,N,O⟩:=i;simp only[fL_eq,AC,AH]at hs;obtain⟨rfl,rfl,rfl⟩:=hs;rw[W,I,E]at l;simp only[d9,v,Dst.put]at l;subst T;subst l;rw[S]at F;have J:=ValOK.rel F;simp only[Rel]at J;exact d3A G Z U B J.2 V c1 N O Y j
 · cases h
theorem d0B {T:Nat} (hk:p.kind=.mset T) (h:a9V c o p T=true):OpK c o p:=by
 intro g w pr bx σ σ' a call next Q fx _ J O j
 obtain⟨r,b',st',hs,l⟩:=l6 O;unfold a9V at h;have key:∀ (t:TypeId) (m k x:Operand),(o.op=.mapUpdate t m k x∨o.op=.insert t m k x) →
  ((match c.P.underlying t with|some (.map U _)=>G8 c.P T U|_=>false) && o.dst.isNone && m6 c o p [m,k,x])=true→o.wp c.P a w next Q:=by
  intro t m k x u h;simp only[AA,Option.isNone_iff_eq_none]at h;obtain⟨⟨F,G⟩,h⟩:=h;split at F
  case h_2=>cases F
  rename_i U Z hu;obtain⟨p1,p2,p3⟩:=Q8 h;obtain⟨q0,q1,q2,W,I,y,z⟩:=(P0 J p2).three;rw[hk,W]at hs;simp only[sem]at hs;unfold R1 at hs;split at hs<;>first|cases hs; done|skip
  rename_i oo kv xv B;simp only[AM,and_true]at B;obtain⟨rfl,rfl,rfl⟩:=B;split at hs<;>first|cases hs; done|skip
  rename_i E;split at hs<;>first|cases hs; done|skip
  rename_i es D;have S:=ValOK.rel I;simp only[Rel]at S;have M:p.dst=.none:=by rw[G]at p3;cases V:p.dst<;>simp_all [q6]
  rw[p1,B9 p2,M]at l;simp only[Dst.put]at l;subst l;split at hs
  · rename_i i v N;simp only[AC,AH]at hs;obtain⟨rfl,rfl,rfl⟩:=hs;exact b1F J u hu F D S.2 y z E G (by rw[N]) j
  · rename_i N;obtain⟨zz,Y,hs⟩:=Option.bind_eq_some_iff.1 hs;simp only[AC,AH]at hs;obtain⟨rfl,rfl,rfl⟩:=hs;exact b1F J u hu F D S.2 y z E G (by rw[N]; simp[Y]) j
  · cases hs
 split at h
 · rename_i t m k x u; exact key t m k x (.inl u) h
 · rename_i t m k x u; exact key t m k x (.inr u) h
 · cases h
theorem d5j {N bytes:Nat} (hk:p.kind=.app N bytes) (h:b4I c o p N bytes=true):OpK c o p:=by
 intro g w pr bx σ σ' a call next Q V _ hS G l
 obtain⟨r,b',st',hs,j⟩:=l6 G;unfold b4I at h; split at h
 · rename_i x y t t' D M ho J;simp only[AA,beq_iff_eq,Option.isNone_iff_eq_none]at h;obtain⟨⟨⟨⟨⟨⟨rfl,u⟩,W⟩,Y⟩,F⟩,Z⟩,h6⟩:=h;split at u<;>first|cases u; done|skip
   rename_i e hu;split at u<;>first|cases u; done|skip
   rename_i ie I;simp only[AA,beq_iff_eq,decide_eq_true_eq]at u;obtain⟨⟨⟨z1,z2⟩,z3⟩,z4⟩:=u;split at z4<;>first|cases z4; done|skip
   rename_i z hz;simp only[beq_iff_eq]at z4;have B:M.spend (D.spend σ)=D.spend σ:=by simp only[M0,Bool.and_eq_true]at F;have:=F.2;cases M<;>simp_all [Opd.steals,Opd.spend]
   rw[hk,J]at hs;simp only[sem,AG,AL]at hs;unfold Q3 at hs;split at hs<;>first|cases hs; done|skip
   rename_i xs own ys v;simp only[AM,and_true]at v;obtain⟨T,U⟩:=v;split at hs<;>first|cases hs; done|skip
   rename_i i;simp only[AA,decide_eq_true_eq]at i;obtain⟨⟨c1,O⟩,S⟩:=i;simp only[AC,AH]at hs;obtain⟨rfl,rfl,rfl⟩:=hs;rw[W,J]at j;simp only[d9,B]at j;have E:(D.spend σ).st=σ.st:=by cases D<;>rfl
   rw[← E]at j;subst j;exact b6A V hS ho rfl hu I hz z1 z2 z4 z3 Y F Z h6 T U c1 O S l
 · cases h
theorem d3B {I bytes:Nat} (hk:p.kind=.appM I bytes) (h:a9S c o p I bytes=true):OpK c o p:=by
 intro g w pr bx σ σ' a call next Q J _ T D i
 obtain⟨r,b',st',hs,j⟩:=l6 D;unfold a9S at h; split at h
 · rename_i x y t t' q0 G gs U F;simp only[AA,beq_iff_eq,Option.isNone_iff_eq_none]at h;obtain⟨⟨⟨⟨⟨⟨⟨rfl,l⟩,M⟩,N⟩,B⟩,O⟩,h6⟩,S⟩:=h;split at l<;>first|cases l; done|skip
   rename_i e hu;split at l<;>first|cases l; done|skip
   rename_i ie E;simp only[AA,beq_iff_eq,decide_eq_true_eq]at l;obtain⟨⟨⟨Z,z2⟩,z3⟩,z4⟩:=l;split at z4<;>first|cases z4; done|skip
   rename_i z W;simp only[beq_iff_eq]at z4;have u:∀ τ:Sig,G.spend τ=τ:=fun τ=>by simp only[M0,Bool.and_eq_true]at B;have:=B.2;cases G<;>simp_all [Opd.steals,Opd.spend]
   have v:∀ (gs:List Opd) (τ:Sig),gs.all (fun q=>!q.steals)=true→d9 gs τ=τ:=by
    intro gs;induction gs with
    | nil=>intro τ _; rfl
    | cons q gs Y =>
     intro τ hg;simp only[List.all_cons,Bool.and_eq_true]at hg;have V:q.spend τ=τ:=by have:=hg.1;cases q<;>simp_all [Opd.steals,Opd.spend]
     rw[d9,V];exact Y τ hg.2
   rw[hk,F]at hs;simp only[sem,AG]at hs;rw[M,F]at j;simp only[d9,u,v gs _ S]at j;subst j;exact c39 J T U rfl hu E W Z z2 z4 z3 N B O hs i
 · cases h
theorem d3F {bytes:Nat} (hk:p.kind=.appA bytes) (h:b0r c o p bytes=true):OpK c o p:=by
 intro g w pr bx σ σ' a call next Q S _ W O u
 obtain⟨r,b',st',hs,j⟩:=l6 O;unfold b0r at h; split at h
 · rename_i x y t t' G q1 Z Y;simp only[AA,beq_iff_eq,Option.isNone_iff_eq_none]at h;obtain⟨⟨⟨⟨⟨⟨rfl,v⟩,h2⟩,T⟩,F⟩,U⟩,V⟩:=h;split at v<;>first|cases v; done|skip
   rename_i e hu;split at v<;>first|cases v; done|skip
   rename_i ie D;simp only[AA,beq_iff_eq,decide_eq_true_eq]at v;obtain⟨⟨⟨z1,z2⟩,z3⟩,z4⟩:=v;split at z4<;>first|cases z4; done|skip
   rename_i z hz;simp only[beq_iff_eq]at z4;have E:q1.spend (G.spend σ)=G.spend σ:=by simp only[M0,Bool.and_eq_true]at F;have:=F.2;cases q1<;>simp_all [Opd.steals,Opd.spend]
   have B:(G.spend σ).st=σ.st:=by cases G<;>rfl
   rw[hk,Y]at hs;simp only[sem,AG,AL]at hs;rw[h2,Y]at j;simp only[d9,E]at j;unfold U5 at hs;split at hs<;>first|cases hs; done|skip
   · rename_i xs l;simp only[AM,and_true]at l;obtain⟨J,M⟩:=l;split at hs<;>first|cases hs; done|skip
     rename_i i;simp only[AA,decide_eq_true_eq]at i;obtain⟨c1,I⟩:=i;simp only[AC,AH]at hs;obtain⟨rfl,rfl,rfl⟩:=hs;rw[← B]at j;subst j;exact b6s S W Z rfl hu D hz z1 z2 z4 z3 T F U V J M c1 I u
   · rename_i xs ob n l;simp only[AM,and_true]at l;obtain⟨J,M⟩:=l;split at hs<;>first|cases hs; done|skip
     rename_i cs N;split at hs<;>first|cases hs; done|skip
     rename_i i;simp only[AA,decide_eq_true_eq]at i;obtain⟨⟨c1,c4⟩,I⟩:=i;simp only[AC,AH]at hs;obtain⟨rfl,rfl,rfl⟩:=hs;rw[← B]at j;subst j;obtain rfl:=Nat.eq_of_beq_eq_true c4;exact c9B S W Z rfl hu D hz z1 z2 z4 z3 T F U V J M N c1 I u
 · cases h
theorem d4v (hk:p.kind=.b2s) (h:b3F c o p=true):OpK c o p:=by
 unfold b3F at h; split at h
 · rename_i t u x v;simp only[AA]at h;obtain⟨hu,h⟩:=h;split at hu
   · rename_i e i j;split at hu
     · rename_i l;exact m0 h fun z y hs=>by rw[hk]at hs; exact d15 (call:=nc) v i l j y hs
     · cases hu
   · cases hu
 · cases h
theorem b18 {f:Nat} (hk:p.kind=.call f) (h:a3P c o p f=true):OpK c o p:=by
 intro g w pr bx σ σ' a call next Q G J t B j
 obtain⟨r,b',st',hs,l⟩:=l6 B;unfold a3P at h; split at h
 · rename_i F xs E M;simp only[AA,beq_iff_eq]at h;obtain⟨rfl,h⟩:=h;obtain⟨p1,p2,p3⟩:=Q8 h;have I:=P0 t p2;rw[hk]at hs;simp only[sem,n6]at hs;split at hs<;>first|cases hs; done|skip
   rename_i D;obtain⟨⟨v,st2⟩,i,hs⟩:=AK.1 hs;simp only[AH]at hs;obtain⟨rfl,rfl,rfl⟩:=hs;rw[p1,B9 p2]at l;subst l;obtain⟨z,u⟩:=J _ _ _ _ _ i (fun x N=>by obtain⟨y,_,rfl⟩:=List.mem_map.1 N; exact E3 y);refine a8N G t (f:=F) (vs:=xs.map a.eval) ?_ ?_ p3 j
   · unfold execOp;simp only[M,resolve,Deferred.ofValue,Act.eval,Sem.run_bind,Sem.run_pure,Result.andThen_ok,invoke,Array.append_empty,Array.empty_append];exact a1Q z _ _
   · have:=u g w _ t.st t.gl (Y4 I D);have e:(xs.toList.map a.eval).toArray=xs.map a.eval:=by apply Array.ext'; simp
     rw[e]at this;exact this
 · cases h
theorem b82 (hk:p.kind=.callV) (h:a7I c o p=true):OpK c o p:=by
 intro g w pr bx σ σ' a call next Q fx hc I T t
 obtain⟨r,b',st',hs,E⟩:=l6 T;unfold a7I at h; split at h
 · rename_i s xs a0 ho;obtain⟨p1,p2,p3⟩:=Q8 h;obtain⟨q,qs,hq,M,hA⟩:=(P0 I p2).cons_inv;rw[hk,hq]at hs;simp only[sem]at hs;unfold D5 at hs;split at hs<;>first|cases hs; done|skip
   rename_i f first Y as B
   simp only[AM]at B;obtain⟨rfl,rfl⟩:=B;split at hs<;>first|cases hs; done|skip
   rename_i U;obtain⟨⟨v,st2⟩,j,hs⟩:=AK.1 hs;simp only[AH]at hs;obtain⟨rfl,rfl,rfl⟩:=hs;rw[p1,B9 p2]at E;subst E;obtain⟨O,N⟩:=hc _ _ _ _ _ j (fun x hx=>by obtain⟨y,_,rfl⟩:=List.mem_map.1 hx; exact E3 y);have J:=ValOK.rel M;simp only[Rel]at J;obtain⟨G,F,S,V,W⟩:=J;refine a8N fx I (f:=f) (vs:=G++xs.map a.eval++F) ?_ ?_ p3 t
   · unfold execOp;simp only[ho,resolve,S,Deferred.ofValue,Sem.run_bind,Sem.run_pure,Result.andThen_ok,invoke];exact a1Q O _ _
   · have Z:∀ {l:List AV} {us:List Value},RelL g w l us→RelL g w (l.map AV.weak) us:=fun {l} {us} hl=>RelL.of_get (by rw[AF]; exact hl.length) fun i y u hy hu=>by rw[AQ]at hy;obtain⟨z,hz,rfl⟩:=AK.1 hy;obtain⟨u',D,J⟩:=hl.get hz;rw[hu]at D;cases D;exact J.weak
     have:=N g w (G.toList++xs.toList.map a.eval++F.toList) I.st I.gl (by rw[AR,AR];exact((Z V).append (Y4 hA U)).append (Z W));have e:(G.toList++xs.toList.map a.eval++F.toList).toArray=G++xs.map a.eval++F:=by apply Array.ext'; simp
     rw[e]at this;exact this
 · cases h
theorem b0V {q:Opd} (h:(!q.steals)=true) (σ:Sig):q.spend σ=σ:=by cases q<;>simp_all [Opd.steals,Opd.spend]
theorem a2v:∀ {qs:List Opd},T9 qs=true→∀ σ:Sig,d9 qs σ=σ
 | [],_,_=>rfl
 | q::qs,h,σ=>by simp only[T9,List.all_cons,AA]at h;rw[d9,b0V h.1];exact a2v h.2 σ
theorem a4k:∀ (i qs:List Opd) (σ:Sig),d9 (i++qs) σ=d9 qs (d9 i σ)
 | [],_,_=>rfl
 | p::i,qs,σ=>by rw[List.cons_append,d9,d9,a4k i]
theorem a2D {j:AOper} {m:Nat} (hk:OpK c o j) (I:j.dst=p.dst) (F:j.box=p.box) (E:j.args=p.args.take m) (J:T9 (p.args.drop m)=true)
 (hs:∀ {call:d8} {σ:Sig} {r b':AV} {st':St},sem p.kind call (p.args.map (·.read σ)) (q8 p σ) σ.st=some (r,b',st')→sem j.kind call (j.args.map (·.read σ)) (q8 j σ) σ.st=some (r,b',st')):OpK c o p:=by
 intro g w pr bx σ σ' a call next Q z G D v l
 obtain⟨r,b',st',B,y⟩:=l6 v;refine hk z G D (σ':=σ') ?_ l;have u:=hs B;rw[J4];have x:d9 p.args σ=d9 j.args σ:=by
  rw[E];conv=>lhs; rw[← List.take_append_drop m p.args]
  rw[a4k,a2v J]
 rw[y,x,← I,← F];cases t:j.box with
 | none=>simp only[q8,t]at u ⊢; rw[u]
 | some i=>simp only[q8,t]at u ⊢; rw[u]
theorem b7M {i:Bool} {n:Nat} (hk:p.kind=.ldStR i n) (h:(S0 c o p.bare i n && T9 p.beside)=true):OpK c o p:=by
 simp only[AA]at h;have e:p.bare={ p with kind:=.ldSt i n,args:=p.args.take 1 }:=by unfold AOper.bare; rw[hk]
 have l:p.beside=p.args.drop 1:=by unfold AOper.beside; rw[hk]
 rw[e,l]at h;refine @a2D c o p { p with kind:=.ldSt i n,args:=p.args.take 1 } 1 (b1G (p:={ p with kind:=.ldSt i n,args:=p.args.take 1 }) rfl h.1) rfl rfl rfl h.2 ?_;intro call σ r b' st' hs;rw[hk]at hs;simp only[sem]at hs ⊢;unfold C0 at hs;split at hs<;>first|cases hs; done|skip
 rename_i t off rt j;split at hs<;>first|cases hs; done|skip
 split at hs<;>first|cases hs; done|skip
 rw[List.map_take,j];exact hs
theorem b6i {d:Nat} (hk:p.kind=.ldStSR d) (h:(a2w c o p.bare && T9 p.beside)=true):OpK c o p:=by
 simp only[AA]at h;have e:p.bare={ p with kind:=.ldStS,args:=p.args.take 1 }:=by unfold AOper.bare; rw[hk]
 have j:p.beside=p.args.drop 1:=by unfold AOper.beside; rw[hk]
 rw[e,j]at h;refine @a2D c o p { p with kind:=.ldStS,args:=p.args.take 1 } 1 (b0j (p:={ p with kind:=.ldStS,args:=p.args.take 1 }) rfl h.1) rfl rfl rfl h.2 ?_;intro call σ r b' st' hs;rw[hk]at hs;simp only[sem]at hs ⊢;unfold C8 at hs;split at hs<;>first|cases hs; done|skip
 rename_i l off t f i;split at hs<;>first|cases hs; done|skip
 rw[List.map_take,i];exact hs
theorem b74 {n:Nat} (hk:p.kind=.stStA n) (h:(a3J c o p.bare n && T9 p.beside)=true):OpK c o p:=by
 simp only[AA]at h;have e:p.bare={ p with kind:=.stSt n,args:=p.args.take 2 }:=by unfold AOper.bare; rw[hk]
 have j:p.beside=p.args.drop 2:=by unfold AOper.beside; rw[hk]
 rw[e,j]at h;refine @a2D c o p { p with kind:=.stSt n,args:=p.args.take 2 } 2 (b13 (p:={ p with kind:=.stSt n,args:=p.args.take 2 }) rfl h.1) rfl rfl rfl h.2 ?_;intro call σ r b' st' hs;rw[hk]at hs;simp only[sem]at hs ⊢;unfold C4 at hs;split at hs<;>first|cases hs; done|skip
 rename_i l off x rt gs i;split at hs<;>first|cases hs; done|skip
 split at hs<;>first|cases hs; done|skip
 rw[List.map_take,i];exact hs
theorem b7f {f m:Nat} (hk:p.kind=.callA f m) (h:(a3P c o p.bare f && T9 p.beside)=true):OpK c o p:=by
 simp only[AA]at h;have e:p.bare={ p with kind:=.call f,args:=p.args.take m }:=by unfold AOper.bare; rw[hk]
 have j:p.beside=p.args.drop m:=by unfold AOper.beside; rw[hk]
 rw[e,j]at h;refine @a2D c o p { p with kind:=.call f,args:=p.args.take m } m (b18 (p:={ p with kind:=.call f,args:=p.args.take m }) rfl h.1) rfl rfl rfl h.2 ?_;intro call σ r b' st' hs;rw[hk]at hs;simp only[sem]at hs ⊢;unfold C5 at hs;split at hs<;>first|cases hs; done|skip
 rename_i v l t i;split at hs<;>first|cases hs; done|skip
 simp only[AC,AH]at hs;obtain⟨rfl,rfl,rfl⟩:=hs;rw[List.map_take];exact i
theorem b7X (hk:p.kind=.stuck):OpK c o p:=by
 intro g w pr bx σ σ' a call next Q t _ u i j
 obtain⟨r,b',st',hs,l⟩:=l6 i;rw[hk]at hs;cases hs
theorem c0r (h:a5Q c o p=true):OpK c o p:=by
 unfold a5Q at h;split at h
 case h_1 hk=>exact f8L hk h
 case h_2 hk=>exact c6s hk h
 case h_3 hk=>exact b6D hk h
 case h_4 hk=>exact b9d hk h
 case h_5 hk=>exact c74 hk h
 case h_6 hk=>exact b6C hk h
 case h_7 hk=>exact c8C hk h
 case h_8 hk=>exact b93 hk h
 case h_9 hk=>exact b6e hk h
 case h_10 hk=>exact b48 hk h
 case h_11 hk=>exact c93 hk h
 case h_12 hk=>exact b1G hk h
 case h_13 hk=>exact d2l hk h
 case h_14 hk=>exact d2f hk h
 case h_15 hk=>exact b7M hk h
 case h_16 hk=>exact b6i hk h
 case h_17 hk=>exact b74 hk h
 case h_18 hk=>exact b7f hk h
 case h_19 hk=>exact b7N hk h
 case h_20 hk=>exact b0j hk h
 case h_21 hk=>exact c6S hk h
 case h_22 hk=>exact b13 hk h
 case h_23 hk=>exact f2H hk h
 case h_24 hk=>exact d7f hk h
 case h_25 hk=>exact f0s hk h
 case h_26 hk=>exact c6R hk h
 case h_27 hk=>exact c4a hk h
 case h_28 hk=>exact f2q hk h
 case h_29 hk=>exact e7g hk h
 case h_30 hk=>exact d4E hk h
 case h_31 hk=>exact e8Z hk h
 case h_32 hk=>exact d4q hk h
 case h_33 hk=>exact c0Z hk h
 case h_34 hk=>exact c47 hk h
 case h_35 hk=>exact f5E hk h
 case h_36 hk=>exact d13 hk h
 case h_37 hk=>exact d5E hk h
 case h_38 hk=>exact f0Y hk h
 case h_39 hk=>exact c7T hk h
 case h_40 hk=>exact d0B hk h
 case h_41 hk=>exact d8U hk h
 case h_42 hk=>exact b18 hk h
 case h_43 hk=>exact b82 hk h
 case h_44 hk=>exact c6Y hk h
 case h_45 hk=>exact d3c hk h
 case h_46 hk=>exact d5j hk h
 case h_47 hk=>exact d3B hk h
 case h_48 hk=>exact d4v hk h
 case h_49 hk=>exact d3F hk h
 case h_50 hk=>exact b43 hk h
 case h_51 hk=>exact c4C hk h
 case h_52 hk=>exact c4X hk h
 case h_53 hk=>exact b7X hk
end
end Go.Cb
namespace Go.Cb
open Classical
inductive Atom where
 | t (s:Nat)|v (i:Nat)|st
 deriving DecidableEq
def Opd.atoms:Opd→List Atom
 | .t s|.ts s=>[.t s]
 | .v i|.vs i|.l i=>[.v i]
 | .c _=>[]
def Opd.spent:Opd→List Atom
 | .ts s=>[.t s]
 | .vs i=>[.v i]
 | _=>[]
def Kind.useSt:Kind→Bool
 | .allocO _|.boxO|.bsliceO ..|.appM ..|.appA _|.ldSt ..|.ldAn ..|.ldStR ..|.ldStSR _|.stStA _|.callA ..|.ldStS|.stSt _|.mkM|.mget ..|.mset _|.call _|.callV=>true
 | _=>false
def Kind.setSt:Kind→Bool
 | .allocO _|.boxO|.bsliceO ..|.appM ..|.ldStSR _|.stStA _|.callA ..|.ldStS|.stSt _|.mkM|.mset _|.call _|.callV=>true
 | _=>false
def Dst.atoms:Dst→List Atom
 | .t s=>[.t s]
 | .v i=>[.v i]
 | _=>[]
def AOper.reads (p:AOper):List Atom :=
 p.args.flatMap Opd.atoms++(match p.box with|some i=>[.v i]|none=>[])++(match p.guard with|some (x,_)=>x.atoms|none=>[])++(if p.kind.useSt then [.st]else [])
def AOper.writes (p:AOper):List Atom :=
 p.dst.atoms++p.args.flatMap Opd.spent++(match p.box with|some i=>if p.kind.alters then [.v i]else []|none=>[])++(if p.kind.setSt then [.st]else [])
def Atom.beq:Atom→Atom→Bool
 | .t a,.t b=>Nat.beq a b
 | .v a,.v b=>Nat.beq a b
 | .st,.st=>true
 | _,_=>false
def meets (x y:List Atom):Bool:=x.any fun a=>y.any (Atom.beq a)
def Kind.isLd:Kind→Bool
 | .ldSt ..|.ldAn ..|.ldStR ..=>true
 | _=>false
def Kind.upto:Kind→Option Nat
 | .appM ..=>some 2
 | .callA _ m=>some m
 | .stStA _=>some 3
 | _=>none
def Opd.same:Opd→Opd→Bool
 | .t a,.t b=>Nat.beq a b
 | .v a,.v b=>Nat.beq a b
 | _,_=>false
def b0M (p q:AOper):Bool:=p.box.isNone && q.box.isNone && T9 p.args
def b0s (p q:AOper):Bool:=!meets (p.dst.atoms) q.reads && !meets p.dst.atoms q.writes && !meets q.writes (p.args.flatMap Opd.atoms++p.dst.atoms++(match p.guard with|some (x,_)=>x.atoms|none=>[]))
def b6p (p q:AOper):Bool:=(match p.kind with|.ldStR ..=>true|_=>false) && (match q.kind.upto,p.args with|some m,[_,r]=>(q.args.drop m).any (Opd.same r)|_,_=>false)
def b5Y (p q:AOper):Bool:=match p.kind,q.kind,p.args with|.stStA _,.stStA _,_::_::r::_=>(q.args.drop 3).any (Opd.same r)|_,_,_=>false
def Kind.isSt:Kind→Bool
 | .ldStS|.ldStSR _=>true
 | _=>false
def f1z (p q:AOper):Bool:=(p.kind.isSt && q.kind.isLd) || (p.kind.isLd && q.kind.isSt)
def b65 (p q:AOper):Bool:=match p.kind,q.kind,p.args,q.args with|.ldStSR d,.ldStSR e,[_,r],[_,s]=>Opd.same r s && !Nat.beq d e|_,_,_,_=>false
def a0Y (p q:AOper):Bool:=b0M p q && b0s p q && (b6p p q || b5Y p q || f1z p q || b65 p q)
def V4 (p q:AOper):Bool:=!meets p.writes q.reads && !meets p.writes q.writes && !meets q.writes p.reads
def a0v (p q:AOper):Bool:=V4 p q || a0Y p q
def n7 (ops:Array Oper) (j:Nat):List Nat:=match ops[j]? with
 | some o=>o.after.toList.filterMap fun e=>if Region.binds .any e then some e.on else none
 | none=>[]
def X4 (ops:Array Oper):Nat→List Nat→List Nat
 | 0,l=>l
 | n+1,l=>l++X4 ops n (l.flatMap (n7 ops))
def Atom.same (x:Atom) (σ1 σ2:Sig):Prop:=match x with
 | .t s=>σ1.τ s=σ2.τ s
 | .v i=>σ1.fr.getD i .undef=σ2.fr.getD i .undef
 | .st=>σ1.st=σ2.st
theorem Atom.same_refl (x:Atom) (σ:Sig):x.same σ σ:=by cases x<;>rfl
theorem Atom.same_trans {x:Atom} {σ1 σ2 i:Sig} (h:x.same σ1 σ2) (j:x.same σ2 i):x.same σ1 i:=by cases x<;>exact Eq.trans h j
theorem Atom.same_symm {x:Atom} {σ1 σ2:Sig} (h:x.same σ1 σ2):x.same σ2 σ1:=by cases x<;>exact Eq.symm h
theorem Sig.ext_atoms {σ1 σ2:Sig} (hl:σ1.fr.length=σ2.fr.length) (h:∀ x:Atom,x.same σ1 σ2):σ1=σ2:=by
 obtain⟨j,y,u⟩:=σ1;obtain⟨l,z,st2⟩:=σ2;have B:y=z:=funext fun s=>h (.t s)
 have D:u=st2:=h .st;have E:j=l:=by apply List.ext_getElem hl;intro i F G;have:=h (.v i);simp only[Atom.same]at this;simpa[F,G]using this
 rw[B,D,E]
theorem Atom.beq_iff (x y:Atom):Atom.beq x y=true↔x=y:=by cases x<;>cases y<;>simp[Atom.beq]
theorem F1 {xs ys:List Atom} (h:meets xs ys=false):∀ x∈xs,x ∉ ys:=by
 intro x i j;have:meets xs ys=true:=by unfold meets;rw[List.any_eq_true];refine⟨x,i,?_⟩;rw[List.any_eq_true];exact⟨x,j,(Atom.beq_iff x x).2 rfl⟩
 rw[h]at this; cases this
theorem X3 {q:Opd} {σ1 σ2:Sig} (h:∀ x∈q.atoms,x.same σ1 σ2):q.read σ1=q.read σ2:=by cases q<;>simp only[Opd.atoms,List.mem_cons,List.not_mem_nil,or_false,forall_eq,false_imp_iff,implies_true,Atom.same]at h<;>simp only[Opd.read]<;>first|rw[h]|rfl
theorem M1 (fr:List AV) (i j:Nat) (a:AV):(fr.set i a).getD j .undef=if i=j∧i < fr.length then a else fr.getD j .undef:=by
 rw[List.getD_eq_getElem?_getD,List.getElem?_set];by_cases e:i=j
 · subst e;rw[if_pos rfl];by_cases hl:i < fr.length
   · rw[if_pos hl,if_pos ⟨rfl,hl⟩]; rfl
   · rw[if_neg hl,if_neg (fun h=>hl h.2)];simp[hl]
 · rw[if_neg e,if_neg (fun h=>e h.1),List.getD_eq_getElem?_getD]
theorem a3O (q:Opd) (σ:Sig):(q.spend σ).fr.length=σ.fr.length:=by cases q<;>simp[Opd.spend]
theorem I3:∀ (qs:List Opd) (σ:Sig),(d9 qs σ).fr.length=σ.fr.length
 | [],_=>rfl
 | q::qs,σ=>by rw[d9,I3 qs,a3O]
theorem a05 (d:Dst) (r:AV) (σ:Sig):(d.put r σ).fr.length=σ.fr.length:=by cases d<;>simp[Dst.put]
theorem a6y {q:Opd} {σ1 σ2:Sig} (hl:σ1.fr.length=σ2.fr.length) {x:Atom} (h:x.same σ1 σ2) (j:∀ x∈q.spent,x.same σ1 σ2):x.same (q.spend σ1) (q.spend σ2):=by
 cases q<;>simp only[Opd.spend]<;>try exact h
 · rename_i s;have hs:=j (.t s) (by simp[Opd.spent]);cases x<;>simp only[Atom.same]at*<;> try exact h
   simp only[q9];split
   · rw[hs]
   · exact h
 · rename_i i;have hs:=j (.v i) (by simp[Opd.spent]);cases x<;>simp only[Atom.same]at*<;> try exact h
   rw[M1,M1,hl,hs,h]
theorem a0y:∀ {qs:List Opd} {σ1 σ2:Sig},σ1.fr.length=σ2.fr.length→∀ {x:Atom},x.same σ1 σ2→(∀ q∈qs,∀ x∈q.spent,x.same σ1 σ2)→x.same (d9 qs σ1) (d9 qs σ2)
 | [],_,_,_,_,h,_=>h
 | q::qs,σ1,σ2,hl,x,h,hq=>by
  simp only[d9];have l:∀ y∈q.spent,y.same σ1 σ2:=fun y j=>hq q (by simp) y j
  exact a0y (by rw[a3O,a3O,hl]) (a6y hl h l) fun t i y j=>a6y hl (hq t (by simp[i]) y j) l
theorem b1u {q:Opd} {σ:Sig} {x:Atom} (h:x ∉ q.spent):x.same (q.spend σ) σ:=by
 cases q<;>simp only[Opd.spend]<;>try exact x.same_refl _
 · rename_i s;simp only[Opd.spent,List.mem_cons,List.not_mem_nil,or_false]at h;cases x<;>simp only[Atom.same];rename_i t;simp only[q9];rw[if_neg];simp only[Nat.beq_eq];intro e; exact h (by rw[e])
 · rename_i i;simp only[Opd.spent,List.mem_cons,List.not_mem_nil,or_false]at h;cases x<;>simp only[Atom.same];rename_i j;rw[M1,if_neg];intro e; exact h (by rw[e.1])
theorem a2s:∀ {qs:List Opd} {σ:Sig} {x:Atom},x ∉ qs.flatMap Opd.spent→x.same (d9 qs σ) σ
 | [],_,x,_=>x.same_refl _
 | q::qs,σ,x,h=>by simp only[List.flatMap_cons,AP,not_or]at h;exact Atom.same_trans (x:=x) (a2s (qs:=qs) (σ:=q.spend σ) h.2) (b1u h.1)
theorem a1h {d:Dst} {r:AV} {σ1 σ2:Sig} (hl:σ1.fr.length=σ2.fr.length) {x:Atom} (h:x.same σ1 σ2∨x∈d.atoms):x.same (d.put r σ1) (d.put r σ2):=by
 cases d<;>simp only[Dst.put,Dst.atoms,List.mem_cons,List.not_mem_nil,or_false]at h ⊢<;>try exact h
 · rename_i s;cases x<;>simp only[Atom.same,reduceCtorEq,or_false,Atom.t.injEq]at h ⊢<;>try exact h
   rename_i t;simp only[q9];split
   · rfl
   · rename_i l;rcases h with h|h
     · exact h
     · exact absurd (by simp[h]) l
 · rename_i i;cases x<;>simp only[Atom.same,reduceCtorEq,or_false,Atom.v.injEq]at h ⊢<;>try exact h
   rename_i j;rw[M1,M1,hl];split
   · rfl
   · rename_i l;rcases h with h|rfl
     · exact h
     · have:¬ j < σ2.fr.length:=fun u=>l ⟨rfl,u⟩
       simp[show ¬ j < σ1.fr.length by omega,this]
theorem a1F {d:Dst} {r:AV} {σ:Sig} {x:Atom} (h:x ∉ d.atoms):x.same (d.put r σ) σ:=by
 cases d<;>simp only[Dst.put,Dst.atoms,List.mem_cons,List.not_mem_nil,or_false]at h ⊢<;>try exact x.same_refl _
 · rename_i s;cases x<;>simp only[Atom.same];rename_i t;simp only[q9];rw[if_neg];simp only[Nat.beq_eq];intro e; exact h (by rw[e])
 · rename_i i;cases x<;>simp only[Atom.same];rename_i j;rw[M1,if_neg];intro e; exact h (by rw[e.1])
theorem b38 {i:Nat} {b:AV} {l st2:St} {σ1 σ2:Sig} (hl:σ1.fr.length=σ2.fr.length) {x:Atom} (h:x.same { σ1 with st:=l } { σ2 with st:=st2 }∨x=.v i) :
 x.same { σ1 with fr:=σ1.fr.set i b,st:=l } { σ2 with fr:=σ2.fr.set i b,st:=st2 }:=by
 cases x<;>simp only[Atom.same,reduceCtorEq,or_false,Atom.v.injEq]at h ⊢<;>try exact h
 rename_i j;rw[M1,M1,hl];split
 · rfl
 · rename_i u;rcases h with h|rfl
   · exact h
   · have:¬ j < σ2.fr.length:=fun t=>u ⟨rfl,t⟩
     simp[show ¬ j < σ1.fr.length by omega,this]
theorem a1w {k:Kind} (hk:k.setSt=false) {call:d8} {as:List AV} {b r b':AV} {st st':St} (h:sem k call as b st=some (r,b',st')):st'=st:=by
 cases k<;>simp only[Kind.setSt,Bool.true_eq_false]at hk<;>simp only[sem,a0k,A9,B6,O8,Q5,E4,J9,I9,H5,F3,F2,R3,Q6,B8,C0,C8,C4,C5,G4,B0,J7,D3,I6,B2,J5,D2,K6,P8,I1,E0,H8,N3,L4,T1,P9,z6,N8,I0,W2,O1,S2,S8,Q7,R1,M7,n6,D5,N7,G2,Q3,Q2,U5]at h;all_goals (repeat' split at h)
 all_goals first
  | (cases h; done)
  | (simp only[AC,AH]at h; exact h.2.2.symm)
  | (obtain⟨z,i,h⟩:=AK.1 h; simp only[AH]at h; exact h.2.2.symm)
  | (obtain⟨⟨l,u⟩,i,h⟩:=AK.1 h; simp only[AH]at h; exact h.2.2.symm)
theorem b2A {f:Nat} {call:d8} {as:List AV} {b r b':AV} {st st':St} (h:n6 f call as b st=some (r,b',st')):b'=b:=by
 unfold n6 at h;split at h
 · obtain⟨⟨v,s⟩,_,h⟩:=AK.1 h;simp only[AH]at h;exact h.2.1.symm
 · cases h
theorem b8I {f m:Nat} {call:d8} {as:List AV} {b r b':AV} {st st':St} (h:C5 f m call as b st=some (r,b',st')):b'=b:=by
 unfold C5 at h;split at h<;>first|cases h; done|skip
 rename_i i;split at h<;>first|cases h; done|skip
 simp only[AC,AH]at h;obtain⟨_,rfl,_⟩:=h;exact b2A i
theorem a2o {k:Kind} (hk:k.alters=false) {call:d8} {as:List AV} {b r b':AV} {st st':St} (h:sem k call as b st=some (r,b',st')):b'=b:=by
 have j:∀ f m,k=.callA f m→b'=b:=fun f m e=>by subst e; exact b8I h
 cases k<;>simp only[Kind.alters,Bool.true_eq_false]at hk<;>simp only[sem,a0k,A9,B6,O8,Q5,E4,J9,I9,H5,F3,F2,R3,Q6,B8,C0,C8,C4,C5,G4,B0,J7,D3,I6,B2,J5,D2,K6,P8,I1,E0,H8,N3,L4,T1,P9,z6,N8,I0,W2,O1,S2,S8,Q7,R1,M7,n6,D5,N7,G2,Q3,Q2,U5]at h;all_goals first
  | exact j _ _ rfl
  | skip
 all_goals (repeat' split at h)
 all_goals first
  | (cases h; done)
  | (simp only[AC,AH]at h; exact h.2.1.symm)
  | (simp only[fL_eq,AC,AH]at h; exact h.2.1.symm)
  | (obtain⟨z,i,h⟩:=AK.1 h; simp only[AH]at h; exact h.2.1.symm)
  | (obtain⟨⟨l,u⟩,i,h⟩:=AK.1 h; simp only[AH]at h; exact h.2.1.symm)
  | (obtain⟨z,i,h⟩:=Option.bind_eq_some_iff.1 h; simp only[AC,AH]at h; exact h.2.1.symm)
theorem c85 {k:Kind} (hk:k.useSt=false) {call:d8} {as:List AV} {b r b':AV} {st st':St} (h:sem k call as b st=some (r,b',st')) (st2:St):sem k call as b st2=some (r,b',st2):=by
 cases k<;>simp only[Kind.useSt,Bool.true_eq_false]at hk<;>simp only[sem,a0k,A9,B6,O8,Q5,E4,J9,I9,H5,F3,F2,R3,Q6,B8,C0,C8,C4,C5,G4,B0,J7,D3,I6,B2,J5,D2,K6,P8,I1,E0,H8,N3,L4,T1,P9,z6,N8,I0,W2,O1,S2,S8,Q7,R1,M7,n6,D5,N7,G2,Q3,Q2,U5]at h ⊢;all_goals (repeat' split at h)
 all_goals first
  | (cases h; done)
  | (simp only[AC,AH]at h; obtain⟨rfl,rfl,rfl⟩:=h; simp_all; done)
  | (obtain⟨z,i,h⟩:=AK.1 h; simp only[AH]at h; obtain⟨rfl,rfl,rfl⟩:=h; simp_all; done)
  | (obtain⟨⟨l,u⟩,i,h⟩:=AK.1 h; simp only[AH]at h; obtain⟨rfl,rfl,rfl⟩:=h; simp_all; done)
  | skip
end Go.Cb
namespace Go.Cb
open Classical
section
variable {p q:AOper} {call:d8} {σ σ' σ1 σ2:Sig}
theorem a01 {r b':AV} {st':St} (h:sem p.kind call (p.args.map (·.read σ)) (q8 p σ) σ.st=some (r,b',st')) :
 y9 call p σ=some (p.dst.put r { d9 p.args σ with fr:=(match p.box with|some i=>(d9 p.args σ).fr.set i b'|none=>(d9 p.args σ).fr),st:=st' }):=by
 rw[J4];cases j:p.box with
 | none =>
  have e:q8 p σ=.undef:=by simp only[q8,j]
  rw[e]at h;simp only[j,h]
 | some i =>
  have e:q8 p σ=σ.fr.getD i .undef:=by simp only[q8,j]
  rw[e]at h;simp only[j,h]
theorem a2l {k:Kind} (h:k.setSt=true):k.useSt=true:=by cases k<;>first|rfl|cases h
theorem a2c (x:Opd):∀ y∈x.spent,y∈x.atoms:=by cases x<;>simp[Opd.spent,Opd.atoms]
theorem a0e:∀ (qs:List Opd) (σ:Sig),(d9 qs σ).st=σ.st
 | [],_=>rfl
 | x::qs,σ=>by rw[d9,a0e qs];cases x<;>rfl
theorem a08 (h:y9 call p σ=some σ'):(∀ x,x ∉ p.writes→x.same σ' σ)∧σ'.fr.length=σ.fr.length:=by
 obtain⟨r,b',st',hs,rfl⟩:=l6 h;refine⟨fun x D=>?_,?_⟩
 · simp only[AOper.writes,AP,not_or]at D;obtain⟨⟨⟨E,F⟩,z⟩,B⟩:=D;refine Atom.same_trans (a1F E) ?_;have l:=a2s (qs:=p.args) (σ:=σ) F;have u:x=.st→st'=σ.st:=fun e=>by
    subst e;cases hk:p.kind.setSt with
    | true=>rw[hk]at B; simp at B
    | false=>exact a1w hk hs
   cases y:p.box with
   | none =>
    cases x<;>simp only[Atom.same]at l ⊢
    · exact l
    · exact l
    · exact u rfl
   | some i =>
    cases x with
    | t s=>exact l
    | st=>exact u rfl
    | v j =>
     simp only[Atom.same]at l ⊢;rw[M1];split
     · rename_i G;obtain⟨rfl,_⟩:=G;cases hk:p.kind.alters with
       | true=>rw[y,hk]at z; simp at z
       | false =>rw[a2o hk hs];simp only[q8,y]
     · exact l
 · rw[a05];cases y:p.box with
   | none=>exact I3 _ _
   | some i=>simp[I3]
theorem b7q (hl:σ1.fr.length=σ2.fr.length) (M:∀ x∈p.reads,x.same σ1 σ2) {G:Sig} (h:y9 call p σ1=some G) :
 ∃ I,y9 call p σ2=some I∧∀ x:Atom,(x.same σ1 σ2∨x∈p.writes)→x.same G I:=by
 obtain⟨r,b',st',hs,rfl⟩:=l6 h;have z:p.args.map (·.read σ1)=p.args.map (·.read σ2):=List.map_congr_left fun y J=>X3 fun x hx=>M x (by simp only[AOper.reads,AP,List.mem_flatMap];exact .inl (.inl (.inl ⟨y,J,hx⟩)))
 have E:q8 p σ1=q8 p σ2:=by
  unfold q8;cases D:p.box with
  | none=>rfl
  | some i =>have:=M (.v i) (by simp[AOper.reads,D]);exact this
 have l:∀ y∈p.args,∀ x∈y.spent,x.same σ1 σ2:=fun y J x hx=>M x (by simp only[AOper.reads,AP,List.mem_flatMap];exact .inl (.inl (.inl ⟨y,J,a2c y x hx⟩)))
 have B:(d9 p.args σ1).fr.length=(d9 p.args σ2).fr.length:=by rw[I3,I3,hl]
 -- the meaning on the other side
 obtain⟨st2,N,u⟩:∃ st2,sem p.kind call (p.args.map (·.read σ2)) (q8 p σ2) σ2.st=some (r,b',st2)∧∀ x:Atom,(x.same σ1 σ2∨(x=.st∧p.kind.setSt=true))→x.same { d9 p.args σ1 with st:=st' } { d9 p.args σ2 with st:=st2 }:=by
  have other:∀ (st2:St) (x:Atom),x≠.st→x.same σ1 σ2→x.same { d9 p.args σ1 with st:=st' } { d9 p.args σ2 with st:=st2 }:=fun st2 x hx h=>by have:=a0y hl h l;cases x<;>first|exact this|exact absurd rfl hx
  cases hu:p.kind.useSt with
  | true =>
   have U:σ1.st=σ2.st:=M .st (by simp[AOper.reads,hu]);rw[z,E,U]at hs;refine⟨st',hs,fun x hx=>?_⟩;cases x with
   | st=>rfl
   | t s=>exact other _ _ (by simp) (hx.resolve_right (by simp))
   | v i=>exact other _ _ (by simp) (hx.resolve_right (by simp))
  | false =>
   have F:p.kind.setSt=false:=by
    cases hk:p.kind.setSt with
    | false=>rfl
    | true=>rw[a2l hk]at hu; cases hu
   have T:=a1w F hs;rw[z,E]at hs;refine⟨σ2.st,c85 hu hs σ2.st,fun x hx=>?_⟩;rw[F]at hx;have hx:=hx.resolve_right (by simp);cases x with
   | st=>rw[T]; exact hx
   | t s=>exact other _ _ (by simp) hx
   | v i=>exact other _ _ (by simp) hx
 refine⟨_,a01 N,fun x hx=>a1h ?_ ?_⟩
 · cases D:p.box with
   | none=>exact B
   | some i=>simp[B]
 · by_cases O:x∈p.dst.atoms
   · exact .inr O
   left
   -- either as before, or written
   have hx':x.same σ1 σ2∨(∃ i,p.box=some i∧x=.v i)∨(x=.st∧p.kind.setSt=true):=by
    rcases hx with hx|hx
    · exact .inl hx
    · simp only[AOper.writes,AP]at hx;rcases hx with((hx|hx)|hx)|hx
      · exact absurd hx O
      · obtain⟨y,J,hx⟩:=List.mem_flatMap.1 hx;exact .inl (l y J x hx)
      · right; left;cases D:p.box with
        | none=>rw[D]at hx; simp at hx
        | some i =>
         rw[D]at hx;refine⟨i,rfl,?_⟩;simp only at hx;split at hx
         · simpa using hx
         · simp at hx
      · right; right;split at hx
        · rename_i hk; exact⟨by simpa using hx,hk⟩
        · simp at hx
   cases D:p.box with
   | none =>
    rcases hx' with hx'|⟨i,hi,_⟩|hx'
    · exact u x (.inl hx')
    · rw[D]at hi; cases hi
    · exact u x (.inr hx')
   | some i =>
    refine b38 B ?_;rcases hx' with hx'|⟨j,S,e⟩|hx'
    · exact .inl (u x (.inl hx'))
    · rw[D]at S; cases S; exact .inr e
    · exact .inl (u x (.inr hx'))
theorem a4U {x:Opd} {want:Bool} (hg:p.guard=some (x,want)):∀ y∈x.atoms,y∈p.reads:=fun y i=>by simp only[AOper.reads,hg,AP];exact .inl (.inr i)
theorem a0T:∀ y∈p.dst.atoms,y∈p.writes:=fun y i=>by simp only[AOper.writes,AP];exact .inl (.inl (.inl i))
theorem P1 (h:i7 call p σ=some σ'):(∀ x,x ∉ p.writes→x.same σ' σ)∧σ'.fr.length=σ.fr.length:=by
 unfold i7 at h;have i:∀ {σ'},some (p.dst.put (.tuple []) σ)=some σ'→(∀ x,x ∉ p.writes→x.same σ' σ)∧σ'.fr.length=σ.fr.length:=fun {σ'} h=>by obtain rfl:=Option.some.inj h;exact⟨fun x l=>a1F fun j=>l (a0T x j),a05 _ _ _⟩
 split at h
 · exact a08 h
 · split at h
   · split at h
     · exact a08 h
     · exact i h
   · exact i h
   · cases h
theorem a6z (hl:σ1.fr.length=σ2.fr.length) (z:∀ x∈p.reads,x.same σ1 σ2) {j:Sig} (h:i7 call p σ1=some j) :
 ∃ l,i7 call p σ2=some l∧∀ x:Atom,(x.same σ1 σ2∨x∈p.writes)→x.same j l:=by
 have u:∀ {j},y9 call p σ1=some j→∃ l,y9 call p σ2=some l∧∀ x:Atom,(x.same σ1 σ2∨x∈p.writes)→x.same j l:=fun h=>b7q hl z h
 have t:∀ {j},some (p.dst.put (.tuple []) σ1)=some j→∃ l,some (p.dst.put (.tuple []) σ2)=some l∧∀ x:Atom,(x.same σ1 σ2∨x∈p.writes)→x.same j l:=fun {j} h=>by
  obtain rfl:=Option.some.inj h;refine⟨_,rfl,fun x hx=>?_⟩;by_cases F:x∈p.dst.atoms
  · exact a1h hl (.inr F)
  · refine a1h hl (.inl ?_);rcases hx with hx|hx
    · exact hx
    · simp only[AOper.writes,AP]at hx;rcases hx with((hx|hx)|hx)|hx
      · exact absurd hx F
      · obtain⟨y,E,hx⟩:=List.mem_flatMap.1 hx;exact z x (by simp only[AOper.reads,AP,List.mem_flatMap]; exact .inl (.inl (.inl ⟨y,E,a2c y x hx⟩)))
      · cases B:p.box with
        | none=>rw[B]at hx; simp at hx
        | some i =>
         rw[B]at hx;simp only at hx;split at hx
         · have:x=.v i:=by simpa using hx
           exact z x (by simp[AOper.reads,B,this])
         · simp at hx
      · split at hx
        · rename_i hk;have:x=.st:=by simpa using hx
          exact z x (by simp[AOper.reads,a2l hk,this])
        · simp at hx
 unfold i7 at h ⊢;cases hg:p.guard with
 | none=>simp only[hg]at h ⊢; exact u h
 | some G =>
  obtain⟨x,want⟩:=G;simp only[hg]at h ⊢;rw[← X3 (q:=x) (σ1:=σ1) fun y E=>z y (a4U hg y E)];split at h
  · rename_i b B;split at h
    · rename_i D;rw[if_pos D];exact u h
    · rename_i D;rw[if_neg D];exact t h
  · exact t h
  · cases h
theorem a8z (t:V4 p q=true) {σ1 σ2:Sig} (E:i7 call p σ=some σ1) (F:i7 call q σ1=some σ2) :
 ∃ l,i7 call q σ=some l∧i7 call p l=some σ2:=by
 simp only[V4,AA,Bool.not_eq_true']at t;obtain⟨⟨a1,a2⟩,a3⟩:=t;have a1:=F1 a1;have a2:=F1 a2;have a3:=F1 a3;obtain⟨f1,l1⟩:=P1 E;obtain⟨f2,l2⟩:=P1 F
 -- q first
 obtain⟨j,I,S⟩:=a6z (σ1:=σ1) (σ2:=σ) (p:=q) l1 (fun x B=>f1 x fun z=>a1 x z B) F;obtain⟨N,J⟩:=P1 I;obtain⟨u,G,sp⟩:=a6z (σ1:=σ) (σ2:=j) (p:=p) J.symm (fun x B=>Atom.same_symm (N x fun z=>a3 x z B)) E;obtain⟨M,O⟩:=P1 G;refine⟨j,I,?_⟩;rw[G];congr 1;refine Sig.ext_atoms (by rw[O,J,l2,l1]) fun x=>?_
 by_cases i:x∈p.writes
 · -- p wrote it last, in both
   have v:x.same σ1 u:=sp x (.inr i);have y:x.same σ2 σ1:=f2 x (a2 x i);exact Atom.same_symm (Atom.same_trans y v)
 · have v:x.same u j:=M x i;have y:x.same σ2 j:=S x (by
    by_cases D:x∈q.writes
    · exact .inr D
    · exact .inl (f1 x i))
   exact Atom.same_trans v (Atom.same_symm y)
theorem a5T {x y:Opd} (h:x.same y=true):x=y:=by cases x<;>cases y<;>simp[Opd.same]at h<;>rw[h]
theorem O7 {o:Option Nat} {n:Nat}:∀ {gs:List AV},J1 o n gs=true→∀ g∈gs,∃ p,L5 g=some p∧p < n∧o≠some p
 | [],_,g,hg=>by simp at hg
 | g0::gs,h,g,hg=>by
  simp only[J1,AA]at h;obtain⟨i,l⟩:=h;rcases List.mem_cons.1 hg with rfl|hg
  · split at i
    · rename_i p t;simp only[AA]at i;refine⟨p,t,by simpa using i.1,?_⟩;have j:=i.2;cases o with
      | none=>simp
      | some o =>simp only[Bool.not_eq_true']at j;intro e;simp only[AC]at e;subst e;simp at j
    · cases i
  · exact O7 l g hg
theorem a8n {st st':St}:∀ {gs:List AV},kept st st' gs=true→∀ g∈gs,∃ p,L5 g=some p∧st'[p]?=st[p]?
 | [],_,g,hg=>by simp at hg
 | g0::gs,h,g,hg=>by
  simp only[kept,AA]at h;obtain⟨i,j⟩:=h;rcases List.mem_cons.1 hg with rfl|hg
  · split at i
    · rename_i p u;refine⟨p,u,?_⟩;split at i
      · rename_i a b l t;rw[l,t,(a0s _ _).1 i]
      · cases i
    · cases i
  · exact a8n j g hg
theorem b3a {k:Kind} {m:Nat} (hk:k.upto=some m) {call:d8} {as:List AV} {b b' r:AV} {st st':St} (h:sem k call as b st=some (r,b',st')):∀ g∈as.drop m,∃ p,L5 g=some p∧st'[p]?=st[p]?:=by
 cases k<;>simp only[Kind.upto,AC,reduceCtorEq]at hk
 · -- stStA
   subst hk;simp only[sem]at h;unfold C4 at h;split at h<;>first|cases h; done|skip
   rename_i o off x rt gs;split at h<;>first|cases h; done|skip
   split at h<;>first|cases h; done|skip
   rename_i i;intro g hg;obtain⟨p,j,hl,l⟩:=O7 i.2 g (by simpa using hg);refine⟨p,j,?_⟩;simp only[D2]at h;split at h<;>first|cases h; done|skip
   split at h<;>first|cases h; done|skip
   simp only[fL_eq,AC,AH]at h;obtain⟨_,_,rfl⟩:=h;exact List.getElem?_set_ne fun e=>l (by rw[e])
 · -- callA
   subst hk;simp only[sem]at h;unfold C5 at h;split at h<;>first|cases h; done|skip
   split at h<;>first|cases h; done|skip
   rename_i i;simp only[AC,AH]at h;obtain⟨_,_,rfl⟩:=h;exact fun g hg=>a8n i g hg
 · -- appM
   subst hk;simp only[sem]at h;unfold B8 at h;split at h<;>first|cases h; done|skip
   · rename_i ys gs;split at h<;>first|cases h; done|skip
     rename_i i;simp only[AC,AH]at h;obtain⟨_,_,rfl⟩:=h;intro g hg;obtain⟨p,j,hl,_⟩:=O7 i.2.2.2 g (by simpa using hg);exact⟨p,j,List.getElem?_append_left hl⟩
   · rename_i ys gs;split at h<;>first|cases h; done|skip
     rename_i i;simp only[AC,AH]at h;obtain⟨_,_,rfl⟩:=h;intro g hg;obtain⟨p,j,hl,_⟩:=O7 i.2.2.2 g (by simpa using hg);exact⟨p,j,List.getElem?_append_left hl⟩
   · rename_i gs;split at h<;>first|cases h; done|skip
     rename_i i;simp only[AC,AH]at h;obtain⟨_,_,rfl⟩:=h;intro g hg;obtain⟨p,j,hl,_⟩:=O7 i g (by simpa using hg);exact⟨p,j,rfl⟩
   · rename_i o n s ys gs;split at h<;>first|cases h; done|skip
     split at h<;>first|cases h; done|skip
     rename_i i;simp only[AC,AH]at h;obtain⟨_,_,rfl⟩:=h;intro g hg;obtain⟨p,j,hl,l⟩:=O7 i.2.2.2.2.2 g (by simpa using hg);refine⟨p,j,?_⟩;rw[List.getElem?_append_left (by simpa using hl),List.getElem?_set_ne (fun e=>l (by rw[e]))]
def Sw (t u:Kind) (call:d8) (A B:List AV):Prop:=∀ (s0 sp y:St) (v z x l:AV),sem t call A .undef s0=some (v,z,sp)→sem u call B .undef sp=some (x,l,y) →
 ∃ i j,sem u call B .undef s0=some (x,l,i)∧sem t call A .undef i=some (v,j,y)
theorem a7j {k:Kind} (hk:k.isLd=true) {call:d8} {A:List AV} {b r b':AV} {st st':St} (h:sem k call A b st=some (r,b',st')):st'=st ∧
 ∃ (j:Bool) (n:Nat),(∀ l,sem k call A b l=some (r,b',l))∨∃ (o off:Nat) (cs:List AV),A.head?=some (.ptr o off)∧st[o]?=some (Obj.cells cs)∧j0 j n (cs.drop off)=some r∧∀ (l:St) (i:List AV),l[o]?=some (Obj.cells i)→j0 j n (i.drop off)=some r→sem k call A b l=some (r,b',l):=by
 have one:∀ j n (A:List AV),B0 j n call A b st=some (r,b',st')→st'=st∧∃ (o off:Nat) (cs:List AV),A=[.ptr o off]∧st[o]?=some (Obj.cells cs)∧j0 j n (cs.drop off)=some r∧b'=b:=by
  intro j n A h;unfold B0 at h;split at h<;>first|cases h; done|skip
  rename_i o off;split at h<;>first|cases h; done|skip
  rename_i cs E;obtain⟨v,I,u⟩:=AK.1 h;simp only[AH]at u;obtain⟨rfl,rfl,rfl⟩:=u;exact⟨rfl,o,off,cs,rfl,E,I,rfl⟩
 have t:∀ (j:Bool) (n o off:Nat) (l:St) (i:List AV),l[o]?=some (Obj.cells i)→j0 j n (i.drop off)=some r→B0 j n call [.ptr o off] b l=some (r,b,l):=by intro j n o off l i x y;unfold B0;simp only[x,y,AN]
 cases k<;>simp only[Kind.isLd,Bool.false_eq_true]at hk
 · rename_i j n;simp only[sem]at h ⊢;obtain⟨e,o,off,cs,rfl,x,y,rfl⟩:=one j n A h;exact⟨e,j,n,.inr ⟨o,off,cs,rfl,x,y,fun l i z B=>t j n o off l i z B⟩⟩
 · rename_i j n;simp only[sem]at h ⊢;unfold D3 at h;split at h<;>first|cases h; done|skip
   · rename_i cs;obtain⟨v,I,u⟩:=AK.1 h;simp only[AH]at u;obtain⟨rfl,rfl,rfl⟩:=u;refine⟨rfl,j,n,.inl fun l=>?_⟩;unfold D3;simp only[I,AN]
   · rename_i o off;obtain⟨e,J,D,cs,u,x,y,rfl⟩:=one j n [.ptr o off] h;simp only[AM,AV.ptr.injEq,and_true]at u;obtain⟨rfl,rfl⟩:=u;exact⟨e,j,n,.inr ⟨o,off,cs,rfl,x,y,fun l i z B=>t j n o off l i z B⟩⟩
 · rename_i j n;simp only[sem]at h ⊢;unfold C0 at h;split at h<;>first|cases h; done|skip
   rename_i o off rt;split at h<;>first|cases h; done|skip
   rename_i p G;split at h<;>first|cases h; done|skip
   rename_i F;obtain⟨e,J,D,cs,u,x,y,rfl⟩:=one j n [.ptr o off] h;simp only[AM,AV.ptr.injEq,and_true]at u;obtain⟨rfl,rfl⟩:=u;refine⟨e,j,n,.inr ⟨o,off,cs,rfl,x,y,fun l i z B=>?_⟩⟩;unfold C0;simp only[G,F,if_true];exact t j n o off l i z B
theorem a4D {k:Kind} (hk:k.isSt=true) {call:d8} {A:List AV} {b r b':AV} {st st':St} (h:sem k call A b st=some (r,b',st')) :
 ∃ (o off:Nat) (cs:List AV),st[o]?=some (Obj.cells cs)∧cs[off]?=some r∧st'=st.set o (.cells (cs.set off r.weak1))∧(∃ x,A.head?=some (.ptr o off)∧x=A)∧∀ (j:St) (i:List AV),j[o]?=some (Obj.cells i)→i[off]?=some r→sem k call A b j=some (r,b',j.set o (.cells (i.set off r.weak1))):=by
 have one:∀ (A:List AV),B2 call A b st=some (r,b',st')→∃ (o off:Nat) (cs:List AV),A=[.ptr o off]∧st[o]?=some (Obj.cells cs)∧cs[off]?=some r∧st'=st.set o (.cells (cs.set off r.weak1))∧b'=b:=by
  intro A h;unfold B2 at h;split at h<;>first|cases h; done|skip
  rename_i o off;split at h<;>first|cases h; done|skip
  rename_i cs B;split at h<;>first|cases h; done|skip
  rename_i c z;simp only[AC,AH]at h;obtain⟨rfl,rfl,rfl⟩:=h;exact⟨o,off,cs,rfl,B,z,rfl,rfl⟩
 have l:∀ (o off:Nat) (j:St) (i:List AV),j[o]?=some (Obj.cells i)→i[off]?=some r→B2 call [.ptr o off] b j=some (r,b,j.set o (.cells (i.set off r.weak1))):=by intro o off j i u v;unfold B2;simp only[u,v]
 cases k<;>simp only[Kind.isSt,Bool.false_eq_true]at hk
 · simp only[sem]at h ⊢;obtain⟨o,off,cs,rfl,u,v,t,rfl⟩:=one A h;exact⟨o,off,cs,u,v,t,⟨_,rfl,rfl⟩,fun j i t y=>l o off j i t y⟩
 · simp only[sem]at h ⊢;unfold C8 at h;split at h<;>first|cases h; done|skip
   split at h<;>first|cases h; done|skip
   rename_i o off p f z;obtain⟨F,E,cs,D,u,v,t,rfl⟩:=one [.ptr o off] h;simp only[AM,AV.ptr.injEq,and_true]at D;obtain⟨rfl,rfl⟩:=D;refine⟨o,off,cs,u,v,t,⟨_,rfl,rfl⟩,fun j i t y=>?_⟩;unfold C8;simp only[z,and_self,if_true];exact l o off j i t y
theorem b03 (x:AV):x.weak1.weak1=x.weak1:=by cases x<;>rfl
theorem a3X {l:Bool} {n off k:Nat} {cs:List AV} {x:AV} (h:cs[k]?=some x):j0 l n ((cs.set k x.weak1).drop off)=j0 l n (cs.drop off):=by
 have t:(cs.set k x.weak1).map AV.weak1=cs.map AV.weak1:=by
  rw[List.map_set,b03];apply List.ext_getElem?;intro i;rw[List.getElem?_set];split
  · rename_i e;subst e;have hl:=(AB.1 h).1;simp[hl,h];rw[AD hl]at h;exact congrArg AV.weak1 (Option.some.inj h).symm
  · rfl
 have j:((cs.set k x.weak1).drop off).map AV.weak1=(cs.drop off).map AV.weak1:=by rw[List.map_drop,t,List.map_drop]
 have hl:((cs.set k x.weak1).drop off).length=(cs.drop off).length:=by simp
 unfold j0;cases l with
 | true=>simp only[if_true]; rw[hl,List.map_take,j,List.map_take]
 | false =>simp only[Bool.false_eq_true,if_false];revert j;cases (cs.set k x.weak1).drop off<;>cases cs.drop off<;>intro j<;>simp at j<;>simp[j]
theorem g47 {i E:Kind} {call:d8} {A B:List AV} {a r:AV} {m:Nat} (D:(match i with|.ldStR ..=>true|_=>false)=true) (M:A=[a,r]) (N:E.upto=some m) (O:r∈B.drop m):Sw i E call A B:=by
 intro s0 sp x U F V T y z;have hk:i.isLd=true:=by cases i<;>first|rfl|cases D
 obtain⟨rfl,S,n,h⟩:=a7j hk y;refine⟨x,F,z,?_⟩;rcases h with h|⟨o,off,cs,l,G,I,J⟩
 · exact h x
 · obtain⟨p,u,v⟩:=b3a N z r O;have t:o=p:=by
    cases i<;>simp only[Bool.false_eq_true]at D;have j:=y;rw[M]at l j;simp only[List.head?_cons,AC]at l;subst l;simp only[sem,C0,u]at j;split at j
    · rename_i e;simpa using e
    · cases j
   subst t;exact J x cs (v.trans G) I
theorem g9n {D E:Kind} {call:d8} {A B:List AV} (h:((D.isSt && E.isLd) || (D.isLd && E.isSt))=true):Sw D E call A B:=by
 intro s0 sp N J F M I v x;simp only[Bool.or_eq_true,AA]at h;rcases h with⟨y,z⟩|⟨y,z⟩
 · obtain⟨o,off,cs,a1,a2,rfl,_,a4⟩:=a4D y v;obtain⟨rfl,G,n,h⟩:=a7j z x;refine⟨s0,F,?_,v⟩;rcases h with h|⟨o2,u,j,_,i,l,t⟩
   · exact h s0
   · have hl:=(AB.1 a1).1;by_cases e:o=o2
     · subst e;rw[List.getElem?_set_self hl]at i;simp only[AC,Obj.cells.injEq]at i;subst i;rw[a3X a2]at l;exact t s0 cs a1 l
     · rw[List.getElem?_set_ne e]at i;exact t s0 j i l
 · obtain⟨rfl,G,n,h⟩:=a7j y v;obtain⟨o,off,cs,a1,a2,rfl,_,a4⟩:=a4D z x;refine⟨_,F,x,?_⟩;rcases h with h|⟨o2,u,j,_,i,l,t⟩
   · exact h _
   · have hl:=(AB.1 a1).1;by_cases e:o=o2
     · subst e;rw[a1]at i;simp only[AC,Obj.cells.injEq]at i;subst i;exact t _ _ (List.getElem?_set_self hl) (by rw[a3X a2]; exact l)
     · exact t _ j (by rw[List.getElem?_set_ne e]; exact i) l
theorem g6l {d e:Nat} {call:d8} {A B:List AV} {a b r:AV} (J:A=[a,r]) (M:B=[b,r]) (V:d≠e):Sw (.ldStSR d) (.ldStSR e) call A B:=by
 intro s0 sp Z Y T O W G I;obtain⟨o,off,cs,a1,a2,rfl,⟨_,a3,_⟩,a4⟩:=a4D (k:=.ldStSR d) rfl G;obtain⟨o2,N,U,D,F,rfl,⟨_,E,_⟩,S⟩:=a4D (k:=.ldStSR e) rfl I;have u:=G;have v:=I;simp only[sem,J]at u;simp only[sem,M]at v;unfold C8 at u v;split at u<;>first|cases u; done|skip
 rename_i o3 t p3 f3 j;simp only[AM,and_true]at j;obtain⟨rfl,rfl⟩:=j;split at u<;>first|cases u; done|skip
 rename_i c1;split at v<;>first|cases v; done|skip
 rename_i o4 i p4 f4 j;simp only[AM,AV.ptr.injEq,and_true]at j;obtain⟨rfl,rfl,rfl⟩:=j;split at v<;>first|cases v; done|skip
 rename_i y;rw[J]at a3;rw[M]at E;simp only[List.head?_cons,AC,AV.ptr.injEq]at a3 E;obtain⟨rfl,rfl⟩:=a3;obtain⟨rfl,rfl⟩:=E;obtain⟨c1,x⟩:=c1;obtain⟨y,z⟩:=y;have c1:o3=p3:=by simpa using c1
 have y:o4=p3:=by simpa using y
 have x:t=f3+d:=by simpa using x
 have z:i=f3+e:=by simpa using z
 subst c1; subst y;have hl:=(AB.1 a1).1;have l:t≠i:=by omega
 rw[List.getElem?_set_self hl]at D;simp only[AC,Obj.cells.injEq]at D;subst D;rw[List.getElem?_set_ne l]at F;refine⟨_,T,S s0 cs a1 F,?_⟩;have:=a4 (s0.set o4 (.cells (cs.set i O.weak1))) (cs.set i O.weak1) (List.getElem?_set_self hl) (by rw[List.getElem?_set_ne (Ne.symm l)]; exact a2);rw[this];simp only[List.set_set];rw[List.set_comm _ _ l]
theorem g5r {n n':Nat} {call:d8} {A B As Bs:List AV} {a x r:AV} (Y:A=a::x::r::As) (M:r∈B.drop 3):Sw (.stStA n) (.stStA n') call A B:=by
 intro s0 sp sq rp O rq bq G I;have form:∀ {n:Nat} {A:List AV} {s E:St} {r b:AV},C4 n call A .undef s=some (r,b,E)→∃ (o off:Nat) (x rt:AV) (gs:List AV) (cs:List AV),A=.ptr o off::x::rt::gs∧L5 rt=some o∧J1 (some o) s.length gs=true∧s[o]?=some (Obj.cells cs)∧E=s.set o (.cells (n8 cs off x.cells)) ∧
  ∀ (u:St) (i:List AV),u.length=s.length→u[o]?=some (Obj.cells i)→i=cs→C4 n call A .undef u=some (r,b,u.set o (.cells (n8 cs off x.cells))):=by
  intro n A s E r b h;unfold C4 at h;split at h<;>first|cases h; done|skip
  rename_i o off x rt gs;split at h<;>first|cases h; done|skip
  rename_i p J;split at h<;>first|cases h; done|skip
  rename_i Z;obtain⟨c1,F⟩:=Z;have v:o=p:=by simpa using c1
  subst v;simp only[D2]at h;split at h<;>first|cases h; done|skip
  rename_i cs z;split at h<;>first|cases h; done|skip
  rename_i j;simp only[fL_eq,AC,AH]at h;obtain⟨rfl,rfl,rfl⟩:=h;refine⟨o,off,x,rt,gs,cs,rfl,J,F,z,rfl,fun u i hl W e=>?_⟩;subst e;unfold C4;simp only[J,c1,hl,F,and_self,if_true];unfold D2;simp only[W,j,and_self,if_true,fL_eq]
 simp only[sem]at G I ⊢;obtain⟨o,off,x1,rt,gs,cs,y,S,e3,T,rfl,U⟩:=form G;obtain⟨o2,N,x2,a0,V,i,f1,f2,f3,f4,rfl,f6⟩:=form I;rw[Y]at y;simp only[AM]at y;obtain⟨rfl,rfl,rfl,rfl⟩:=y;rw[f1]at M;obtain⟨p,t,_,D⟩:=O7 f3 r (by simpa using M);rw[S]at t;simp only[AC]at t;subst t;have l:o2≠o:=fun e=>D (by rw[e])
 rw[List.getElem?_set_ne (Ne.symm l)]at f4;refine⟨_,O,f6 s0 i (by simp) f4 rfl,?_⟩;rw[U _ cs (by simp) (by rw[List.getElem?_set_ne l]; exact T) rfl];rw[List.set_comm _ _ l]
theorem b1Q (d:Dst) (r:AV) (σ:Sig):(d.put r σ).st=σ.st:=by cases d<;>rfl
theorem f6k (U:a0Y p q=true) {σ1 σ2:Sig} (h1:y9 call p σ=some σ1) (h2:y9 call q σ1=some σ2) :
 ∃ N,y9 call q σ=some N∧y9 call p N=some σ2:=by
 simp only[a0Y,b0M,b0s,AA,Bool.not_eq_true',Option.isNone_iff_eq_none]at U;obtain⟨⟨⟨⟨Y,Z⟩,v⟩,⟨a1,a2⟩,a3⟩,hsw⟩:=U;have a1:=F1 a1;have a2:=F1 a2;have a3:=F1 a3;obtain⟨rp,bp,sp,hp,i⟩:=l6 h1;obtain⟨rq,bq,sq,hq,l⟩:=l6 h2;have M:∀ τ:Sig,d9 p.args τ=τ:=fun τ=>by
  clear hsw hp i h1 a3;revert v;induction p.args with
  | nil=>intro _; rfl
  | cons y ys ih =>
   intro v;simp only[T9,List.all_cons,Bool.and_eq_true]at v;have:y.spend τ=τ:=by have:=v.1;cases y<;>simp_all [Opd.steals,Opd.spend]
   rw[d9,this];exact ih v.2
 have G:∀ (x:AOper) (τ:Sig),x.box=none→q8 x τ=.undef:=fun x τ h=>by unfold q8; rw[h]
 rw[G p _ Y]at hp;rw[G q _ Z]at hq;rw[M,Y]at i;rw[Z]at l;simp only at i l
 -- what q reads is not what p writes
 have j:∀ x:Atom,x≠.st→x ∉ p.dst.atoms→x.same σ1 σ:=fun x t E=>by rw[i];refine Atom.same_trans (a1F E) ?_;cases x<;>first|rfl|exact absurd rfl t
 have O:q.args.map (·.read σ1)=q.args.map (·.read σ):=List.map_congr_left fun y B=>X3 fun x t=>by
  have b6:x∈q.reads:=by simp only[AOper.reads,AP,List.mem_flatMap];exact .inl (.inl (.inl ⟨y,B,t⟩))
  refine j x ?_ fun E=>a1 x E b6
  intro e;subst e;cases y<;>simp[Opd.atoms]at t
 have V:σ1.st=sp:=by rw[i,a80]
 rw[O,V]at hq;have a0:Sw p.kind q.kind call (p.args.map (·.read σ)) (q.args.map (·.read σ)):=by
  simp only[Bool.or_eq_true]at hsw;rcases hsw with((hsw|hsw)|hsw)|hsw
  · simp only[b6p,AA]at hsw;obtain⟨k1,k2⟩:=hsw;split at k2
    case h_2=>cases k2
    rename_i m x r hm t;obtain⟨y,B,S⟩:=List.any_eq_true.1 k2;obtain rfl:=a5T S;exact g47 k1 (a:=x.read σ) (r:=r.read σ) (by rw[t]; rfl) hm (by rw[← List.map_drop]; exact List.mem_map.2 ⟨r,B,rfl⟩)
  · simp only[b5Y]at hsw;split at hsw
    case h_2=>cases hsw
    rename_i n n' x1 x2 r rest k1 k2 t;obtain⟨y,B,S⟩:=List.any_eq_true.1 hsw;obtain rfl:=a5T S;rw[k1,k2];exact g5r (As:=rest.map (·.read σ)) (Bs:=[]) (a:=x1.read σ) (x:=x2.read σ) (r:=r.read σ) (by rw[t]; rfl) (by rw[← List.map_drop]; exact List.mem_map.2 ⟨r,B,rfl⟩)
  · exact g9n hsw
  · simp only[b65]at hsw;split at hsw
    case h_2=>cases hsw
    rename_i d e x1 r x2 s k1 k2 t B;simp only[AA,Bool.not_eq_true']at hsw;obtain rfl:=a5T hsw.1;have b3:d≠e:=by intro h;subst h;simp at hsw
    rw[k1,k2];exact g6l (a:=x1.read σ) (b:=x2.read σ) (r:=r.read σ) (by rw[t]; rfl) (by rw[B]; rfl) b3
 obtain⟨T,c0,b5,b4⟩:=a0 _ _ _ _ _ _ _ hp hq;have u:=a01 (p:=q) (σ:=σ) (call:=call) (by rw[G q _ Z]; exact b5);rw[Z]at u;simp only at u;refine⟨_,u,?_⟩;generalize D:q.dst.put rq { d9 q.args σ with st:=T }=σq at u;have b8:q.dst.put rq { fr:=(d9 q.args σ).fr,τ:=(d9 q.args σ).τ,st:=T }=σq:=D;obtain⟨fq,lq⟩:=a08 u;have W:σq.st=T:=by rw[← D,a80]
 have F:p.args.map (·.read σq)=p.args.map (·.read σ):=List.map_congr_left fun y B=>X3 fun x t=>fq x fun hw=>a3 x hw (AP.2 (.inl (AP.2 (.inl (List.mem_flatMap.2 ⟨y,B,t⟩)))))
 rw[a01 (p:=p) (σ:=σq) (call:=call) (by rw[G p _ Y,F,W]; exact b4)];rw[M,Y];congr 1;refine Sig.ext_atoms ?_ fun x=>?_
 · rw[a05,l,a05,I3,i,a05];exact lq
 by_cases J:x=.st
 · subst J;show(p.dst.put rp _).st=σ2.st;rw[l,b1Q,b1Q]
 by_cases E:x∈p.dst.atoms
 · have e1:x.same σ1 (p.dst.put rp { fr:=σq.fr,τ:=σq.τ,st:=sq }):=by rw[i];exact a1h (σ1:=⟨σ.fr,σ.τ,sp⟩) (σ2:=⟨σq.fr,σq.τ,sq⟩) (show σ.fr.length=σq.fr.length from lq.symm) (.inr E)
   have e2:x.same σ2 σ1:=(a08 h2).1 x (a2 x E);exact Atom.same_symm (Atom.same_trans e2 e1)
 · have e1:x.same (p.dst.put rp { fr:=σq.fr,τ:=σq.τ,st:=sq }) σq:=Atom.same_trans (a1F E) (by cases x<;>first|rfl|exact absurd rfl J);have l1:σ1.fr.length=σ.fr.length:=by rw[i,a05]
   have I:∀ y∈q.args,∀ z∈y.spent,z.same σ1 σ:=fun y B z hz=>by
    have b7:z∈q.reads:=by simp only[AOper.reads,AP,List.mem_flatMap];exact .inl (.inl (.inl ⟨y,B,a2c y z hz⟩))
    refine j z ?_ fun E=>a1 z E b7
    intro e;subst e;cases y<;>simp[Opd.spent]at hz
   have e2:x.same σ2 σq:=by
    rw[l,← D];refine a1h (by simp[I3,l1]) ?_;by_cases b0:x∈q.dst.atoms
    · exact .inr b0
    · left;have:=a0y l1 (j x J E) I;cases x<;>first|exact this|exact absurd rfl J
   exact Atom.same_trans e1 (Atom.same_symm e2)
def Goes (p:AOper) (σ:Sig):Prop:=∀ x want,p.guard=some (x,want)→∃ b,x.read σ=.bool b∧(b == want)=true
def Skips (p:AOper) (σ:Sig):Prop:=∃ x want,p.guard=some (x,want)∧(x.read σ=.tuple []∨∃ b,x.read σ=.bool b∧(b == want)=false)
theorem a6m (h:i7 call p σ=some σ'):(Goes p σ∧y9 call p σ=some σ')∨(Skips p σ∧σ'=p.dst.put (.tuple []) σ):=by
 unfold i7 at h;split at h
 · rename_i hg;exact .inl ⟨fun x want e=>(by rw[hg]at e; cases e),h⟩
 · rename_i x want hg;split at h
   · rename_i b i;split at h
     · rename_i j;refine .inl ⟨fun t l e=>?_,h⟩;rw[hg]at e;cases e;exact⟨b,i,j⟩
     · rename_i j;exact .inr ⟨⟨x,want,hg,.inr ⟨b,i,by simpa using j⟩⟩,(Option.some.inj h).symm⟩
   · rename_i i;exact .inr ⟨⟨x,want,hg,.inl i⟩,(Option.some.inj h).symm⟩
   · cases h
theorem Goes.step (h:Goes p σ):i7 call p σ=y9 call p σ:=by
 unfold i7;cases hg:p.guard with
 | none=>rfl
 | some l =>obtain⟨x,want⟩:=l;obtain⟨b,i,j⟩:=h x want hg;simp only[i,j,if_true]
theorem Skips.step (h:Skips p σ):i7 call p σ=some (p.dst.put (.tuple []) σ):=by
 obtain⟨x,want,hg,h⟩:=h;unfold i7;rw[hg];rcases h with h|⟨b,i,j⟩
 · simp only[h]
 · simp only[i,j,Bool.false_eq_true,if_false]
theorem Goes.same {σ1 σ2:Sig} (h:Goes p σ1) (hs:∀ x want,p.guard=some (x,want)→x.read σ1=x.read σ2):Goes p σ2:=fun x want hg=>by rw[← hs x want hg]; exact h x want hg
theorem Skips.same {σ1 σ2:Sig} (h:Skips p σ1) (hs:∀ x want,p.guard=some (x,want)→x.read σ1=x.read σ2):Skips p σ2:=by obtain⟨x,want,hg,h⟩:=h;exact⟨x,want,hg,by rw[← hs x want hg]; exact h⟩
def K0 (p:AOper):AOper:={ dst:=p.dst,kind:=.mv,args:=[.c (.tuple [])] }
theorem M6 (τ:Sig):i7 call (K0 p) τ=some (p.dst.put (.tuple []) τ):=by show y9 call (K0 p) τ=_;rw[J4];rfl
theorem b6f:Atom.st ∉ p.dst.atoms:=by cases p.dst<;>simp[Dst.atoms]
theorem Z7:(K0 p).writes=p.dst.atoms:=by simp[AOper.writes,K0,Opd.spent,Kind.setSt]
theorem a0A:(K0 p).reads=[]:=by simp[AOper.reads,K0,Opd.atoms,Kind.useSt]
theorem F4 {xs ys:List Atom} (h:∀ x∈xs,x ∉ ys):meets xs ys=false:=by
 cases i:meets xs ys with
 | false=>rfl
 | true =>exfalso;unfold meets at i;rw[List.any_eq_true]at i;obtain⟨x,l,j⟩:=i;rw[List.any_eq_true]at j;obtain⟨y,t,e⟩:=j;rw[Atom.beq_iff]at e;subst e;exact h x l t
theorem g1O (v:a0Y p q=true) {σ1 σ2:Sig} (I:i7 call p σ=some σ1) (J:i7 call q σ1=some σ2) :
 ∃ u,i7 call q σ=some u∧i7 call p u=some σ2:=by
 have B:=v;simp only[a0Y,b0M,b0s,AA,Bool.not_eq_true',Option.isNone_iff_eq_none]at v;obtain⟨⟨⟨⟨T,Y⟩,N⟩,⟨a1,a2⟩,a3⟩,_⟩:=v;have a1:=F1 a1;have a2:=F1 a2;have a3:=F1 a3
 -- guards are read alike
 have G:∀ {x:AOper} {y:Opd} {want:Bool},x.guard=some (y,want)→Atom.st ∉ y.atoms:=fun {x y want} _=>by cases y<;>simp[Opd.atoms]
 have f1:=(P1 I).1;have V:∀ x,x∈p.writes→x∈p.dst.atoms∨x=.st:=fun x hx=>by
  simp only[AOper.writes,T,AP]at hx;rcases hx with((hx|hx)|hx)|hx
  · exact .inl hx
  · obtain⟨y,W,hx⟩:=List.mem_flatMap.1 hx;have:=List.all_eq_true.1 N y W;cases y<;>simp_all [Opd.spent,Opd.steals]
  · simp at hx
  · split at hx
    · exact .inr (by simpa using hx)
    · simp at hx
 have U:∀ y want,q.guard=some (y,want)→y.read σ1=y.read σ:=fun y want hg=>X3 fun x hx=>f1 x fun O=>by
  rcases V x O with t|rfl
  · exact a1 x t (a4U hg x hx)
  · exact G hg hx
 have F:∀ {τ:Sig},(∀ x,x ∉ q.writes→x.same τ σ)→∀ y want,p.guard=some (y,want)→y.read σ=y.read τ:=fun {τ} S y want hg=>(X3 fun x hx=>S x fun O=>a3 x O (by rw[hg];exact AP.2 (.inr hx))).symm
 rcases a6m I with⟨k1,D⟩|⟨k1,D⟩<;>rcases a6m J with⟨k2,E⟩|⟨k2,E⟩
 · obtain⟨σ',j,l⟩:=f6k B D E;refine⟨σ',by rw[(k2.same U).step]; exact j,?_⟩;rw[(k1.same (F (a08 j).1)).step];exact l
 · -- p runs, q is passed over
   have M:i7 call (K0 q) σ1=some σ2:=by rw[M6,E]
   have i:V4 p (K0 q)=true:=by
    simp only[V4,Z7,a0A,AA,Bool.not_eq_true'];refine⟨⟨F4 fun x _=>by simp,F4 fun x hx t=>?_⟩,F4 fun x t hx=>?_⟩
    · rcases V x hx with h|rfl
      · exact a2 x h (a0T x t)
      · exact b6f t
    · simp only[AOper.reads,T,AP]at hx;rcases hx with((hx|hx)|hx)|hx
      · exact a3 x (a0T x t) (AP.2 (.inl (AP.2 (.inl hx))))
      · simp at hx
      · exact a3 x (a0T x t) (AP.2 (.inr hx))
      · split at hx
        · simp only[List.mem_cons,List.not_mem_nil,or_false]at hx;subst hx;exact b6f t
        · simp at hx
   obtain⟨σ',j,l⟩:=a8z i I M;rw[M6]at j;exact⟨σ',by rw[(k2.same U).step]; exact j,l⟩
 · -- p is passed over
   have z:i7 call (K0 p) σ=some σ1:=by rw[M6,D]
   have i:V4 (K0 p) q=true:=by simp only[V4,Z7,a0A,AA,Bool.not_eq_true'];exact⟨⟨F4 fun x hx=>a1 x hx,F4 fun x hx=>a2 x hx⟩,F4 fun x _=>by simp⟩
   obtain⟨σ',j,l⟩:=a8z i z J;rw[M6]at l;refine⟨σ',j,?_⟩;rw[(k1.same (F (P1 j).1)).step];exact l
 · have z:i7 call (K0 p) σ=some σ1:=by rw[M6,D]
   have i:V4 (K0 p) q=true:=by simp only[V4,Z7,a0A,AA,Bool.not_eq_true'];exact⟨⟨F4 fun x hx=>a1 x hx,F4 fun x hx=>a2 x hx⟩,F4 fun x _=>by simp⟩
   obtain⟨σ',j,l⟩:=a8z i z J;rw[M6]at l;refine⟨σ',j,?_⟩;rw[(k1.same (F (P1 j).1)).step];exact l
theorem d0l (hap:a0v p q=true) {σ1 σ2:Sig} (j:i7 call p σ=some σ1) (l:i7 call q σ1=some σ2) :
 ∃ i,i7 call q σ=some i∧i7 call p i=some σ2:=by
 simp only[a0v,Bool.or_eq_true]at hap;rcases hap with hap|hap
 · exact a8z hap j l
 · exact g1O hap j l
theorem b5O {j:List AOper} {rest:List AOper} (i:∀ r∈j,a0v r p=true) (h:g9 call (j++p::rest) σ=some σ') :
 ∃ σ1,i7 call p σ=some σ1∧g9 call (j++rest) σ1=some σ':=by
 induction j generalizing σ with
 | nil =>
  simp only[List.nil_append,g9]at h;cases hs:i7 call p σ with
  | none=>simp[hs]at h
  | some σ1=>simp only[hs]at h; exact⟨σ1,rfl,h⟩
 | cons r j v =>
  simp only[List.cons_append,g9]at h;cases hs:i7 call r σ with
  | none=>simp[hs]at h
  | some x =>simp only[hs]at h;obtain⟨σ2,l,t⟩:=v (fun r u=>i r (by simp[u])) h;obtain⟨σ1,g1,g2⟩:=d0l (i r (by simp)) hs l;refine⟨σ1,g1,?_⟩;simp only[List.cons_append,g9,g2];exact t
end
end Go.Cb
namespace Go.Cb
open Classical
def a0Z (c:Cx) (ops:Array Oper) (o:Oper) (p:AOper):Bool:=match o.guard,p.guard with
 | none,none=>true
 | some (j,w),some (x,w')=>(w == w') && (match (ops[j]?).bind (·.dst)with|some d=>M0 c (.tmp d) x && decide (d < c.nt)|none=>false) && q6 c o.dst p.dst
 | _,_=>false
def U4 (c:Cx) (ops:Array Oper):List Oper→List AOper→Bool
 | [],[]=>true
 | o::os,p::ps=>a5Q c o p && a0Z c ops o p && U4 c ops os ps
 | _,_=>false
def a2B (ops:Array Oper):List (Nat×List Atom×List Atom×AOper)→Nat→List AOper→Bool
 | _,_,[]=>true
 | es,j,p::ps =>
  (n7 ops j).all (fun i=>Nat.blt i j) &&
  es.all (fun e=>(!meets e.2.2.1 p.reads && !meets e.2.2.1 p.writes && !meets p.writes e.2.1) || (X4 ops 4 (n7 ops j)).any (Nat.beq e.1) || a0Y e.2.2.2 p) &&
  a2B ops ((j,p.reads,p.writes,p)::es) (j+1) ps
def e9w (c:Cx) (ops:Array Oper) (qs:List (Nat×AOper)):Bool:=qs.all fun x=>match ops[x.1]? with
 | some o=>a5Q c o x.2 && a0Z c ops o x.2
 | none=>false
def a2m (ops:Array Oper):List (Nat×AOper)→List (Nat×AOper)→Bool
 | _,[]=>true
 | es,x::qs =>(n7 ops x.1).all (fun i=>es.any fun e=>Nat.beq e.1 i) && es.all (fun e=>!Nat.beq e.1 x.1 && (a0v e.2 x.2 || (X4 ops 4 (n7 ops x.1)).any (Nat.beq e.1))) && a2m ops (x::es) qs
def a4M (kill:List Nat):List Nat:=kill.filterMap fun k=>if Nat.ble 1000000 k then some (k - 1000000)else none
def e50 (c:Cx) (ops:Array Oper) (kill:List Nat) (i:List AOper):Bool :=
 let j:=a4M kill
 Nat.beq j.length ops.size && Nat.beq i.length ops.size && e9w c ops (j.zip i) && a2m ops [] (j.zip i)
def a3c (c:Cx) (ops:Array Oper) (draw:Bool) (kill:List Nat) (i:List AOper):Bool :=
 if draw && !(a4M kill).isEmpty then e50 c ops kill i else U4 c ops ops.toList i && (!draw || a2B ops [] 0 i)
section
variable {c:Cx} {g:Gh} {w:World} {pr:Nat→Option Pl} {bx:Nat→Nat} {σ σ':Sig} {a:Act} {call:d8} {ops:Array Oper} {next:Act→World→Prop} {Q:Exit→Act→World→Prop}
theorem a4t (G:Fx c) (T:F5 c.P c.gt call) (h:S c g w pr bx σ a) {i:Nat} {o:Oper} {p:AOper} (hi:ops[i]?=some o) (D:a5Q c o p=true) (hg:a0Z c ops o p=true)
 (hs:i7 call p σ=some σ') (l:Post c g w a σ' next):wpOp c.P ops Q i next a w:=by
 unfold wpOp;simp only[hi];unfold i7 at hs;unfold a0Z at hg;split at hg
 · rename_i z I;rw[I]at hs;have E:Region.wanted o (yielded ops a.tmps)=true:=by simp[Region.wanted,z]
   rw[if_pos E];exact .inl (c0r D G T h hs l)
 · rename_i j want x O z I;simp only[AA,beq_iff_eq]at hg;obtain⟨⟨rfl,hg⟩,V⟩:=hg;split at hg
   · rename_i d B;simp only[AA,decide_eq_true_eq]at hg;obtain⟨W,M⟩:=hg;have F:=N4 h W;have N:d < a.tmps.size:=by rw[h.fr.size]; exact M
     have U:∀ v,a.eval (.tmp d)=v→yielded ops a.tmps j=(match v with|.bool b=>some b|_=>none):=fun v t=>by
      have e:a.tmps[d]?=some v:=by rw[← t]; simp[Act.eval,N]
      simp only[yielded,B,Option.bind_some,e];cases v<;>rfl
     rw[I]at hs;simp only at hs;have skip:Region.wanted o (yielded ops a.tmps)=false→some (p.dst.put (.tuple []) σ)=some σ'→(if Region.wanted o (yielded ops a.tmps)=true then o.wp c.P a w next Q∨(o.asks c.P a w∧LetsOut Q)else next (a.put o.dst undef) w):=fun E hs=>by rw[if_neg (by rw[E]; simp)];obtain rfl:=Option.some.inj hs;refine l _ _ g pr bx (s7 _ _ _) (V0 G h V (mine:=No) (r:=.tuple []) (v:=undef) ?_ fun _ x=>x.elim) (Tr.refl _ _ _);exact(show ValOK g w No (.tuple []) undef from ValOK.mk' (by simp only[Rel]; exact⟨#[],rfl,by simp[RelL]⟩) (by simp) (by simp))
     split at hs
     · rename_i b J;rw[J]at F;have t:=ValOK.rel F;simp only[Rel]at t;have u:=U _ t;split at hs
       · rename_i y;have E:Region.wanted o (yielded ops a.tmps)=true:=by simp only[Region.wanted,z,u];simpa using y
         rw[if_pos E];exact .inl (c0r D G T h hs l)
       · rename_i y;exact skip (by simp only[Region.wanted,z,u];simpa using y) hs
     · rename_i J;rw[J]at F;have t:=ValOK.rel F;simp only[Rel]at t;obtain⟨arr,t,Y⟩:=t;have u:=U _ t;exact skip (by simp[Region.wanted,z,u]) hs
     · cases hs
   · cases hg
 · cases hg
theorem X7 {os:List Oper}:∀ {j:List AOper},U4 c ops os j=true→os.length=j.length∧∀ (i:Nat) (p:AOper),j[i]?=some p→∃ o,os[i]?=some o∧a5Q c o p=true∧a0Z c ops o p=true:=by
 induction os with
 | nil =>
  intro j h;cases j with
  | nil=>exact⟨rfl,fun i p h=>by simp at h⟩
  | cons p j=>simp[U4]at h
 | cons o os x =>
  intro j h;cases j with
  | nil=>simp[U4]at h
  | cons p j =>
   rw[U4,AA,AA]at h;obtain⟨⟨t,u⟩,v⟩:=h;obtain⟨l,hg⟩:=x v;refine⟨by rw[List.length_cons,List.length_cons,l],fun i q hi=>?_⟩;cases i with
   | zero =>rw[List.getElem?_cons_zero]at hi;obtain rfl:=Option.some.inj hi;exact⟨o,rfl,t,u⟩
   | succ i =>rw[List.getElem?_cons_succ]at hi ⊢;exact hg i q hi
theorem Post.trans {i:Sig} {g':Gh} {w':World} {l:Act} (h:Post c g w a i next) (t:l.defers=a.defers) (u:Tr c.A g w g' w'):Post c g' w' l i next :=
 fun a2 x g2 pr2 j d2 v t2=>h a2 x g2 pr2 j (d2.trans t) v (u.trans t2)
theorem a9k (D:Fx c) (E:F5 c.P c.gt call) {u:List AOper} (t:U4 c ops ops.toList u=true):∀ (n k:Nat) (g:Gh) (w:World) (pr:Nat→Option Pl) (bx:Nat→Nat) (σ:Sig) (a:Act),k+n=u.length →
 S c g w pr bx σ a→g9 call (u.drop k) σ=some σ'→Post c g w a σ' (Q .normal)→wpOps c.P ops Q (List.range' k n) a w
 | 0,k,g,w,pr,bx,σ,a,hk,h,j,i=>by rw[List.drop_of_length_le (by omega)]at j;simp only[g9,AC]at j;subst j;exact i a w g pr bx rfl h (Tr.refl _ _ _)
 | n+1,k,g,w,pr,bx,σ,a,hk,h,j,i=>by
  obtain⟨hl,l⟩:=X7 t;rw[List.drop_eq_getElem_cons (by omega)]at j;simp only[g9]at j;obtain⟨o,I,F,G⟩:=l k _ (AD (show k < u.length by omega));cases hs:i7 call (u[k]'(by omega)) σ with
  | none=>simp[hs]at j
  | some σ1 =>
   simp only[hs]at j;rw[List.range'_succ,wpOps_cons];refine a4t D E h (by simpa using I) F G hs fun a1 w1 g1 B v y x z=>?_
   exact a9k D E t n (k+1) g1 w1 B v σ1 a1 (by omega) x j (i.trans y z)
end
end Go.Cb
namespace Go.Cb
open Classical
section
variable {c:Cx} {σ':Sig} {call:d8} {ops:Array Oper} {Q:Exit→Act→World→Prop}
theorem a5Z (all:List AOper):∀ (u:List AOper) (k:Nat) (es:List (Nat×List Atom×List Atom×AOper)),u=all.drop k→(∀ (i:Nat) (q:AOper),i < k→all[i]?=some q→(i,q.reads,q.writes,q)∈es)→a2B ops es k u=true →
 ∀ (j:Nat) (p:AOper),k≤j→all[j]?=some p→(∀ i∈n7 ops j,i < j)∧∀ (i:Nat) (q:AOper),i < j→all[i]?=some q→a0v q p=true∨i∈X4 ops 4 (n7 ops j)
 | [],k,es,l,_,_,j,p,hkj,hj=>by
  have:all.length≤k:=by have:=congrArg List.length l;simp at this; omega
  rw[List.getElem?_eq_none (by omega)]at hj; cases hj
 | p0::u,k,es,l,hes,h,j,p,hkj,hj=>by
  have hk:k < all.length:=by have:=congrArg List.length l;simp at this; omega
  rw[List.drop_eq_getElem_cons hk]at l;simp only[AM]at l;obtain⟨x,l⟩:=l;simp only[a2B,AA]at h;obtain⟨⟨z,B⟩,D⟩:=h;rcases Nat.lt_or_ge k j with v|hge
  · refine a5Z all u (k+1) _ l (fun i q hi t=>?_) D j p v hj;rcases Nat.lt_or_ge i k with h4|h4
    · exact List.mem_cons_of_mem _ (hes i q h4 t)
    · obtain rfl:i=k:=by omega
      rw[AD hk]at t;simp only[AC]at t;rw[x,t];simp
  · obtain rfl:j=k:=by omega
    rw[AD hk]at hj;simp only[AC]at hj;rw[← hj,← x];refine⟨fun i hi=>?_,fun i q hi t=>?_⟩
    · have:=List.all_eq_true.1 z i hi;simpa using this
    · have:=List.all_eq_true.1 B _ (hes i q hi t);simp only[Bool.or_eq_true]at this;rcases this with(h5|h5)|h5
      · left; simp only[a0v,V4,Bool.or_eq_true]; exact .inl (by simpa using h5)
      · right;rw[List.any_eq_true]at h5;obtain⟨y,E,e⟩:=h5;have:i=y:=by simpa using e
        rw[this]; exact E
      · left; simp only[a0v,Bool.or_eq_true]; exact .inr h5
def M5 (n:Nat) (listed:Array Bool):List Nat:=(List.range n).filter fun i=>!listed.getD i true
theorem mem_rem {n:Nat} {listed:Array Bool} {i:Nat}:i∈M5 n listed↔i < n∧listed.getD i true=false:=by simp[M5]
theorem a3i (n:Nat) (listed:Array Bool):(M5 n listed).Pairwise (· < ·):=List.Pairwise.filter _ List.pairwise_lt_range
theorem a1K {l:Array Bool} {i:Nat} (h:i < l.size) (d e:Bool):l.getD i d=l.getD i e:=by simp[Array.getD_eq_getD_getElem?,h]
theorem b12 {n:Nat} {listed:Array Bool} (hl:listed.size=n) {i:Nat} {l1 l2:List Nat} (h:M5 n listed=l1++i::l2):M5 n (listed.setIfInBounds i true)=l1++l2:=by
 have hi:i∈M5 n listed:=by rw[h]; simp
 have y:=(mem_rem.1 hi).1;have e:M5 n (listed.setIfInBounds i true)=(M5 n listed).filter (fun x=>x != i):=by
  unfold M5;rw[List.filter_filter];apply List.filter_congr;intro x j;have t:x < n:=by simpa using j
  by_cases ex:x=i
  · subst ex;simp[Array.getD_eq_getD_getElem?,hl,t]
  · have:(listed.setIfInBounds i true).getD x true=listed.getD x true:=by simp[Array.getD_eq_getD_getElem?,Array.getElem?_setIfInBounds_ne (Ne.symm ex)]
    rw[this];simp[ex]
 rw[e,h];have l:=a3i n listed;rw[h]at l;have l:=List.pairwise_append.1 l;have u:∀ x∈l1,x≠i:=fun x j=>Nat.ne_of_lt (l.2.2 x j i (by simp))
 have v:∀ x∈l2,x≠i:=fun x j=>Nat.ne_of_gt ((List.pairwise_cons.1 l.2.1).1 x j)
 rw[List.filter_append,List.filter_cons_of_neg (by simp),List.filter_eq_self.2 (fun x j=>by simpa using u x j),List.filter_eq_self.2 (fun x j=>by simpa using v x j)]
theorem Y9 {listed:Array Bool} (u:∀ j,listed.getD j false=true→∀ i∈n7 ops j,listed.getD i false=true) :
 ∀ (n:Nat) (l:List Nat),(∀ x∈l,listed.getD x false=true)→∀ x∈X4 ops n l,listed.getD x false=true
 | 0,l,h,x,hx=>h x hx
 | n+1,l,h,x,hx=>by
  simp only[X4,AP]at hx;rcases hx with hx|hx
  · exact h x hx
  · refine Y9 u n _ (fun y t=>?_) x hx;obtain⟨z,v,t⟩:=List.mem_flatMap.1 t;exact u z (h z v) y t
theorem ready_iff {listed:Array Bool} {i:Nat}:i∈Region.ready .any ops listed↔i < ops.size∧listed.getD i true=false∧∀ b∈n7 ops i,listed.getD b false=true:=by
 unfold Region.ready;rw[List.mem_filter,List.mem_range];constructor
 · rintro⟨u,v⟩;simp only[AA,Bool.not_eq_true']at v;refine⟨u,v.1,fun b l=>?_⟩;have t:=v.2;unfold n7 at l;rw[Array.getElem?_eq_getElem u]at t l;simp only[AN,Option.getD_some]at t;simp only at l;obtain⟨e,x,l⟩:=List.mem_filterMap.1 l;have:=Array.all_eq_true_iff_forall_mem.1 t e (by simpa using x);split at l
   · rename_i j;simp only[AC]at l;subst l;simpa[j]using this
   · cases l
 · rintro⟨u,v,t⟩;refine⟨u,?_⟩;simp only[AA,Bool.not_eq_true'];refine⟨v,?_⟩;unfold n7 at t;rw[Array.getElem?_eq_getElem u]at t ⊢;simp only[AN,Option.getD_some];refine Array.all_eq_true_iff_forall_mem.2 fun e x=>?_
   cases j:Region.binds .any e with
   | false=>simp
   | true =>have:=t e.on (List.mem_filterMap.2 ⟨e,by simpa using x,by simp[j]⟩);simp[this]
theorem d26 (fx:Fx c) (hc:F5 c.P c.gt call) {u:List AOper} (b3:U4 c ops ops.toList u=true) (G:a2B ops [] 0 u=true) :
 ∀ (n:Nat) (listed:Array Bool) (g:Gh) (w:World) (pr:Nat→Option Pl) (bx:Nat→Nat) (σ:Sig) (a:Act),listed.size=u.length→(M5 u.length listed).length=n →
  (∀ j,listed.getD j false=true→∀ i∈n7 ops j,listed.getD i false=true) →
  S c g w pr bx σ a→g9 call ((M5 u.length listed).filterMap (u[·]?)) σ=some σ'→Post c g w a σ' (Q .normal)→wpAny c.P .any ops Q n listed a w:=by
 obtain⟨hl,W⟩:=X7 b3;have c0:ops.size=u.length:=by simpa using hl
 have Y:=fun(j:Nat) (p:AOper) hj=>a5Z (ops:=ops) u u 0 [] rfl (fun i q hi=>by omega) G j p (Nat.zero_le _) hj
 have F:∀ (listed:Array Bool),listed.size=u.length→Region.ready .any ops listed=[]→M5 u.length listed=[]:=by
  intro listed y E;cases v:M5 u.length listed with
  | nil=>rfl
  | cons i l =>
   exfalso;have hi:i∈M5 u.length listed:=by rw[v]; simp
   obtain⟨h1,T⟩:=mem_rem.1 hi;have:i∈Region.ready .any ops listed:=by
    refine ready_iff.2 ⟨by omega,T,fun b Z=>?_⟩;have b8:=(Y i _ (AD h1)).1 b Z;have b2:b ∉ M5 u.length listed:=fun hm=>by
     have hs:=a3i u.length listed;rw[v]at hs hm;rcases List.mem_cons.1 hm with rfl|hm
     · omega
     · have:=(List.pairwise_cons.1 hs).1 b hm; omega
    have a3:b < u.length:=by omega
    cases hq:listed.getD b true with
    | false=>exact absurd (mem_rem.2 ⟨a3,hq⟩) b2
    | true=>rw[a1K (by omega) false true]; exact hq
   rw[E]at this;cases this
 intro n;induction n with
 | zero =>intro listed g w pr bx σ a y O _ h E z;have v:M5 u.length listed=[]:=List.eq_nil_of_length_eq_zero O;rw[v]at E;simp only[List.filterMap_nil,g9,AC]at E;subst E;refine⟨?_,z a w g pr bx rfl h (Tr.refl _ _ _)⟩;apply List.eq_nil_iff_forall_not_mem.2;intro i hi;obtain⟨h1,T,_⟩:=ready_iff.1 hi;have:=(mem_rem (n:=u.length)).2 ⟨show i < u.length by omega,T⟩;rw[v]at this;cases this
 | succ n ih =>
  intro listed g w pr bx σ a y O U h E z;refine⟨fun he=>?_,fun i hi=>?_⟩
  · have:=F listed y he;rw[this]at O;cases O
  · obtain⟨h1,T,h3⟩:=ready_iff.1 hi;have B:i < u.length:=by omega
    have I:i∈M5 u.length listed:=mem_rem.2 ⟨B,T⟩;obtain⟨l1,l2,t⟩:=List.append_of_mem I;obtain⟨o,ho,b4,hg⟩:=W i _ (AD B);have hs:=a3i u.length listed;rw[t]at hs;have hs:=List.pairwise_append.1 hs;rw[t,List.filterMap_append,List.filterMap_cons_some (AD B)]at E;obtain⟨σ1,N,D⟩:=b5O (fun r E=>by
     obtain⟨k,hk,b5⟩:=List.mem_filterMap.1 E;have b1:k < i:=hs.2.2 k hk i (by simp);refine((Y i _ (AD B)).2 k r b1 b5).resolve_right fun V=>?_
     have M:=Y9 U 4 _ h3 k V;have J:k∈M5 u.length listed:=by rw[t]; simp[hk]
     have:=(mem_rem.1 J).2;rw[a1K (by omega) true false,M]at this;cases this) E
    rw[← List.filterMap_append,← b12 y t]at D;refine a4t fx hc h (by simpa using ho) b4 hg N fun a1 w1 g1 b7 a0 b0 a2 b6=>?_
    refine ih (listed.setIfInBounds i true) g1 w1 b7 a0 σ1 a1 (by simpa using y) ?_ (fun j hj b Z=>?_) a2 D (z.trans b0 b6)
    · rw[b12 y t];rw[t]at O;simp at O ⊢;omega
    · have up:∀ x,listed.getD x false=true→(listed.setIfInBounds i true).getD x false=true:=fun x hx=>by
       by_cases e:i=x
       · subst e; simp[Array.getD_eq_getD_getElem?,y,B]
       · simpa[Array.getD_eq_getD_getElem?,Array.getElem?_setIfInBounds_ne e]using hx
      by_cases e:i=j
      · subst e;exact up b (h3 b Z)
      · refine up b (U j ?_ b Z);simpa[Array.getD_eq_getD_getElem?,Array.getElem?_setIfInBounds_ne e]using hj
def O5 (qs:List (Nat×AOper)) (listed:Array Bool):List (Nat×AOper):=qs.filter fun x=>!listed.getD x.1 true
theorem a0h:∀ {qs es:List (Nat×AOper)},a2m ops es qs=true→∀ {l1 l2:List (Nat×AOper)} {j:Nat} {p:AOper},qs=l1++(j,p)::l2 →
 (∀ i∈n7 ops j,∃ q,(i,q)∈es∨(i,q)∈l1)∧(∀ i q,(i,q)∈es∨(i,q)∈l1→i≠j∧(a0v q p=true∨i∈X4 ops 4 (n7 ops j)))
 | [],es,_,l1,l2,j,p,e=>by simp at e
 | x::qs,es,h,l1,l2,j,p,e=>by
  simp only[a2m,AA]at h;obtain⟨⟨u,v⟩,z⟩:=h;cases l1 with
  | nil =>
   simp only[List.nil_append,AM]at e;obtain⟨rfl,rfl⟩:=e;refine⟨fun i hi=>?_,fun i q hq=>?_⟩
   · have:=List.all_eq_true.1 u i hi;obtain⟨e,B,l⟩:=List.any_eq_true.1 this;have l:e.1=i:=by simpa using l
     exact⟨e.2,.inl (by rw[← l]; exact B)⟩
   · have hq:(i,q)∈es:=by simpa using hq
     have:=List.all_eq_true.1 v _ hq;simp only[AA,Bool.not_eq_true',Bool.or_eq_true]at this;obtain⟨t1,t2⟩:=this;refine⟨fun e=>by subst e; simp at t1,?_⟩;rcases t2 with t2|t2
     · exact .inl t2
     · right;obtain⟨y,D,t⟩:=List.any_eq_true.1 t2;have:i=y:=by simpa using t
       rw[this]; exact D
  | cons y l1 =>
   simp only[List.cons_append,AM]at e;obtain⟨rfl,e⟩:=e;obtain⟨E,F⟩:=a0h z e;refine⟨fun i hi=>?_,fun i q hq=>F i q ?_⟩
   · obtain⟨q,hq⟩:=E i hi;refine⟨q,?_⟩;rcases hq with hq|hq
     · rcases List.mem_cons.1 hq with rfl|hq
       · exact .inr (by simp)
       · exact .inl hq
     · exact .inr (by simp[hq])
   · rcases hq with hq|hq
     · exact .inl (by simp[hq])
     · rcases List.mem_cons.1 hq with rfl|hq
       · exact .inl (by simp)
       · exact .inr hq
theorem a3r {qs:List (Nat×AOper)} (h:a2m ops [] qs=true):(qs.map (·.1)).Nodup:=by
 rw[List.Nodup,List.pairwise_map];rw[List.pairwise_iff_getElem];intro i j hi t l;have e:qs=qs.take j++qs[j]::qs.drop (j+1):=by rw[← List.drop_eq_getElem_cons t,List.take_append_drop]
 have:=(a0h h (l1:=qs.take j) (l2:=qs.drop (j+1)) (j:=qs[j].1) (p:=qs[j].2) e).2 qs[i].1 qs[i].2 (.inr (by rw[List.mem_take_iff_getElem];exact⟨i,by omega,rfl⟩));exact this.1
theorem b9r (fx:Fx c) (hc:F5 c.P c.gt call) {qs:List (Nat×AOper)} (b8:e9w c ops qs=true) (v:a2m ops [] qs=true) (F:∀ i,i < ops.size→∃ p,(i,p)∈qs) :
 ∀ (n:Nat) (listed:Array Bool) (g:Gh) (w:World) (pr:Nat→Option Pl) (bx:Nat→Nat) (σ:Sig) (a:Act),listed.size=ops.size→(O5 qs listed).length=n →
  (∀ j,listed.getD j false=true→∀ i∈n7 ops j,listed.getD i false=true) →
  S c g w pr bx σ a→g9 call ((O5 qs listed).map (·.2)) σ=some σ'→Post c g w a σ' (Q .normal)→wpAny c.P .any ops Q n listed a w:=by
 have G:∀ {i p},(i,p)∈qs→∃ o,ops[i]?=some o∧a5Q c o p=true∧a0Z c ops o p=true:=fun {i p} hm=>by
  have:=List.all_eq_true.1 b8 _ hm;simp only at this;split at this
  · rename_i o ho;simp only[AA]at this;exact⟨o,ho,this.1,this.2⟩
  · cases this
 have N:∀ {i p},(i,p)∈qs→i < ops.size:=fun {i p} hm=>by obtain⟨o,ho,_⟩:=G hm;exact(Array.getElem?_eq_some_iff.1 ho).1
 have a2:=a3r v;have E:∀ (listed:Array Bool),listed.size=ops.size→Region.ready .any ops listed=[]→O5 qs listed=[]:=by
  intro listed y D;cases u:O5 qs listed with
  | nil=>rfl
  | cons x l =>
   exfalso;obtain⟨i,p⟩:=x;obtain⟨l1,l2,t,b7,hi,_⟩:=List.filter_eq_cons_iff.1 u;simp only[Bool.not_eq_true']at hi;have hm:(i,p)∈qs:=by rw[t]; simp
   have:i∈Region.ready .any ops listed:=by
    refine ready_iff.2 ⟨N hm,hi,fun b hb=>?_⟩;obtain⟨q,hq⟩:=(a0h v t).1 b hb;have hq:(b,q)∈l1:=by simpa using hq
    have V:=b7 _ hq;simp only[Bool.not_eq_true',Bool.not_eq_false]at V;have b4:b < listed.size:=by rw[y]; exact N (p:=q) (by rw[t]; simp[hq])
    rw[a1K b4 false true];exact V
   rw[D]at this;cases this
 intro n;induction n with
 | zero =>intro listed g w pr bx σ a y T _ h D z;have u:O5 qs listed=[]:=List.eq_nil_of_length_eq_zero T;rw[u]at D;simp only[AL,g9,AC]at D;subst D;refine⟨?_,z a w g pr bx rfl h (Tr.refl _ _ _)⟩;apply List.eq_nil_iff_forall_not_mem.2;intro i hi;obtain⟨U,h2,_⟩:=ready_iff.1 hi;obtain⟨p,hp⟩:=F i U;have:(i,p)∈O5 qs listed:=List.mem_filter.2 ⟨hp,by simp[h2]⟩;rw[u]at this;cases this
 | succ n ih =>
  intro listed g w pr bx σ a y T W h D z;refine⟨fun he=>?_,fun i hi=>?_⟩
  · have:=E listed y he;rw[this]at T;cases T
  · obtain⟨U,h2,h3⟩:=ready_iff.1 hi;obtain⟨p,Z⟩:=F i U;obtain⟨o,ho,c0,hg⟩:=G Z;obtain⟨l1,l2,t⟩:=List.append_of_mem Z;have u:O5 qs listed=O5 l1 listed++(i,p)::O5 l2 listed:=by unfold O5;rw[t,List.filter_append,List.filter_cons_of_pos (by simp[h2])]
    rw[u,AR,AG]at D;obtain⟨σ1,O,B⟩:=b5O (fun r D=>by
     obtain⟨⟨k,r'⟩,hk,rfl⟩:=List.mem_map.1 D;obtain⟨a0,J⟩:=List.mem_filter.1 hk;refine((a0h v t).2 k r' (.inr a0)).2.resolve_right fun Y=>?_
     have M:=Y9 W 4 _ h3 k Y;have b6:k < listed.size:=by rw[y]; exact N (p:=r') (by rw[t]; simp[a0])
     simp only[Bool.not_eq_true']at J;rw[a1K b6 true false,M]at J;cases J) D
    have b1:∀ x∈l1++l2,x.1≠i:=by
     rw[t,AR,AG,List.Nodup,List.pairwise_append]at a2;obtain⟨_,a3,b0⟩:=a2;intro x hx e;rcases AP.1 hx with hx|hx
     · exact b0 x.1 (List.mem_map.2 ⟨x,hx,rfl⟩) i (by simp) e
     · exact(List.pairwise_cons.1 a3).1 x.1 (List.mem_map.2 ⟨x,hx,rfl⟩) e.symm
    have I:O5 qs (listed.setIfInBounds i true)=O5 l1 listed++O5 l2 listed:=by
     have e:∀ l:List (Nat×AOper),(∀ x∈l,x.1≠i)→O5 l (listed.setIfInBounds i true)=O5 l listed:=fun l hl=>by unfold O5;apply List.filter_congr;intro x hx;have c3:=hl x hx;rw[Array.getD_eq_getD_getElem?,Array.getD_eq_getD_getElem?,Array.getElem?_setIfInBounds_ne (Ne.symm c3)]
     have c2:(listed.setIfInBounds i true).getD i true=true:=by simp[Array.getD_eq_getD_getElem?,y,U]
     rw[← e l1 (fun x hx=>b1 x (by simp[hx])),← e l2 (fun x hx=>b1 x (by simp[hx]))];unfold O5;rw[t,List.filter_append,List.filter_cons_of_neg (by simp[c2])]
    rw[← AR,← I]at B;refine a4t fx hc h ho c0 hg O fun a1 w1 g1 c4 b2 b5 b3 c1=>?_
    refine ih (listed.setIfInBounds i true) g1 w1 c4 b2 σ1 a1 (by simpa using y) ?_ (fun j hj b hb=>?_) b3 B (z.trans b5 c1)
    · rw[I];rw[u]at T;simp at T ⊢;omega
    · have up:∀ x,listed.getD x false=true→(listed.setIfInBounds i true).getD x false=true:=fun x hx=>by
       by_cases e:i=x
       · subst e; simp[Array.getD_eq_getD_getElem?,y,U]
       · simpa[Array.getD_eq_getD_getElem?,Array.getElem?_setIfInBounds_ne e]using hx
      by_cases e:i=j
      · subst e;exact up b (h3 b hb)
      · refine up b (W j ?_ b hb);simpa[Array.getD_eq_getD_getElem?,Array.getElem?_setIfInBounds_ne e]using hj
theorem b6V:∀ {n:Nat} {l:List Nat},l.Nodup→(∀ x∈l,x < n)→l.length≤n
 | 0,l,_,h=>by
  cases l with
  | nil=>simp
  | cons x l=>exact absurd (h x (by simp)) (by omega)
 | n+1,l,i,h=>by
  have v:(l.erase n).length≤n:=b6V (i.erase n) fun x j=>by
   have t:=List.mem_of_mem_erase j;have u:x≠n:=fun e=>by subst e;exact(List.Nodup.not_mem_erase i) j
   have:=h x t;omega
  have y:l.length≤(l.erase n).length+1:=by rw[List.length_erase];split<;>omega
  omega
theorem a9K {n:Nat} {l:List Nat} (t:l.Nodup) (j:∀ x∈l,x < n) (u:l.length=n):∀ i,i < n→i∈l:=by
 intro i hi;by_cases v:i∈l
 · exact v
 · exfalso;have:=b6V (n:=n) (List.nodup_cons.2 ⟨v,t⟩) fun x hx=>by
    rcases List.mem_cons.1 hx with rfl|hx
    · exact hi
    · exact j x hx
   simp at this;omega
end
end Go.Cb
namespace Go.Cb
open Classical
def a2y (c:Cx) (x:Operand) (y:Opd):Bool:=M0 c x y
def a3E (c:Cx) (ops:Array Oper) (d:Bool) (x:Operand):Bool:=match ops.toList,x with
 | [o0,o1,o2,o3],.tmp s1=>match o0.op,o0.dst,o1.op,o2.op,o3.op,o3.dst with
  | .alloc t,some s0,.store t1 (.tmp j) (.const (.bool _)),.store t2 (.tmp l) (.const (.bool _)),.load t3 (.tmp u),some i =>
   d && t1 == t && t2 == t && t3 == t && j == s0 && l == s0 && u == s0 && i == s1 && o1.dst.isNone && o2.dst.isNone && o0.guard.isNone && o1.guard.isNone && o2.guard.isNone && o3.guard.isNone &&
    !c.slots.contains s0 && !c.slots.contains s1 && s0 != s1 && decide (s0 < c.nt) && decide (s1 < c.nt) && s4 c t == some false && r5 c t == some 1 &&
    (match (c.P.info? t).bind (·.zero)with|some (.bool _)=>true|_=>false) && n7 ops 0 == [] && n7 ops 1 == [0] && n7 ops 2 == [0] && n7 ops 3 == [0,0,1,2]
  | _,_,_,_,_,_=>false
 | _,_=>false
def n5 (c:Cx):Code→ACode→Bool
 | .skip,.skip=>true
 | .exit id,.exit l=>id == l
 | .ret,.ret=>true
 | .region _ ops d,.reg kill t=>a3c c ops d kill t
 | .seq (.region _ ops d) (.cond x a b),.test kill t y i b'=>a3c c ops d kill t && a2y c x y && n5 c a i && n5 c b b'
 | .seq (.region _ ops d) (.seq (.cond x a b) rest),.seq (.test kill t y i b') j=>a3c c ops d kill t && a2y c x y && n5 c a i && n5 c b b' && n5 c rest j
 | .seq (.region _ ops d) (.cond x a b),.either _ i b'=>a3E c ops d x && n5 c a i && n5 c b b'
 | .seq (.region _ ops d) (.seq (.cond x a b) rest),.seq (.either _ i b') j=>a3E c ops d x && n5 c a i && n5 c b b' && n5 c rest j
 | .seq a b,.seq i b'=>n5 c a i && n5 c b b'
 | .cond x a b,.test kill t y i b'=>kill.isEmpty && t.isEmpty && a2y c x y && n5 c a i && n5 c b b'
 | .block id a,.blk l i=>id == l && n5 c a i
 | .loop a,.loop i=>n5 c a i
 | .scope a,i=>n5 c a i
 | _,_=>false
def Ex.toExit:Ex→Exit
 | .normal=>.normal
 | .exit id=>.exit id
 | .ret=>.ret
def After (c:Cx) (g:Gh) (w:World) (a:Act) (out:Out) (Q:Exit→Act→World→Prop):Prop :=
 ∀ i w' g' l j t,i.defers=a.defers→S c g' w' l j ⟨out.2.1,t,out.2.2⟩ i→Tr c.A g w g' w'→Q out.1.toExit i w'
def a4G (c:Cx) (x:Code) (y:ACode):Prop :=
 ∀ {call:d8} {n:Nat} {g:Gh} {w:World} {pr:Nat→Option Pl} {bx:Nat→Nat} {fr:List AV} {τ:Nat→AV} {st:St} {a:Act} {out:Out} {Q:Exit→Act→World→Prop},
  Fx c→c.P.follows .mixedOrders=true→F5 c.P c.gt call→S c g w pr bx ⟨fr,τ,st⟩ a→exec call n y fr st=some out→After c g w a out Q→x.wp c.P Q a w
section
variable {c:Cx}
theorem After.trans {g g':Gh} {w w':World} {a l:Act} {out:Out} {Q:Exit→Act→World→Prop} (h:After c g w a out Q) (t:l.defers=a.defers) (u:Tr c.A g w g' w'):After c g' w' l out Q :=
 fun a2 x g2 pr2 i j d2 v t2=>h a2 x g2 pr2 i j (d2.trans t) v (u.trans t2)
theorem a1o:∀ (kill:List Nat) (fr:List AV) (i:Nat),(i6 kill fr).getD i .undef=fr.getD i .undef∨(i6 kill fr).getD i .undef=.undef
 | [],fr,i=>.inl rfl
 | k::kill,fr,i=>by
  simp only[i6];rcases a1o kill (fr.set k .undef) i with h|h
  · rw[h,M1];split
    · exact .inr rfl
    · exact .inl rfl
  · exact .inr h
theorem a4Z:∀ (kill:List Nat) (fr:List AV),(i6 kill fr).length=fr.length
 | [],_=>rfl
 | k::kill,fr=>by rw[i6,a4Z kill,List.length_set]
theorem VarOK.undef {g:Gh} {w:World} {pr:Nat→Option Pl} {bx:Nat→Nat} {i:Nat} {v:Value}:VarOK g w pr bx i .undef v:=ValOK.undef
theorem S.reset {g:Gh} {w:World} {pr:Nat→Option Pl} {bx:Nat→Nat} {fr:List AV} {τ:Nat→AV} {st:St} {a:Act} (h:S c g w pr bx ⟨fr,τ,st⟩ a) (kill:List Nat) :
 S c g w pr bx ⟨i6 kill fr,fun _=>.undef,st⟩ a:=by
 refine⟨⟨h.fr.size,by rw[a4Z]; exact h.fr.len,fun i s hs=>?_,fun s hs=>ValOK.undef,h.fr.prv,fun i cs hi=>?_⟩,h.st,h.gl,h.fresh,h.stA⟩
 · rcases a1o kill fr i with e|e
   · rw[e]; exact h.fr.var i s hs
   · rw[e]; exact VarOK.undef
 · rcases a1o kill fr i with e|e
   · rw[e]at hi; exact h.fr.bxs i cs hi
   · rw[e]at hi; cases hi
theorem S.drawn {g:Gh} {w:World} {pr:Nat→Option Pl} {bx:Nat→Nat} {σ:Sig} {a:Act} (h:S c g w pr bx σ a) (n:Nat):S c g { w with drawn:=n } pr bx σ a∧Tr c.A g w g { w with drawn:=n }:=by have i:Ext g w g { w with drawn:=n }:=⟨AJ _,fun _ _=>rfl,fun _ _=>rfl,fun _ _ x=>x,fun _ _ _=>rfl⟩;have j:Tr No g w g { w with drawn:=n }:=⟨i,AJ _,Env.drawn rfl rfl rfl,fun b _ hs _=>⟨⟨rfl,fun _ x=>x⟩,hs⟩⟩;exact⟨⟨h.fr.evolve j,h.st.evolve i rfl (AJ _) (fun b p l=>⟨l,rfl,fun _ x=>x⟩) (fun _ _ x=>x) (fun _ _ x=>.inl x),h.gl.ext i,h.fresh,h.stA⟩,j.wider fun _ x=>x.elim⟩
theorem a1l (i:List AOper):∀ (n k:Nat),k+n=i.length→(List.range' k n).filterMap (i[·]?)=i.drop k
 | 0,k,h=>by rw[List.drop_of_length_le (by omega)]; rfl
 | n+1,k,h=>by rw[List.range'_succ,List.filterMap_cons_some (AD (show k < i.length by omega)),a1l i n (k+1) (by omega),← List.drop_eq_getElem_cons]
theorem a6o (i:List AOper):(List.range i.length).filterMap (i[·]?)=i:=by rw[List.range_eq_range',a1l i i.length 0 (by omega)];rfl
theorem b64 (N:Fx c) (hm:c.P.follows .mixedOrders=true) {call:d8} (V:F5 c.P c.gt call) {g:Gh} {w:World} {pr:Nat→Option Pl} {bx:Nat→Nat} {fr:List AV} {τ:Nat→AV} {st:St} {a:Act}
 {id:Nat} {ops:Array Oper} {d:Bool} {kill:List Nat} {t:List AOper} (v:a3c c ops d kill t=true) (h:S c g w pr bx ⟨fr,τ,st⟩ a) {σ':Sig} (Y:g9 call t ⟨i6 kill fr,fun _=>.undef,st⟩=some σ')
 {Q:Exit→Act→World→Prop} (u:Post c g w a σ' (Q .normal)):(Code.region id ops d).wp c.P Q a w:=by
 unfold a3c at v;have O:=h.reset kill;split at v
 · -- in an order of its own
   rename_i M;simp only[AA]at M;have M:=M.1;subst M;simp only[e50,AA]at v;obtain⟨⟨⟨q1,q2⟩,q3⟩,q4⟩:=v;have q1:(a4M kill).length=ops.size:=by simpa using q1
   have q2:t.length=ops.size:=by simpa using q2
   generalize a4M kill=π at *
   refine wp_region_any hm ?_;obtain⟨D,E⟩:=O.drawn (w.drawn+1);have G:(π.zip t).map (·.1)=π:=List.map_fst_zip (by omega);have J:(π.zip t).map (·.2)=t:=List.map_snd_zip (by omega);have W:=a3r q4;have B:∀ x∈(π.zip t).map (·.1),x < ops.size:=fun x Z=>by
    obtain⟨y,hy,rfl⟩:=List.mem_map.1 Z;have:=List.all_eq_true.1 q3 y hy;split at this
    · rename_i o ho;exact(Array.getElem?_eq_some_iff.1 ho).1
    · cases this
   have F:∀ i,i < ops.size→∃ p,(i,p)∈π.zip t:=fun i hi=>by have:=a9K W B (by rw[G]; exact q1) i hi;obtain⟨y,hy,rfl⟩:=List.mem_map.1 this;exact⟨y.2,hy⟩
   have l:O5 (π.zip t) (Array.replicate ops.size false)=π.zip t:=by unfold O5;apply List.filter_eq_self.2;intro x Z;have:=B x.1 (List.mem_map.2 ⟨x,Z,rfl⟩);simp[this]
   refine b9r N V q3 q4 F ops.size (Array.replicate ops.size false) g _ pr bx _ a (by simp) (by rw[l,List.length_zip]; omega) (fun j I=>?_) D (by rw[l,J]; exact Y) (u.trans rfl E);exfalso;rcases Nat.lt_or_ge j ops.size with hl|hl
   · simp[hl]at I
   · simp[Array.getD_eq_getD_getElem?,Nat.not_lt.2 hl]at I
 simp only[AA,Bool.or_eq_true,Bool.not_eq_true']at v;obtain⟨T,U⟩:=v;obtain⟨hl,_⟩:=X7 T;cases d with
 | false =>
  refine wp_region ?_;have:=a9k (Q:=Q) N V T ops.size 0 g w pr bx _ a (by simpa using hl) O (by simpa using Y) u
  rwa [← List.range_eq_range']at this
 | true =>
  have U:=U.resolve_left (by simp);refine wp_region_any hm ?_;obtain⟨D,E⟩:=O.drawn (w.drawn+1);have z:ops.size=t.length:=by simpa using hl
  have l:M5 t.length (Array.replicate ops.size false)=List.range t.length:=by
   unfold M5;apply List.filter_eq_self.2;intro i hi;have:i < t.length:=by simpa using hi
   simp[z,this]
  refine d26 N V T U ops.size (Array.replicate ops.size false) g _ pr bx _ a (by simpa using z) (by rw[l]; simpa using z.symm) (fun j I=>?_) D (by rw[l,a6o]; exact Y) (u.trans rfl E);exfalso;have B:j < t.length:=by
   rcases Nat.lt_or_ge j t.length with h|h
   · exact h
   · simp[Array.getD_eq_getD_getElem?,z,Nat.not_lt.2 h]at I
  simp[z,B]at I
theorem a2A {g:Gh} {w:World} {pr:Nat→Option Pl} {bx:Nat→Nat} {σ:Sig} {a:Act} (h:S c g w pr bx σ a) {x:Operand} {y:Opd} (i:a2y c x y=true) {b:Bool} (l:y.read σ=.bool b):a.eval x=.bool b:=by have j:=N4 h i;rw[l]at j;have t:=ValOK.rel j;simpa only [Rel]using t
theorem a3q {id:Nat} {ops:Array Oper} {d:Bool} {kill:List Nat} {G:List AOper} {x:Operand} {y:Opd} {A B:Code} {I J:ACode} (U:a3c c ops d kill G=true) (N:a2y c x y=true) (V:a4G c A I) (W:a4G c B J)
 {call:d8} {n:Nat} {g:Gh} {w:World} {pr:Nat→Option Pl} {bx:Nat→Nat} {fr:List AV} {τ:Nat→AV} {st:St} {a:Act} {out:Out} {Q Q':Exit→Act→World→Prop}
 (v:Fx c) (E:c.P.follows .mixedOrders=true) (D:F5 c.P c.gt call) (h:S c g w pr bx ⟨fr,τ,st⟩ a) (j:exec call n (.test kill G y I J) fr st=some out) (O:After c g w a out Q') {K:Act→World→Prop}
 (Y:∀ M w',(Code.cond x A B).wp c.P Q' M w'→K M w'):(Code.region id ops d).wp c.P (Exit.then K Q) a w:=by
 simp only[exec]at j;cases F:g9 call G ⟨i6 kill fr,fun _=>.undef,st⟩with
 | none=>simp[F]at j
 | some σ =>
  simp only[F,fL_eq]at j;refine b64 v E D U h F fun a1 w1 g1 Z T l i u=>?_
  show K a1 w1;refine Y a1 w1 ?_;split at j
  · rename_i z;exact wp_cond (t:=true) (a2A i N z) (V v E D (τ:=σ.τ) i j (O.trans l u))
  · rename_i z;exact wp_cond (t:=false) (a2A i N z) (W v E D (τ:=σ.τ) i j (O.trans l u))
  · cases j
theorem R4 {P:Program} {ops:Array Oper} {Q:Exit→Act→World→Prop} {i:Nat} {o:Oper} {K:Act→World→Prop} {a:Act} {w:World} (hi:ops[i]?=some o) (hg:o.guard=none) (h:o.wp P a w K Q):wpOp P ops Q i K a w:=by unfold wpOp;simp only[hi];rw[if_pos (by simp[Region.wanted,hg])];exact .inl h
theorem S.alloc {g:Gh} {w:World} {pr:Nat→Option Pl} {bx:Nat→Nat} {σ:Sig} {a:Act} (h:S c g w pr bx σ a) (cs:Array Value) (T:TypeId):S c g (w.alloc (.cells cs T)) pr bx σ a :=
 ⟨h.fr.evolve (Tr.alloc No h.st.cli (.cells cs T)),h.st.alloc (.cells cs T),h.gl.ext (Ext.alloc h.st.cli (.cells cs T)),fun b i=>h.fresh b (by simp at i; omega),h.stA⟩
theorem S.put_undef {g:Gh} {w:World} {pr:Nat→Option Pl} {bx:Nat→Nat} {fr:List AV} {st:St} {a:Act} (h:S c g w pr bx ⟨fr,fun _=>.undef,st⟩ a) {s:Nat} (hs:s ∉ c.slots) (hl:s < c.nt) (v:Value) :
 S c g w pr bx ⟨fr,fun _=>.undef,st⟩ (a.put (some s) v):=by
 have i:=h.fr.put_t hs hl (a:=.undef) (v:=v) ValOK.undef;have e:q9 (fun _=>AV.undef) s .undef=fun _=>AV.undef:=by funext j;unfold q9;split<;>rfl
 rw[e]at i;exact⟨i,h.st,h.gl,h.fresh,h.stA⟩
structure Toss (c:Cx) (g:Gh) (w0:World) (pr:Nat→Option Pl) (bx:Nat→Nat) (fr:List AV) (st:St) (a0:Act) (s0 blk:Nat) (a:Act) (w:World):Prop where
 s:S c g w pr bx ⟨fr,fun _=>.undef,st⟩ a
 tr:Tr c.A g w0 g w
 df:a.defers=a0.defers
 ptr:a.eval (.tmp s0)=.pointer (some (ad blk 0))
 cell:∃ T b,w.heap[blk]?=some (.cells #[.bool b] T (0,0))
 free:(∀ f,¬ g.cl blk f)∧g.sr blk=none∧(∀ p,pr blk≠some p)∧c.A blk
section
variable {g:Gh} {w0 w:World} {pr:Nat→Option Pl} {bx:Nat→Nat} {fr:List AV} {st:St} {a0 a:Act} {s0 blk:Nat} {o:Oper} {K:Act→World→Prop} {Q:Exit→Act→World→Prop}
theorem Toss.store (h:Toss c g w0 pr bx fr st a0 s0 blk a w) {t:TypeId} {b:Bool} (J:o.op=.store t (.tmp s0) (.const (.bool b))) (F:o.dst=none) (I:r5 c t=some 1) (E:∀ w',Toss c g w0 pr bx fr st a0 s0 blk a w'→K a w'):o.wp c.P a w K Q:=by
 obtain⟨T,z,B⟩:=h.cell;have u:=a0G (c:=c) (w:=w) (a:=a) (o:=o) (v:=.bool b) J h.ptr rfl (by simpa[Value.cells]using I) B (by simp[Value.cells]) (by simp[Value.cells,Value.oneCell']);unfold Oper.wp;rw[u];simp only[Oper.upon,F,Act.put];have e:(#[Value.bool z].toList.take 0++(Value.bool b).cells.toList++#[Value.bool z].toList.drop (0+(Value.bool b).cells.size)).toArray=#[.bool b]:=by simp[Value.cells]
 rw[e];have y:Ext g w g (w.setRow blk #[.bool b]):=Ext.setRow _ h.free.1;have i:∀ b',b'≠blk→H2 g w g (w.setRow blk #[.bool b]) b':=fun b' l=>⟨setRow_other w _ b' _ l,fun _ x=>x⟩
 have M:Tr c.A g w g (w.setRow blk #[.bool b]):=⟨y,by simp,Env.setRow _ _ _,fun b' _ hs D=>⟨i b' (fun e=>D (e ▸ h.free.2.2.2)),hs⟩⟩;refine E _ ⟨⟨?_,h.s.st.evolve y rfl (by simp) (fun b' p l=>⟨l,i b' (fun e=>by rw[e,h.free.2.1]at l; cases l)⟩) (fun _ _ x=>x) (fun _ _ x=>.inl x),h.s.gl.ext y,fun b' l=>h.s.fresh b' (by simpa using l),h.s.stA⟩,h.tr.trans M,h.df,h.ptr,⟨T,b,setRow_heap w _ _ _ T _ B⟩,h.free⟩;refine h.s.fr.change (fun _=>True) y (fun b' p l _=>⟨l,i b' (fun e=>h.free.2.2.1 p (e ▸ l))⟩) (fun b' p l=>?_) (fun j s _=>.inl ⟨⟨trivial,trivial,fun _=>trivial⟩,rfl⟩) (fun s _=>.inl ⟨trivial,rfl⟩) rfl (fun j cs G=>⟨cs,G⟩) h.s.fr.bxs;obtain⟨N,O,S⟩:=h.s.fr.prv b' p l;exact⟨N,by simpa using O,S⟩
theorem Toss.load (h:Toss c g w0 pr bx fr st a0 s0 blk a w) {t:TypeId} {j:Nat} (E:o.op=.load t (.tmp s0)) (B:o.dst=some j) (u:s4 c t=some false) (y:j ∉ c.slots) (hl:j < c.nt)
 (z:∀ l b,l.defers=a0.defers→S c g w pr bx ⟨fr,fun _=>.undef,st⟩ l→Tr c.A g w0 g w→l.eval (.tmp j)=.bool b→K l w):o.wp c.P a w K Q:=by
 obtain⟨T,x,D⟩:=h.cell;have i:=a0I (c:=c) (w:=w) (a:=a) (o:=o) (v:=.bool x) E u h.ptr (by rw[cell_of_row w _ 0 _ T _ D]; rfl);unfold Oper.wp;rw[i,Oper.upon_value,B];refine z _ x h.df (h.s.put_undef y hl _) h.tr ?_;have:j < a.tmps.size:=by rw[h.s.fr.size]; exact hl
 simp only[Act.eval,Act.put];exact E1 this
end
theorem U2 {ops:Array Oper} (x:ops.size=4) (F:n7 ops 0=[]) (B:n7 ops 1=[0]) (D:n7 ops 2=[0]) (E:n7 ops 3=[0,0,1,2]) {l u v y:Bool} {i:Nat} (hi:i∈Region.ready .any ops #[l,u,v,y]) :
 (i=0∧l=false)∨(i=1∧u=false∧l=true)∨(i=2∧v=false∧l=true)∨(i=3∧y=false∧l=true∧u=true∧v=true):=by
 obtain⟨z,t,j⟩:=ready_iff.1 hi;rw[x]at z;match i,z with
 | 0,_=>exact .inl ⟨rfl,by simpa using t⟩
 | 1,_=>rw[B]at j; exact .inr (.inl ⟨rfl,by simpa using t,by simpa using j⟩)
 | 2,_=>rw[D]at j; exact .inr (.inr (.inl ⟨rfl,by simpa using t,by simpa using j⟩))
 | 3,_ =>rw[E]at j;simp only[List.mem_cons,List.not_mem_nil,or_false,forall_eq_or_imp,forall_eq]at j;exact .inr (.inr (.inr ⟨rfl,by simpa using t,by simpa using j.1,by simpa using j.2.2.1,by simpa using j.2.2.2⟩))
theorem a0x {ops:Array Oper} (v:ops.size=4) (D:n7 ops 0=[]) (E:n7 ops 1=[0]) (F:n7 ops 2=[0]) (G:n7 ops 3=[0,0,1,2]) {j l t u:Bool} (J:j=false∨l=false∨t=false∨u=false):Region.ready .any ops #[j,l,t,u]≠[]:=by
 intro I;have no:∀ i,i ∉ Region.ready .any ops #[j,l,t,u]:=fun i=>by rw[I]; simp
 have x:=fun h=>no 0 (ready_iff.2 h)
 have y:=fun h=>no 1 (ready_iff.2 h)
 have z:=fun h=>no 2 (ready_iff.2 h)
 have B:=fun h=>no 3 (ready_iff.2 h)
 rw[D]at x;rw[E]at y;rw[F]at z;rw[G]at B;simp[v]at x y z B;cases j<;>cases l<;>cases t<;>cases u<;>simp_all
theorem d1E (hm:c.P.follows .mixedOrders=true) {g:Gh} {w:World} {pr:Nat→Option Pl} {bx:Nat→Nat} {fr:List AV} {τ:Nat→AV} {st:St} {a:Act} {id:Nat} {ops:Array Oper} {d:Bool} {x:Operand} (F:a3E c ops d x=true)
 (h:S c g w pr bx ⟨fr,τ,st⟩ a) {Q:Exit→Act→World→Prop} (U:∀ b a' w',a'.defers=a.defers→S c g w' pr bx ⟨fr,fun _=>.undef,st⟩ a'→Tr c.A g w g w'→a'.eval x=.bool b→Q .normal a' w'):(Code.region id ops d).wp c.P Q a w:=by
 unfold a3E at F;split at F
 case h_2=>cases F
 rename_i o0 o1 o2 o3 s1 J;split at F
 case h_2=>cases F
 rename_i t s0 t1 u1 k1 t2 u2 k2 t3 u3 s3 e0 d0 e1 e2 e3 d3;simp only[AA,beq_iff_eq,bne_iff_ne,ne_eq,Option.isNone_iff_eq_none,decide_eq_true_eq,Bool.not_eq_true']at F;obtain⟨⟨⟨⟨⟨⟨⟨⟨⟨⟨⟨⟨⟨⟨⟨⟨⟨⟨⟨⟨⟨⟨⟨⟨⟨c1,c2⟩,c3⟩,c4⟩,c5⟩,c6⟩,c7⟩,c8⟩,c9⟩,V⟩,a1⟩,W⟩,Y⟩,b0⟩,M⟩,N⟩,b7⟩,Z⟩,b1⟩,b2⟩,c21⟩,a0⟩,v⟩,y⟩,B⟩,D⟩:=F;have c2:=c2.symm; have c3:=c3.symm; have c4:=c4.symm; have c5:=c5.symm; have c6:=c6.symm; have c7:=c7.symm;subst c1; subst c2; subst c3; subst c4; subst c5; subst c6; subst c7; subst c8;have M:s0 ∉ c.slots:=by simpa using M
 have N:s3 ∉ c.slots:=by simpa using N
 have u:ops.size=4:=by rw[← Array.length_toList,J]; rfl
 have at_:∀ (i:Nat) o,[o0,o1,o2,o3][i]?=some o→ops[i]?=some o:=fun i o hi=>by rw[← Array.getElem?_toList,J]; exact hi
 split at a0
 case h_2=>cases a0
 rename_i z hz;refine wp_region_any hm ?_;rw[u];obtain⟨E,b5⟩:=(h.reset []).drawn (w.drawn+1);have E:S c g { w with drawn:=w.drawn+1 } pr bx ⟨fr,fun _=>.undef,st⟩ a:=E;show wpAny c.P .any ops Q 4 #[false,false,false,false] a { w with drawn:=w.drawn+1 };generalize ({ w with drawn:=w.drawn+1 }:World)=w1 at *
 -- the last one
 have last:∀ blk a2 I,Toss c g w pr bx fr st a s0 blk a2 I→wpAny c.P .any ops Q 1 #[true,true,true,false] a2 I:=by
  intro blk a2 I hT;refine⟨fun G=>absurd G (a0x u v y B D (by simp)),fun i hi=>?_⟩;rcases U2 u v y B D hi with⟨_,l⟩|⟨_,l,_⟩|⟨_,l,_⟩|⟨rfl,_⟩<;>try (cases l; done)
  refine R4 (at_ 3 o3 rfl) b0 (hT.load e3 d3 b2 N b1 fun a3 b b4 b3 b6 l=>?_);show wpAny c.P .any ops Q 0 #[true,true,true,true] a3 I;refine⟨?_,U b a3 I b4 b3 b6 l⟩;apply List.eq_nil_iff_forall_not_mem.2;intro j hj;rcases U2 u v y B D hj with⟨_,l⟩|⟨_,l,_⟩|⟨_,l,_⟩|⟨_,l,_⟩<;>cases l
 have one:∀ blk a2 I,Toss c g w pr bx fr st a s0 blk a2 I→wpAny c.P .any ops Q 3 #[true,false,false,false] a2 I:=by
  intro blk a2 I hT;refine⟨fun G=>absurd G (a0x u v y B D (by simp)),fun i hi=>?_⟩;rcases U2 u v y B D hi with⟨_,l⟩|⟨rfl,_⟩|⟨rfl,_⟩|⟨_,_,_,l,_⟩<;>try (cases l; done)
  · refine R4 (at_ 1 o1 rfl) W (hT.store e1 c9 c21 fun w3 O=>?_);show wpAny c.P .any ops Q 2 #[true,true,false,false] a2 w3;refine⟨fun G=>absurd G (a0x u v y B D (by simp)),fun i hi=>?_⟩;rcases U2 u v y B D hi with⟨_,l⟩|⟨_,l,_⟩|⟨rfl,_⟩|⟨_,_,_,_,l⟩<;>try (cases l; done)
    exact R4 (at_ 2 o2 rfl) Y (O.store e2 V c21 fun w4 T=>last blk a2 w4 T)
  · refine R4 (at_ 2 o2 rfl) Y (hT.store e2 V c21 fun w3 O=>?_);show wpAny c.P .any ops Q 2 #[true,false,true,false] a2 w3;refine⟨fun G=>absurd G (a0x u v y B D (by simp)),fun i hi=>?_⟩;rcases U2 u v y B D hi with⟨_,l⟩|⟨rfl,_⟩|⟨_,l,_⟩|⟨_,_,_,l,_⟩<;>try (cases l; done)
    exact R4 (at_ 1 o1 rfl) W (O.store e1 c9 c21 fun w4 T=>last blk a2 w4 T)
 refine⟨fun G=>absurd G (a0x u v y B D (by simp)),fun i hi=>?_⟩;rcases U2 u v y B D hi with⟨rfl,_⟩|⟨_,_,l⟩|⟨_,_,l⟩|⟨_,_,l,_⟩<;>try (cases l; done)
 refine R4 (at_ 0 o0 rfl) a1 ?_;unfold Oper.wp;rw[a3G e0 hz,Oper.upon_value,d0];show wpAny c.P .any ops Q 3 #[true,false,false,false] _ _;refine one w1.heap.size _ _ ⟨(E.alloc _ _).put_undef M Z _,b5.trans (Tr.alloc _ E.st.cli _),rfl,?_,⟨t,z,?_⟩,fun f hf=>Nat.lt_irrefl _ (E.st.cli _ f hf),?_,fun p hp=>?_,E.fresh _ (AJ _)⟩
 · have:s0 < a.tmps.size:=by rw[E.fr.size]; exact Z
   simp only[Act.eval,Act.put];exact E1 this
 · exact heap_alloc_new w1 _
 · cases hq:g.sr w1.heap.size with
   | none=>rfl
   | some p=>exact absurd (E.st.inn _ p hq) (Nat.lt_irrefl _)
 · have:=(E.fr.prv _ p hp).2.1;omega
theorem G6 {call:d8} {n:Nat} {A B:ACode} {fr:List AV} {st:St} {out:Out} (h:exec call n (.seq A B) fr st=some out) :
 (∃ i j,exec call n A fr st=some (.normal,i,j)∧exec call n B i j=some out)∨(exec call n A fr st=some out∧out.1≠.normal):=by
 simp only[exec]at h;split at h
 · rename_i i j t; exact .inl ⟨i,j,t,h⟩
 · rename_i t;obtain⟨e,l,st'⟩:=out;refine .inr ⟨h,fun u=>?_⟩;simp only at u;subst u;exact t l st' h
theorem a5n {id:Nat} {ops:Array Oper} {d:Bool} {kill:List Nat} {x:Operand} {A B:Code} {E F:ACode} (U:a3E c ops d x=true) (V:a4G c A E) (W:a4G c B F)
 {call:d8} {n:Nat} {g:Gh} {w:World} {pr:Nat→Option Pl} {bx:Nat→Nat} {fr:List AV} {τ:Nat→AV} {st:St} {a:Act} {out:Out} {Q Q':Exit→Act→World→Prop}
 (I:Fx c) (y:c.P.follows .mixedOrders=true) (M:F5 c.P c.gt call) (h:S c g w pr bx ⟨fr,τ,st⟩ a) (N:exec call n (.either kill E F) fr st=some out) (Z:After c g w a out Q') {K:Act→World→Prop}
 (Y:∀ G w',(Code.cond x A B).wp c.P Q' G w'→K G w'):(Code.region id ops d).wp c.P (Exit.then K Q) a w:=by
 simp only[exec]at N;obtain⟨oa,ob,O,T,ka,kb⟩:=a0U N;refine d1E y U h fun b a1 w1 u i z J=>?_
 show K a1 w1;refine Y a1 w1 ?_;have after:∀ o,B7 kill o=out→After c g w1 a1 o Q':=fun o ho a2 w2 g2 pr2 j a0 v l D=>by subst ho;exact Z a2 w2 g2 pr2 j _ (v.trans u) (l.reset kill) (z.trans D)
 cases b with
 | true=>exact wp_cond (t:=true) J (V I y M i O (after oa ka))
 | false=>exact wp_cond (t:=false) J (W I y M i T (after ob kb))
theorem m5:∀ (x:Code) (y:ACode),n5 c x y=true→a4G c x y:=by
 intro x y h;unfold n5 at h;split at h
 · -- skip
   intro call n g w pr bx fr τ st a out Q F I G E i D;simp only[exec,AC]at i;subst i;exact wp_skip (D a w g pr bx τ rfl E (Tr.refl _ _ _))
 · intro call n g w pr bx fr τ st a out Q F I G E i D;simp only[beq_iff_eq]at h;subst h;simp only[exec,AC]at i;subst i;exact wp_exit (D a w g pr bx τ rfl E (Tr.refl _ _ _))
 · intro call n g w pr bx fr τ st a out Q F I G E i D;simp only[exec,AC]at i;subst i;exact wp_ret (D a w g pr bx τ rfl E (Tr.refl _ _ _))
 · -- a region
   intro call n g w pr bx fr τ st a out Q F I G E i D;rename_i id ops d kill ps;simp only[exec]at i;cases hr:g9 call ps ⟨i6 kill fr,fun _=>.undef,st⟩with
   | none=>simp[hr]at i
   | some σ =>simp only[hr,fL_eq,AC]at i;subst i;exact b64 F I G h E hr fun a1 w1 g1 z v l j u=>D a1 w1 g1 z v σ.τ l j u
 · -- a region and a test
   intro call n g w pr bx fr τ st a out Q F I G E i D;simp only[AA]at h;obtain⟨⟨⟨O,V⟩,T⟩,U⟩:=h;exact wp_seq (a3q O V (m5 _ _ T) (m5 _ _ U) F I G E i D fun _ _ x=>x)
 · -- a region, a test, and more
   intro call n g w pr bx fr τ st a out Q F I G E i D;simp only[AA]at h;obtain⟨⟨⟨⟨O,V⟩,T⟩,U⟩,h5⟩:=h;rename_i rest kill ps y A' B' a0;rcases G6 i with⟨J,M,N,e2⟩|⟨N,hn⟩
   · refine wp_seq (a3q (Q':=Exit.then (rest.wp c.P Q) Q) O V (m5 _ _ T) (m5 _ _ U) F I G E N (fun a1 w1 g1 z v B l j u=>?_) fun _ _ x=>wp_seq x);exact m5 _ _ h5 F I G j e2 (D.trans l u)
   · refine wp_seq (a3q (Q':=Exit.then (rest.wp c.P Q) Q) O V (m5 _ _ T) (m5 _ _ U) F I G E N (fun a1 w1 g1 z v B l j u=>?_) fun _ _ x=>wp_seq x);have:=D a1 w1 g1 z v B l j u;revert this hn;cases out.1<;>simp[Ex.toExit,Exit.then]
 · -- a coin
   intro call n g w pr bx fr τ st a out Q F I G E i D;simp only[AA]at h;obtain⟨⟨O,T⟩,U⟩:=h;exact wp_seq (a5n O (m5 _ _ T) (m5 _ _ U) F I G E i D fun _ _ x=>x)
 · -- a coin, and more
   intro call n g w pr bx fr τ st a out Q F I G E i D;simp only[AA]at h;obtain⟨⟨⟨O,T⟩,U⟩,h5⟩:=h;rename_i rest kill A' B' a0;rcases G6 i with⟨J,M,N,e2⟩|⟨N,hn⟩
   · refine wp_seq (a5n (Q':=Exit.then (rest.wp c.P Q) Q) O (m5 _ _ T) (m5 _ _ U) F I G E N (fun a1 w1 g1 z v B l j u=>?_) fun _ _ x=>wp_seq x);exact m5 _ _ h5 F I G j e2 (D.trans l u)
   · refine wp_seq (a5n (Q':=Exit.then (rest.wp c.P Q) Q) O (m5 _ _ T) (m5 _ _ U) F I G E N (fun a1 w1 g1 z v B l j u=>?_) fun _ _ x=>wp_seq x);have:=D a1 w1 g1 z v B l j u;revert this hn;cases out.1<;>simp[Ex.toExit,Exit.then]
 · -- one after the other
   intro call n g w pr bx fr τ st a out Q F I G E i D;simp only[AA]at h;obtain⟨O,V⟩:=h;refine wp_seq ?_;rcases G6 i with⟨J,M,N,e2⟩|⟨N,hn⟩
   · exact m5 _ _ O F I G E N fun a1 w1 g1 z v B l j u=>m5 _ _ V F I G j e2 (D.trans l u)
   · refine m5 _ _ O F I G E N fun a1 w1 g1 z v B l j u=>?_
     have:=D a1 w1 g1 z v B l j u;revert this hn;cases out.1<;>simp[Ex.toExit,Exit.then]
 · -- a bare test
   intro call n g w pr bx fr τ st a out Q F I G E i D;simp only[AA,List.isEmpty_iff]at h;obtain⟨⟨⟨⟨rfl,rfl⟩,V⟩,T⟩,U⟩:=h;simp only[exec,g9,i6,fL_eq]at i;have W:=E.reset [];split at i
   · rename_i hb;exact wp_cond (t:=true) (a2A W V hb) (m5 _ _ T F I G W i D)
   · rename_i hb;exact wp_cond (t:=false) (a2A W V hb) (m5 _ _ U F I G W i D)
   · cases i
 · -- a block
   intro call n g w pr bx fr τ st a out Q F I G E i D;simp only[AA,beq_iff_eq]at h;obtain⟨rfl,O⟩:=h;simp only[exec]at i;refine wp_block ?_;split at i
   · rename_i Z J M N;simp only[AC]at i;subst i;refine m5 _ _ O F I G E N fun a1 w1 g1 z v B l j u=>?_
     have:=D a1 w1 g1 z v B l j u;simp only[Ex.toExit,Exit.inBlock];split
     · rename_i e; simpa[e,Ex.toExit]using this
     · rename_i e; simpa[e,Ex.toExit]using this
   · rename_i Y;refine m5 _ _ O F I G E i fun a1 w1 g1 z v B l j u=>?_
     have:=D a1 w1 g1 z v B l j u;obtain⟨e,J,M⟩:=out;cases e with
     | normal=>exact this
     | exit Z=>exact absurd i (Y Z J M)
     | ret=>exact this
 · -- a loop
   intro call n g w pr bx fr τ st a out Q F I G E i D;rename_i A A';simp only[exec]at i;refine wp_loop_rounds n ?_;have body:a4G c A A':=m5 A A' h;have key:∀ (m:Nat) (g:Gh) (w:World) (pr:Nat→Option Pl) (bx:Nat→Nat) (fr:List AV) (τ:Nat→AV) (st:St) (a:Act),S c g w pr bx ⟨fr,τ,st⟩ a→E6 (exec call n A') m fr st=some out→After c g w a out Q→Code.rounds c.P A Q m a w:=by
    intro m;induction m with
    | zero=>intro g w pr bx fr τ st a _ i; simp[E6]at i
    | succ m ih =>
     intro g w pr bx fr τ st a E i D;rw[rounds_succ];simp only[E6]at i;split at i
     · rename_i J M N;exact body F I G E N fun a1 w1 g1 z v B l j u=>ih g1 w1 z v J B M a1 j i (D.trans l u)
     · rename_i Y;refine body F I G E i fun a1 w1 g1 z v B l j u=>?_
       have:=D a1 w1 g1 z v B l j u;obtain⟨e,J,M⟩:=out;cases e with
       | normal=>exact absurd i (Y J M)
       | exit Z=>exact this
       | ret=>exact this
   exact key n g w pr bx fr τ st a E i D
 · -- a scope
   intro call n g w pr bx fr τ st a out Q F I G E i D;refine wp_scope_straight (m5 _ _ h F I G E i fun a1 w1 g1 z v B l j u=>?_);have:=D a1 w1 g1 z v B l j u;revert this;cases out.1<;>simp[Ex.toExit,Exit.noGoto]
 · cases h
termination_by x=>x
end
end Go.Cb
