import Derived.Test.YtlegecilkicppaaGreatDoorXAms1
import Derived.Orders
import Derived.Scope
import Derived.LoopN
set_option maxRecDepth 4000
set_option linter.all false
namespace Go.Cb
open Classical
section
variable {c:Cx} {g:Gh} {w:World} {pr:Nat→Option Pl} {bx:Nat→Nat} {σ:Sig} {a:Act} {o:Oper} {call:d8} {b b' r:AV} {st st':St} {fr as:List AV}
theorem a7Q {mine:Nat→Prop} {x:AV} {v:Value} (h:ArgOK g w bx fr mine x v) (j:x.plain=true):RowOK g w x.cellsW v.cells.toList:=by
 have hm:=a1G h j;have B:=h.plain j;cases x with
 | agg cs =>have z:=B.rel;simp only[Rel]at z;obtain⟨arr,rfl,t,C⟩:=z;exact⟨t,C,fun k y u i hu=>B.agg cs rfl arr rfl k y u i (by simpa[Value.cells]using hu)⟩
 | list own xs =>
  have z:=B.rel;simp only[Rel]at z;obtain⟨a0,n,cap,rfl,l⟩:=z;refine⟨by simp only[AV.cellsW,Value.cells,RelL]; exact⟨_,[],rfl,by simp only[Rel]; exact⟨a0,n,cap,rfl,l⟩,rfl⟩,by simp[Value.cells,Value.oneCell'],fun k y u i hu ys e=>?_⟩;obtain rfl:k=0:=by cases k with|zero=>rfl|succ k=>simp[AV.cellsW]at i
  simp[AV.cellsW]at i;simp[Value.cells]at hu;subst hu;rw[← i]at e;simp only[AV.list.injEq,AA,List.isEmpty_iff]at e;obtain⟨⟨rfl,rfl⟩,rfl⟩:=e;rcases B.own [] rfl with⟨a1,D,t⟩|⟨_,_,_,_,_,_,_,_,t,_⟩
  · exact⟨a1,D,t⟩
  · exact absurd rfl t
 | undef=>simp[AV.plain]at j
 | loc=>simp[AV.plain]at j
 | box=>simp[AV.plain]at j
 | tuple=>simp[AV.plain]at j
 | fresh=>simp[AV.plain]at j
 | _ =>
  refine⟨hm.rel,hm.one,fun k y u i _ ys e=>?_⟩;obtain rfl:k=0:=by cases k with|zero=>rfl|succ k=>simp[AV.cellsW]at i
  simp[AV.cellsW]at i;rw[← i]at e;cases e
theorem b50 (h:S c g w pr bx σ a) {x:Operand} {p:Opd} (l:B9 c x p=true) {i f:Nat} (t:p.read σ=.loc i f):p.spend σ=σ:=by
 cases j:p.src with
 | some src=>exact(I6 h l j src).2.1 i f t
 | none=>cases p<;>simp_all [Opd.src,Opd.spend]
theorem a4N (B:Fx c) (h:S c g w pr bx σ a) {x:Operand} {p:Opd} {d:Dst} (ho:o.op=.move x∨o.op=.assign x) (y:B9 c x p=true) (D:n8 c o.dst d=true)
 {next:Act→World→Prop} {Q:Exit→Act→World→Prop} (i:Post c g w a (d.put (p.read σ) (p.spend σ)) next):o.wp c.P a w next Q:=by
 obtain⟨l,C,t,_⟩:=L2 h y d.pl;have j:(execOp a.eval o).run c.P w=.ok (.value (a.eval x)) w:=by rcases ho with ho|ho<;>simp[execOp,ho]
 have u:ArgOK g w bx (p.spend σ).fr (fun b=>l b=some d.pl) (p.read σ) (a.eval x):=by
  cases z:p.read σ<;>rw[z]at t<;>first
   | exact t
   | (rw[b50 h y z]; exact t)
 unfold Oper.wp;rw[j];exact i _ _ g l bx (s7 _ _ _) (U9 B C D (r:=p.read σ) (v:=a.eval x) u fun _ x=>x) (Tr.refl _ _ _)
theorem b1H {elem:TypeId} {x:Operand} (i:o.op=.box elem x) :
 (execOp a.eval o).run c.P w=.ok (.value (.pointer (some (ad w.heap.size 0)))) (w.alloc (.cells (a.eval x).cells elem)):=by
 simp[execOp,i,Instr.box,newVar,newRow]
theorem a4g {elem:TypeId} {z:Value} (l:o.op=.alloc elem) (j:(c.P.info? elem).bind (·.zero)=some z) :
 (execOp a.eval o).run c.P w=.ok (.value (.pointer (some (ad w.heap.size 0)))) (w.alloc (.cells z.cells elem)):=by
 obtain⟨i,hi,j⟩:=Option.bind_eq_some_iff.1 j;simp[execOp,l,Instr.alloc,newVar,newRow,zeroValue,typeInfo,hi,j]
theorem b18 (y:Fx c) (h:S c g w pr bx σ a) {i s:Nat} (u:o.dst=some s) (hs:c.slots[i]?=some s) (hi:i∈c.bxs) (hu:σ.fr.getD i .undef=.undef) {cs:List AV} {arr:Array Value} {T:TypeId}
 (l:(execOp a.eval o).run c.P w=.ok (.value (.pointer (some (ad w.heap.size 0)))) (w.alloc (.cells arr T))) (B:RowOK g w cs arr.toList) {next:Act→World→Prop} {Q:Exit→Act→World→Prop}
 (j:Post c g w a { σ with fr:=σ.fr.set i (.box cs) } next):o.wp c.P a w next Q:=by
 obtain⟨x,t,z⟩:=b6V y h hs hi hu (T:=T) B;unfold Oper.wp;rw[l,Oper.upon_value,u];exact j _ _ g x t rfl z (Tr.alloc _ h.st.cli _)
theorem a4U (D:Fx c) (h:S c g w pr bx σ a) {d:Dst} (F:n8 c o.dst d=true) {C:Obj} {O:_root_.Go.Obj} {r:AV} {v:Value} (l:(execOp a.eval o).run c.P w=.ok (.value v) (w.alloc O))
 {cap:Nat} (J:∀ c t z,O=.cells c t z→z=(0,0)) (u:Ext g w (g.more w.heap.size cap) (w.alloc O)→ObjOK (g.more w.heap.size cap) (w.alloc O) g.n C)
 (I:(r=.ptr σ.st.length 0∧v=.pointer (some (ad w.heap.size 0)))∨(r=.map σ.st.length∧v=.map (some w.heap.size))∨(∃ k B,r=.sl σ.st.length 0 k B∧v=.slice (some (ad w.heap.size 0)) k k∧k*B=cap)) {next:Act→World→Prop} {Q:Exit→Act→World→Prop}
 (j:Post c g w a (d.put r { σ with st:=σ.st++[C] }) next):o.wp c.P a w next Q:=by
 obtain⟨E,y,hm,i⟩:=c1a h (O:=O) J u;unfold Oper.wp;rw[l,Oper.upon_value];refine j _ _ _ pr bx (s7 _ _ _) (U9 D E F (mine:=No) (r:=r) (v:=v) ?_ fun _ x=>x.elim) y;rcases I with⟨rfl,rfl⟩|⟨rfl,rfl⟩|⟨k,B,rfl,rfl,G⟩
 · exact(show ValOK _ _ No (.ptr _ _) _ from ValOK.mk' (by simp only[Rel]; exact⟨i,by rw[hm]⟩) (by simp) (by simp))
 · exact(show ValOK _ _ No (.map _) _ from ValOK.mk' (by simp only[Rel]; exact⟨i,by rw[hm]⟩) (by simp) (by simp))
 · exact(show ValOK _ _ No (.sl _ _ _ _) _ from ValOK.mk' (by simp only[Rel]; exact⟨i,k,by rw[hm],AJ _,by simp[Gh.more,h.st.n,G]⟩) (by simp) (by simp))
def CallPost (g:Gh) (w:World) (st':St) (res:AV) (e:Ending) (w':World):Prop :=
 ∃ v g',e=.returned v∧SRel g' w' st'∧Tr No g w g' w'∧ValOK g' w' (fun b=>g'.sr b=none∧b < w'.heap.size∧(w.heap.size≤b∨g.sr b≠none)) res v
def U8 (P:Program) (f:Nat):Bool:=match P.funcs[f]? with
 | some fn=>!(fn.name == "runtime.NumGoroutine") && fn.body.isSome
 | none=>false
theorem a1I {P:Program} {f:FuncId} (h:U8 P f=true) (args:Array Value) (w:World):(callFunc f args).run P w=.ok (.enter f args) w:=by
 unfold U8 at h;split at h
 · rename_i fn l;simp only[AA,Bool.not_eq_true']at h;obtain⟨j,i⟩:=h;have i:fn.body.isNone=false:=by cases t:fn.body<;>simp_all
   simp only[callFunc,Sem.run_bind,run_program,Result.andThen_ok,l,j,i,Bool.false_eq_true,if_false,Sem.run_pure]
 · cases h
def F9 (P:Program) (gt:List (Nat×List AV)) (call:d8):Prop :=
 ∀ (f:Nat) (args:List AV) (st:St) (res:AV) (st':St),call f args st=some (res,st')→(∀ x∈args,x.weak=x) →
  U8 P f=true∧∀ (g:Gh) (w:World) (vs:List Value),SRel g w st→Globs gt g w→RelL g w args vs→Calls P f vs.toArray w (CallPost g w st' res)
theorem a9L (d:Dst) (r:AV) (σ:Sig) (st':St):d.put r { σ with st:=st' }={ d.put r σ with st:=st' }:=by cases d<;>rfl
theorem a8A (T:Fx c) (h:S c g w pr bx σ a) {f:FuncId} {vs:Array Value} {res:AV} {d:Dst} (F:(execOp a.eval o).run c.P w=.ok (.enter f vs) w)
 (U:Calls c.P f vs w (CallPost g w st' res)) (V:n8 c o.dst d=true) {next:Act→World→Prop} {Q:Exit→Act→World→Prop} (u:Post c g w a (d.put res { σ with st:=st' }) next):o.wp c.P a w next Q:=by
 unfold Oper.wp;rw[F,Oper.upon_enter];refine U.mono fun e w' W=>?_
 obtain⟨v,g',rfl,G,j,R⟩:=W;show next (a.put o.dst v) w'
 have O:∀ i f,res≠.loc i f:=fun i f e=>by rw[e]at R; exact R.rel
 have z:∀ b p,g'.sr b=some p→c.A b:=fun b p l=>by
  rcases Nat.lt_or_ge b w.heap.size with N|hge
  · cases C:g.sr b with
    | some q=>exact h.stA b q C
    | none=>have:=(j.keep b N C (fun x=>x)).2; rw[l]at this; cases this
  · exact h.fresh b hge
 have t:∀ b p,pr b=some p→H3 g w g' w' b∧g'.sr b=none:=fun b p l=>by obtain⟨I,D,_⟩:=h.fr.prv b p l;exact j.keep b D I (fun x=>x)
 cases y:o.dst with
 | none =>
  have M:d=.none:=by cases d<;>simp_all [n8]
  subst M;refine u _ _ g' pr bx rfl ⟨h.fr.evolve j,G,h.gl.ext j.ext,fun b l=>h.fresh b (Nat.le_trans j.size l),z⟩ (j.wider fun _ x=>x.elim)
 | some s =>
  rw[← y];let pr2:Nat→Option Pl:=fun b=>if pr b=none∧g'.sr b=none∧b < w'.heap.size∧(w.heap.size≤b∨g.sr b≠none)then some d.pl else pr b
  have E:∀ b p,pr b=some p→pr2 b=some p:=fun b p l=>by simp only[pr2];rw[if_neg (by rw[l]; simp)];exact l
  refine u _ _ g' pr2 bx (s7 _ _ _) (a9L d res σ st' ▸ a2H T h V (by rw[y]; rfl) j.ext G (fun b p l _=>⟨E b p l,(t b p l).1⟩) (fun b p l=>?_) j.size z ?_) (j.wider fun _ x=>x.elim)
  · simp only[pr2]at l;split at l
    · rename_i B;obtain⟨_,D,J,h4⟩:=B;refine⟨D,J,?_⟩;rcases h4 with h4|h4
      · exact h.fresh b h4
      · cases C:g.sr b with
        | none=>exact absurd C h4
        | some q=>exact h.stA b q C
    · obtain⟨I,D,J⟩:=h.fr.prv b p l;exact⟨(t b p l).2,Nat.lt_of_lt_of_le D j.size,J⟩
  · refine ArgOK.of_val (R.mono (Ext.refl _ _) fun b l=>⟨?_,rfl,fun _ x=>x⟩) O;have hn:pr b=none:=by
     cases C:pr b with
     | none=>rfl
     | some q =>
      obtain⟨I,D,_⟩:=h.fr.prv b q C;rcases l.2.2 with h4|h4
      · omega
      · exact absurd I h4
    simp only[pr2];rw[if_pos ⟨hn,l⟩]
theorem OwnN.own {x:AV} {v:Value} {mine:Nat→Prop} (h:OwnN x v):OwnC g w mine x v:=fun xs e=>.inl (h xs e)
theorem b4X {mine:Nat→Prop} {x:AV} {v:Value} (h:OwnC g w mine x v):OwnN x.cellW1 v:=by
 intro xs e;cases x<;>simp only[AV.cellW1]at e<;>try (cases e; done)
 rename_i o ys;simp only[AV.list.injEq,AA,List.isEmpty_iff]at e;obtain⟨⟨rfl,rfl⟩,rfl⟩:=e;rcases h [] rfl with i|⟨_,_,_,_,_,_,_,_,i,_⟩
 · exact i
 · exact absurd rfl i
theorem Rel.cellW1 {x:AV} {v:Value} (h:Rel g w x v):Rel g w x.cellW1 v:=by cases x<;>first|exact h|(simp only[AV.cellW1,Rel]at h ⊢; exact h)
theorem RelL.cellW1:∀ {as:List AV} {vs:List Value},RelL g w as vs→RelL g w (as.map AV.cellW1) vs
 | [],_,h=>h
 | x::as,_,h=>by simp only[RelL,AG]at h ⊢;obtain⟨v,r,e,i,j⟩:=h;exact⟨v,r,e,i.cellW1,RelL.cellW1 j⟩
theorem a6t {mine:Nat→Prop} {x:AV} {v:Value} (h:ArgOK g w bx fr mine x v) (j:x.plain=true):RowOK g w (x.cells.map AV.cellW1) v.cells.toList:=by have hm:=a1G h j;refine⟨hm.rel.cellW1,hm.one,fun k y u i hu=>?_⟩;rw[AQ]at i;obtain⟨z,l,rfl⟩:=AK.1 i;exact b4X (hm.own k z u l hu)
theorem b8o {cs u:List AV} {us vs:List Value} {off:Nat} (h:RowOK g w cs us) (l:RowOK g w u vs) (D:off+vs.length≤us.length):RowOK g w (n6 cs off u) (us.take off++vs++us.drop (off+vs.length)):=by
 obtain⟨F,G⟩:=a4J (off:=off) h.rel h.one l.rel l.one;refine⟨F,G,fun k x v y E=>?_⟩;have B:=h.rel.length;have C:=l.rel.length;unfold n6 at y;have t:=a1a (by omega) y;have i:=a1a (by omega) E;rcases t with⟨z,z2⟩|⟨z,z2,z3⟩|⟨z,z2⟩
 · rcases i with⟨_,v2⟩|⟨j,_⟩|⟨j,_⟩
   · exact h.own k x v z2 v2
   · omega
   · omega
 · rcases i with⟨j,_⟩|⟨_,_,v3⟩|⟨j,_⟩
   · omega
   · exact l.own _ x v z3 v3
   · omega
 · rcases i with⟨j,_⟩|⟨_,j,_⟩|⟨_,v2⟩
   · omega
   · omega
   · exact h.own k x v z2 v2
inductive RowsW (g:Gh) (w:World):List AV→List Value→Prop where
 | nil:RowsW g w [] []
 | cons {p:AV} {v:Value} {ps:List AV} {vs:List Value} (h:p.plain=true→RowOK g w (p.cells.map AV.cellW1) v.cells.toList) (t:RowsW g w ps vs):RowsW g w (p::ps) (v::vs)
theorem a0O {u:Nat}:∀ {is:List Nat} {F:List AV} {rs l:List (List AV)} {arr:Array Value} {vs:List Value},
 m7 u is F rs=some l→RowsW g w F vs→(∀ x∈rs,x.length=u)→RowOK g w rs.flatten arr.toList →
 ∃ j,Instr.fill (fun i=>some (i*u,u)) arr (is.zip vs)=some j∧(∀ x∈l,x.length=u)∧RowOK g w l.flatten j.toList∧l.length=rs.length
 | [],[],rs,l,arr,vs,h,ha,hr,hl=>by simp only[m7,AC]at h;subst h;exact⟨arr,by simp[Instr.fill],hr,hl,rfl⟩
 | i::is,p::F,rs,l,arr,vs,h,ha,hr,hl=>by
  simp only[m7]at h;split at h
  · rename_i N;obtain⟨y,B,hi⟩:=N;cases ha with
    | cons J M =>
     rename_i v vs;have t:=J y;have z:(p.cells.map AV.cellW1).length=u:=by simpa using B
     have E:v.cells.toList.length=v.cells.size:=by simp
     have S:v.cells.size=u:=by have:=t.rel.length; omega
     have D:=P7 hr;have C:rs.flatten.length=arr.size:=hl.rel.length.trans (by simp);have R:i*u+u≤arr.size:=by rw[← C,D,← Nat.succ_mul]; exact Nat.mul_le_mul_right _ hi
     have O:=a5S v (i*u) arr (by omega);have G:=b8o (off:=i*u) hl t (by simp; omega);rw[E,← O]at G;rw[← a1W z hr hi]at G;obtain⟨j,e1,e2,e3,I⟩:=a0O h M (fun x hx=>by
      rcases List.mem_or_eq_of_mem_set hx with hx|hx
      · exact hr x hx
      · rw[hx]; exact z) G
     refine⟨j,?_,e2,e3,by rw[I,List.length_set]⟩;simp only[List.zip_cons_cons,Instr.fill];rw[if_neg (by simp; omega)];exact e1
  · cases h
 | [],_::_,_,_,_,_,h,_,_,_=>by simp[m7]at h
 | _::_,[],_,_,_,_,h,_,_,_=>by simp[m7]at h
theorem b4y (fx:Fx c) (h:S c g w pr bx σ a) {t e len sz:Nat} {parts:Array (Nat×Operand)} {F:TypeInfo} {z:Value} {zero rs:List (List AV)} {z1:List AV} {is:List Nat} {q:Opd} {x:Operand} {d:Dst}
 (ho:o.op=.buildSlice t len parts) (hu:c.P.underlying t=some (.slice e)) (b2:c.P.info? e=some F) (hz:F.zero=some z) (b5:F.size=sz) (M:z.cells.size=sz) (a2:len*sz≤2 ^ 24) (R:len*sz≠0)
 (b8:C8 z.cells.toList z1=true) (y:zero=List.replicate len z1) (b3:parts.toList.map (·.1)=is) (hx:parts.toList.map (·.2)=[x]) (hq:B9 c x q=true) (hs:m7 sz is [q.read σ] zero=some rs)
 (hd:n8 c o.dst d=true) (J:o.dst.isSome=true) {next:Act→World→Prop} {Q:Exit→Act→World→Prop} (I:Post c g w a (d.put (.fresh rs) (q.spend σ)) next):o.wp c.P a w next Q:=by
 subst b5; subst b3;obtain⟨a1,N,hA,_⟩:=L2 h hq .fly;have W:(q.spend σ).st=σ.st:=by cases q<;>rfl
 have b1:parts.toList.map (fun p=>a.eval p.2)=[a.eval x]:=by have:=congrArg (List.map a.eval) hx;simpa using this
 have hr:RowsW g w [q.read σ] (parts.toList.map fun p=>a.eval p.2):=by rw[b1];exact .cons (fun hp=>a6t hA hp) .nil
 obtain⟨q1,q2,q3⟩:=G0 b8 g w;have Z:z1.length=F.size:=by rw[q1.length,Array.length_toList]; exact M
 have E:∀ x∈zero,x.length=F.size:=fun x hx=>by rw[y]at hx; rw[List.eq_of_mem_replicate hx]; exact Z
 have U:∀ n,RowOK g w (List.replicate n z1).flatten (List.replicate n z.cells.toList).flatten:=by
  intro n;induction n with
  | zero=>exact⟨by simp[RelL],by simp,by simp⟩
  | succ n ih =>rw[List.replicate_succ,List.replicate_succ,List.flatten_cons,List.flatten_cons];exact RowOK.append ⟨q1,q2,q3⟩ ih
 have b7:=a02 z.cells len;obtain⟨arr,e1,e2,e3,e5⟩:=a0O (arr:=(Array.range (len*z.cells.size)).map (z.cells[· % z.cells.size]!)) hs hr E (by rw[b7,y]; exact U len);rw[M]at e1;rw[← a1P]at e1;have V:=run_buildSlice (P:=c.P) w t e len (parts.map fun(i,x)=>(i,a.eval x)) arr F z hu b2 hz (by omega) R (by rw[M,show(parts.map fun(i,x)=>(i,a.eval x)).toList=parts.toList.map fun p=>(p.1,a.eval p.2)by simp]; exact e1);have G:rs.length=len:=by rw[e5,y,List.length_replicate]
 have c1:arr.toList.length=len*F.size:=by rw[← e3.rel.length,P7 e2,G]
 let g2:=g.claim w.heap.size 0 (len*F.size)
 have O:=heap_alloc_new w (_root_.Go.Obj.cells arr e);have he:Ext g w g2 (w.alloc (.cells arr e)):=⟨AJ _,fun _ _=>rfl,fun _ _=>rfl,fun b f C=>.inl C,fun b f C=>World.cell?_alloc_lt _ _ _ (h.st.cli b f C)⟩;have l:∀ b,b < w.heap.size→H3 g w g2 (w.alloc (.cells arr e)) b:=fun b D=>⟨heap_alloc_old w _ D,fun f C=>by
  rcases C with C|⟨e',_⟩
  · exact C
  · omega⟩
 have B:∀ j,(w.alloc (.cells arr e)).cell? (ad w.heap.size j)=arr.toList[j]?:=fun j=>by rw[cell_of_row _ _ j arr e (0,0) O,← Array.getElem?_toList]
 have T:Rel g2 (w.alloc (.cells arr e)) (.fresh rs) (.slice (some (ad w.heap.size 0)) len len):=by
  simp only[Rel];refine⟨_,_,_,F.size,rfl,G.symm,AJ _,RelRows.mk e2 (e3.rel.ext he _ _) (fun j u hj=>?_) e3.one (fun j hj=>.inr ⟨rfl,by omega,by omega⟩),fun k ys hk=>?_⟩
  · show(w.alloc (.cells arr e)).cell? (ad w.heap.size (0+j))=some u;rw[Nat.zero_add,B];exact hj
  · obtain⟨v,hv,_⟩:=e3.rel.get hk;obtain⟨a0,n0,b6⟩:=e3.own k _ v hk hv ys rfl;have c2:=(AB.1 hv).1;refine⟨.inr ⟨rfl,by omega,by omega⟩,a0,n0,?_⟩;rw[B,hv,b6]
 unfold Oper.wp;rw[show(execOp a.eval o).run c.P w=.ok (.value (.slice (some ⟨w.heap.size,0,none⟩) len len)) (w.alloc (.cells arr e))by simp only[execOp,ho,Sem.run_bind,V,Result.andThen_ok,Sem.run_pure]];have Y:SRel g2 (w.alloc (.cells arr e)) σ.st:=h.st.evolve he rfl (by simp) (fun b q hq=>⟨hq,l b (h.st.inn b q hq)⟩) (fun _ _ x=>x) (fun b f C=>by
  rcases C with C|⟨e',_⟩
  · exact .inl C
  · right; simp; omega)
 refine I _ _ g2 a1 bx (s7 _ _ _) ?_ ⟨he,by simp,Env.alloc w _ (by intro c t z e; cases e; rfl),fun b D b4 _=>⟨l b D,b4⟩⟩;have:=a2H fx N hd J he Y (pr2:=a1) (fun b p D _=>⟨D,l b (N.fr.prv b p D).2.1⟩)
  (fun b p D=>⟨(N.fr.prv b p D).1,by have:=(N.fr.prv b p D).2.1; simp; omega,(N.fr.prv b p D).2.2⟩) (by simp) N.stA (r:=.fresh rs) (v:=.slice (some ⟨w.heap.size,0,none⟩) len len)
  ⟨T,fun zs ez=>(by cases ez),fun _ ez=>(by cases ez)⟩
 have b0:∀ (τ:Sig),τ.st=σ.st→({ d.put (.fresh rs) τ with st:=σ.st }:Sig)=d.put (.fresh rs) τ:=fun τ c0=>by cases d<;>simp[Dst.put,← c0]
 rw[b0 _ W]at this;exact this
theorem b28 (fx:Fx c) (h:S c g w pr bx σ a) {t e len D:Nat} {parts:Array (Nat×Operand)} {y:TypeInfo} {z:Value} {zero rs:List (List AV)} {R:List AV} {is:List Nat} {q:Opd} {x:Operand} {d:Dst}
 (ho:o.op=.buildSlice t len parts) (hu:c.P.underlying t=some (.slice e)) (W:c.P.info? e=some y) (hz:y.zero=some z) (a0:y.size=D) (C:z.cells.size=D) (N:len*D≤2 ^ 24) (F:len*D≠0)
 (a2:C8 z.cells.toList R=true) (j:zero=List.replicate len R) (Y:parts.toList.map (·.1)=is) (O:parts.toList.map (·.2)=[x]) (hq:B9 c x q=true) (hs:m7 D is [q.read σ] zero=some rs)
 (hd:n8 c o.dst d=true) (Z:o.dst.isSome=true) {next:Act→World→Prop} {Q:Exit→Act→World→Prop} (l:Post c g w a (d.put (.sl σ.st.length 0 len D) { q.spend σ with st:=σ.st++[.cells rs.flatten] }) next):o.wp c.P a w next Q:=by
 subst a0; subst Y;obtain⟨b0,hS,hA,_⟩:=L2 h hq .fly;have J:(q.spend σ).st=σ.st:=by cases q<;>rfl
 have V:parts.toList.map (fun p=>a.eval p.2)=[a.eval x]:=by have:=congrArg (List.map a.eval) O;simpa using this
 have hr:RowsW g w [q.read σ] (parts.toList.map fun p=>a.eval p.2):=by rw[V];exact .cons (fun hp=>a6t hA hp) .nil
 obtain⟨q1,q2,q3⟩:=G0 a2 g w;have M:R.length=y.size:=by rw[q1.length,Array.length_toList]; exact C
 have u:∀ x∈zero,x.length=y.size:=fun x O=>by rw[j]at O; rw[List.eq_of_mem_replicate O]; exact M
 have G:∀ n,RowOK g w (List.replicate n R).flatten (List.replicate n z.cells.toList).flatten:=by
  intro n;induction n with
  | zero=>exact⟨by simp[RelL],by simp,by simp⟩
  | succ n ih =>rw[List.replicate_succ,List.replicate_succ,List.flatten_cons,List.flatten_cons];exact RowOK.append ⟨q1,q2,q3⟩ ih
 have a1:=a02 z.cells len;obtain⟨arr,e1,e2,e3,e5⟩:=a0O (arr:=(Array.range (len*z.cells.size)).map (z.cells[· % z.cells.size]!)) hs hr u (by rw[a1,j]; exact G len);rw[C]at e1;rw[← a1P]at e1;have I:=run_buildSlice (P:=c.P) w t e len (parts.map fun(i,x)=>(i,a.eval x)) arr y z hu W hz (by omega) F (by rw[C,show(parts.map fun(i,x)=>(i,a.eval x)).toList=parts.toList.map fun p=>(p.1,a.eval p.2)by simp]; exact e1);have E:rs.length=len:=by rw[e5,j,List.length_replicate]
 have T:arr.toList.length=len*y.size:=by rw[← e3.rel.length,P7 e2,E]
 have U:arr.size=len*y.size:=by rw[← T,Array.length_toList]
 have B:(execOp a.eval o).run c.P w=.ok (.value (.slice (some (ad w.heap.size 0)) len len)) (w.alloc (.cells arr e)):=by simp only[execOp,ho,Sem.run_bind,I,Result.andThen_ok,Sem.run_pure]
 rw[← J]at l;exact a4U fx hS hd B (cap:=arr.size) (by intro c t z e; cases e; rfl) (a1m hS e3) (.inr (.inr ⟨len,y.size,rfl,rfl,U.symm⟩)) l
noncomputable def Gh.grow (g:Gh) (od:Option Nat) (bb cpv:Nat):Gh where
 n:=g.n+1
 m:=fun o=>if o=g.n then bb else g.m o
 cl:=g.cl
 sr:=fun b=>if b=bb then some (g.n,none)else match g.sr b with
  | some (o,some k)=>if od=some o then some (g.n,some k)else some (o,some k)
  | r=>r
 cp:=fun o=>if o=g.n then cpv else g.cp o
theorem c2Q {od:Option Nat} {bb cpv b o:Nat} {k:Option Nat} (h:g.sr b=some (o,k)) (i:b≠bb) (j:od≠some o):(g.grow od bb cpv).sr b=some (o,k):=by
 simp only[Gh.grow];rw[if_neg i,h];cases k with
 | none=>rfl
 | some k=>simp only; rw[if_neg j]
theorem b4B {bb cpv b o k:Nat} (h:g.sr b=some (o,some k)) (i:b≠bb):(g.grow (some o) bb cpv).sr b=some (g.n,some k):=by simp only[Gh.grow];rw[if_neg i,h];simp
theorem b0s {od:Option Nat} {bb cpv b:Nat} (h:g.sr b=none) (i:b≠bb):(g.grow od bb cpv).sr b=none:=by simp only[Gh.grow];rw[if_neg i,h]
theorem a5b {od:Option Nat} {bb cpv b:Nat} {p:Nat×Option Nat} (h:(g.grow od bb cpv).sr b=some p):b=bb∨∃ q,g.sr b=some q:=by
 simp only[Gh.grow]at h;split at h
 · exact .inl ‹_›
 · cases i:g.sr b with
   | none=>rw[i]at h; cases h
   | some q=>exact .inr ⟨q,rfl⟩
theorem c0f (h:S c g w pr bx σ a) {l:World} {od:Option Nat} {bb cpv:Nat} {cs:List AV} {st2:St} (D:Env w l) (t:w.heap.size≤l.heap.size) (R:bb < l.heap.size)
 (y:∀ b,b≠bb→b < w.heap.size→l.heap[b]?=w.heap[b]?) (V:∀ f,¬ g.cl bb f) (z:bb=w.heap.size∨∃ o,od=some o∧g.sr bb=some (o,none))
 (T:st2.length=g.n+1) (G:∀ x C,st2[x]?=some C→(x=g.n∧C=.cells cs)∨C=.dead∨(σ.st[x]?=some C∧od≠some x))
 (Y:Ext g w (g.grow od bb cpv) l→ObjOK (g.grow od bb cpv) l g.n (.cells cs)) :
 S c (g.grow od bb cpv) l pr bx { σ with st:=st2 } a∧Tr c.A g w (g.grow od bb cpv) l:=by
 have N:Ext g w (g.grow od bb cpv) l:=⟨by simp[Gh.grow],fun o u=>by simp[Gh.grow,Nat.ne_of_lt u],fun o u=>by simp[Gh.grow,Nat.ne_of_lt u],fun _ _ h=>h,
  fun b f O=>World.cell?_of_block (y b (fun e=>V f (e ▸ O)) (h.st.cli b f O))⟩
 have j:∀ b,b≠bb→b < w.heap.size→H3 g w (g.grow od bb cpv) l b:=fun b J M=>⟨y b J M,fun _ x=>x⟩
 have E:∀ b,b < w.heap.size→g.sr b=none→b≠bb:=fun b i hs e=>by
  subst e;rcases z with rfl|⟨o,_,u⟩
  · omega
  · rw[hs]at u; cases u
 have I:Tr No g w (g.grow od bb cpv) l:=⟨N,t,D,fun b i hs _=>⟨j b (E b i hs) i,b0s hs (E b i hs)⟩⟩;have hA:c.A bb:=by
  rcases z with rfl|⟨o,_,u⟩
  · exact h.fresh _ (AJ _)
  · exact h.stA _ _ u
 refine⟨⟨h.fr.evolve I,⟨T.symm ▸ rfl,fun x C hx=>?_,fun b p i=>?_,fun b f O=>Nat.lt_of_lt_of_le (h.st.cli b f O) t⟩,h.gl.ext N,fun b i=>h.fresh b (Nat.le_trans t i),fun b p i=>?_⟩,I.wider fun _ x=>x.elim⟩
 · rcases G x C hx with⟨rfl,rfl⟩|rfl|⟨J,M⟩
   · exact Y N
   · trivial
   · refine(h.st.obj x C J).mono (by rw[h.st.n]; exact(AB.1 J).1) N fun b k i=>?_
     have U:=h.st.inn b _ i;have F:b≠bb:=fun e=>by
      subst e;rcases z with rfl|⟨o,W,B⟩
      · omega
      · rw[i]at B;simp only[AC,AH]at B;exact M (W.trans (by rw[B.1]))
     exact⟨c2Q i F M,j b F U⟩
 · rcases a5b i with rfl|⟨q,Z⟩
   · exact R
   · exact Nat.lt_of_lt_of_le (h.st.inn b q Z) t
 · rcases a5b i with rfl|⟨q,Z⟩
   · exact hA
   · exact h.stA b q Z
theorem U2 {t ty e:TypeId} {i:TypeInfo} {z:Value} (hu:c.P.underlying t=some (.slice e)) (hi:c.P.info? e=some i) (U:i.zero=some z) (T:z.cells.size=i.size) (N:0 < i.bytes)
 {a0:Option Addr} {n cap m c1:Nat} {us vs:List Value} {a1:Addr} (G:a0=none→cap=0) (W:n≤cap) (J:us.length=n*i.size) (Y:∀ E,a0=some E→∀ (j:Nat) u,us[j]?=some u→w.cell? (E.add j)=some u)
 (D:vs.length=m*i.size) (V:∀ (j:Nat) u,vs[j]?=some u→w.cell? (a1.add j)=some u) (hm:0 < m) (R:¬ n+m≤cap) (M:(n+m)*i.bytes≤140737488355328) :
 ∃ (C:Array Value) (l:Nat),(Builtin.append_ #[t,t] ty #[.slice a0 n cap,.slice (some a1) m c1]).run c.P w =
  .ok (.slice (some (ad w.heap.size 0)) (n+m) l) (w.drew.alloc (.cells C e))∧C.toList.take ((n+m)*i.size)=us++vs∧C.size=l*i.size∧n+m≤l∧l≤maxLen:=by
 have x:n+m≤140737488355328:=Nat.le_trans (Nat.le_mul_of_pos_right _ N) M;have B:n+m≤maxLen:=by unfold maxLen; omega
 have y:=grownCap_ge w (n+m) cap e;have F:(us++vs).length=(n+m)*i.size:=by rw[AE,J,D,Nat.add_mul]
 have I:∀ k,(Builtin.zeroCells z.cells k).size=k*i.size:=fun k=>by rw[size_zeroCells,T]
 cases a0 with
 | none =>
  have O:=G rfl;obtain rfl:n=0:=by omega
  subst O;have S:us=[]:=List.eq_nil_of_length_eq_zero (by simpa using J);subst S;simp only[Nat.zero_add]at y M x B ⊢;refine⟨_,_,run_append_nil (P:=c.P) w t ty e i z hu hi U a1 m c1 vs D V hm (by omega) (by omega),?_,?_,y,grownCap_le_maxLen w m 0 e B⟩
  · rw[Array.toList_append,List.toList_toArray,List.nil_append,← D,List.take_left]
  · rw[Array.size_append,I,List.size_toArray,D,← Nat.add_mul];congr 1; omega
 | some E =>
  refine⟨_,_,run_append_grow (P:=c.P) w t ty e i z hu hi U E n cap us J (Y E rfl) a1 m c1 vs D V (by omega) (by omega) (growslice_fits (by omega) M),?_,?_,y,grownCap_le_maxLen w _ cap e B⟩
  · simp only[Array.toList_append,AU];rw[← AU,← F];exact List.take_left
  · simp only[Array.size_append,List.size_toArray,I,J,D,← Nat.add_mul];congr 1; omega
theorem c1W (fx:Fx c) (h:S c g w pr bx σ a) {t e sz bytes:Nat} {i:TypeInfo} {z:Value} {x y:Operand} {p0 p1:Opd} {gs:List AV} {d:Dst} {at_:Array TypeId}
 (ho:o.op=.call { callee:=.builtin .append,args:=#[x,y],argTypes:=at_ }) (e6:at_=#[t,t]) (hu:c.P.underlying t=some (.slice e)) (hi:c.P.info? e=some i) (hz:i.zero=some z) (o2:i.size=sz) (i3:i.bytes=bytes)
 (e5:z.cells.size=sz) (d4:0 < bytes) (n3:B9 c x p0=true) (o0:L7 c y p1=true) (hd:n8 c o.dst d=true) {b b' r:AV} {st':St}
 (hs:C0 sz bytes call (p0.read σ::p1.read σ::gs) b σ.st=some (r,b',st'))
 {next:Act→World→Prop} {Q:Exit→Act→World→Prop} (b1:Post c g w a (d.put r { p0.spend σ with st:=st' }) next):o.wp c.P a w next Q:=by
 subst o2; subst i3;have d3:(2:Nat) ^ 47=140737488355328:=by decide
 obtain⟨b6,hS,U,_⟩:=L2 h n3 d.pl;have hY:=N3 h o0;have c8:(p0.spend σ).st=σ.st:=by cases p0<;>rfl
 -- the rows that are added
 have rows:∀ (ys:List (List AV)),p1.read σ=.fresh ys→m2 i.size ys=true →
  ∃ c1 bb vs,a.eval y=.slice (some (ad bb 0)) ys.length c1∧vs.length=ys.length*i.size∧RelL g w ys.flatten vs∧(∀ v∈vs,v.oneCell'=true)∧(∀ (k:Nat) (x:AV) (v:Value),ys.flatten[k]?=some x→vs[k]?=some v→OwnN x v) ∧
   ∀ (j:Nat) u,vs[j]?=some u→w.cell? ((ad bb 0).add j)=some u:=by
  intro ys e1 b4;rw[e1]at hY;have hr:Rel g w (.fresh ys) (a.eval y):=ValOK.rel hY;simp only[Rel]at hr;obtain⟨bb,n,c1,o5,ev,rfl,o6,b3,hN⟩:=hr;have g6:=a9k b4 b3;have e4:∃ us,us.length=ys.length*i.size∧RelL g w ys.flatten us∧w.rangeAt bb 0 us∧(∀ u∈us,u.oneCell'=true):=by
   cases ys with
   | nil=>exact⟨[],by simp,by simp[RelL],fun j v hv=>by simp at hv,by simp⟩
   | cons y0 ys =>
    obtain rfl:o5=i.size:=by have h1:=b3.all y0 (by simp); have h2:=g6 y0 (by simp); omega
    obtain⟨us,u1,u2,u3,u4,_⟩:=b3.vals;exact⟨us,u1,u2,u3,u4⟩
  obtain⟨vs,u1,u2,u3,u4⟩:=e4;refine⟨c1,bb,vs,ev,u1,u2,u4,fun k x v E hv zs e2=>?_,fun j u hj=>?_⟩
  · subst e2;obtain⟨_,a0,n0,hc⟩:=hN k zs E;have:=u3 k v hv;rw[Nat.zero_add]at this;rw[show(⟨bb,k,none⟩:Addr)=ad bb k from rfl,hc]at this;exact⟨a0,n0,(Option.some.inj this).symm⟩
  · rw[Addr.add_ad];exact u3 j u hj
 -- what comes out
 have fin:∀ (od:Option Nat) (bb cpv k:Nat) (w2:World) (cs:List AV) (st2:St) (B:Nat),Env w w2→w.heap.size≤w2.heap.size→bb < w2.heap.size→(∀ b,b≠bb→b < w.heap.size→w2.heap[b]?=w.heap[b]?)→(∀ f,¬ g.cl bb f) →
  (bb=w.heap.size∨∃ o,od=some o∧g.sr bb=some (o,none))→st2.length=g.n+1→(∀ x R,st2[x]?=some R→(x=g.n∧R=.cells cs)∨R=.dead∨(σ.st[x]?=some R∧od≠some x)) →
  (Ext g w (g.grow od bb cpv) w2→ObjOK (g.grow od bb cpv) w2 g.n (.cells cs))→k≤B→B*i.size=cpv →
  (Builtin.append_ #[t,t] o.type #[a.eval x,a.eval y]).run c.P w=.ok (.slice (some (ad bb 0)) k B) w2→r=.sl σ.st.length 0 k i.size→st'=st2→o.wp c.P a w next Q:=by
  intro od bb cpv k w2 cs st2 B f1 f2 f3 f4 f5 f6 f7 f8 f9 f10 f11 l er es;subst er; subst es;obtain⟨h9,o3⟩:=c0f hS f1 f2 f3 f4 f5 f6 f7 (by rw[c8]; exact f8) f9;have d6:=P3 (c:=c) (w:=w) ho e6 rfl rfl l;unfold Oper.wp;rw[d6,Oper.upon_value];refine b1 _ _ _ b6 bx (s7 _ _ _) (U9 fx h9 hd (mine:=No) ?_ fun _ x=>x.elim) o3;refine(show ValOK _ _ No (.sl _ _ _ _) _ from ValOK.mk' ?_ (by simp) (by simp));simp only[Rel];rw[← h.st.n];exact⟨by simp[Gh.grow],B,by simp[Gh.grow],f10,by simp[Gh.grow,f11]⟩
 have d1:σ.st.length=g.n:=h.st.n.symm;have last:∀ (c3:St) (cs:List AV) (x:Nat) (R:Obj),c3.length=σ.st.length→¬ x < σ.st.length→(c3++[Obj.cells cs])[x]?=some R→x=g.n∧R=.cells cs:=by
  intro c3 cs x R o8 o7 E;rw[List.getElem?_append_right (by omega)]at E;have o4:x - c3.length=0:=by
   rcases Nat.eq_zero_or_pos (x - c3.length)with h0|h0
   · exact h0
   · rw[List.getElem?_eq_none (by simp; omega)]at E; cases E
  rw[o4]at E;simp at E;exact⟨by omega,E.symm⟩
 unfold C0 at hs;split at hs<;>first|cases hs; done|skip
 · rename_i ys d2 J;simp only[AM]at J;obtain⟨e0,e1,rfl⟩:=J;split at hs<;>first|cases hs; done|skip
   rename_i I;obtain⟨V,b4,b8,_⟩:=I;simp only[AC,AH]at hs;obtain⟨rfl,rfl,rfl⟩:=hs;have hm:0 < ys.length:=by cases ys with|nil=>simp at V|cons _ _=>simp
   obtain⟨c1,b5,vs,ev,vl,vr,v1,vo,vc⟩:=rows ys e1 b4;rw[e0]at U;have U:ValOK g w (fun b=>b6 b=some d.pl) (.list true []) (a.eval x):=U;obtain⟨a0,n0,eu,l0⟩:∃ a0 n0,a.eval x=.slice a0 n0 n0∧n0=0:=by
    have hr:=U.rel;simp only[Rel]at hr;obtain⟨h8,n',B,eu,rfl,_⟩:=hr;rcases U.own [] rfl with⟨a2,n2,h2⟩|⟨_,_,_,_,_,_,_,_,h2,_⟩
    · rw[eu]at h2;simp only[Value.slice.injEq]at h2;obtain⟨rfl,h3,h4⟩:=h2;exact⟨h8,n2,by rw[eu,h4,h3],h3.symm⟩
    · exact absurd rfl h2
   subst l0;obtain⟨C,B,l,hC,b7,D,g0⟩:=U2 (c:=c) (w:=w) (ty:=o.type) hu hi hz e5 d4 (a0:=a0) (n:=0) (cap:=0) (m:=ys.length) (c1:=c1) (us:=[]) (vs:=vs) (a1:=ad b5 0) (fun _=>rfl) (AJ _) (by simp) (by simp) vl vc hm (by omega) (by rw[Nat.zero_add,← d3]; exact b8);rw[← eu,← ev]at l;simp only[Nat.zero_add,List.nil_append]at l hC D;have G:(w.drew.alloc (.cells C e)).heap[w.heap.size]?=some (.cells C e (0,0)):=heap_alloc_new w.drew _;have O:ys.flatten.length=ys.length*i.size:=by rw[vr.length,vl]
   refine fin none w.heap.size C.size ys.length (w.drew.alloc (.cells C e)) ys.flatten _ B ((Env.drawn (w:=w) (w':=w.drew) rfl rfl rfl).trans (Env.alloc w.drew _ (by intro c t z e; cases e; rfl))) (by simp) (by simp)
    (fun b _ Z=>heap_alloc_old w.drew _ Z) (fun f Y=>Nat.lt_irrefl _ (h.st.cli _ f Y)) (.inl rfl) (by rw[AE,← h.st.n]; rfl) (fun x R E=>?_) (fun he=>?_) D b7.symm l rfl rfl
   · by_cases F:x < σ.st.length
     · rw[List.getElem?_append_left F]at E;exact .inr (.inr ⟨E,by simp⟩)
     · exact .inl (last σ.st _ x R rfl F E)
   · refine⟨by simp[Gh.grow],fun f Y=>?_,C,e,by simp only[Gh.grow,if_true]; exact G,by simp[Gh.grow],?_,?_,fun k x v E hv=>?_⟩
     · simp only[Gh.grow,if_true]at Y;exact Nat.lt_irrefl _ (h.st.cli _ f Y)
     · rw[O,hC]; exact vr.ext he _ _
     · rw[O,hC]; exact v1
     · refine OwnN.own (vo k x v E ?_);rw[← hC,List.getElem?_take,if_pos (by rw[← O]; exact(AB.1 E).1)];simpa using hv
 · rename_i ys d2 J;simp only[AM]at J;obtain⟨e0,e1,rfl⟩:=J;split at hs<;>first|cases hs; done|skip
   rename_i I;obtain⟨V,b4,b8,_⟩:=I;simp only[AC,AH]at hs;obtain⟨rfl,rfl,rfl⟩:=hs;have hm:0 < ys.length:=by cases ys with|nil=>simp at V|cons _ _=>simp
   obtain⟨c1,b5,vs,ev,vl,vr,v1,vo,vc⟩:=rows ys e1 b4;rw[e0]at U;have U:ValOK g w (fun b=>b6 b=some d.pl) .nils (a.eval x):=U;have eu:a.eval x=.slice none 0 0:=by have hr:=U.rel;simpa[Rel]using hr
   obtain⟨C,B,l,hC,b7,D,g0⟩:=U2 (c:=c) (w:=w) (ty:=o.type) hu hi hz e5 d4 (a0:=none) (n:=0) (cap:=0) (m:=ys.length) (c1:=c1) (us:=[]) (vs:=vs) (a1:=ad b5 0) (fun _=>rfl) (AJ _) (by simp) (by simp) vl vc hm (by omega) (by rw[Nat.zero_add,← d3]; exact b8);rw[← eu,← ev]at l;simp only[Nat.zero_add,List.nil_append]at l hC D;have G:(w.drew.alloc (.cells C e)).heap[w.heap.size]?=some (.cells C e (0,0)):=heap_alloc_new w.drew _;have O:ys.flatten.length=ys.length*i.size:=by rw[vr.length,vl]
   refine fin none w.heap.size C.size ys.length (w.drew.alloc (.cells C e)) ys.flatten _ B ((Env.drawn (w:=w) (w':=w.drew) rfl rfl rfl).trans (Env.alloc w.drew _ (by intro c t z e; cases e; rfl))) (by simp) (by simp)
    (fun b _ Z=>heap_alloc_old w.drew _ Z) (fun f Y=>Nat.lt_irrefl _ (h.st.cli _ f Y)) (.inl rfl) (by rw[AE,← h.st.n]; rfl) (fun x R E=>?_) (fun he=>?_) D b7.symm l rfl rfl
   · by_cases F:x < σ.st.length
     · rw[List.getElem?_append_left F]at E;exact .inr (.inr ⟨E,by simp⟩)
     · exact .inl (last σ.st _ x R rfl F E)
   · refine⟨by simp[Gh.grow],fun f Y=>?_,C,e,by simp only[Gh.grow,if_true]; exact G,by simp[Gh.grow],?_,?_,fun k x v E hv=>?_⟩
     · simp only[Gh.grow,if_true]at Y;exact Nat.lt_irrefl _ (h.st.cli _ f Y)
     · rw[O,hC]; exact vr.ext he _ _
     · rw[O,hC]; exact v1
     · refine OwnN.own (vo k x v E ?_);rw[← hC,List.getElem?_take,if_pos (by rw[← O]; exact(AB.1 E).1)];simpa using hv
 · rename_i d2 J;simp only[AM]at J;obtain⟨e0,e1,rfl⟩:=J;split at hs<;>first|cases hs; done|skip
   simp only[AC,AH]at hs;obtain⟨rfl,rfl,rfl⟩:=hs;rw[e0]at U;have U:ValOK g w (fun b=>b6 b=some d.pl) .nils (a.eval x):=U;have eu:a.eval x=.slice none 0 0:=by have hr:=U.rel;simpa[Rel]using hr
   rw[e1]at hY;have ev:a.eval y=.slice none 0 0:=by have hr:Rel g w .nils (a.eval y):=ValOK.rel hY;simpa[Rel]using hr
   have l:=P3 (c:=c) (w:=w) ho e6 eu ev (R2 (P:=c.P) t o.type e i hu hi none none 0 0 0 (AJ _));have o1:({ p0.spend σ with st:=σ.st }:Sig)=p0.spend σ:=by rw[← c8]
   rw[o1]at b1;unfold Oper.wp;rw[l,Oper.upon_value,← eu];exact b1 _ _ g b6 bx (s7 _ _ _) (U9 fx hS hd U fun _ x=>x) (Tr.refl _ _ _)
 · rename_i W n s' ys d2 J;simp only[AM]at J;obtain⟨e0,e1,rfl⟩:=J;split at hs<;>first|cases hs; done|skip
   rename_i xs E;split at hs<;>first|cases hs; done|skip
   rename_i I;obtain⟨rfl,V,b4,c2,b8,_⟩:=I;simp only[AC,AH]at hs;obtain⟨rfl,rfl,rfl⟩:=hs;have hm:0 < ys.length:=by cases ys with|nil=>simp at V|cons _ _=>simp
   obtain⟨c1,b5,vs,ev,vl,vr,v1,vo,vc⟩:=rows ys e1 b4;have O:ys.flatten.length=ys.length*i.size:=by rw[vr.length,vl]
   generalize q0:ys.length=m at *
   rw[e0]at U;have U:ValOK g w (fun b=>b6 b=some d.pl) (.sl W 0 n i.size) (a.eval x):=U;have hr:=U.rel;simp only[Rel,Nat.zero_add]at hr;obtain⟨q1,cap,eu,i9,c6⟩:=hr;obtain⟨b2,f0,arr,T,hh,g4,c7,h6,h7⟩:=h.st.obj W _ E;have c0:(arr.toList.take (n*i.size)).length=n*i.size:=by rw[← c2,← c7.length]
   have d5:(xs++ys.flatten).length=n*i.size+m*i.size:=by rw[AE,c2,O]
   have d0:∀ x R,(σ.st.set W .dead++[Obj.cells (xs++ys.flatten)])[x]?=some R→(x=g.n∧R=.cells (xs++ys.flatten))∨R=.dead∨(σ.st[x]?=some R∧some W≠some x):=by
    intro x R E;by_cases F:x < σ.st.length
    · rw[List.getElem?_append_left (by simpa using F)]at E;by_cases ex:W=x
      · subst ex;rw[List.getElem?_set_self F]at E;exact .inr (.inl (Option.some.inj E).symm)
      · rw[List.getElem?_set_ne ex]at E;exact .inr (.inr ⟨E,by simpa using ex⟩)
    · exact .inl (last _ _ x R (by simp) F E)
   have g7:∀ (bb:Nat) (w2:World) (M:Array Value) (T2:TypeId),w2.heap[bb]?=some (.cells M T2 (0,0))→M.toList.take (n*i.size+m*i.size)=arr.toList.take (n*i.size)++vs→(∀ f,¬ g.cl bb f) →
    (∀ b,b≠bb→b < w.heap.size→w2.heap[b]?=w.heap[b]?)→(bb=w.heap.size∨g.sr bb=some (W,none)) →
    Ext g w (g.grow (some W) bb M.size) w2→ObjOK (g.grow (some W) bb M.size) w2 g.n (.cells (xs++ys.flatten)):=by
    intro bb w2 M T2 hh2 d7 l4 h5 i2 he;refine⟨by simp[Gh.grow],fun f Y=>?_,M,T2,by simp only[Gh.grow,if_true]; exact hh2,by simp[Gh.grow],?_,?_,fun k x v hk hv=>?_⟩
    · simp only[Gh.grow,if_true]at Y;exact l4 f Y
    · rw[d5,d7,← c2]; exact(c7.ext he _ _).append (vr.ext he _ _)
    · rw[d5,d7,← c2];intro v hv;rcases AP.1 hv with hv|hv
      · exact h6 v hv
      · exact v1 v hv
    · have i4:k < n*i.size+m*i.size:=by rw[← d5]; exact(AB.1 hk).1
      have c4:(arr.toList.take (n*i.size)++vs)[k]?=some v:=by rw[← d7,List.getElem?_take,if_pos i4]; simpa using hv
      by_cases i5:k < xs.length
      · rw[List.getElem?_append_left i5]at hk;rw[List.getElem?_append_left (by rw[c0]; omega),List.getElem?_take,if_pos (by omega)]at c4;refine(h7 k x v hk (by simpa using c4)).mono fun b Z=>?_
        have F:=h.st.inn b _ Z;have V:b≠bb:=fun e2=>by
         subst e2;rcases i2 with h0|h0
         · omega
         · rw[Z]at h0; simp at h0
        exact⟨b4B Z V,h5 b V F,fun _ x=>x⟩
      · rw[List.getElem?_append_right (by omega)]at hk;rw[List.getElem?_append_right (by rw[c0]; omega),c0,← c2]at c4;exact OwnN.own (vo _ x v hk c4)
   by_cases N:n+m≤cap
   · have g5:n*i.size+vs.length≤arr.size:=by rw[vl,g4,← c6,← Nat.add_mul]; exact Nat.mul_le_mul_right _ N
     have l:=O1 (P:=c.P) (w:=w) t o.type e i T hu hi (g.m W) n cap arr hh (ad b5 0) m c1 vs vl vc v1 N g5;rw[← eu,← ev]at l;have i0:arr.toList.length=arr.size:=by simp
     generalize G:arr.toList.take (n*i.size)++vs++arr.toList.drop (n*i.size+vs.length)=new at *
     have n1:new.length=arr.size:=by rw[← G]; simp only[AE,AO,List.length_drop,i0]; omega
     have hh2:=setRow_heap w (g.m W) arr new.toArray T _ hh;have F:g.m W < w.heap.size:=h.st.inn _ _ b2;refine fin (some W) (g.m W) new.toArray.size (n+m) (w.setRow (g.m W) new.toArray) (xs++ys.flatten) _ cap (Env.setRow _ _ _) (by simp) (by simpa using F) (fun b Z _=>setRow_other w _ b _ Z) f0 (.inr ⟨W,rfl,b2⟩)
      (by rw[AE,List.length_set,d1]; rfl) d0 (g7 _ _ _ T hh2 ?_ f0 (fun b Z _=>setRow_other w _ b _ Z) (.inr b2)) N (by simp[n1,g4,c6]) l rfl rfl
     rw[List.toList_toArray,← G,AU,← AU];rw[show n*i.size+m*i.size=(arr.toList.take (n*i.size)++vs).length by rw[AE,c0,vl]];exact List.take_left
   · obtain⟨C,B,l,hC,b7,D,g0⟩:=U2 (c:=c) (w:=w) (ty:=o.type) hu hi hz e5 d4 (a0:=some (ad (g.m W) 0)) (n:=n) (cap:=cap) (m:=m) (c1:=c1) (us:=arr.toList.take (n*i.size)) (vs:=vs) (a1:=ad b5 0) (fun h=>by cases h) i9 c0 (fun b0 i1 j u hj=>by
      cases i1;rw[Addr.add_ad,cell_of_row w _ _ arr T _ hh];rw[List.getElem?_take]at hj;split at hj
      · simpa using hj
      · cases hj) vl vc hm N (by rw[← d3]; exact b8)
     rw[← eu,← ev]at l;rw[Nat.add_mul]at hC;have G:(w.drew.alloc (.cells C e)).heap[w.heap.size]?=some (.cells C e (0,0)):=heap_alloc_new w.drew _;refine fin (some W) w.heap.size C.size (n+m) (w.drew.alloc (.cells C e)) (xs++ys.flatten) _ B ((Env.drawn (w:=w) (w':=w.drew) rfl rfl rfl).trans (Env.alloc w.drew _ (by intro c t z e; cases e; rfl))) (by simp) (by simp)
      (fun b _ Z=>heap_alloc_old w.drew _ Z) (fun f Y=>Nat.lt_irrefl _ (h.st.cli _ f Y)) (.inl rfl) (by rw[AE,List.length_set,d1]; rfl) d0
      (g7 _ _ _ e G hC (fun f Y=>Nat.lt_irrefl _ (h.st.cli _ f Y)) (fun b _ Z=>heap_alloc_old w.drew _ Z) (.inl rfl)) D b7.symm l rfl rfl
end
end Go.Cb
namespace Go.Cb
open Classical
def q6 (p:AOper) (σ:Sig):AV:=match p.box with|some i=>σ.fr.getD i .undef|none=>.undef
section
variable (c:Cx) (o:Oper) (p:AOper)
def m5 (xs:List Operand):Bool:=p.box.isNone && a07 c xs p.args && n8 c o.dst p.dst
def b9r:Bool:=match o.op,p.args with
 | .move x,[q]|.assign x,[q]=>p.box.isNone && B9 c x q && n8 c o.dst p.dst
 | _,_=>false
def b0t:Bool:=match o.op with|.pick x y z=>m5 c o p [x,y,z]|_=>false
def a5U:Bool:=match o.op with|.nilCheck x=>m5 c o p [x]|_=>false
def a6T (zero:List AV):Bool:=match o.op,o.dst,p.box,p.dst,p.args with
 | .alloc t,some s,some i,.bx,[]=>c.slots[i]? == some s && c.bxs.contains i && a0M c.P t zero
 | _,_,_,_,_=>false
def a8v:Bool:=match o.op,o.dst,p.box,p.dst,p.args with
 | .box _ x,some s,some i,.bx,[q]=>c.slots[i]? == some s && c.bxs.contains i && B9 c x q
 | _,_,_,_,_=>false
def a5K (zero:List AV):Bool:=match o.op,p.args with
 | .alloc t,[]=>p.box.isNone && a0M c.P t zero && n8 c o.dst p.dst
 | _,_=>false
def a9s:Bool:=match o.op,p.args with
 | .box _ x,[q]=>p.box.isNone && B9 c x q && n8 c o.dst p.dst
 | _,_=>false
def a6r (places:List (Nat×Nat)):List Nat→List (Nat×Nat)→Bool
 | [],[]=>true
 | i::is,q::qs=>places[i]? == some q && a6r places is qs
 | _,_=>false
def a6P (zero:List AV) (i:List (Nat×Nat)):Bool:=match o.op with
 | .build t parts=>(match a5p c.P t with|some places=>a6r places (parts.toList.map (·.1)) i|none=>false) && a0M c.P t zero && m5 c o p (parts.toList.map (·.2))
 | _=>false
def a5J (i:Nat) (zero:List (List AV)) (at_:List Nat):Bool:=match o.op with
 | .buildSlice t len parts=>match c.P.underlying t with
  | some (.slice e)=>match c.P.info? e,zero with
   | some ie,z1::_=>match ie.zero with
    | some z=>ie.size == i && z.cells.size == i && decide (len*i≤2 ^ 24) && !(len*i == 0) && C8 z.cells.toList z1 && zero.length == len && zero.all (N9 · z1) &&
     parts.toList.map (·.1) == at_ && m5 c o p (parts.toList.map (·.2)) && o.dst.isSome
    | none=>false
   | _,_=>false
  | _=>false
 | _=>false
def a9C (i:Nat) (agg:Bool) (n:Nat):Bool:=match o.op,p.box with
 | .load t x,some j=>i == j && decide (i < c.slots.length) && r7 c t == some agg && q9 c t == some n && a07 c [x] p.args && n8 c o.dst p.dst
 | _,_=>false
def S0 (agg:Bool) (n:Nat):Bool:=match o.op with
 | .load t x=>r7 c t == some agg && q9 c t == some n && m5 c o p [x]
 | _=>false
def a6R (i:Nat):Bool:=match o.op,p.box with
 | .load t x,some j=>i == j && decide (i < c.slots.length) && r7 c t == some false && a07 c [x] p.args && n8 c o.dst p.dst
 | _,_=>false
def a2v:Bool:=match o.op with
 | .load t x=>r7 c t == some false && m5 c o p [x]
 | _=>false
def b0e (i n:Nat):Bool:=match o.op,o.dst,p.dst,p.box,p.args with
 | .store t x y,none,.none,some j,[q0,q1]=>i == j && decide (i < c.slots.length) && q9 c t == some n && L7 c x q0 && B9 c y q1
 | _,_,_,_,_=>false
def a4t (n:Nat):Bool:=match o.op,o.dst,p.dst,p.box,p.args with
 | .store t x y,none,.none,none,[q0,q1]=>q9 c t == some n && L7 c x q0 && B9 c y q1
 | _,_,_,_,_=>false
def b3y (off:Nat):Bool:=match o.op with
 | .fieldAddr s x f=>(match Z9 c s f with|some i=>(match q9 c i.type with|some n=>!(n == 0)|none=>false) && i.offset == off|none=>false) && m5 c o p [x]
 | _=>false
def b2H (off n:Nat) (agg:Bool):Bool:=match o.op with
 | .field s x f=>(match Z9 c s f with|some i=>r7 c i.type == some agg && q9 c i.type == some n && i.offset == off|none=>false) && m5 c o p [x]
 | _=>false
def b3E (j:Nat):Bool:=match o.op with
 | .indexAddr t x i=>(match c.P.underlying t with|some (.slice e)=>q9 c e == some j|_=>false) && m5 c o p [x,i]
 | _=>false
def b0a (len j:Nat):Bool:=match o.op with
 | .indexAddr t x i=>(match c.P.underlying t with|some (.array n e)=>n == len && q9 c e == some j|_=>false) && m5 c o p [x,i]
 | _=>false
def a9t:Bool:=match o.op with
 | .index t x i=>(match c.P.underlying t with|some .string=>true|_=>false) && m5 c o p [x,i]
 | _=>false
def b3F (i hi:Bool):Bool:=match o.op with
 | .slice t x l h none=>(match c.P.underlying t with|some .string=>true|_=>false) && l.isSome == i && h.isSome == hi && m5 c o p (x::(l.toList++h.toList))
 | _=>false
def b4w (j:Nat) (i hi:Bool):Bool:=match o.op with
 | .slice t x l h none=>(match c.P.underlying t with|some (.slice e)=>q9 c e == some j|_=>false) && l.isSome == i && h.isSome == hi && m5 c o p (x::(l.toList++h.toList))
 | _=>false
def b3K:Bool:=match o.op with
 | .slice t x none (some (.const (.int _ m))) (some (.const (.int _ n)))=>decide (m=0) && decide (n=0) && (match c.P.underlying t with|some (.slice e)=>(q9 c e).isSome|_=>false) && m5 c o p [x]
 | _=>false
def b3M (len j:Nat) (i hi:Bool):Bool:=match o.op with
 | .slice t x l h none=>(match c.P.underlying t with|some (.array n e)=>n == len && q9 c e == some j|_=>false) && l.isSome == i && h.isSome == hi && m5 c o p (x::(l.toList++h.toList))
 | _=>false
def b4c (op:BinOp):Bool:=match o.op with
 | .binOp i _ x y _=>decide (i=op) && m5 c o p [x,y]
 | _=>false
def a9g (op:BinOp):Bool:=match o.op with
 | .binOp i t x y _=>decide (i=op) && (match c.P.underlying t with|some .bool=>true|_=>false) && m5 c o p [x,y]
 | _=>false
def a8E (op:BinOp):Bool:=match o.op with
 | .binOp i t x y _=>(match c.P.underlying t with|some (.pointer _)=>decide (i=op) && !decide (op=.lss) && !decide (op=.gtr)|some (.interface _)=>(decide (i=.eql) && decide (op=.lss) || decide (i=.neq) && decide (op=.gtr)) && (match y with|.const .nilIface=>true|_=>false)|_=>false) && m5 c o p [x,y]
 | _=>false
def b8z (op:UnOp):Bool:=match o.op with
 | .unOp i _ x=>decide (i=op) && m5 c o p [x]
 | _=>false
def a9y (k:IntKind):Bool:=match o.op with
 | .convert t u x=>(match c.P.underlying t,c.P.underlying u with|some (.int _),some (.int i)=>decide (i=k)|_,_=>false) && m5 c o p [x]
 | _=>false
def b31 (f n:Nat):Bool:=match o.op with
 | .makeFunc (.func j) first i=>j == f && first.size == n && m5 c o p (first++i).toList
 | _=>false
def b3N:Bool:=match o.op,p.args with
 | .makeMap _ none,[]=>p.box.isNone && n8 c o.dst p.dst
 | _,_=>false
def a9l (l:Nat) (zero:List AV) (agg ok:Bool):Bool:=match o.op with
 | .lookup t m k j=>j == ok && (match c.P.underlying t with|some (.map u i)=>G8 c.P l u && r7 c i == some agg && a0M c.P i zero && a7m c.P i agg|_=>false) && m5 c o p [m,k]
 | _=>false
def b0O (i:Nat):Bool:=match o.op with
 | .mapUpdate t m k x|.insert t m k x=>(match c.P.underlying t with|some (.map j _)=>G8 c.P i j|_=>false) && o.dst.isNone && m5 c o p [m,k,x]
 | _=>false
def b3R (i:Nat):Bool:=match o.op with
 | .extract x j=>i == j && m5 c o p [x]
 | _=>false
def a3y (f:Nat):Bool:=match o.op with
 | .call { callee:=.value (.func f'),args:=xs,argTypes:=_ }=>f' == f && m5 c o p xs.toList
 | _=>false
def a6G:Bool:=match o.op with
 | .call { callee:=.value (.tmp s),args:=xs,argTypes:=_ }=>m5 c o p (.tmp s::xs.toList)
 | _=>false
def a8U:Bool:=match o.op with
 | .call { callee:=.builtin .len,args:=⟨[x]⟩,argTypes:=⟨t::_⟩ }=>(match c.P.underlying t with|some .string=>true|_=>false) && m5 c o p [x]
 | _=>false
def a9Q:Bool:=match o.op with
 | .call { callee:=.builtin .len,args:=⟨[x]⟩,argTypes:=⟨t::_⟩ }=>(match c.P.underlying t with|some (.slice _)=>true|_=>false) && m5 c o p [x]
 | _=>false
def b5Q (P:Program) (t:TypeId):Bool:=match P.underlying t with
 | some (.struct ⟨[f0,f1]⟩)=>f0.name != "_" && f1.name != "_" && f0.offset == 0 && f1.offset == 1 && (match P.underlying f0.type with|some (.int _)=>true|_=>false) && (match P.underlying f1.type with|some .string=>true|_=>false)
 | _=>false
def a80 (neg:Bool):Bool:=match o.op with
 | .binOp op t x y _=>decide (op=if neg then .neq else .eql) && !c.P.eqGuardType c.P.depth t && !c.P.stoodInHeld t && b5Q c.P t && m5 c o p [x,y]
 | _=>false
def a8R:Bool:=match o.op with
 | .call { callee:=.builtin .min,args:=⟨[x,y]⟩,.. }=>m5 c o p [x,y]
 | _=>false
def b3b (j bytes:Nat):Bool:=match o.op,p.args with
 | .call { callee:=.builtin .append,args:=⟨[x,y]⟩,argTypes:=⟨[t,t']⟩ },[q0,q1]=>t == t' && (match c.P.underlying t with
  | some (.slice e)=>(match c.P.info? e with
   | some i=>i.size == j && i.bytes == bytes && decide (0 < bytes) && (match i.zero with|some z=>z.cells.size == j|none=>false)
   | none=>false)
  | _=>false) && p.box.isNone && B9 c x q0 && L7 c y q1 && n8 c o.dst p.dst && o.dst.isSome
 | _,_=>false
def a9m (bytes:Nat):Bool:=match o.op,p.args with
 | .call { callee:=.builtin .append,args:=⟨[x,y]⟩,argTypes:=⟨[t,t']⟩ },[q0,q1]=>t == t' && (match c.P.underlying t with
  | some (.slice e)=>(match c.P.info? e with
   | some i=>i.size == 1 && i.bytes == bytes && decide (0 < bytes) && (match i.zero with|some z=>z.cells.size == 1|none=>false)
   | none=>false)
  | _=>false) && p.box.isNone && B9 c x q0 && L7 c y q1 && n8 c o.dst p.dst && o.dst.isSome
 | _,_=>false
def X3 (i:Nat) (zero:List (List AV)) (at_:List Nat):Bool:=match o.op with
 | .buildSlice t len parts=>match c.P.underlying t with
  | some (.slice e)=>match c.P.info? e,zero with
   | some ie,z1::_=>match ie.zero with
    | some z=>ie.size == i && z.cells.size == i && decide (len*i≤2 ^ 24) && !(len*i == 0) && C8 z.cells.toList z1 && zero.length == len && zero.all (N9 · z1) &&
     parts.toList.map (·.1) == at_ && p.box.isNone && n8 c o.dst p.dst && (match parts.toList.map (·.2),p.args with|[x],[q]=>B9 c x q|_,_=>false) && o.dst.isSome
    | none=>false
   | _,_=>false
  | _=>false
 | _=>false
def a8I (j bytes:Nat):Bool:=match o.op,p.args with
 | .call { callee:=.builtin .append,args:=⟨[x,y]⟩,argTypes:=⟨[t,t']⟩ },q0::q1::gs=>t == t' && (match c.P.underlying t with
  | some (.slice e)=>(match c.P.info? e with
   | some i=>i.size == j && i.bytes == bytes && decide (0 < bytes) && (match i.zero with|some z=>z.cells.size == j|none=>false)
   | none=>false)
  | _=>false) && p.box.isNone && B9 c x q0 && L7 c y q1 && n8 c o.dst p.dst && o.dst.isSome && gs.all (fun q=>!q.steals)
 | _,_=>false
def b35:Bool:=match o.op with
 | .convert t u x=>(match c.P.underlying t,c.P.underlying u with|some (.slice e),some .string=>(match c.P.underlying e with|some (.int .u8)=>true|_=>false)|_,_=>false) && m5 c o p [x]
 | _=>false
def AOper.bare (p:AOper):AOper:=match p.kind with
 | .ldStR agg n=>{ p with kind:=.ldSt agg n,args:=p.args.take 1 }
 | .ldStSR _=>{ p with kind:=.ldStS,args:=p.args.take 1 }
 | .stStA n=>{ p with kind:=.stSt n,args:=p.args.take 2 }
 | .callA f m=>{ p with kind:=.call f,args:=p.args.take m }
 | _=>p
def AOper.beside (p:AOper):List Opd:=match p.kind with
 | .ldStR _ _=>p.args.drop 1
 | .ldStSR _=>p.args.drop 1
 | .stStA _=>p.args.drop 2
 | .callA _ m=>p.args.drop m
 | _=>[]
def T8 (qs:List Opd):Bool:=qs.all fun q=>!q.steals
def a5N:Bool:=match p.kind with
 | .mv=>b9r c o p
 | .pick=>b0t c o p
 | .nilchk=>a5U c o p
 | .alloc zero=>a6T c o p zero
 | .boxV=>a8v c o p
 | .allocO zero=>a5K c o p zero
 | .boxO=>a9s c o p
 | .build zero t=>a6P c o p zero t
 | .bslice j zero at_=>a5J c o p j zero at_
 | .bsliceM j zero at_=>X3 c o p j zero at_
 | .ldLc i agg n=>a9C c o p i agg n
 | .ldSt agg n=>S0 c o p agg n
 | .ldRo agg n=>S0 c o p agg n
 | .ldAn agg n=>S0 c o p agg n
 | .ldStR agg n=>S0 c o p.bare agg n && T8 p.beside
 | .ldStSR _=>a2v c o p.bare && T8 p.beside
 | .stStA n=>a4t c o p.bare n && T8 p.beside
 | .callA f _=>a3y c o p.bare f && T8 p.beside
 | .ldLcS i=>a6R c o p i
 | .ldStS=>a2v c o p
 | .stLc i n=>b0e c o p i n
 | .stSt n=>a4t c o p n
 | .fad off=>b3y c o p off
 | .fld off n agg=>b2H c o p off n agg
 | .iad j=>b3E c o p j
 | .iadA len j=>b0a c o p len j
 | .idxS=>a9t c o p
 | .slS l hi=>b3F c o p l hi
 | .slL j l hi=>b4w c o p j l hi
 | .slZ=>b3K c o p
 | .slA len j l hi=>b3M c o p len j l hi
 | .bin op=>b4c c o p op
 | .binB op=>a9g c o p op
 | .binP op=>a8E c o p op
 | .un op=>b8z c o p op
 | .conv k=>a9y c o p k
 | .mkF f n=>b31 c o p f n
 | .mkM=>b3N c o p
 | .mget u zero agg ok=>a9l c o p u zero agg ok
 | .mset u=>b0O c o p u
 | .ext i=>b3R c o p i
 | .call f=>a3y c o p f
 | .callV=>a6G c o p
 | .lenS=>a8U c o p
 | .lenL=>a9Q c o p
 | .app j bytes=>b3b c o p j bytes
 | .appM j bytes=>a8I c o p j bytes
 | .b2s=>b35 c o p
 | .appA bytes=>a9m c o p bytes
 | .bsliceO j zero at_=>X3 c o p j zero at_
 | .min2=>a8R c o p
 | .eqIS neg=>a80 c o p neg
 | .stuck=>true
def PureK:Prop:=∀ {g:Gh} {w:World} {pr:Nat→Option Pl} {bx:Nat→Nat} {σ:Sig} {a:Act} {call:d8} {r b':AV} {st':St},
 S c g w pr bx σ a→sem p.kind call (p.args.map (·.read σ)) (q6 p σ) σ.st=some (r,b',st')→l8 c g w bx σ.fr a o r∧b'=q6 p σ∧st'=σ.st
def OpK:Prop:=∀ {g:Gh} {w:World} {pr:Nat→Option Pl} {bx:Nat→Nat} {σ σ':Sig} {a:Act} {call:d8} {next:Act→World→Prop} {Q:Exit→Act→World→Prop},
 Fx c→F9 c.P c.gt call→S c g w pr bx σ a→y9 call p σ=some σ'→Post c g w a σ' next→o.wp c.P a w next Q
end
section
variable {c:Cx} {o:Oper} {p:AOper}
theorem b7X (fr:List AV) (i:Nat):fr.set i (fr.getD i .undef)=fr:=by
 apply List.ext_getElem?;intro j;rw[List.getElem?_set];by_cases e:i=j
 · subst e;rw[if_pos rfl];split
   · rename_i h; simp[h]
   · rename_i h; rw[List.getElem?_eq_none (by omega)]
 · rw[if_neg e]
theorem l5 {call:d8} {σ σ':Sig} (h:y9 call p σ=some σ'):∃ r b' st',sem p.kind call (p.args.map (·.read σ)) (q6 p σ) σ.st=some (r,b',st') ∧
 σ'=p.dst.put r { d9 p.args σ with fr:=(match p.box with|some i=>(d9 p.args σ).fr.set i b'|none=>(d9 p.args σ).fr),st:=st' }:=by
 rw[J5]at h;cases j:p.box with
 | none =>
  have e:q6 p σ=.undef:=by simp only[q6,j]
  rw[e];simp only[j]at h;cases hs:sem p.kind call (p.args.map (·.read σ)) .undef σ.st with
  | none=>simp only[hs]at h; cases h
  | some x =>obtain⟨r,b',st'⟩:=x;simp only[hs]at h;exact⟨r,b',st',rfl,(Option.some.inj h).symm⟩
 | some i =>
  have e:q6 p σ=σ.fr.getD i .undef:=by simp only[q6,j]
  rw[e];simp only[j]at h;cases hs:sem p.kind call (p.args.map (·.read σ)) (σ.fr.getD i .undef) σ.st with
  | none=>simp only[hs]at h; cases h
  | some x =>obtain⟨r,b',st'⟩:=x;simp only[hs]at h;exact⟨r,b',st',rfl,(Option.some.inj h).symm⟩
theorem PureK.op (h:PureK c o p) (x:∀ σ,d9 p.args σ=σ) (C:n8 c o.dst p.dst=true):OpK c o p:=by
 intro g w pr bx σ σ' a call next Q z _ y u l
 obtain⟨r,b',st',hs,j⟩:=l5 u;obtain⟨⟨v,t,D⟩,rfl,rfl⟩:=h y hs;rw[x]at j;have j:σ'=p.dst.put r σ:=by
  rw[j];cases B:p.box with
  | none=>rfl
  | some i=>simp only[q6,B,b7X]
 subst j;exact b17 z y C t D l
theorem Q4 {xs:List Operand} (h:m5 c o p xs=true):p.box=none∧a07 c xs p.args=true∧n8 c o.dst p.dst=true:=by simp only[m5,AA,Option.isNone_iff_eq_none]at h;exact⟨h.1.1,h.1.2,h.2⟩
theorem l9 {xs:List Operand} (h:m5 c o p xs=true)
 (hs:∀ {g:Gh} {w:World} {pr:Nat→Option Pl} {bx:Nat→Nat} {σ:Sig} {a:Act} {call:d8} {r b' b:AV} {st':St},S c g w pr bx σ a→ArgsOK g w bx σ.fr (p.args.map (·.read σ)) (xs.map a.eval) →
  sem p.kind call (p.args.map (·.read σ)) b σ.st=some (r,b',st')→l8 c g w bx σ.fr a o r∧b'=b∧st'=σ.st):OpK c o p:=by
 obtain⟨u,j,t⟩:=Q4 h;exact PureK.op (fun l i=>hs l (N8 l j) i) (fun σ=>C5 j) t
end
end Go.Cb
namespace Go.Cb
open Classical
abbrev nc:d8:=fun _ _ _=>none
section
variable {c:Cx} {o:Oper} {p:AOper}
theorem d3Z (E:p.kind=.mv) (h:b9r c o p=true):OpK c o p:=by
 intro g w pr bx σ σ' a call next Q y _ D u i
 obtain⟨r,b',st',hs,t⟩:=l5 u;unfold b9r at h;have key:∀ (x:Operand) (q:Opd),(o.op=.move x∨o.op=.assign x)→p.args=[q]→(p.box.isNone && B9 c x q && n8 c o.dst p.dst)=true→o.wp c.P a w next Q:=by
  intro x q l j h;simp only[AA,Option.isNone_iff_eq_none]at h;obtain⟨⟨z,B⟩,C⟩:=h;rw[E,j]at hs;simp only[sem,a0u,AG,AL,AC,AH]at hs;obtain⟨rfl,rfl,rfl⟩:=hs;rw[z,j]at t;have e:σ'=p.dst.put (q.read σ) (q.spend σ):=by
   rw[t];have:(q.spend σ).st=σ.st:=by cases q<;>rfl
   simp only[d9];rw[← this]
  subst e;exact a4N y D l B C i
 split at h
 · rename_i x q l j; exact key x q (.inl l) j h
 · rename_i x q l j; exact key x q (.inr l) j h
 · cases h
theorem c00 (i:p.kind=.pick) (h:b0t c o p=true):OpK c o p:=by
 unfold b0t at h; split at h
 · rename_i x y z j;exact l9 h fun t l hs=>by rw[i]at hs; exact b7y (call:=nc) j l hs
 · cases h
theorem b5P (i:p.kind=.nilchk) (h:a5U c o p=true):OpK c o p:=by
 unfold a5U at h; split at h
 · rename_i x j;exact l9 h fun t l hs=>by rw[i]at hs; exact b4m (call:=nc) j l hs
 · cases h
theorem a2k {P:Program} {t:TypeId} {zero:List AV} (h:a0M P t zero=true):∃ z,(P.info? t).bind (·.zero)=some z∧C8 z.cells.toList zero=true:=by
 unfold a0M at h; split at h
 · rename_i z i; exact⟨z,i,h⟩
 · cases h
theorem a8S {zero:List AV} {z:Value} (h:C8 z.cells.toList zero=true) (g:Gh) (w:World):RowOK g w zero z.cells.toList:=by obtain⟨i,j,l⟩:=G0 h g w;exact⟨i,j,l⟩
theorem b8k {zero:List AV} (M:p.kind=.alloc zero) (h:a6T c o p zero=true):OpK c o p:=by
 intro g w pr bx σ σ' a call next Q D _ I u j
 obtain⟨r,b',st',hs,l⟩:=l5 u;unfold a6T at h; split at h
 · rename_i t s i N J C x B;simp only[AA,beq_iff_eq]at h;obtain⟨⟨E,F⟩,G⟩:=h;obtain⟨z,O,y⟩:=a2k G;rw[M,B]at hs;simp only[sem,O0,AL,q6,C]at hs;cases hu:σ.fr.getD i .undef<;>rw[hu]at hs<;>first|cases hs; done|skip
   simp only[AC,AH]at hs;obtain⟨rfl,rfl,rfl⟩:=hs;rw[C,B,x]at l;simp only[d9,Dst.put]at l;subst l;exact b18 D I J E (by simpa using F) hu (a4g N O) (a8S y g w) j
 · cases h
theorem b1z {q:Opd} {σ:Sig} {i:Nat} (hu:σ.fr.getD i .undef=.undef):(q.spend σ).fr.getD i .undef=.undef:=by
 cases q<;>simp only[Opd.spend]<;>try exact hu
 rename_i j;rw[List.getD_eq_getElem?_getD,List.getElem?_set] ;by_cases e:j=i
 · subst e;rw[if_pos rfl,hu];split<;>rfl
 · rw[if_neg e,← List.getD_eq_getElem?_getD]; exact hu
theorem c0S (R:p.kind=.boxV) (h:a8v c o p=true):OpK c o p:=by
 intro g w pr bx σ σ' a call next Q F _ N z l
 obtain⟨r,b',st',hs,j⟩:=l5 z;unfold a8v at h; split at h
 · rename_i t x s i q S O E B D;simp only[AA,beq_iff_eq]at h;obtain⟨⟨G,I⟩,J⟩:=h;rw[R,D]at hs;simp only[sem,Q5,AG,AL,q6,E]at hs;cases hu:σ.fr.getD i .undef<;>rw[hu]at hs<;>first|cases hs; done|skip
   dsimp only at hs;split at hs
   · rename_i C;simp only[AC,AH]at hs;obtain⟨rfl,rfl,rfl⟩:=hs;rw[E,D,B]at j;simp only[d9,Dst.put]at j;have u:(q.spend σ).st=σ.st:=by cases q<;>rfl
     rw[← u]at j;obtain⟨T,y,M,_⟩:=L2 N J (.tmp 0);subst j;exact b18 F y O G (by simpa using I) (b1z hu) (b1H S) (a7Q M C) l
   · cases hs
 · cases h
theorem b5E {zero:List AV} (F:p.kind=.allocO zero) (h:a5K c o p zero=true):OpK c o p:=by
 intro g w pr bx σ σ' a call next Q B _ x l i
 obtain⟨r,b',st',hs,j⟩:=l5 l;unfold a5K at h; split at h
 · rename_i t G y;simp only[AA,Option.isNone_iff_eq_none]at h;obtain⟨⟨C,D⟩,E⟩:=h;obtain⟨z,I,u⟩:=a2k D;rw[F,y]at hs;simp only[sem,E1,AL,AC,AH]at hs;obtain⟨rfl,rfl,rfl⟩:=hs;rw[C,y]at j;subst j;exact a4U B x E (a4g G I) (by intro c t z e; cases e; rfl) (a1m x (a8S u g w)) (.inl ⟨rfl,rfl⟩) i
 · cases h
theorem c2T (M:p.kind=.boxO) (h:a9s c o p=true):OpK c o p:=by
 intro g w pr bx σ σ' a call next Q D _ J y j
 obtain⟨r,b',st',hs,i⟩:=l5 y;unfold a9s at h; split at h
 · rename_i t x q N C;simp only[AA,Option.isNone_iff_eq_none]at h;obtain⟨⟨E,F⟩,G⟩:=h;rw[M,C]at hs;simp only[sem,J3,AG,AL]at hs;split at hs
   · rename_i B;simp only[AC,AH]at hs;obtain⟨rfl,rfl,rfl⟩:=hs;rw[E,C]at i;simp only[d9]at i;have u:(q.spend σ).st=σ.st:=by cases q<;>rfl
     rw[← u]at i;obtain⟨O,l,I,_⟩:=L2 J F (.tmp 0);subst i;exact a4U D l G (b1H N) (by intro c t z e; cases e; rfl) (a1m l (a7Q I B)) (.inl ⟨rfl,rfl⟩) j
   · cases hs
 · cases h
theorem c9Q (D:p.kind=.mkM) (h:b3N c o p=true):OpK c o p:=by
 intro g w pr bx σ σ' a call next Q y _ u l i
 obtain⟨r,b',st',hs,j⟩:=l5 l;unfold b3N at h; split at h
 · rename_i t E x;simp only[AA,Option.isNone_iff_eq_none]at h;obtain⟨B,C⟩:=h;rw[D,x]at hs;simp only[sem,S7,AL,AC,AH]at hs;obtain⟨rfl,rfl,rfl⟩:=hs;rw[B,x]at j;subst j;refine a4U y u C (O:=.map #[] 0) (by simp[execOp,E,Instr.makeMap]) (by intro c t z e; cases e) (b2m u) (.inr (.inl ⟨rfl,rfl⟩)) i
 · cases h
end
end Go.Cb
namespace Go.Cb
open Classical
section
variable {c:Cx} {o:Oper} {p:AOper}
theorem d5p {op:UnOp} (i:p.kind=.un op) (h:b8z c o p op=true):OpK c o p:=by
 unfold b8z at h; split at h
 · rename_i u t x j;simp only[AA,decide_eq_true_eq]at h;obtain⟨rfl,h⟩:=h;exact l9 h fun y l hs=>by rw[i]at hs; exact d1k (call:=nc) j l hs
 · cases h
theorem d13 {op:BinOp} (i:p.kind=.bin op) (h:b4c c o p op=true):OpK c o p:=by
 unfold b4c at h; split at h
 · rename_i u t x y B j;simp only[AA,decide_eq_true_eq]at h;obtain⟨rfl,h⟩:=h;exact l9 h fun z l hs=>by rw[i]at hs; exact c3d (call:=nc) j l hs
 · cases h
theorem c1d {op:BinOp} (j:p.kind=.binB op) (h:a9g c o p op=true):OpK c o p:=by
 unfold a9g at h; split at h
 · rename_i z t x y C l;simp only[AA,decide_eq_true_eq]at h;obtain⟨⟨rfl,i⟩,h⟩:=h;split at i
   · rename_i hu; exact l9 h fun B u hs=>by rw[j]at hs; exact b7P (call:=nc) l hu u hs
   · cases i
 · cases h
theorem c4C {op:BinOp} (z:p.kind=.binP op) (h:a8E c o p op=true):OpK c o p:=by
 unfold a8E at h; split at h
 · rename_i D t x y F B;rw[AA]at h;obtain⟨i,h⟩:=h;split at i
   · rename_i e hu;simp only[AA,decide_eq_true_eq,Bool.not_eq_true',decide_eq_false_iff_not]at i;obtain⟨⟨rfl,j⟩,l⟩:=i;exact l9 h fun C u hs=>by rw[z]at hs; exact b7t (call:=nc) B hu ⟨j,l⟩ u hs
   · rename_i E hu;rw[AA]at i;obtain⟨j,l⟩:=i;split at l
     case h_2=>cases l
     simp only[Bool.or_eq_true,AA,decide_eq_true_eq]at j;exact l9 h fun C u hs=>by rw[z]at hs; exact b9q (call:=nc) B hu j u hs
   · cases i
 · cases h
theorem c1r {k:IntKind} (l:p.kind=.conv k) (h:a9y c o p k=true):OpK c o p:=by
 unfold a9y at h; split at h
 · rename_i t u x y;simp only[AA]at h;obtain⟨hu,h⟩:=h;split at hu
   · rename_i i j;simp only[decide_eq_true_eq]at hu;subst hu;exact l9 h fun B z hs=>by rw[l]at hs; exact b84 (call:=nc) y i j z hs
   · cases hu
 · cases h
theorem d1r {i:Nat} (l:p.kind=.ext i) (h:b3R c o p i=true):OpK c o p:=by
 unfold b3R at h; split at h
 · rename_i x j t;simp only[AA,beq_iff_eq]at h;obtain⟨rfl,h⟩:=h;exact l9 h fun y u hs=>by rw[l]at hs; exact c1p (call:=nc) t u hs
 · cases h
theorem b12 {i:Bool} {n:Nat} (y:p.kind=.ldSt i n) (h:S0 c o p i n=true):OpK c o p:=by
 unfold S0 at h; split at h
 · rename_i t x z;simp only[AA,beq_iff_eq]at h;obtain⟨⟨j,l⟩,h⟩:=h;exact l9 h fun u B hs=>by rw[y]at hs; exact a9E (call:=nc) u.st z j l B hs
 · cases h
theorem c37 {i:Bool} {n:Nat} (u:p.kind=.ldRo i n) (h:S0 c o p i n=true):OpK c o p:=by
 unfold S0 at h; split at h
 · rename_i t x y;simp only[AA,beq_iff_eq]at h;obtain⟨⟨j,l⟩,h⟩:=h;exact l9 h fun B z hs=>by rw[u]at hs; exact b0N (call:=nc) y j l z hs
 · cases h
theorem c3w {i:Bool} {n:Nat} (y:p.kind=.ldAn i n) (h:S0 c o p i n=true):OpK c o p:=by
 unfold S0 at h; split at h
 · rename_i t x z;simp only[AA,beq_iff_eq]at h;obtain⟨⟨j,l⟩,h⟩:=h;exact l9 h fun u B hs=>by rw[y]at hs; exact b8v (call:=nc) u.st z j l B hs
 · cases h
theorem c2b {i:Nat} {l:Bool} {n:Nat} (F:p.kind=.ldLc i l n) (h:a9C c o p i l n=true):OpK c o p:=by
 unfold a9C at h; split at h
 · rename_i t x j G E;simp only[AA,beq_iff_eq,decide_eq_true_eq]at h;obtain⟨⟨⟨⟨⟨rfl,z⟩,B⟩,C⟩,u⟩,D⟩:=h;refine PureK.op (fun y hs=>?_) (fun σ=>C5 u) D;rw[F]at hs;simp only[q6,E]at hs ⊢;exact b9H (call:=nc) y.fr (AD z) G B C (N8 y u) hs
 · cases h
theorem c6y {off:Nat} (t:p.kind=.fad off) (h:b3y c o p off=true):OpK c o p:=by
 unfold b3y at h; split at h
 · rename_i s x f u;simp only[AA]at h;obtain⟨i,h⟩:=h;split at i
   · rename_i z l;simp only[AA,beq_iff_eq]at i;obtain⟨i,j⟩:=i;split at i
     · rename_i n hn;exact l9 h fun B y hs=>by rw[t]at hs; exact c0F (call:=nc) u l hn (by simpa using i) j y hs
     · cases i
   · cases i
 · cases h
theorem c6A {off n:Nat} {j:Bool} (y:p.kind=.fld off n j) (h:b2H c o p off n j=true):OpK c o p:=by
 unfold b2H at h; split at h
 · rename_i s x f z;simp only[AA]at h;obtain⟨i,h⟩:=h;split at i
   · rename_i C u;simp only[AA,beq_iff_eq]at i;obtain⟨⟨i,l⟩,t⟩:=i;exact l9 h fun D B hs=>by rw[y]at hs; exact c2c (call:=nc) z u i l t B hs
   · cases i
 · cases h
theorem c7B {l:Nat} (u:p.kind=.iad l) (h:b3E c o p l=true):OpK c o p:=by
 unfold b3E at h; split at h
 · rename_i t x i y;simp only[AA]at h;obtain⟨j,h⟩:=h;split at j
   · rename_i e hu;simp only[beq_iff_eq]at j;exact l9 h fun B z hs=>by rw[u]at hs; exact c0B (call:=nc) y hu j z hs
   · cases j
 · cases h
theorem c1m {len l:Nat} (u:p.kind=.iadA len l) (h:b0a c o p len l=true):OpK c o p:=by
 unfold b0a at h; split at h
 · rename_i t x i y;simp only[AA]at h;obtain⟨j,h⟩:=h;split at j
   · rename_i n e hu;simp only[AA,beq_iff_eq]at j;obtain⟨rfl,j⟩:=j;exact l9 h fun B z hs=>by rw[u]at hs; exact b7v (call:=nc) y hu j z hs
   · cases j
 · cases h
theorem c0Z (l:p.kind=.idxS) (h:a9t c o p=true):OpK c o p:=by
 unfold a9t at h; split at h
 · rename_i t x i u;simp only[AA]at h;obtain⟨j,h⟩:=h;split at j
   · rename_i hu;exact l9 h fun z y hs=>by rw[l]at hs; exact b82 (call:=nc) u hu y hs
   · cases j
 · cases h
theorem a5I {a:Act} {x:Operand} {l h:Option Operand}:(x::(l.toList++h.toList)).map a.eval=a.eval x::((l.map a.eval).toList++(h.map a.eval).toList):=by cases l<;>cases h<;>rfl
theorem c6T {u hi:Bool} (y:p.kind=.slS u hi) (h:b3F c o p u hi=true):OpK c o p:=by
 unfold b3F at h; split at h
 · rename_i t x l B z;simp only[AA,beq_iff_eq]at h;obtain⟨⟨⟨i,rfl⟩,rfl⟩,h⟩:=h;split at i
   · rename_i hu;exact l9 h fun C j hs=>by rw[y]at hs; rw[a5I]at j; exact c1P (call:=nc) z hu j hs
   · cases i
 · cases h
theorem c9Z {y:Nat} {u hi:Bool} (z:p.kind=.slL y u hi) (h:b4w c o p y u hi=true):OpK c o p:=by
 unfold b4w at h; split at h
 · rename_i t x l C B;simp only[AA,beq_iff_eq]at h;obtain⟨⟨⟨i,rfl⟩,rfl⟩,h⟩:=h;split at i
   · rename_i e hu;simp only[beq_iff_eq]at i;exact l9 h fun D j hs=>by rw[z]at hs; rw[a5I]at j; exact c1g (call:=nc) B hu i j hs
   · cases i
 · cases h
theorem c7a (j:p.kind=.slZ) (h:b3K c o p=true):OpK c o p:=by
 unfold b3K at h; split at h
 · rename_i t x k m z n l;simp only[AA,decide_eq_true_eq]at h;obtain⟨⟨⟨rfl,rfl⟩,i⟩,h⟩:=h;split at i
   · rename_i e hu;exact l9 h fun y u hs=>by rw[j]at hs; exact c4W (call:=nc) l hu i u hs
   · cases i
 · cases h
theorem c5G {len y:Nat} {u hi:Bool} (z:p.kind=.slA len y u hi) (h:b3M c o p len y u hi=true):OpK c o p:=by
 unfold b3M at h; split at h
 · rename_i t x l C B;simp only[AA,beq_iff_eq]at h;obtain⟨⟨⟨i,rfl⟩,rfl⟩,h⟩:=h;split at i
   · rename_i n e hu;simp only[AA,beq_iff_eq]at i;obtain⟨rfl,i⟩:=i;exact l9 h fun D j hs=>by rw[z]at hs; rw[a5I]at j; exact c3c (call:=nc) B hu i j hs
   · cases i
 · cases h
theorem d0r {f n:Nat} (l:p.kind=.mkF f n) (h:b31 c o p f n=true):OpK c o p:=by
 unfold b31 at h; split at h
 · rename_i x first i t
   simp only[AA,beq_iff_eq]at h;obtain⟨⟨rfl,j⟩,h⟩:=h;exact l9 h fun y u hs=>by rw[l]at hs; exact c4O (call:=nc) t j u hs
 · cases h
theorem c3t {l:Nat} {zero:List AV} {j ok:Bool} (B:p.kind=.mget l zero j ok) (h:a9l c o p l zero j ok=true):OpK c o p:=by
 unfold a9l at h; split at h
 · rename_i t m k E C;simp only[AA,beq_iff_eq]at h;obtain⟨⟨rfl,i⟩,h⟩:=h;split at i
   · rename_i G F hu;simp only[AA,beq_iff_eq]at i;obtain⟨⟨⟨i,u⟩,x⟩,y⟩:=i;exact l9 h fun z D hs=>by rw[B]at hs; exact b89 (call:=nc) z.st C hu i u x y D hs
   · cases i
 · cases h
theorem c1h (j:p.kind=.lenS) (h:a8U c o p=true):OpK c o p:=by
 unfold a8U at h; split at h
 · rename_i x t ts l;simp only[AA]at h;obtain⟨i,h⟩:=h;split at i
   · rename_i hu;exact l9 h fun y u hs=>by rw[j]at hs; exact b8U (call:=nc) l (by simp) hu u hs
   · cases i
 · cases h
theorem c2z (j:p.kind=.lenL) (h:a9Q c o p=true):OpK c o p:=by
 unfold a9Q at h; split at h
 · rename_i x t ts l;simp only[AA]at h;obtain⟨i,h⟩:=h;split at i
   · rename_i e hu;exact l9 h fun y u hs=>by rw[j]at hs; exact b9f (call:=nc) l (by simp) hu u hs
   · cases i
 · cases h
theorem c3X {neg:Bool} (B:p.kind=.eqIS neg) (h:a80 c o p neg=true):OpK c o p:=by
 unfold a80 at h; split at h
 · rename_i op t x y I C;simp only[AA,decide_eq_true_eq,Bool.not_eq_true']at h;obtain⟨⟨⟨⟨rfl,hm⟩,i⟩,hi⟩,h⟩:=h;unfold b5Q at hi;split at hi
   case h_2=>cases hi
   rename_i f0 f1 hu;simp only[AA,bne_iff_ne,beq_iff_eq]at hi;obtain⟨⟨⟨⟨⟨E,F⟩,o0⟩,o1⟩,u⟩,z⟩:=hi;split at u
   case h_2=>cases u
   rename_i k0 j;split at z
   case h_2=>cases z
   rename_i l;exact l9 h fun G D hs=>by rw[B]at hs; exact b7I (call:=nc) C hm i hu E F o0 o1 j l D hs
 · cases h
theorem c4G (i:p.kind=.min2) (h:a8R c o p=true):OpK c o p:=by
 unfold a8R at h; split at h
 · rename_i x y _ _ j;exact l9 h fun t l hs=>by rw[i]at hs; exact b9j (call:=nc) j l hs
 · cases h
theorem a5i:∀ {places:List (Nat×Nat)} {is:List Nat} {qs:List (Nat×Nat)},a6r places is qs=true→is.map (fun i=>places[i]?)=qs.map some
 | _,[],[],_=>rfl
 | places,i::is,q::qs,h=>by simp only[a6r,AA,beq_iff_eq]at h;simp only[AG,h.1,a5i h.2]
theorem b9R {zero:List AV} {i:List (Nat×Nat)} (B:p.kind=.build zero i) (h:a6P c o p zero i=true):OpK c o p:=by
 unfold a6P at h; split at h
 · rename_i t parts C;simp only[AA]at h;obtain⟨⟨j,y⟩,h⟩:=h;split at j
   · rename_i places l;obtain⟨z,D,u⟩:=a2k y;refine l9 h fun {g w pr bx σ a call r b' b st'} E x hs=>?_
     rw[B]at hs;rw[List.map_map]at x;exact b5D (call:=nc) C l D u (a5i j) x hs
   · cases j
 · cases h
end
end Go.Cb
namespace Go.Cb
open Classical
section
variable {c:Cx} {o:Oper} {p:AOper}
theorem b5k {G:Nat} {zero:List (List AV)} {at_:List Nat} (Y:p.kind=.bslice G zero at_) (h:a5J c o p G zero at_=true):OpK c o p:=by
 intro g w pr bx σ σ' a call next Q J _ F B j
 obtain⟨r,b',st',hs,u⟩:=l5 B;unfold a5J at h;split at h
 case h_2=>cases h
 rename_i t len parts Z;split at h
 case h_2=>cases h
 rename_i e hu;split at h
 case h_2=>cases h
 rename_i ie I zs C;split at h
 case h_2=>cases h
 rename_i z hz;simp only[AA,beq_iff_eq,decide_eq_true_eq]at h;obtain⟨⟨⟨⟨⟨⟨⟨⟨⟨M,N⟩,O⟩,R⟩,S⟩,T⟩,U⟩,V⟩,W⟩,x⟩:=h;obtain⟨p1,p2,p3⟩:=Q4 W;rw[Y]at hs;simp only[sem,H8]at hs;obtain⟨rs,D,hs⟩:=AK.1 hs;simp only[AH]at hs;obtain⟨rfl,rfl,rfl⟩:=hs;rw[p1,C5 p2]at u;subst u;have i:=N8 F p2;rw[List.map_map]at i;have l:I::zs=List.replicate len I:=by apply List.eq_replicate_iff.2;refine⟨T,fun y hy=>?_⟩;have E:=List.all_eq_true.1 U y hy;exact(D1 _ _).1 E
 exact b5j J F Z hu C hz M N O (by simpa using R) S l V i D p3 x j
theorem b2Y {J:Nat} {zero:List (List AV)} {at_:List Nat} (hk:p.kind=.bsliceM J zero at_) (h:X3 c o p J zero at_=true):OpK c o p:=by
 intro g w pr bx σ σ' a call next Q N _ Z D j
 obtain⟨r,b',st',hs,i⟩:=l5 D;unfold X3 at h;split at h
 case h_2=>cases h
 rename_i t len parts ho;split at h
 case h_2=>cases h
 rename_i e hu;split at h
 case h_2=>cases h
 rename_i ie M zs E;split at h
 case h_2=>cases h
 rename_i z hz;simp only[AA,beq_iff_eq,decide_eq_true_eq]at h;simp only[Option.isNone_iff_eq_none]at h;obtain⟨⟨⟨⟨⟨⟨⟨⟨⟨⟨⟨O,R⟩,S⟩,T⟩,U⟩,V⟩,W⟩,Y⟩,p1⟩,p3⟩,C⟩,B⟩:=h;split at C
 case h_2=>cases C
 rename_i x q hx I;rw[hk,I]at hs;simp only[sem,F0,AG,AL]at hs;obtain⟨rs,F,hs⟩:=AK.1 hs;simp only[AH]at hs;obtain⟨rfl,rfl,rfl⟩:=hs;rw[p1,I]at i;simp only[d9]at i;have u:(q.spend σ).st=σ.st:=by cases q<;>rfl
 rw[← u]at i;subst i;have l:M::zs=List.replicate len M:=by apply List.eq_replicate_iff.2;refine⟨V,fun y hy=>?_⟩;have G:=List.all_eq_true.1 W y hy;exact(D1 _ _).1 G
 exact b4y N Z ho hu E hz O R S (by simpa using T) U l Y hx C F p3 B j
theorem b2z {N:Nat} {zero:List (List AV)} {at_:List Nat} (hk:p.kind=.bsliceO N zero at_) (h:X3 c o p N zero at_=true):OpK c o p:=by
 intro g w pr bx σ σ' a call next Q O _ Z C i
 obtain⟨r,b',st',hs,j⟩:=l5 C;unfold X3 at h;split at h
 case h_2=>cases h
 rename_i t len parts ho;split at h
 case h_2=>cases h
 rename_i e hu;split at h
 case h_2=>cases h
 rename_i ie I zs D;split at h
 case h_2=>cases h
 rename_i z hz;simp only[AA,beq_iff_eq,decide_eq_true_eq]at h;simp only[Option.isNone_iff_eq_none]at h;obtain⟨⟨⟨⟨⟨⟨⟨⟨⟨⟨⟨R,S⟩,T⟩,U⟩,V⟩,J⟩,W⟩,Y⟩,p1⟩,p3⟩,B⟩,u⟩:=h;split at B
 case h_2=>cases B
 rename_i x q hx M;rw[hk,M]at hs;simp only[sem,E9,AG,AL]at hs;obtain⟨rs,E,hs⟩:=AK.1 hs;simp only[AH]at hs;obtain⟨rfl,rfl,rfl⟩:=hs;rw[p1,M]at j;simp only[d9]at j;subst j;have l:I::zs=List.replicate len I:=by apply List.eq_replicate_iff.2;refine⟨J,fun y hy=>?_⟩;have F:=List.all_eq_true.1 W y hy;exact(D1 _ _).1 F
 have G:(I::zs).length=len:=J;rw[G]at i;exact b28 O Z ho hu D hz R S T (by simpa using U) V l Y hx B E p3 u i
theorem b7V {i:Nat} (R:p.kind=.ldLcS i) (h:a6R c o p i=true):OpK c o p:=by
 intro g w pr bx σ σ' a call next Q I _ F C l
 obtain⟨r,b',st',hs,y⟩:=l5 C;unfold a6R at h; split at h
 · rename_i t x j S G;simp only[AA,beq_iff_eq,decide_eq_true_eq]at h;obtain⟨⟨⟨⟨rfl,J⟩,M⟩,E⟩,N⟩:=h;obtain⟨q,T,O⟩:=(N8 F E).one;rw[R,T]at hs;simp only[q6,G,sem]at hs;unfold I5 at hs;split at hs<;>first|cases hs; done|skip
   rename_i j off cs u B;simp only[AM,and_true]at u;subst u;split at hs<;>first|cases hs; done|skip
   rename_i D;subst D;split at hs<;>first|cases hs; done|skip
   rename_i z U;simp only[AC,AH]at hs;obtain⟨rfl,rfl,rfl⟩:=hs;rw[G,C5 E]at y;subst y;exact b7H I F (AD J) S M B U O.2 N l
 · cases h
theorem a8O (G:p.kind=.ldStS) (h:a2v c o p=true):OpK c o p:=by
 intro g w pr bx σ σ' a call next Q D _ B y i
 obtain⟨r,b',st',hs,l⟩:=l5 y;unfold a2v at h; split at h
 · rename_i t x I;simp only[AA,beq_iff_eq]at h;obtain⟨E,h⟩:=h;obtain⟨p1,p2,p3⟩:=Q4 h;obtain⟨q,J,F⟩:=(N8 B p2).one;rw[G,J]at hs;simp only[sem]at hs;unfold B6 at hs;split at hs<;>first|cases hs; done|skip
   rename_i N off j;simp only[AM,and_true]at j;subst j;split at hs<;>first|cases hs; done|skip
   rename_i cs u;split at hs<;>first|cases hs; done|skip
   rename_i z M;simp only[AC,AH]at hs;obtain⟨rfl,rfl,rfl⟩:=hs;rw[p1,C5 p2]at l;subst l;have C:=ValOK.rel F;simp only[Rel]at C;exact b67 D B I E u M C.2 p3 i
 · cases h
theorem c3K {i n:Nat} (hk:p.kind=.stLc i n) (h:b0e c o p i n=true):OpK c o p:=by
 intro g w pr bx σ σ' a call next Q fx _ M G z
 obtain⟨r,b',st',hs,l⟩:=l5 G;unfold b0e at h; split at h
 · rename_i t x y j R S ho hd I O N;simp only[Bool.and_eq_true,beq_iff_eq,decide_eq_true_eq]at h;obtain⟨⟨⟨⟨rfl,W⟩,Y⟩,E⟩,Z⟩:=h;have J:=N3 M E;have C:R.spend σ=σ:=by simp only[L7,Bool.and_eq_true]at E;have:=E.2;cases R<;>simp_all [Opd.steals,Opd.spend]
   rw[hk,N]at hs;simp only[q6,O,sem,AG,AL]at hs;unfold J2 at hs;split at hs<;>first|cases hs; done|skip
   rename_i j off x' cs B F;simp only[AM,and_true]at B;obtain⟨V,e1⟩:=B;split at hs<;>first|cases hs; done|skip
   rename_i u;obtain⟨rfl,c1,T,U⟩:=u;simp only[AC,AH]at hs;obtain⟨rfl,rfl,rfl⟩:=hs;rw[O,N,I]at l;simp only[d9,C,Dst.put]at l;have D:(S.spend σ).st=σ.st:=by cases S<;>rfl
   subst e1;rw[← D]at l;subst l;rw[V]at J;exact c2u M (AD W) ho Y F J.2 Z c1 T U hd z
 · cases h
theorem b2b {n:Nat} (W:p.kind=.stSt n) (h:a4t c o p n=true):OpK c o p:=by
 intro g w pr bx σ σ' a call next Q Z _ G D j
 obtain⟨r,b',st',hs,l⟩:=l5 D;unfold a4t at h; split at h
 · rename_i t x y M q1 Y V E U I;simp only[Bool.and_eq_true,beq_iff_eq]at h;obtain⟨⟨S,B⟩,T⟩:=h;have F:=N3 G B;have z:M.spend σ=σ:=by simp only[L7,Bool.and_eq_true]at B;have:=B.2;cases M<;>simp_all [Opd.steals,Opd.spend]
   rw[W,I]at hs;simp only[sem,AG,AL]at hs;unfold D5 at hs;split at hs<;>first|cases hs; done|skip
   rename_i oo off x' u;simp only[AM,and_true]at u;obtain⟨R,e1⟩:=u;split at hs<;>first|cases hs; done|skip
   rename_i cs C;split at hs<;>first|cases hs; done|skip
   rename_i i;obtain⟨c1,N,O⟩:=i;simp only[fL_eq,AC,AH]at hs;obtain⟨rfl,rfl,rfl⟩:=hs;rw[U,I,E]at l;simp only[d9,z,Dst.put]at l;subst e1;subst l;rw[R]at F;have J:=ValOK.rel F;simp only[Rel]at J;exact c3B G Y S C J.2 T c1 N O V j
 · cases h
theorem c2y {R:Nat} (T:p.kind=.mset R) (h:b0O c o p R=true):OpK c o p:=by
 intro g w pr bx σ σ' a call next Q Z _ I N j
 obtain⟨r,b',st',hs,l⟩:=l5 N;unfold b0O at h;have key:∀ (t:TypeId) (m k x:Operand),(o.op=.mapUpdate t m k x∨o.op=.insert t m k x) →
  ((match c.P.underlying t with|some (.map S _)=>G8 c.P R S|_=>false) && o.dst.isNone && m5 c o p [m,k,x])=true→o.wp c.P a w next Q:=by
  intro t m k x u h;simp only[AA,Option.isNone_iff_eq_none]at h;obtain⟨⟨E,F⟩,h⟩:=h;split at E
  case h_2=>cases E
  rename_i S Y hu;obtain⟨p1,p2,p3⟩:=Q4 h;obtain⟨q0,q1,q2,V,G,y,z⟩:=(N8 I p2).three;rw[T,V]at hs;simp only[sem]at hs;unfold P9 at hs;split at hs<;>first|cases hs; done|skip
  rename_i oo kv xv B;simp only[AM,and_true]at B;obtain⟨rfl,rfl,rfl⟩:=B;split at hs<;>first|cases hs; done|skip
  rename_i D;split at hs<;>first|cases hs; done|skip
  rename_i es C;have O:=ValOK.rel G;simp only[Rel]at O;have J:p.dst=.none:=by rw[F]at p3;cases U:p.dst<;>simp_all [n8]
  rw[p1,C5 p2,J]at l;simp only[Dst.put]at l;subst l;split at hs
  · rename_i i v M;simp only[AC,AH]at hs;obtain⟨rfl,rfl,rfl⟩:=hs;exact b1N I u hu E C O.2 y z D F (by rw[M]) j
  · rename_i M;obtain⟨zz,W,hs⟩:=Option.bind_eq_some_iff.1 hs;simp only[AC,AH]at hs;obtain⟨rfl,rfl,rfl⟩:=hs;exact b1N I u hu E C O.2 y z D F (by rw[M]; simp[W]) j
  · cases hs
 split at h
 · rename_i t m k x u; exact key t m k x (.inl u) h
 · rename_i t m k x u; exact key t m k x (.inr u) h
 · cases h
theorem c68 {N bytes:Nat} (hk:p.kind=.app N bytes) (h:b3b c o p N bytes=true):OpK c o p:=by
 intro g w pr bx σ σ' a call next Q T _ Z G l
 obtain⟨r,b',st',hs,j⟩:=l5 G;unfold b3b at h; split at h
 · rename_i x y t t' D M ho J;simp only[AA,beq_iff_eq,Option.isNone_iff_eq_none]at h;obtain⟨⟨⟨⟨⟨⟨rfl,u⟩,U⟩,V⟩,F⟩,W⟩,Y⟩:=h;split at u<;>first|cases u; done|skip
   rename_i e hu;split at u<;>first|cases u; done|skip
   rename_i ie I;simp only[AA,beq_iff_eq,decide_eq_true_eq]at u;obtain⟨⟨⟨z1,z2⟩,z3⟩,z4⟩:=u;split at z4<;>first|cases z4; done|skip
   rename_i z hz;simp only[beq_iff_eq]at z4;have C:M.spend (D.spend σ)=D.spend σ:=by simp only[L7,Bool.and_eq_true]at F;have:=F.2;cases M<;>simp_all [Opd.steals,Opd.spend]
   rw[hk,J]at hs;simp only[sem,AG,AL]at hs;unfold P5 at hs;split at hs<;>first|cases hs; done|skip
   rename_i xs own ys B;simp only[AM,and_true]at B;obtain⟨S,e1⟩:=B;split at hs<;>first|cases hs; done|skip
   rename_i i;simp only[AA,decide_eq_true_eq]at i;obtain⟨⟨c1,O⟩,R⟩:=i;simp only[AC,AH]at hs;obtain⟨rfl,rfl,rfl⟩:=hs;rw[U,J]at j;simp only[d9,C]at j;have E:(D.spend σ).st=σ.st:=by cases D<;>rfl
   rw[← E]at j;subst j;exact b46 T Z ho rfl hu I hz z1 z2 z4 z3 V F W Y S e1 c1 O R l
 · cases h
theorem c4N {J bytes:Nat} (U:p.kind=.appM J bytes) (h:a8I c o p J bytes=true):OpK c o p:=by
 intro g w pr bx σ σ' a call next Q M _ T E i
 obtain⟨r,b',st',hs,j⟩:=l5 E;unfold a8I at h; split at h
 · rename_i x y t t' q0 I gs V G;simp only[AA,beq_iff_eq,Option.isNone_iff_eq_none]at h;obtain⟨⟨⟨⟨⟨⟨⟨rfl,l⟩,N⟩,O⟩,C⟩,R⟩,h6⟩,S⟩:=h;split at l<;>first|cases l; done|skip
   rename_i e hu;split at l<;>first|cases l; done|skip
   rename_i ie F;simp only[AA,beq_iff_eq,decide_eq_true_eq]at l;obtain⟨⟨⟨z1,z2⟩,z3⟩,z4⟩:=l;split at z4<;>first|cases z4; done|skip
   rename_i z Y;simp only[beq_iff_eq]at z4;have u:∀ τ:Sig,I.spend τ=τ:=fun τ=>by simp only[L7,Bool.and_eq_true]at C;have:=C.2;cases I<;>simp_all [Opd.steals,Opd.spend]
   have B:∀ (gs:List Opd) (τ:Sig),gs.all (fun q=>!q.steals)=true→d9 gs τ=τ:=by
    intro gs;induction gs with
    | nil=>intro τ _; rfl
    | cons q gs Z =>
     intro τ D;simp only[List.all_cons,Bool.and_eq_true]at D;have W:q.spend τ=τ:=by have:=D.1;cases q<;>simp_all [Opd.steals,Opd.spend]
     rw[d9,W];exact Z τ D.2
   rw[U,G]at hs;simp only[sem,AG]at hs;rw[N,G]at j;simp only[d9,u,B gs _ S]at j;subst j;exact c1W M T V rfl hu F Y z1 z2 z4 z3 O C R hs i
 · cases h
theorem c4n {bytes:Nat} (hk:p.kind=.appA bytes) (h:a9m c o p bytes=true):OpK c o p:=by
 intro g w pr bx σ σ' a call next Q O _ U N u
 obtain⟨r,b',st',hs,j⟩:=l5 N;unfold a9m at h; split at h
 · rename_i x y t t' G Z W V;simp only[AA,beq_iff_eq,Option.isNone_iff_eq_none]at h;obtain⟨⟨⟨⟨⟨⟨rfl,B⟩,h2⟩,R⟩,F⟩,S⟩,T⟩:=h;split at B<;>first|cases B; done|skip
   rename_i e hu;split at B<;>first|cases B; done|skip
   rename_i ie D;simp only[AA,beq_iff_eq,decide_eq_true_eq]at B;obtain⟨⟨⟨z1,z2⟩,z3⟩,z4⟩:=B;split at z4<;>first|cases z4; done|skip
   rename_i z Y;simp only[beq_iff_eq]at z4;have E:Z.spend (G.spend σ)=G.spend σ:=by simp only[L7,Bool.and_eq_true]at F;have:=F.2;cases Z<;>simp_all [Opd.steals,Opd.spend]
   have C:(G.spend σ).st=σ.st:=by cases G<;>rfl
   rw[hk,V]at hs;simp only[sem,AG,AL]at hs;rw[h2,V]at j;simp only[d9,E]at j;unfold U3 at hs;split at hs<;>first|cases hs; done|skip
   · rename_i xs l;simp only[AM,and_true]at l;obtain⟨J,e1⟩:=l;split at hs<;>first|cases hs; done|skip
     rename_i i;simp only[AA,decide_eq_true_eq]at i;obtain⟨c1,I⟩:=i;simp only[AC,AH]at hs;obtain⟨rfl,rfl,rfl⟩:=hs;rw[← C]at j;subst j;exact b6G O U W rfl hu D Y z1 z2 z4 z3 R F S T J e1 c1 I u
   · rename_i xs ob n l;simp only[AM,and_true]at l;obtain⟨J,e1⟩:=l;split at hs<;>first|cases hs; done|skip
     rename_i cs M;split at hs<;>first|cases hs; done|skip
     rename_i i;simp only[AA,decide_eq_true_eq]at i;obtain⟨⟨c1,c4⟩,I⟩:=i;simp only[AC,AH]at hs;obtain⟨rfl,rfl,rfl⟩:=hs;rw[← C]at j;subst j;obtain rfl:=Nat.eq_of_beq_eq_true c4;exact c4m O U W rfl hu D Y z1 z2 z4 z3 R F S T J e1 M c1 I u
 · cases h
theorem c8i (y:p.kind=.b2s) (h:b35 c o p=true):OpK c o p:=by
 unfold b35 at h; split at h
 · rename_i t u x z;simp only[AA]at h;obtain⟨hu,h⟩:=h;split at hu
   · rename_i e i j;split at hu
     · rename_i l;exact l9 h fun C B hs=>by rw[y]at hs; exact c4U (call:=nc) z i l j B hs
     · cases hu
   · cases hu
 · cases h
theorem b1T {f:Nat} (J:p.kind=.call f) (h:a3y c o p f=true):OpK c o p:=by
 intro g w pr bx σ σ' a call next Q F I t B j
 obtain⟨r,b',st',hs,l⟩:=l5 B;unfold a3y at h; split at h
 · rename_i E xs D M;simp only[AA,beq_iff_eq]at h;obtain⟨rfl,h⟩:=h;obtain⟨p1,p2,p3⟩:=Q4 h;have G:=N8 t p2;rw[J]at hs;simp only[sem,n4]at hs;split at hs<;>first|cases hs; done|skip
   rename_i C;obtain⟨⟨v,st2⟩,i,hs⟩:=AK.1 hs;simp only[AH]at hs;obtain⟨rfl,rfl,rfl⟩:=hs;rw[p1,C5 p2]at l;subst l;obtain⟨z,u⟩:=I _ _ _ _ _ i (fun x N=>by obtain⟨y,_,rfl⟩:=List.mem_map.1 N; exact E3 y);refine a8A F t (f:=E) (vs:=xs.map a.eval) ?_ ?_ p3 j
   · unfold execOp;simp only[M,resolve,Deferred.ofValue,Act.eval,Sem.run_bind,Sem.run_pure,Result.andThen_ok,invoke,Array.append_empty,Array.empty_append];exact a1I z _ _
   · have:=u g w _ t.st t.gl (Y2 G C);have e:(xs.toList.map a.eval).toArray=xs.map a.eval:=by apply Array.ext'; simp
     rw[e]at this;exact this
 · cases h
theorem b8D (hk:p.kind=.callV) (h:a6G c o p=true):OpK c o p:=by
 intro g w pr bx σ σ' a call next Q fx hc G R t
 obtain⟨r,b',st',hs,D⟩:=l5 R;unfold a6G at h; split at h
 · rename_i s xs Z ho;obtain⟨p1,p2,p3⟩:=Q4 h;obtain⟨q,qs,hq,J,hA⟩:=(N8 G p2).cons_inv;rw[hk,hq]at hs;simp only[sem]at hs;unfold D6 at hs;split at hs<;>first|cases hs; done|skip
   rename_i f first V as B
   simp only[AM]at B;obtain⟨rfl,rfl⟩:=B;split at hs<;>first|cases hs; done|skip
   rename_i S;obtain⟨⟨v,st2⟩,j,hs⟩:=AK.1 hs;simp only[AH]at hs;obtain⟨rfl,rfl,rfl⟩:=hs;rw[p1,C5 p2]at D;subst D;obtain⟨N,M⟩:=hc _ _ _ _ _ j (fun x hx=>by obtain⟨y,_,rfl⟩:=List.mem_map.1 hx; exact E3 y);have I:=ValOK.rel J;simp only[Rel]at I;obtain⟨F,E,O,T,U⟩:=I;refine a8A fx G (f:=f) (vs:=F++xs.map a.eval++E) ?_ ?_ p3 t
   · unfold execOp;simp only[ho,resolve,O,Deferred.ofValue,Sem.run_bind,Sem.run_pure,Result.andThen_ok,invoke];exact a1I N _ _
   · have W:∀ {l:List AV} {us:List Value},RelL g w l us→RelL g w (l.map AV.weak) us:=fun {l} {us} hl=>RelL.of_get (by rw[AF]; exact hl.length) fun i y u Y hu=>by rw[AQ]at Y;obtain⟨z,hz,rfl⟩:=AK.1 Y;obtain⟨u',C,I⟩:=hl.get hz;rw[hu]at C;cases C;exact I.weak
     have:=M g w (F.toList++xs.toList.map a.eval++E.toList) G.st G.gl (by rw[AT,AT];exact((W T).append (Y2 hA S)).append (W U));have e:(F.toList++xs.toList.map a.eval++E.toList).toArray=F++xs.map a.eval++E:=by apply Array.ext'; simp
     rw[e]at this;exact this
 · cases h
theorem b0S {q:Opd} (h:(!q.steals)=true) (σ:Sig):q.spend σ=σ:=by cases q<;>simp_all [Opd.steals,Opd.spend]
theorem a2B:∀ {qs:List Opd},T8 qs=true→∀ σ:Sig,d9 qs σ=σ
 | [],_,_=>rfl
 | q::qs,h,σ=>by simp only[T8,List.all_cons,AA]at h;rw[d9,b0S h.1];exact a2B h.2 σ
theorem a4m:∀ (i qs:List Opd) (σ:Sig),d9 (i++qs) σ=d9 qs (d9 i σ)
 | [],_,_=>rfl
 | p::i,qs,σ=>by rw[List.cons_append,d9,d9,a4m i]
theorem a3l {j:AOper} {m:Nat} (J:OpK c o j) (I:j.dst=p.dst) (F:j.box=p.box) (E:j.args=p.args.take m) (M:T8 (p.args.drop m)=true)
 (hs:∀ {call:d8} {σ:Sig} {r b':AV} {st':St},sem p.kind call (p.args.map (·.read σ)) (q6 p σ) σ.st=some (r,b',st')→sem j.kind call (j.args.map (·.read σ)) (q6 j σ) σ.st=some (r,b',st')):OpK c o p:=by
 intro g w pr bx σ σ' a call next Q B G D x l
 obtain⟨r,b',st',C,z⟩:=l5 x;refine J B G D (σ':=σ') ?_ l;have u:=hs C;rw[J5];have y:d9 p.args σ=d9 j.args σ:=by
  rw[E];conv=>lhs; rw[← List.take_append_drop m p.args]
  rw[a4m,a2B M]
 rw[z,y,← I,← F];cases t:j.box with
 | none=>simp only[q6,t]at u ⊢; rw[u]
 | some i=>simp only[q6,t]at u ⊢; rw[u]
theorem b7T {i:Bool} {n:Nat} (l:p.kind=.ldStR i n) (h:(S0 c o p.bare i n && T8 p.beside)=true):OpK c o p:=by
 simp only[AA]at h;have e:p.bare={ p with kind:=.ldSt i n,args:=p.args.take 1 }:=by unfold AOper.bare; rw[l]
 have e2:p.beside=p.args.drop 1:=by unfold AOper.beside; rw[l]
 rw[e,e2]at h;refine @a3l c o p { p with kind:=.ldSt i n,args:=p.args.take 1 } 1 (b12 (p:={ p with kind:=.ldSt i n,args:=p.args.take 1 }) rfl h.1) rfl rfl rfl h.2 ?_;intro call σ r b' st' hs;rw[l]at hs;simp only[sem]at hs ⊢;unfold C7 at hs;split at hs<;>first|cases hs; done|skip
 rename_i t off rt j;split at hs<;>first|cases hs; done|skip
 split at hs<;>first|cases hs; done|skip
 rw[List.map_take,j];exact hs
theorem b42 {d:Nat} (j:p.kind=.ldStSR d) (h:(a2v c o p.bare && T8 p.beside)=true):OpK c o p:=by
 simp only[AA]at h;have e:p.bare={ p with kind:=.ldStS,args:=p.args.take 1 }:=by unfold AOper.bare; rw[j]
 have e2:p.beside=p.args.drop 1:=by unfold AOper.beside; rw[j]
 rw[e,e2]at h;refine @a3l c o p { p with kind:=.ldStS,args:=p.args.take 1 } 1 (a8O (p:={ p with kind:=.ldStS,args:=p.args.take 1 }) rfl h.1) rfl rfl rfl h.2 ?_;intro call σ r b' st' hs;rw[j]at hs;simp only[sem]at hs ⊢;unfold D3 at hs;split at hs<;>first|cases hs; done|skip
 rename_i l off t f i;split at hs<;>first|cases hs; done|skip
 rw[List.map_take,i];exact hs
theorem b9p {n:Nat} (j:p.kind=.stStA n) (h:(a4t c o p.bare n && T8 p.beside)=true):OpK c o p:=by
 simp only[AA]at h;have e:p.bare={ p with kind:=.stSt n,args:=p.args.take 2 }:=by unfold AOper.bare; rw[j]
 have e2:p.beside=p.args.drop 2:=by unfold AOper.beside; rw[j]
 rw[e,e2]at h;refine @a3l c o p { p with kind:=.stSt n,args:=p.args.take 2 } 2 (b2b (p:={ p with kind:=.stSt n,args:=p.args.take 2 }) rfl h.1) rfl rfl rfl h.2 ?_;intro call σ r b' st' hs;rw[j]at hs;simp only[sem]at hs ⊢;unfold C6 at hs;split at hs<;>first|cases hs; done|skip
 rename_i l off x rt gs i;split at hs<;>first|cases hs; done|skip
 split at hs<;>first|cases hs; done|skip
 rw[List.map_take,i];exact hs
theorem b8u {f m:Nat} (j:p.kind=.callA f m) (h:(a3y c o p.bare f && T8 p.beside)=true):OpK c o p:=by
 simp only[AA]at h;have e:p.bare={ p with kind:=.call f,args:=p.args.take m }:=by unfold AOper.bare; rw[j]
 have e2:p.beside=p.args.drop m:=by unfold AOper.beside; rw[j]
 rw[e,e2]at h;refine @a3l c o p { p with kind:=.call f,args:=p.args.take m } m (b1T (p:={ p with kind:=.call f,args:=p.args.take m }) rfl h.1) rfl rfl rfl h.2 ?_;intro call σ r b' st' hs;rw[j]at hs;simp only[sem]at hs ⊢;unfold C9 at hs;split at hs<;>first|cases hs; done|skip
 rename_i v l s2 i;split at hs<;>first|cases hs; done|skip
 simp only[AC,AH]at hs;obtain⟨rfl,rfl,rfl⟩:=hs;rw[List.map_take];exact i
theorem b8l (l:p.kind=.stuck):OpK c o p:=by
 intro g w pr bx σ σ' a call next Q u _ x i j
 obtain⟨r,b',st',hs,t⟩:=l5 i;rw[l]at hs;cases hs
theorem c0b (h:a5N c o p=true):OpK c o p:=by
 unfold a5N at h;split at h
 case h_1 hk=>exact d3Z hk h
 case h_2 hk=>exact c00 hk h
 case h_3 hk=>exact b5P hk h
 case h_4 hk=>exact b8k hk h
 case h_5 hk=>exact c0S hk h
 case h_6 hk=>exact b5E hk h
 case h_7 hk=>exact c2T hk h
 case h_8 hk=>exact b9R hk h
 case h_9 hk=>exact b5k hk h
 case h_10 hk=>exact b2Y hk h
 case h_11 hk=>exact c2b hk h
 case h_12 hk=>exact b12 hk h
 case h_13 hk=>exact c37 hk h
 case h_14 hk=>exact c3w hk h
 case h_15 hk=>exact b7T hk h
 case h_16 hk=>exact b42 hk h
 case h_17 hk=>exact b9p hk h
 case h_18 hk=>exact b8u hk h
 case h_19 hk=>exact b7V hk h
 case h_20 hk=>exact a8O hk h
 case h_21 hk=>exact c3K hk h
 case h_22 hk=>exact b2b hk h
 case h_23 hk=>exact c6y hk h
 case h_24 hk=>exact c6A hk h
 case h_25 hk=>exact c7B hk h
 case h_26 hk=>exact c1m hk h
 case h_27 hk=>exact c0Z hk h
 case h_28 hk=>exact c6T hk h
 case h_29 hk=>exact c9Z hk h
 case h_30 hk=>exact c7a hk h
 case h_31 hk=>exact c5G hk h
 case h_32 hk=>exact d13 hk h
 case h_33 hk=>exact c1d hk h
 case h_34 hk=>exact c4C hk h
 case h_35 hk=>exact d5p hk h
 case h_36 hk=>exact c1r hk h
 case h_37 hk=>exact d0r hk h
 case h_38 hk=>exact c9Q hk h
 case h_39 hk=>exact c3t hk h
 case h_40 hk=>exact c2y hk h
 case h_41 hk=>exact d1r hk h
 case h_42 hk=>exact b1T hk h
 case h_43 hk=>exact b8D hk h
 case h_44 hk=>exact c1h hk h
 case h_45 hk=>exact c2z hk h
 case h_46 hk=>exact c68 hk h
 case h_47 hk=>exact c4N hk h
 case h_48 hk=>exact c8i hk h
 case h_49 hk=>exact c4n hk h
 case h_50 hk=>exact b2z hk h
 case h_51 hk=>exact c4G hk h
 case h_52 hk=>exact c3X hk h
 case h_53 hk=>exact b8l hk
end
end Go.Cb
namespace Go.Cb
open Classical
inductive Atom where
 | t (s:Nat)|v (i:Nat)|st
 deriving DecidableEq
def Opd.atoms:Opd→List Atom
 | .t s|.ts s=>[.t s]
 | .v i|.vs i|.l i=>[.v i]
 | .c _=>[]
def Opd.spent:Opd→List Atom
 | .ts s=>[.t s]
 | .vs i=>[.v i]
 | _=>[]
def Kind.useSt:Kind→Bool
 | .allocO _|.boxO|.bsliceO ..|.appM ..|.appA _|.ldSt ..|.ldAn ..|.ldStR ..|.ldStSR _|.stStA _|.callA ..|.ldStS|.stSt _|.mkM|.mget ..|.mset _|.call _|.callV=>true
 | _=>false
def Kind.setSt:Kind→Bool
 | .allocO _|.boxO|.bsliceO ..|.appM ..|.ldStSR _|.stStA _|.callA ..|.ldStS|.stSt _|.mkM|.mset _|.call _|.callV=>true
 | _=>false
def Dst.atoms:Dst→List Atom
 | .t s=>[.t s]
 | .v i=>[.v i]
 | _=>[]
def AOper.reads (p:AOper):List Atom :=
 p.args.flatMap Opd.atoms++(match p.box with|some i=>[.v i]|none=>[])++(match p.guard with|some (x,_)=>x.atoms|none=>[])++(if p.kind.useSt then [.st]else [])
def AOper.writes (p:AOper):List Atom :=
 p.dst.atoms++p.args.flatMap Opd.spent++(match p.box with|some i=>if p.kind.alters then [.v i]else []|none=>[])++(if p.kind.setSt then [.st]else [])
def Atom.beq:Atom→Atom→Bool
 | .t a,.t b=>Nat.beq a b
 | .v a,.v b=>Nat.beq a b
 | .st,.st=>true
 | _,_=>false
def meets (x y:List Atom):Bool:=x.any fun a=>y.any (Atom.beq a)
def Kind.isLd:Kind→Bool
 | .ldSt ..|.ldAn ..|.ldStR ..=>true
 | _=>false
def Kind.upto:Kind→Option Nat
 | .appM ..=>some 2
 | .callA _ m=>some m
 | .stStA _=>some 3
 | _=>none
def Opd.same:Opd→Opd→Bool
 | .t a,.t b=>Nat.beq a b
 | .v a,.v b=>Nat.beq a b
 | _,_=>false
def b0B (p q:AOper):Bool:=p.box.isNone && q.box.isNone && T8 p.args
def a9V (p q:AOper):Bool:=!meets (p.dst.atoms) q.reads && !meets p.dst.atoms q.writes && !meets q.writes (p.args.flatMap Opd.atoms++p.dst.atoms++(match p.guard with|some (x,_)=>x.atoms|none=>[]))
def b6p (p q:AOper):Bool:=(match p.kind with|.ldStR ..=>true|_=>false) && (match q.kind.upto,p.args with|some m,[_,r]=>(q.args.drop m).any (Opd.same r)|_,_=>false)
def b59 (p q:AOper):Bool:=match p.kind,q.kind,p.args with|.stStA _,.stStA _,_::_::r::_=>(q.args.drop 3).any (Opd.same r)|_,_,_=>false
def Kind.isSt:Kind→Bool
 | .ldStS|.ldStSR _=>true
 | _=>false
def d0f (p q:AOper):Bool:=(p.kind.isSt && q.kind.isLd) || (p.kind.isLd && q.kind.isSt)
def b5M (p q:AOper):Bool:=match p.kind,q.kind,p.args,q.args with|.ldStSR d,.ldStSR e,[_,r],[_,s]=>Opd.same r s && !Nat.beq d e|_,_,_,_=>false
def a1c (p q:AOper):Bool:=b0B p q && a9V p q && (b6p p q || b59 p q || d0f p q || b5M p q)
def V4 (p q:AOper):Bool:=!meets p.writes q.reads && !meets p.writes q.writes && !meets q.writes p.reads
def a0H (p q:AOper):Bool:=V4 p q || a1c p q
def n5 (ops:Array Oper) (j:Nat):List Nat:=match ops[j]? with
 | some o=>o.after.toList.filterMap fun e=>if Region.binds .any e then some e.on else none
 | none=>[]
def X9 (ops:Array Oper):Nat→List Nat→List Nat
 | 0,l=>l
 | n+1,l=>l++X9 ops n (l.flatMap (n5 ops))
def Atom.same (x:Atom) (σ1 σ2:Sig):Prop:=match x with
 | .t s=>σ1.τ s=σ2.τ s
 | .v i=>σ1.fr.getD i .undef=σ2.fr.getD i .undef
 | .st=>σ1.st=σ2.st
theorem Atom.same_refl (x:Atom) (σ:Sig):x.same σ σ:=by cases x<;>rfl
theorem Atom.same_trans {x:Atom} {σ1 σ2 i:Sig} (h:x.same σ1 σ2) (j:x.same σ2 i):x.same σ1 i:=by cases x<;>exact Eq.trans h j
theorem Atom.same_symm {x:Atom} {σ1 σ2:Sig} (h:x.same σ1 σ2):x.same σ2 σ1:=by cases x<;>exact Eq.symm h
theorem Sig.ext_atoms {σ1 σ2:Sig} (hl:σ1.fr.length=σ2.fr.length) (h:∀ x:Atom,x.same σ1 σ2):σ1=σ2:=by
 obtain⟨j,y,u⟩:=σ1;obtain⟨l,z,st2⟩:=σ2;have e1:y=z:=funext fun s=>h (.t s)
 have e2:u=st2:=h .st;have e3:j=l:=by apply List.ext_getElem hl;intro i B C;have:=h (.v i);simp only[Atom.same]at this;simpa[B,C]using this
 rw[e1,e2,e3]
theorem Atom.beq_iff (x y:Atom):Atom.beq x y=true↔x=y:=by cases x<;>cases y<;>simp[Atom.beq]
theorem F6 {xs ys:List Atom} (h:meets xs ys=false):∀ x∈xs,x ∉ ys:=by
 intro x i j;have:meets xs ys=true:=by unfold meets;rw[List.any_eq_true];refine⟨x,i,?_⟩;rw[List.any_eq_true];exact⟨x,j,(Atom.beq_iff x x).2 rfl⟩
 rw[h]at this; cases this
theorem X6 {q:Opd} {σ1 σ2:Sig} (h:∀ x∈q.atoms,x.same σ1 σ2):q.read σ1=q.read σ2:=by cases q<;>simp only[Opd.atoms,List.mem_cons,List.not_mem_nil,or_false,forall_eq,false_imp_iff,implies_true,Atom.same]at h<;>simp only[Opd.read]<;>first|rw[h]|rfl
theorem L3 (fr:List AV) (i j:Nat) (a:AV):(fr.set i a).getD j .undef=if i=j∧i < fr.length then a else fr.getD j .undef:=by
 rw[List.getD_eq_getElem?_getD,List.getElem?_set];by_cases e:i=j
 · subst e;rw[if_pos rfl];by_cases hl:i < fr.length
   · rw[if_pos hl,if_pos ⟨rfl,hl⟩]; rfl
   · rw[if_neg hl,if_neg (fun h=>hl h.2)];simp[hl]
 · rw[if_neg e,if_neg (fun h=>e h.1),List.getD_eq_getElem?_getD]
theorem a3X (q:Opd) (σ:Sig):(q.spend σ).fr.length=σ.fr.length:=by cases q<;>simp[Opd.spend]
theorem I4:∀ (qs:List Opd) (σ:Sig),(d9 qs σ).fr.length=σ.fr.length
 | [],_=>rfl
 | q::qs,σ=>by rw[d9,I4 qs,a3X]
theorem a1g (d:Dst) (r:AV) (σ:Sig):(d.put r σ).fr.length=σ.fr.length:=by cases d<;>simp[Dst.put]
theorem a6m {q:Opd} {σ1 σ2:Sig} (hl:σ1.fr.length=σ2.fr.length) {x:Atom} (h:x.same σ1 σ2) (j:∀ x∈q.spent,x.same σ1 σ2):x.same (q.spend σ1) (q.spend σ2):=by
 cases q<;>simp only[Opd.spend]<;>try exact h
 · rename_i s;have hs:=j (.t s) (by simp[Opd.spent]);cases x<;>simp only[Atom.same]at*<;> try exact h
   simp only[q8];split
   · rw[hs]
   · exact h
 · rename_i i;have hs:=j (.v i) (by simp[Opd.spent]);cases x<;>simp only[Atom.same]at*<;> try exact h
   rw[L3,L3,hl,hs,h]
theorem a0V:∀ {qs:List Opd} {σ1 σ2:Sig},σ1.fr.length=σ2.fr.length→∀ {x:Atom},x.same σ1 σ2→(∀ q∈qs,∀ x∈q.spent,x.same σ1 σ2)→x.same (d9 qs σ1) (d9 qs σ2)
 | [],_,_,_,_,h,_=>h
 | q::qs,σ1,σ2,hl,x,h,hq=>by
  simp only[d9];have l:∀ y∈q.spent,y.same σ1 σ2:=fun y j=>hq q (by simp) y j
  exact a0V (by rw[a3X,a3X,hl]) (a6m hl h l) fun t i y j=>a6m hl (hq t (by simp[i]) y j) l
theorem b0V {q:Opd} {σ:Sig} {x:Atom} (h:x ∉ q.spent):x.same (q.spend σ) σ:=by
 cases q<;>simp only[Opd.spend]<;>try exact x.same_refl _
 · rename_i s;simp only[Opd.spent,List.mem_cons,List.not_mem_nil,or_false]at h;cases x<;>simp only[Atom.same];rename_i t;simp only[q8];rw[if_neg];simp only[Nat.beq_eq];intro e; exact h (by rw[e])
 · rename_i i;simp only[Opd.spent,List.mem_cons,List.not_mem_nil,or_false]at h;cases x<;>simp only[Atom.same];rename_i j;rw[L3,if_neg];intro e; exact h (by rw[e.1])
theorem a2n:∀ {qs:List Opd} {σ:Sig} {x:Atom},x ∉ qs.flatMap Opd.spent→x.same (d9 qs σ) σ
 | [],_,x,_=>x.same_refl _
 | q::qs,σ,x,h=>by simp only[List.flatMap_cons,AP,not_or]at h;exact Atom.same_trans (x:=x) (a2n (qs:=qs) (σ:=q.spend σ) h.2) (b0V h.1)
theorem a1j {d:Dst} {r:AV} {σ1 σ2:Sig} (hl:σ1.fr.length=σ2.fr.length) {x:Atom} (h:x.same σ1 σ2∨x∈d.atoms):x.same (d.put r σ1) (d.put r σ2):=by
 cases d<;>simp only[Dst.put,Dst.atoms,List.mem_cons,List.not_mem_nil,or_false]at h ⊢<;>try exact h
 · rename_i s;cases x<;>simp only[Atom.same,reduceCtorEq,or_false,Atom.t.injEq]at h ⊢<;>try exact h
   rename_i t;simp only[q8];split
   · rfl
   · rename_i l;rcases h with h|h
     · exact h
     · exact absurd (by simp[h]) l
 · rename_i i;cases x<;>simp only[Atom.same,reduceCtorEq,or_false,Atom.v.injEq]at h ⊢<;>try exact h
   rename_i j;rw[L3,L3,hl];split
   · rfl
   · rename_i l;rcases h with h|rfl
     · exact h
     · have:¬ j < σ2.fr.length:=fun u=>l ⟨rfl,u⟩
       simp[show ¬ j < σ1.fr.length by omega,this]
theorem a1V {d:Dst} {r:AV} {σ:Sig} {x:Atom} (h:x ∉ d.atoms):x.same (d.put r σ) σ:=by
 cases d<;>simp only[Dst.put,Dst.atoms,List.mem_cons,List.not_mem_nil,or_false]at h ⊢<;>try exact x.same_refl _
 · rename_i s;cases x<;>simp only[Atom.same];rename_i t;simp only[q8];rw[if_neg];simp only[Nat.beq_eq];intro e; exact h (by rw[e])
 · rename_i i;cases x<;>simp only[Atom.same];rename_i j;rw[L3,if_neg];intro e; exact h (by rw[e.1])
theorem b2u {i:Nat} {b:AV} {l st2:St} {σ1 σ2:Sig} (hl:σ1.fr.length=σ2.fr.length) {x:Atom} (h:x.same { σ1 with st:=l } { σ2 with st:=st2 }∨x=.v i) :
 x.same { σ1 with fr:=σ1.fr.set i b,st:=l } { σ2 with fr:=σ2.fr.set i b,st:=st2 }:=by
 cases x<;>simp only[Atom.same,reduceCtorEq,or_false,Atom.v.injEq]at h ⊢<;>try exact h
 rename_i j;rw[L3,L3,hl];split
 · rfl
 · rename_i u;rcases h with h|rfl
   · exact h
   · have:¬ j < σ2.fr.length:=fun t=>u ⟨rfl,t⟩
     simp[show ¬ j < σ1.fr.length by omega,this]
theorem a1q {k:Kind} (i:k.setSt=false) {call:d8} {as:List AV} {b r b':AV} {st st':St} (h:sem k call as b st=some (r,b',st')):st'=st:=by
 cases k<;>simp only[Kind.setSt,Bool.true_eq_false]at i<;>simp only[sem,a0u,A9,B8,O0,Q5,E1,J3,I3,H8,F0,E9,P8,Q2,C0,C7,D3,C6,C9,G6,B1,J8,D2,I5,B6,J2,D5,K0,O9,I7,E0,I0,M9,K8,S6,P0,A0,N5,I1,W4,M0,R8,S7,Q1,P9,L9,n4,D6,M4,G5,P5,P4,U3]at h;all_goals (repeat' split at h)
 all_goals first
  | (cases h; done)
  | (simp only[AC,AH]at h; exact h.2.2.symm)
  | (obtain⟨z,j,h⟩:=AK.1 h; simp only[AH]at h; exact h.2.2.symm)
  | (obtain⟨⟨l,u⟩,j,h⟩:=AK.1 h; simp only[AH]at h; exact h.2.2.symm)
theorem b3i {f:Nat} {call:d8} {as:List AV} {b r b':AV} {st st':St} (h:n4 f call as b st=some (r,b',st')):b'=b:=by
 unfold n4 at h;split at h
 · obtain⟨⟨v,s⟩,_,h⟩:=AK.1 h;simp only[AH]at h;exact h.2.1.symm
 · cases h
theorem b8S {f m:Nat} {call:d8} {as:List AV} {b r b':AV} {st st':St} (h:C9 f m call as b st=some (r,b',st')):b'=b:=by
 unfold C9 at h;split at h<;>first|cases h; done|skip
 rename_i i;split at h<;>first|cases h; done|skip
 simp only[AC,AH]at h;obtain⟨_,rfl,_⟩:=h;exact b3i i
theorem a2E {k:Kind} (t:k.alters=false) {call:d8} {as:List AV} {b r b':AV} {st st':St} (h:sem k call as b st=some (r,b',st')):b'=b:=by
 have j:∀ f m,k=.callA f m→b'=b:=fun f m e=>by subst e; exact b8S h
 cases k<;>simp only[Kind.alters,Bool.true_eq_false]at t<;>simp only[sem,a0u,A9,B8,O0,Q5,E1,J3,I3,H8,F0,E9,P8,Q2,C0,C7,D3,C6,C9,G6,B1,J8,D2,I5,B6,J2,D5,K0,O9,I7,E0,I0,M9,K8,S6,P0,A0,N5,I1,W4,M0,R8,S7,Q1,P9,L9,n4,D6,M4,G5,P5,P4,U3]at h;all_goals first
  | exact j _ _ rfl
  | skip
 all_goals (repeat' split at h)
 all_goals first
  | (cases h; done)
  | (simp only[AC,AH]at h; exact h.2.1.symm)
  | (simp only[fL_eq,AC,AH]at h; exact h.2.1.symm)
  | (obtain⟨z,i,h⟩:=AK.1 h; simp only[AH]at h; exact h.2.1.symm)
  | (obtain⟨⟨l,u⟩,i,h⟩:=AK.1 h; simp only[AH]at h; exact h.2.1.symm)
  | (obtain⟨z,i,h⟩:=Option.bind_eq_some_iff.1 h; simp only[AC,AH]at h; exact h.2.1.symm)
theorem c1K {k:Kind} (i:k.useSt=false) {call:d8} {as:List AV} {b r b':AV} {st st':St} (h:sem k call as b st=some (r,b',st')) (st2:St):sem k call as b st2=some (r,b',st2):=by
 cases k<;>simp only[Kind.useSt,Bool.true_eq_false]at i<;>simp only[sem,a0u,A9,B8,O0,Q5,E1,J3,I3,H8,F0,E9,P8,Q2,C0,C7,D3,C6,C9,G6,B1,J8,D2,I5,B6,J2,D5,K0,O9,I7,E0,I0,M9,K8,S6,P0,A0,N5,I1,W4,M0,R8,S7,Q1,P9,L9,n4,D6,M4,G5,P5,P4,U3]at h ⊢;all_goals (repeat' split at h)
 all_goals first
  | (cases h; done)
  | (simp only[AC,AH]at h; obtain⟨rfl,rfl,rfl⟩:=h; simp_all; done)
  | (obtain⟨z,j,h⟩:=AK.1 h; simp only[AH]at h; obtain⟨rfl,rfl,rfl⟩:=h; simp_all; done)
  | (obtain⟨⟨l,u⟩,j,h⟩:=AK.1 h; simp only[AH]at h; obtain⟨rfl,rfl,rfl⟩:=h; simp_all; done)
  | skip
end Go.Cb
namespace Go.Cb
open Classical
section
variable {p q:AOper} {call:d8} {σ σ' σ1 σ2:Sig}
theorem a1e {r b':AV} {st':St} (h:sem p.kind call (p.args.map (·.read σ)) (q6 p σ) σ.st=some (r,b',st')) :
 y9 call p σ=some (p.dst.put r { d9 p.args σ with fr:=(match p.box with|some i=>(d9 p.args σ).fr.set i b'|none=>(d9 p.args σ).fr),st:=st' }):=by
 rw[J5];cases j:p.box with
 | none =>
  have e:q6 p σ=.undef:=by simp only[q6,j]
  rw[e]at h;simp only[j,h]
 | some i =>
  have e:q6 p σ=σ.fr.getD i .undef:=by simp only[q6,j]
  rw[e]at h;simp only[j,h]
theorem a2C {k:Kind} (h:k.setSt=true):k.useSt=true:=by cases k<;>first|rfl|cases h
theorem a2f (x:Opd):∀ y∈x.spent,y∈x.atoms:=by cases x<;>simp[Opd.spent,Opd.atoms]
theorem a0w:∀ (qs:List Opd) (σ:Sig),(d9 qs σ).st=σ.st
 | [],_=>rfl
 | x::qs,σ=>by rw[d9,a0w qs];cases x<;>rfl
theorem a1n (h:y9 call p σ=some σ'):(∀ x,x ∉ p.writes→x.same σ' σ)∧σ'.fr.length=σ.fr.length:=by
 obtain⟨r,b',st',hs,rfl⟩:=l5 h;refine⟨fun x D=>?_,?_⟩
 · simp only[AOper.writes,AP,not_or]at D;obtain⟨⟨⟨E,F⟩,B⟩,C⟩:=D;refine Atom.same_trans (a1V E) ?_;have l:=a2n (qs:=p.args) (σ:=σ) F;have y:x=.st→st'=σ.st:=fun e=>by
    subst e;cases u:p.kind.setSt with
    | true=>rw[u]at C; simp at C
    | false=>exact a1q u hs
   cases z:p.box with
   | none =>
    cases x<;>simp only[Atom.same]at l ⊢
    · exact l
    · exact l
    · exact y rfl
   | some i =>
    cases x with
    | t s=>exact l
    | st=>exact y rfl
    | v j =>
     simp only[Atom.same]at l ⊢;rw[L3];split
     · rename_i G;obtain⟨rfl,_⟩:=G;cases u:p.kind.alters with
       | true=>rw[z,u]at B; simp at B
       | false =>rw[a2E u hs];simp only[q6,z]
     · exact l
 · rw[a1g];cases z:p.box with
   | none=>exact I4 _ _
   | some i=>simp[I4]
theorem b81 (hl:σ1.fr.length=σ2.fr.length) (J:∀ x∈p.reads,x.same σ1 σ2) {F:Sig} (h:y9 call p σ1=some F) :
 ∃ G,y9 call p σ2=some G∧∀ x:Atom,(x.same σ1 σ2∨x∈p.writes)→x.same F G:=by
 obtain⟨r,b',st',hs,rfl⟩:=l5 h;have z:p.args.map (·.read σ1)=p.args.map (·.read σ2):=List.map_congr_left fun y I=>X6 fun x hx=>J x (by simp only[AOper.reads,AP,List.mem_flatMap];exact .inl (.inl (.inl ⟨y,I,hx⟩)))
 have D:q6 p σ1=q6 p σ2:=by
  unfold q6;cases C:p.box with
  | none=>rfl
  | some i =>have:=J (.v i) (by simp[AOper.reads,C]);exact this
 have l:∀ y∈p.args,∀ x∈y.spent,x.same σ1 σ2:=fun y I x hx=>J x (by simp only[AOper.reads,AP,List.mem_flatMap];exact .inl (.inl (.inl ⟨y,I,a2f y x hx⟩)))
 have B:(d9 p.args σ1).fr.length=(d9 p.args σ2).fr.length:=by rw[I4,I4,hl]
 -- the meaning on the other side
 obtain⟨st2,N,u⟩:∃ st2,sem p.kind call (p.args.map (·.read σ2)) (q6 p σ2) σ2.st=some (r,b',st2)∧∀ x:Atom,(x.same σ1 σ2∨(x=.st∧p.kind.setSt=true))→x.same { d9 p.args σ1 with st:=st' } { d9 p.args σ2 with st:=st2 }:=by
  have other:∀ (st2:St) (x:Atom),x≠.st→x.same σ1 σ2→x.same { d9 p.args σ1 with st:=st' } { d9 p.args σ2 with st:=st2 }:=fun st2 x hx h=>by have:=a0V hl h l;cases x<;>first|exact this|exact absurd rfl hx
  cases hu:p.kind.useSt with
  | true =>
   have S:σ1.st=σ2.st:=J .st (by simp[AOper.reads,hu]);rw[z,D,S]at hs;refine⟨st',hs,fun x hx=>?_⟩;cases x with
   | st=>rfl
   | t s=>exact other _ _ (by simp) (hx.resolve_right (by simp))
   | v i=>exact other _ _ (by simp) (hx.resolve_right (by simp))
  | false =>
   have E:p.kind.setSt=false:=by
    cases M:p.kind.setSt with
    | false=>rfl
    | true=>rw[a2C M]at hu; cases hu
   have e1:=a1q E hs;rw[z,D]at hs;refine⟨σ2.st,c1K hu hs σ2.st,fun x hx=>?_⟩;rw[E]at hx;have hx:=hx.resolve_right (by simp);cases x with
   | st=>rw[e1]; exact hx
   | t s=>exact other _ _ (by simp) hx
   | v i=>exact other _ _ (by simp) hx
 refine⟨_,a1e N,fun x hx=>a1j ?_ ?_⟩
 · cases C:p.box with
   | none=>exact B
   | some i=>simp[B]
 · by_cases O:x∈p.dst.atoms
   · exact .inr O
   left
   -- either as before, or written
   have hx':x.same σ1 σ2∨(∃ i,p.box=some i∧x=.v i)∨(x=.st∧p.kind.setSt=true):=by
    rcases hx with hx|hx
    · exact .inl hx
    · simp only[AOper.writes,AP]at hx;rcases hx with((hx|hx)|hx)|hx
      · exact absurd hx O
      · obtain⟨y,I,hx⟩:=List.mem_flatMap.1 hx;exact .inl (l y I x hx)
      · right; left;cases C:p.box with
        | none=>rw[C]at hx; simp at hx
        | some i =>
         rw[C]at hx;refine⟨i,rfl,?_⟩;simp only at hx;split at hx
         · simpa using hx
         · simp at hx
      · right; right;split at hx
        · rename_i M; exact⟨by simpa using hx,M⟩
        · simp at hx
   cases C:p.box with
   | none =>
    rcases hx' with hx'|⟨i,hi,_⟩|hx'
    · exact u x (.inl hx')
    · rw[C]at hi; cases hi
    · exact u x (.inr hx')
   | some i =>
    refine b2u B ?_;rcases hx' with hx'|⟨j,R,e⟩|hx'
    · exact .inl (u x (.inl hx'))
    · rw[C]at R; cases R; exact .inr e
    · exact .inl (u x (.inr hx'))
theorem a5e {x:Opd} {want:Bool} (i:p.guard=some (x,want)):∀ y∈x.atoms,y∈p.reads:=fun y j=>by simp only[AOper.reads,i,AP];exact .inl (.inr j)
theorem a06:∀ y∈p.dst.atoms,y∈p.writes:=fun y i=>by simp only[AOper.writes,AP];exact .inl (.inl (.inl i))
theorem O4 (h:i7 call p σ=some σ'):(∀ x,x ∉ p.writes→x.same σ' σ)∧σ'.fr.length=σ.fr.length:=by
 unfold i7 at h;have i:∀ {σ'},some (p.dst.put (.tuple []) σ)=some σ'→(∀ x,x ∉ p.writes→x.same σ' σ)∧σ'.fr.length=σ.fr.length:=fun {σ'} h=>by obtain rfl:=Option.some.inj h;exact⟨fun x l=>a1V fun j=>l (a06 x j),a1g _ _ _⟩
 split at h
 · exact a1n h
 · split at h
   · split at h
     · exact a1n h
     · exact i h
   · exact i h
   · cases h
theorem a6p (hl:σ1.fr.length=σ2.fr.length) (z:∀ x∈p.reads,x.same σ1 σ2) {j:Sig} (h:i7 call p σ1=some j) :
 ∃ l,i7 call p σ2=some l∧∀ x:Atom,(x.same σ1 σ2∨x∈p.writes)→x.same j l:=by
 have u:∀ {j},y9 call p σ1=some j→∃ l,y9 call p σ2=some l∧∀ x:Atom,(x.same σ1 σ2∨x∈p.writes)→x.same j l:=fun h=>b81 hl z h
 have t:∀ {j},some (p.dst.put (.tuple []) σ1)=some j→∃ l,some (p.dst.put (.tuple []) σ2)=some l∧∀ x:Atom,(x.same σ1 σ2∨x∈p.writes)→x.same j l:=fun {j} h=>by
  obtain rfl:=Option.some.inj h;refine⟨_,rfl,fun x hx=>?_⟩;by_cases F:x∈p.dst.atoms
  · exact a1j hl (.inr F)
  · refine a1j hl (.inl ?_);rcases hx with hx|hx
    · exact hx
    · simp only[AOper.writes,AP]at hx;rcases hx with((hx|hx)|hx)|hx
      · exact absurd hx F
      · obtain⟨y,E,hx⟩:=List.mem_flatMap.1 hx;exact z x (by simp only[AOper.reads,AP,List.mem_flatMap]; exact .inl (.inl (.inl ⟨y,E,a2f y x hx⟩)))
      · cases B:p.box with
        | none=>rw[B]at hx; simp at hx
        | some i =>
         rw[B]at hx;simp only at hx;split at hx
         · have:x=.v i:=by simpa using hx
           exact z x (by simp[AOper.reads,B,this])
         · simp at hx
      · split at hx
        · rename_i G;have:x=.st:=by simpa using hx
          exact z x (by simp[AOper.reads,a2C G,this])
        · simp at hx
 unfold i7 at h ⊢;cases D:p.guard with
 | none=>simp only[D]at h ⊢; exact u h
 | some I =>
  obtain⟨x,want⟩:=I;simp only[D]at h ⊢;rw[← X6 (q:=x) (σ1:=σ1) fun y E=>z y (a5e D y E)];split at h
  · rename_i b B;split at h
    · rename_i C;rw[if_pos C];exact u h
    · rename_i C;rw[if_neg C];exact t h
  · exact t h
  · cases h
theorem a8l (t:V4 p q=true) {σ1 σ2:Sig} (C:i7 call p σ=some σ1) (D:i7 call q σ1=some σ2) :
 ∃ l,i7 call q σ=some l∧i7 call p l=some σ2:=by
 simp only[V4,AA,Bool.not_eq_true']at t;obtain⟨⟨a1,a2⟩,a3⟩:=t;have a1:=F6 a1;have a2:=F6 a2;have a3:=F6 a3;obtain⟨f1,l1⟩:=O4 C;obtain⟨f2,l2⟩:=O4 D
 -- q first
 obtain⟨j,F,N⟩:=a6p (σ1:=σ1) (σ2:=σ) (p:=q) l1 (fun x z=>f1 x fun y=>a1 x y z) D;obtain⟨J,G⟩:=O4 F;obtain⟨u,E,sp⟩:=a6p (σ1:=σ) (σ2:=j) (p:=p) G.symm (fun x z=>Atom.same_symm (J x fun y=>a3 x y z)) C;obtain⟨I,M⟩:=O4 E;refine⟨j,F,?_⟩;rw[E];congr 1;refine Sig.ext_atoms (by rw[M,G,l2,l1]) fun x=>?_
 by_cases i:x∈p.writes
 · -- p wrote it last, in both
   have e1:x.same σ1 u:=sp x (.inr i);have e2:x.same σ2 σ1:=f2 x (a2 x i);exact Atom.same_symm (Atom.same_trans e2 e1)
 · have e1:x.same u j:=I x i;have e2:x.same σ2 j:=N x (by
    by_cases B:x∈q.writes
    · exact .inr B
    · exact .inl (f1 x i))
   exact Atom.same_trans e1 (Atom.same_symm e2)
theorem a5A {x y:Opd} (h:x.same y=true):x=y:=by cases x<;>cases y<;>simp[Opd.same]at h<;>rw[h]
theorem O5 {o:Option Nat} {n:Nat}:∀ {gs:List AV},I9 o n gs=true→∀ g∈gs,∃ p,J9 g=some p∧p < n∧o≠some p
 | [],_,g,hg=>by simp at hg
 | g0::gs,h,g,hg=>by
  simp only[I9,AA]at h;obtain⟨i,l⟩:=h;rcases List.mem_cons.1 hg with rfl|hg
  · split at i
    · rename_i p t;simp only[AA]at i;refine⟨p,t,by simpa using i.1,?_⟩;have j:=i.2;cases o with
      | none=>simp
      | some o =>simp only[Bool.not_eq_true']at j;intro e;simp only[AC]at e;subst e;simp at j
    · cases i
  · exact O5 l g hg
theorem a7K {st st':St}:∀ {gs:List AV},kept st st' gs=true→∀ g∈gs,∃ p,J9 g=some p∧st'[p]?=st[p]?
 | [],_,g,hg=>by simp at hg
 | g0::gs,h,g,hg=>by
  simp only[kept,AA]at h;obtain⟨i,j⟩:=h;rcases List.mem_cons.1 hg with rfl|hg
  · split at i
    · rename_i p u;refine⟨p,u,?_⟩;split at i
      · rename_i a b l t;rw[l,t,(a0E _ _).1 i]
      · cases i
    · cases i
  · exact a7K j g hg
theorem b34 {k:Kind} {m:Nat} (u:k.upto=some m) {call:d8} {as:List AV} {b b' r:AV} {st st':St} (h:sem k call as b st=some (r,b',st')):∀ g∈as.drop m,∃ p,J9 g=some p∧st'[p]?=st[p]?:=by
 cases k<;>simp only[Kind.upto,AC,reduceCtorEq]at u
 · -- stStA
   subst u;simp only[sem]at h;unfold C6 at h;split at h<;>first|cases h; done|skip
   rename_i o off x rt gs;split at h<;>first|cases h; done|skip
   split at h<;>first|cases h; done|skip
   rename_i i;intro g j;obtain⟨p,l,hl,t⟩:=O5 i.2 g (by simpa using j);refine⟨p,l,?_⟩;simp only[D5]at h;split at h<;>first|cases h; done|skip
   split at h<;>first|cases h; done|skip
   simp only[fL_eq,AC,AH]at h;obtain⟨_,_,rfl⟩:=h;exact List.getElem?_set_ne fun e=>t (by rw[e])
 · -- callA
   subst u;simp only[sem]at h;unfold C9 at h;split at h<;>first|cases h; done|skip
   split at h<;>first|cases h; done|skip
   rename_i i;simp only[AC,AH]at h;obtain⟨_,_,rfl⟩:=h;exact fun g j=>a7K i g j
 · -- appM
   subst u;simp only[sem]at h;unfold C0 at h;split at h<;>first|cases h; done|skip
   · rename_i ys gs;split at h<;>first|cases h; done|skip
     rename_i i;simp only[AC,AH]at h;obtain⟨_,_,rfl⟩:=h;intro g j;obtain⟨p,l,hl,_⟩:=O5 i.2.2.2 g (by simpa using j);exact⟨p,l,List.getElem?_append_left hl⟩
   · rename_i ys gs;split at h<;>first|cases h; done|skip
     rename_i i;simp only[AC,AH]at h;obtain⟨_,_,rfl⟩:=h;intro g j;obtain⟨p,l,hl,_⟩:=O5 i.2.2.2 g (by simpa using j);exact⟨p,l,List.getElem?_append_left hl⟩
   · rename_i gs;split at h<;>first|cases h; done|skip
     rename_i i;simp only[AC,AH]at h;obtain⟨_,_,rfl⟩:=h;intro g j;obtain⟨p,l,hl,_⟩:=O5 i g (by simpa using j);exact⟨p,l,rfl⟩
   · rename_i o n s ys gs;split at h<;>first|cases h; done|skip
     split at h<;>first|cases h; done|skip
     rename_i i;simp only[AC,AH]at h;obtain⟨_,_,rfl⟩:=h;intro g j;obtain⟨p,l,hl,t⟩:=O5 i.2.2.2.2.2 g (by simpa using j);refine⟨p,l,?_⟩;rw[List.getElem?_append_left (by simpa using hl),List.getElem?_set_ne (fun e=>t (by rw[e]))]
def Sw (t u:Kind) (call:d8) (A B:List AV):Prop:=∀ (s0 sp z:St) (x C y l:AV),sem t call A .undef s0=some (x,C,sp)→sem u call B .undef sp=some (y,l,z) →
 ∃ i j,sem u call B .undef s0=some (y,l,i)∧sem t call A .undef i=some (x,j,z)
theorem a7l {k:Kind} (G:k.isLd=true) {call:d8} {A:List AV} {b r b':AV} {st st':St} (h:sem k call A b st=some (r,b',st')):st'=st ∧
 ∃ (j:Bool) (n:Nat),(∀ s2,sem k call A b s2=some (r,b',s2))∨∃ (o off:Nat) (cs:List AV),A.head?=some (.ptr o off)∧st[o]?=some (Obj.cells cs)∧i8 j n (cs.drop off)=some r∧∀ (s2:St) (i:List AV),s2[o]?=some (Obj.cells i)→i8 j n (i.drop off)=some r→sem k call A b s2=some (r,b',s2):=by
 have one:∀ j n (A:List AV),B1 j n call A b st=some (r,b',st')→st'=st∧∃ (o off:Nat) (cs:List AV),A=[.ptr o off]∧st[o]?=some (Obj.cells cs)∧i8 j n (cs.drop off)=some r∧b'=b:=by
  intro j n A h;unfold B1 at h;split at h<;>first|cases h; done|skip
  rename_i o off;split at h<;>first|cases h; done|skip
  rename_i cs C;obtain⟨v,F,t⟩:=AK.1 h;simp only[AH]at t;obtain⟨rfl,rfl,rfl⟩:=t;exact⟨rfl,o,off,cs,rfl,C,F,rfl⟩
 have l:∀ (j:Bool) (n o off:Nat) (s2:St) (i:List AV),s2[o]?=some (Obj.cells i)→i8 j n (i.drop off)=some r→B1 j n call [.ptr o off] b s2=some (r,b,s2):=by intro j n o off s2 i u x;unfold B1;simp only[u,x,AN]
 cases k<;>simp only[Kind.isLd,Bool.false_eq_true]at G
 · rename_i j n;simp only[sem]at h ⊢;obtain⟨e,o,off,cs,rfl,u,x,rfl⟩:=one j n A h;exact⟨e,j,n,.inr ⟨o,off,cs,rfl,u,x,fun s2 i y z=>l j n o off s2 i y z⟩⟩
 · rename_i j n;simp only[sem]at h ⊢;unfold D2 at h;split at h<;>first|cases h; done|skip
   · rename_i cs;obtain⟨v,F,t⟩:=AK.1 h;simp only[AH]at t;obtain⟨rfl,rfl,rfl⟩:=t;refine⟨rfl,j,n,.inl fun s2=>?_⟩;unfold D2;simp only[F,AN]
   · rename_i o off;obtain⟨e,I,B,cs,t,u,x,rfl⟩:=one j n [.ptr o off] h;simp only[AM,AV.ptr.injEq,and_true]at t;obtain⟨rfl,rfl⟩:=t;exact⟨e,j,n,.inr ⟨o,off,cs,rfl,u,x,fun s2 i y z=>l j n o off s2 i y z⟩⟩
 · rename_i j n;simp only[sem]at h ⊢;unfold C7 at h;split at h<;>first|cases h; done|skip
   rename_i o off rt;split at h<;>first|cases h; done|skip
   rename_i p E;split at h<;>first|cases h; done|skip
   rename_i D;obtain⟨e,I,B,cs,t,u,x,rfl⟩:=one j n [.ptr o off] h;simp only[AM,AV.ptr.injEq,and_true]at t;obtain⟨rfl,rfl⟩:=t;refine⟨e,j,n,.inr ⟨o,off,cs,rfl,u,x,fun s2 i y z=>?_⟩⟩;unfold C7;simp only[E,D,if_true];exact l j n o off s2 i y z
theorem a4I {k:Kind} (E:k.isSt=true) {call:d8} {A:List AV} {b r b':AV} {st st':St} (h:sem k call A b st=some (r,b',st')) :
 ∃ (o off:Nat) (cs:List AV),st[o]?=some (Obj.cells cs)∧cs[off]?=some r∧st'=st.set o (.cells (cs.set off r.weak1))∧(∃ x,A.head?=some (.ptr o off)∧x=A)∧∀ (s2:St) (i:List AV),s2[o]?=some (Obj.cells i)→i[off]?=some r→sem k call A b s2=some (r,b',s2.set o (.cells (i.set off r.weak1))):=by
 have one:∀ (A:List AV),B6 call A b st=some (r,b',st')→∃ (o off:Nat) (cs:List AV),A=[.ptr o off]∧st[o]?=some (Obj.cells cs)∧cs[off]?=some r∧st'=st.set o (.cells (cs.set off r.weak1))∧b'=b:=by
  intro A h;unfold B6 at h;split at h<;>first|cases h; done|skip
  rename_i o off;split at h<;>first|cases h; done|skip
  rename_i cs B;split at h<;>first|cases h; done|skip
  rename_i c z;simp only[AC,AH]at h;obtain⟨rfl,rfl,rfl⟩:=h;exact⟨o,off,cs,rfl,B,z,rfl,rfl⟩
 have j:∀ (o off:Nat) (s2:St) (i:List AV),s2[o]?=some (Obj.cells i)→i[off]?=some r→B6 call [.ptr o off] b s2=some (r,b,s2.set o (.cells (i.set off r.weak1))):=by intro o off s2 i t u;unfold B6;simp only[t,u]
 cases k<;>simp only[Kind.isSt,Bool.false_eq_true]at E
 · simp only[sem]at h ⊢;obtain⟨o,off,cs,rfl,t,u,l,rfl⟩:=one A h;exact⟨o,off,cs,t,u,l,⟨_,rfl,rfl⟩,fun s2 i l y=>j o off s2 i l y⟩
 · simp only[sem]at h ⊢;unfold D3 at h;split at h<;>first|cases h; done|skip
   split at h<;>first|cases h; done|skip
   rename_i o off p f z;obtain⟨F,D,cs,C,t,u,l,rfl⟩:=one [.ptr o off] h;simp only[AM,AV.ptr.injEq,and_true]at C;obtain⟨rfl,rfl⟩:=C;refine⟨o,off,cs,t,u,l,⟨_,rfl,rfl⟩,fun s2 i l y=>?_⟩;unfold D3;simp only[z,and_self,if_true];exact j o off s2 i l y
theorem b1f (x:AV):x.weak1.weak1=x.weak1:=by cases x<;>rfl
theorem a3I {l:Bool} {n off k:Nat} {cs:List AV} {x:AV} (h:cs[k]?=some x):i8 l n ((cs.set k x.weak1).drop off)=i8 l n (cs.drop off):=by
 have hm:(cs.set k x.weak1).map AV.weak1=cs.map AV.weak1:=by
  rw[List.map_set,b1f];apply List.ext_getElem?;intro i;rw[List.getElem?_set];split
  · rename_i e;subst e;have hl:=(AB.1 h).1;simp[hl,h];rw[AD hl]at h;exact congrArg AV.weak1 (Option.some.inj h).symm
  · rfl
 have j:((cs.set k x.weak1).drop off).map AV.weak1=(cs.drop off).map AV.weak1:=by rw[List.map_drop,hm,List.map_drop]
 have hl:((cs.set k x.weak1).drop off).length=(cs.drop off).length:=by simp
 unfold i8;cases l with
 | true=>simp only[if_true]; rw[hl,List.map_take,j,List.map_take]
 | false =>simp only[Bool.false_eq_true,if_false];revert j;cases (cs.set k x.weak1).drop off<;>cases cs.drop off<;>intro j<;>simp at j<;>simp[j]
theorem d8C {i E:Kind} {call:d8} {A B:List AV} {a r:AV} {m:Nat} (D:(match i with|.ldStR ..=>true|_=>false)=true) (M:A=[a,r]) (O:E.upto=some m) (R:r∈B.drop m):Sw i E call A B:=by
 intro s0 sp y U F V T z C;have N:i.isLd=true:=by cases i<;>first|rfl|cases D
 obtain⟨rfl,S,n,h⟩:=a7l N z;refine⟨y,F,C,?_⟩;rcases h with h|⟨o,off,cs,l,G,I,J⟩
 · exact h y
 · obtain⟨p,u,x⟩:=b34 O C r R;have t:o=p:=by
    cases i<;>simp only[Bool.false_eq_true]at D;have j:=z;rw[M]at l j;simp only[List.head?_cons,AC]at l;subst l;simp only[sem,C7,u]at j;split at j
    · rename_i e;simpa using e
    · cases j
   subst t;exact J y cs (x.trans G) I
theorem d9N {D E:Kind} {call:d8} {A B:List AV} (h:((D.isSt && E.isLd) || (D.isLd && E.isSt))=true):Sw D E call A B:=by
 intro s0 sp N J F M I x y;simp only[Bool.or_eq_true,AA]at h;rcases h with⟨z,C⟩|⟨z,C⟩
 · obtain⟨o,off,cs,a1,a2,rfl,_,a4⟩:=a4I z x;obtain⟨rfl,G,n,h⟩:=a7l C y;refine⟨s0,F,?_,x⟩;rcases h with h|⟨o2,u,j,_,i,l,t⟩
   · exact h s0
   · have hl:=(AB.1 a1).1;by_cases e:o=o2
     · subst e;rw[List.getElem?_set_self hl]at i;simp only[AC,Obj.cells.injEq]at i;subst i;rw[a3I a2]at l;exact t s0 cs a1 l
     · rw[List.getElem?_set_ne e]at i;exact t s0 j i l
 · obtain⟨rfl,G,n,h⟩:=a7l z x;obtain⟨o,off,cs,a1,a2,rfl,_,a4⟩:=a4I C y;refine⟨_,F,y,?_⟩;rcases h with h|⟨o2,u,j,_,i,l,t⟩
   · exact h _
   · have hl:=(AB.1 a1).1;by_cases e:o=o2
     · subst e;rw[a1]at i;simp only[AC,Obj.cells.injEq]at i;subst i;exact t _ _ (List.getElem?_set_self hl) (by rw[a3I a2]; exact l)
     · exact t _ j (by rw[List.getElem?_set_ne e]; exact i) l
theorem d5X {d e:Nat} {call:d8} {A B:List AV} {a b r:AV} (J:A=[a,r]) (M:B=[b,r]) (U:d≠e):Sw (.ldStSR d) (.ldStSR e) call A B:=by
 intro s0 sp Y W S O V G I;obtain⟨o,off,cs,a1,a2,rfl,⟨_,a3,_⟩,a4⟩:=a4I (k:=.ldStSR d) rfl G;obtain⟨o2,N,T,D,F,rfl,⟨_,E,_⟩,R⟩:=a4I (k:=.ldStSR e) rfl I;have u:=G;have x:=I;simp only[sem,J]at u;simp only[sem,M]at x;unfold D3 at u x;split at u<;>first|cases u; done|skip
 rename_i o3 t p3 f3 j;simp only[AM,and_true]at j;obtain⟨rfl,rfl⟩:=j;split at u<;>first|cases u; done|skip
 rename_i c1;split at x<;>first|cases x; done|skip
 rename_i o4 i p4 f4 j;simp only[AM,AV.ptr.injEq,and_true]at j;obtain⟨rfl,rfl,rfl⟩:=j;split at x<;>first|cases x; done|skip
 rename_i z;rw[J]at a3;rw[M]at E;simp only[List.head?_cons,AC,AV.ptr.injEq]at a3 E;obtain⟨rfl,rfl⟩:=a3;obtain⟨rfl,rfl⟩:=E;obtain⟨c1,y⟩:=c1;obtain⟨z,C⟩:=z;have c1:o3=p3:=by simpa using c1
 have z:o4=p3:=by simpa using z
 have y:t=f3+d:=by simpa using y
 have C:i=f3+e:=by simpa using C
 subst c1; subst z;have hl:=(AB.1 a1).1;have l:t≠i:=by omega
 rw[List.getElem?_set_self hl]at D;simp only[AC,Obj.cells.injEq]at D;subst D;rw[List.getElem?_set_ne l]at F;refine⟨_,S,R s0 cs a1 F,?_⟩;have:=a4 (s0.set o4 (.cells (cs.set i O.weak1))) (cs.set i O.weak1) (List.getElem?_set_self hl) (by rw[List.getElem?_set_ne (Ne.symm l)]; exact a2);rw[this];simp only[List.set_set];rw[List.set_comm _ _ l]
theorem e0a {n V:Nat} {call:d8} {A B As Bs:List AV} {a x r:AV} (T:A=a::x::r::As) (I:r∈B.drop 3):Sw (.stStA n) (.stStA V) call A B:=by
 intro s0 sp sq Z M rq Y E F;have form:∀ {n:Nat} {A:List AV} {s C:St} {r b:AV},C6 n call A .undef s=some (r,b,C)→∃ (o off:Nat) (x rt:AV) (gs:List AV) (cs:List AV),A=.ptr o off::x::rt::gs∧J9 rt=some o∧I9 (some o) s.length gs=true∧s[o]?=some (Obj.cells cs)∧C=s.set o (.cells (n6 cs off x.cells)) ∧
  ∀ (s2:St) (i:List AV),s2.length=s.length→s2[o]?=some (Obj.cells i)→i=cs→C6 n call A .undef s2=some (r,b,s2.set o (.cells (n6 cs off x.cells))):=by
  intro n A s C r b h;unfold C6 at h;split at h<;>first|cases h; done|skip
  rename_i o off x rt gs;split at h<;>first|cases h; done|skip
  rename_i p G;split at h<;>first|cases h; done|skip
  rename_i U;obtain⟨c1,D⟩:=U;have u:o=p:=by simpa using c1
  subst u;simp only[D5]at h;split at h<;>first|cases h; done|skip
  rename_i cs y;split at h<;>first|cases h; done|skip
  rename_i j;simp only[fL_eq,AC,AH]at h;obtain⟨rfl,rfl,rfl⟩:=h;refine⟨o,off,x,rt,gs,cs,rfl,G,D,y,rfl,fun s2 i hl S e=>?_⟩;subst e;unfold C6;simp only[G,c1,hl,D,and_self,if_true];unfold D5;simp only[S,j,and_self,if_true,fL_eq]
 simp only[sem]at E F ⊢;obtain⟨o,off,x1,rt,gs,cs,e1,e2,e3,N,rfl,O⟩:=form E;obtain⟨o2,J,x2,W,R,i,f1,f2,f3,f4,rfl,f6⟩:=form F;rw[T]at e1;simp only[AM]at e1;obtain⟨rfl,rfl,rfl,rfl⟩:=e1;rw[f1]at I;obtain⟨p,t,_,z⟩:=O5 f3 r (by simpa using I);rw[e2]at t;simp only[AC]at t;subst t;have l:o2≠o:=fun e=>z (by rw[e])
 rw[List.getElem?_set_ne (Ne.symm l)]at f4;refine⟨_,M,f6 s0 i (by simp) f4 rfl,?_⟩;rw[O _ cs (by simp) (by rw[List.getElem?_set_ne l]; exact N) rfl];rw[List.set_comm _ _ l]
theorem b1Z (d:Dst) (r:AV) (σ:Sig):(d.put r σ).st=σ.st:=by cases d<;>rfl
theorem d2u (T:a1c p q=true) {σ1 σ2:Sig} (h1:y9 call p σ=some σ1) (h2:y9 call q σ1=some σ2) :
 ∃ N,y9 call q σ=some N∧y9 call p N=some σ2:=by
 simp only[a1c,b0B,a9V,AA,Bool.not_eq_true',Option.isNone_iff_eq_none]at T;obtain⟨⟨⟨⟨W,Y⟩,B⟩,⟨a1,a2⟩,a3⟩,hsw⟩:=T;have a1:=F6 a1;have a2:=F6 a2;have a3:=F6 a3;obtain⟨rp,bp,sp,hp,i⟩:=l5 h1;obtain⟨rq,bq,sq,hq,l⟩:=l5 h2;have M:∀ τ:Sig,d9 p.args τ=τ:=fun τ=>by
  clear hsw hp i h1 a3;revert B;induction p.args with
  | nil=>intro _; rfl
  | cons y ys ih =>
   intro B;simp only[T8,List.all_cons,Bool.and_eq_true]at B;have:y.spend τ=τ:=by have:=B.1;cases y<;>simp_all [Opd.steals,Opd.spend]
   rw[d9,this];exact ih B.2
 have G:∀ (x:AOper) (τ:Sig),x.box=none→q6 x τ=.undef:=fun x τ h=>by unfold q6; rw[h]
 rw[G p _ W]at hp;rw[G q _ Y]at hq;rw[M,W]at i;rw[Y]at l;simp only at i l
 -- what q reads is not what p writes
 have j:∀ x:Atom,x≠.st→x ∉ p.dst.atoms→x.same σ1 σ:=fun x t E=>by rw[i];refine Atom.same_trans (a1V E) ?_;cases x<;>first|rfl|exact absurd rfl t
 have O:q.args.map (·.read σ1)=q.args.map (·.read σ):=List.map_congr_left fun y C=>X6 fun x t=>by
  have b5:x∈q.reads:=by simp only[AOper.reads,AP,List.mem_flatMap];exact .inl (.inl (.inl ⟨y,C,t⟩))
  refine j x ?_ fun E=>a1 x E b5
  intro e;subst e;cases y<;>simp[Opd.atoms]at t
 have U:σ1.st=sp:=by rw[i,a9L]
 rw[O,U]at hq;have Z:Sw p.kind q.kind call (p.args.map (·.read σ)) (q.args.map (·.read σ)):=by
  simp only[Bool.or_eq_true]at hsw;rcases hsw with((hsw|hsw)|hsw)|hsw
  · simp only[b6p,AA]at hsw;obtain⟨k1,k2⟩:=hsw;split at k2
    case h_2=>cases k2
    rename_i m x r hm t;obtain⟨y,C,R⟩:=List.any_eq_true.1 k2;obtain rfl:=a5A R;exact d8C k1 (a:=x.read σ) (r:=r.read σ) (by rw[t]; rfl) hm (by rw[← List.map_drop]; exact List.mem_map.2 ⟨r,C,rfl⟩)
  · simp only[b59]at hsw;split at hsw
    case h_2=>cases hsw
    rename_i n n' x1 x2 r rest k1 k2 t;obtain⟨y,C,R⟩:=List.any_eq_true.1 hsw;obtain rfl:=a5A R;rw[k1,k2];exact e0a (As:=rest.map (·.read σ)) (Bs:=[]) (a:=x1.read σ) (x:=x2.read σ) (r:=r.read σ) (by rw[t]; rfl) (by rw[← List.map_drop]; exact List.mem_map.2 ⟨r,C,rfl⟩)
  · exact d9N hsw
  · simp only[b5M]at hsw;split at hsw
    case h_2=>cases hsw
    rename_i d e x1 r x2 s k1 k2 t C;simp only[AA,Bool.not_eq_true']at hsw;obtain rfl:=a5A hsw.1;have b0:d≠e:=by intro h;subst h;simp at hsw
    rw[k1,k2];exact d5X (a:=x1.read σ) (b:=x2.read σ) (r:=r.read σ) (by rw[t]; rfl) (by rw[C]; rfl) b0
 obtain⟨S,b8,b4,b3⟩:=Z _ _ _ _ _ _ _ hp hq;have u:=a1e (p:=q) (σ:=σ) (call:=call) (by rw[G q _ Y]; exact b4);rw[Y]at u;simp only at u;refine⟨_,u,?_⟩;generalize D:q.dst.put rq { d9 q.args σ with st:=S }=σq at u;have b7:q.dst.put rq { fr:=(d9 q.args σ).fr,τ:=(d9 q.args σ).τ,st:=S }=σq:=D;obtain⟨fq,lq⟩:=a1n u;have V:σq.st=S:=by rw[← D,a9L]
 have F:p.args.map (·.read σq)=p.args.map (·.read σ):=List.map_congr_left fun y C=>X6 fun x t=>fq x fun hw=>a3 x hw (AP.2 (.inl (AP.2 (.inl (List.mem_flatMap.2 ⟨y,C,t⟩)))))
 rw[a1e (p:=p) (σ:=σq) (call:=call) (by rw[G p _ W,F,V]; exact b3)];rw[M,W];congr 1;refine Sig.ext_atoms ?_ fun x=>?_
 · rw[a1g,l,a1g,I4,i,a1g];exact lq
 by_cases J:x=.st
 · subst J;show(p.dst.put rp _).st=σ2.st;rw[l,b1Z,b1Z]
 by_cases E:x∈p.dst.atoms
 · have e1:x.same σ1 (p.dst.put rp { fr:=σq.fr,τ:=σq.τ,st:=sq }):=by rw[i];exact a1j (σ1:=⟨σ.fr,σ.τ,sp⟩) (σ2:=⟨σq.fr,σq.τ,sq⟩) (show σ.fr.length=σq.fr.length from lq.symm) (.inr E)
   have e2:x.same σ2 σ1:=(a1n h2).1 x (a2 x E);exact Atom.same_symm (Atom.same_trans e2 e1)
 · have e1:x.same (p.dst.put rp { fr:=σq.fr,τ:=σq.τ,st:=sq }) σq:=Atom.same_trans (a1V E) (by cases x<;>first|rfl|exact absurd rfl J);have l1:σ1.fr.length=σ.fr.length:=by rw[i,a1g]
   have I:∀ y∈q.args,∀ z∈y.spent,z.same σ1 σ:=fun y C z hz=>by
    have b6:z∈q.reads:=by simp only[AOper.reads,AP,List.mem_flatMap];exact .inl (.inl (.inl ⟨y,C,a2f y z hz⟩))
    refine j z ?_ fun E=>a1 z E b6
    intro e;subst e;cases y<;>simp[Opd.spent]at hz
   have e2:x.same σ2 σq:=by
    rw[l,← D];refine a1j (by simp[I4,l1]) ?_;by_cases a0:x∈q.dst.atoms
    · exact .inr a0
    · left;have:=a0V l1 (j x J E) I;cases x<;>first|exact this|exact absurd rfl J
   exact Atom.same_trans e1 (Atom.same_symm e2)
def Goes (p:AOper) (σ:Sig):Prop:=∀ x want,p.guard=some (x,want)→∃ b,x.read σ=.bool b∧(b == want)=true
def Skips (p:AOper) (σ:Sig):Prop:=∃ x want,p.guard=some (x,want)∧(x.read σ=.tuple []∨∃ b,x.read σ=.bool b∧(b == want)=false)
theorem a6z (h:i7 call p σ=some σ'):(Goes p σ∧y9 call p σ=some σ')∨(Skips p σ∧σ'=p.dst.put (.tuple []) σ):=by
 unfold i7 at h;split at h
 · rename_i i;exact .inl ⟨fun x want e=>(by rw[i]at e; cases e),h⟩
 · rename_i x want i;split at h
   · rename_i b j;split at h
     · rename_i l;refine .inl ⟨fun u t e=>?_,h⟩;rw[i]at e;cases e;exact⟨b,j,l⟩
     · rename_i l;exact .inr ⟨⟨x,want,i,.inr ⟨b,j,by simpa using l⟩⟩,(Option.some.inj h).symm⟩
   · rename_i j;exact .inr ⟨⟨x,want,i,.inl j⟩,(Option.some.inj h).symm⟩
   · cases h
theorem Goes.step (h:Goes p σ):i7 call p σ=y9 call p σ:=by
 unfold i7;cases l:p.guard with
 | none=>rfl
 | some t =>obtain⟨x,want⟩:=t;obtain⟨b,i,j⟩:=h x want l;simp only[i,j,if_true]
theorem Skips.step (h:Skips p σ):i7 call p σ=some (p.dst.put (.tuple []) σ):=by
 obtain⟨x,want,l,h⟩:=h;unfold i7;rw[l];rcases h with h|⟨b,i,j⟩
 · simp only[h]
 · simp only[i,j,Bool.false_eq_true,if_false]
theorem Goes.same {σ1 σ2:Sig} (h:Goes p σ1) (hs:∀ x want,p.guard=some (x,want)→x.read σ1=x.read σ2):Goes p σ2:=fun x want i=>by rw[← hs x want i]; exact h x want i
theorem Skips.same {σ1 σ2:Sig} (h:Skips p σ1) (hs:∀ x want,p.guard=some (x,want)→x.read σ1=x.read σ2):Skips p σ2:=by obtain⟨x,want,i,h⟩:=h;exact⟨x,want,i,by rw[← hs x want i]; exact h⟩
def J4 (p:AOper):AOper:={ dst:=p.dst,kind:=.mv,args:=[.c (.tuple [])] }
theorem M5 (τ:Sig):i7 call (J4 p) τ=some (p.dst.put (.tuple []) τ):=by show y9 call (J4 p) τ=_;rw[J5];rfl
theorem b5A:Atom.st ∉ p.dst.atoms:=by cases p.dst<;>simp[Dst.atoms]
theorem Z8:(J4 p).writes=p.dst.atoms:=by simp[AOper.writes,J4,Opd.spent,Kind.setSt]
theorem a0Q:(J4 p).reads=[]:=by simp[AOper.reads,J4,Opd.atoms,Kind.useSt]
theorem F7 {xs ys:List Atom} (h:∀ x∈xs,x ∉ ys):meets xs ys=false:=by
 cases hm:meets xs ys with
 | false=>rfl
 | true =>exfalso;unfold meets at hm;rw[List.any_eq_true]at hm;obtain⟨x,j,i⟩:=hm;rw[List.any_eq_true]at i;obtain⟨y,l,e⟩:=i;rw[Atom.beq_iff]at e;subst e;exact h x j l
theorem d31 (z:a1c p q=true) {σ1 σ2:Sig} (G:i7 call p σ=some σ1) (I:i7 call q σ1=some σ2) :
 ∃ u,i7 call q σ=some u∧i7 call p u=some σ2:=by
 have C:=z;simp only[a1c,b0B,a9V,AA,Bool.not_eq_true',Option.isNone_iff_eq_none]at z;obtain⟨⟨⟨⟨R,V⟩,M⟩,⟨a1,a2⟩,a3⟩,_⟩:=z;have a1:=F6 a1;have a2:=F6 a2;have a3:=F6 a3
 -- guards are read alike
 have F:∀ {x:AOper} {y:Opd} {want:Bool},x.guard=some (y,want)→Atom.st ∉ y.atoms:=fun {x y want} _=>by cases y<;>simp[Opd.atoms]
 have f1:=(O4 G).1;have T:∀ x,x∈p.writes→x∈p.dst.atoms∨x=.st:=fun x hx=>by
  simp only[AOper.writes,R,AP]at hx;rcases hx with((hx|hx)|hx)|hx
  · exact .inl hx
  · obtain⟨y,U,hx⟩:=List.mem_flatMap.1 hx;have:=List.all_eq_true.1 M y U;cases y<;>simp_all [Opd.spent,Opd.steals]
  · simp at hx
  · split at hx
    · exact .inr (by simpa using hx)
    · simp at hx
 have S:∀ y want,q.guard=some (y,want)→y.read σ1=y.read σ:=fun y want D=>X6 fun x hx=>f1 x fun N=>by
  rcases T x N with t|rfl
  · exact a1 x t (a5e D x hx)
  · exact F D hx
 have E:∀ {τ:Sig},(∀ x,x ∉ q.writes→x.same τ σ)→∀ y want,p.guard=some (y,want)→y.read σ=y.read τ:=fun {τ} O y want D=>(X6 fun x hx=>O x fun N=>a3 x N (by rw[D];exact AP.2 (.inr hx))).symm
 rcases a6z G with⟨k1,e1⟩|⟨k1,e1⟩<;>rcases a6z I with⟨k2,e2⟩|⟨k2,e2⟩
 · obtain⟨σ',j,l⟩:=d2u C e1 e2;refine⟨σ',by rw[(k2.same S).step]; exact j,?_⟩;rw[(k1.same (E (a1n j).1)).step];exact l
 · -- p runs, q is passed over
   have J:i7 call (J4 q) σ1=some σ2:=by rw[M5,e2]
   have i:V4 p (J4 q)=true:=by
    simp only[V4,Z8,a0Q,AA,Bool.not_eq_true'];refine⟨⟨F7 fun x _=>by simp,F7 fun x hx t=>?_⟩,F7 fun x t hx=>?_⟩
    · rcases T x hx with h|rfl
      · exact a2 x h (a06 x t)
      · exact b5A t
    · simp only[AOper.reads,R,AP]at hx;rcases hx with((hx|hx)|hx)|hx
      · exact a3 x (a06 x t) (AP.2 (.inl (AP.2 (.inl hx))))
      · simp at hx
      · exact a3 x (a06 x t) (AP.2 (.inr hx))
      · split at hx
        · simp only[List.mem_cons,List.not_mem_nil,or_false]at hx;subst hx;exact b5A t
        · simp at hx
   obtain⟨σ',j,l⟩:=a8l i G J;rw[M5]at j;exact⟨σ',by rw[(k2.same S).step]; exact j,l⟩
 · -- p is passed over
   have B:i7 call (J4 p) σ=some σ1:=by rw[M5,e1]
   have i:V4 (J4 p) q=true:=by simp only[V4,Z8,a0Q,AA,Bool.not_eq_true'];exact⟨⟨F7 fun x hx=>a1 x hx,F7 fun x hx=>a2 x hx⟩,F7 fun x _=>by simp⟩
   obtain⟨σ',j,l⟩:=a8l i B I;rw[M5]at l;refine⟨σ',j,?_⟩;rw[(k1.same (E (O4 j).1)).step];exact l
 · have B:i7 call (J4 p) σ=some σ1:=by rw[M5,e1]
   have i:V4 (J4 p) q=true:=by simp only[V4,Z8,a0Q,AA,Bool.not_eq_true'];exact⟨⟨F7 fun x hx=>a1 x hx,F7 fun x hx=>a2 x hx⟩,F7 fun x _=>by simp⟩
   obtain⟨σ',j,l⟩:=a8l i B I;rw[M5]at l;refine⟨σ',j,?_⟩;rw[(k1.same (E (O4 j).1)).step];exact l
theorem c4I (hap:a0H p q=true) {σ1 σ2:Sig} (j:i7 call p σ=some σ1) (l:i7 call q σ1=some σ2) :
 ∃ i,i7 call q σ=some i∧i7 call p i=some σ2:=by
 simp only[a0H,Bool.or_eq_true]at hap;rcases hap with hap|hap
 · exact a8l hap j l
 · exact d31 hap j l
theorem b6c {j:List AOper} {rest:List AOper} (i:∀ r∈j,a0H r p=true) (h:g9 call (j++p::rest) σ=some σ') :
 ∃ σ1,i7 call p σ=some σ1∧g9 call (j++rest) σ1=some σ':=by
 induction j generalizing σ with
 | nil =>
  simp only[List.nil_append,g9]at h;cases hs:i7 call p σ with
  | none=>simp[hs]at h
  | some σ1=>simp only[hs]at h; exact⟨σ1,rfl,h⟩
 | cons r j x =>
  simp only[List.cons_append,g9]at h;cases hs:i7 call r σ with
  | none=>simp[hs]at h
  | some y =>simp only[hs]at h;obtain⟨σ2,l,t⟩:=x (fun r u=>i r (by simp[u])) h;obtain⟨σ1,g1,g2⟩:=c4I (i r (by simp)) hs l;refine⟨σ1,g1,?_⟩;simp only[List.cons_append,g9,g2];exact t
end
end Go.Cb
namespace Go.Cb
open Classical
def a1f (c:Cx) (ops:Array Oper) (o:Oper) (p:AOper):Bool:=match o.guard,p.guard with
 | none,none=>true
 | some (j,w),some (x,w')=>(w == w') && (match (ops[j]?).bind (·.dst)with|some d=>L7 c (.tmp d) x && decide (d < c.nt)|none=>false) && n8 c o.dst p.dst
 | _,_=>false
def U0 (c:Cx) (ops:Array Oper):List Oper→List AOper→Bool
 | [],[]=>true
 | o::os,p::ps=>a5N c o p && a1f c ops o p && U0 c ops os ps
 | _,_=>false
def a2D (ops:Array Oper):List (Nat×List Atom×List Atom×AOper)→Nat→List AOper→Bool
 | _,_,[]=>true
 | es,j,p::ps =>
  (n5 ops j).all (fun i=>Nat.blt i j) &&
  es.all (fun e=>(!meets e.2.2.1 p.reads && !meets e.2.2.1 p.writes && !meets p.writes e.2.1) || (X9 ops 10 (n5 ops j)).any (Nat.beq e.1) || a1c e.2.2.2 p) &&
  a2D ops ((j,p.reads,p.writes,p)::es) (j+1) ps
def c6z (c:Cx) (ops:Array Oper) (qs:List (Nat×AOper)):Bool:=qs.all fun x=>match ops[x.1]? with
 | some o=>a5N c o x.2 && a1f c ops o x.2
 | none=>false
def a2A (ops:Array Oper):List (Nat×AOper)→List (Nat×AOper)→Bool
 | _,[]=>true
 | es,x::qs =>(n5 ops x.1).all (fun i=>es.any fun e=>Nat.beq e.1 i) && es.all (fun e=>!Nat.beq e.1 x.1 && (a0H e.2 x.2 || (X9 ops 10 (n5 ops x.1)).any (Nat.beq e.1))) && a2A ops (x::es) qs
def a4P (kill:List Nat):List Nat:=kill.filterMap fun k=>if Nat.ble 1000000 k then some (k - 1000000)else none
def c97 (c:Cx) (ops:Array Oper) (kill:List Nat) (i:List AOper):Bool :=
 let j:=a4P kill
 Nat.beq j.length ops.size && Nat.beq i.length ops.size && c6z c ops (j.zip i) && a2A ops [] (j.zip i)
def a3b (c:Cx) (ops:Array Oper) (draw:Bool) (kill:List Nat) (i:List AOper):Bool :=
 if draw && !(a4P kill).isEmpty then c97 c ops kill i else U0 c ops ops.toList i && (!draw || a2D ops [] 0 i)
section
variable {c:Cx} {g:Gh} {w:World} {pr:Nat→Option Pl} {bx:Nat→Nat} {σ σ':Sig} {a:Act} {call:d8} {ops:Array Oper} {next:Act→World→Prop} {Q:Exit→Act→World→Prop}
theorem a4F (G:Fx c) (R:F9 c.P c.gt call) (h:S c g w pr bx σ a) {i:Nat} {o:Oper} {p:AOper} (hi:ops[i]?=some o) (D:a5N c o p=true) (t:a1f c ops o p=true)
 (hs:i7 call p σ=some σ') (l:Post c g w a σ' next):wpOp c.P ops Q i next a w:=by
 unfold wpOp;simp only[hi];unfold i7 at hs;unfold a1f at t;split at t
 · rename_i B I;rw[I]at hs;have E:Region.wanted o (yielded ops a.tmps)=true:=by simp[Region.wanted,B]
   rw[if_pos E];exact .inl (c0b D G R h hs l)
 · rename_i j want x O B I;simp only[AA,beq_iff_eq]at t;obtain⟨⟨rfl,t⟩,U⟩:=t;split at t
   · rename_i d C;simp only[AA,decide_eq_true_eq]at t;obtain⟨V,M⟩:=t;have F:=N3 h V;have N:d < a.tmps.size:=by rw[h.fr.size]; exact M
     have T:∀ v,a.eval (.tmp d)=v→yielded ops a.tmps j=(match v with|.bool b=>some b|_=>none):=fun v u=>by
      have e:a.tmps[d]?=some v:=by rw[← u]; simp[Act.eval,N]
      simp only[yielded,C,Option.bind_some,e];cases v<;>rfl
     rw[I]at hs;simp only at hs;have skip:Region.wanted o (yielded ops a.tmps)=false→some (p.dst.put (.tuple []) σ)=some σ'→(if Region.wanted o (yielded ops a.tmps)=true then o.wp c.P a w next Q∨(o.asks c.P a w∧LetsOut Q)else next (a.put o.dst undef) w):=fun E hs=>by rw[if_neg (by rw[E]; simp)];obtain rfl:=Option.some.inj hs;refine l _ _ g pr bx (s7 _ _ _) (U9 G h U (mine:=No) (r:=.tuple []) (v:=undef) ?_ fun _ x=>x.elim) (Tr.refl _ _ _);exact(show ValOK g w No (.tuple []) undef from ValOK.mk' (by simp only[Rel]; exact⟨#[],rfl,by simp[RelL]⟩) (by simp) (by simp))
     split at hs
     · rename_i b J;rw[J]at F;have u:=ValOK.rel F;simp only[Rel]at u;have y:=T _ u;split at hs
       · rename_i z;have E:Region.wanted o (yielded ops a.tmps)=true:=by simp only[Region.wanted,B,y];simpa using z
         rw[if_pos E];exact .inl (c0b D G R h hs l)
       · rename_i z;exact skip (by simp only[Region.wanted,B,y];simpa using z) hs
     · rename_i J;rw[J]at F;have u:=ValOK.rel F;simp only[Rel]at u;obtain⟨arr,u,W⟩:=u;have y:=T _ u;exact skip (by simp[Region.wanted,B,y]) hs
     · cases hs
   · cases t
 · cases t
theorem X5 {os:List Oper}:∀ {j:List AOper},U0 c ops os j=true→os.length=j.length∧∀ (i:Nat) (p:AOper),j[i]?=some p→∃ o,os[i]?=some o∧a5N c o p=true∧a1f c ops o p=true:=by
 induction os with
 | nil =>
  intro j h;cases j with
  | nil=>exact⟨rfl,fun i p h=>by simp at h⟩
  | cons p j=>simp[U0]at h
 | cons o os z =>
  intro j h;cases j with
  | nil=>simp[U0]at h
  | cons p j =>
   rw[U0,AA,AA]at h;obtain⟨⟨t,u⟩,x⟩:=h;obtain⟨l,y⟩:=z x;refine⟨by rw[List.length_cons,List.length_cons,l],fun i q hi=>?_⟩;cases i with
   | zero =>rw[List.getElem?_cons_zero]at hi;obtain rfl:=Option.some.inj hi;exact⟨o,rfl,t,u⟩
   | succ i =>rw[List.getElem?_cons_succ]at hi ⊢;exact y i q hi
theorem Post.trans {i:Sig} {g':Gh} {w':World} {l:Act} (h:Post c g w a i next) (t:l.defers=a.defers) (u:Tr c.A g w g' w'):Post c g' w' l i next :=
 fun a2 x g2 pr2 j d2 s2 t2=>h a2 x g2 pr2 j (d2.trans t) s2 (u.trans t2)
theorem a9B (D:Fx c) (E:F9 c.P c.gt call) {u:List AOper} (t:U0 c ops ops.toList u=true):∀ (n k:Nat) (g:Gh) (w:World) (pr:Nat→Option Pl) (bx:Nat→Nat) (σ:Sig) (a:Act),k+n=u.length →
 S c g w pr bx σ a→g9 call (u.drop k) σ=some σ'→Post c g w a σ' (Q .normal)→wpOps c.P ops Q (List.range' k n) a w
 | 0,k,g,w,pr,bx,σ,a,I,h,j,i=>by rw[List.drop_of_length_le (by omega)]at j;simp only[g9,AC]at j;subst j;exact i a w g pr bx rfl h (Tr.refl _ _ _)
 | n+1,k,g,w,pr,bx,σ,a,I,h,j,i=>by
  obtain⟨hl,l⟩:=X5 t;rw[List.drop_eq_getElem_cons (by omega)]at j;simp only[g9]at j;obtain⟨o,J,F,G⟩:=l k _ (AD (show k < u.length by omega));cases hs:i7 call (u[k]'(by omega)) σ with
  | none=>simp[hs]at j
  | some σ1 =>
   simp only[hs]at j;rw[List.range'_succ,wpOps_cons];refine a4F D E h (by simpa using J) F G hs fun a1 w1 g1 C x z y B=>?_
   exact a9B D E t n (k+1) g1 w1 C x σ1 a1 (by omega) y j (i.trans z B)
end
end Go.Cb
namespace Go.Cb
open Classical
section
variable {c:Cx} {σ':Sig} {call:d8} {ops:Array Oper} {Q:Exit→Act→World→Prop}
theorem a6o (all:List AOper):∀ (u:List AOper) (k:Nat) (es:List (Nat×List Atom×List Atom×AOper)),u=all.drop k→(∀ (i:Nat) (q:AOper),i < k→all[i]?=some q→(i,q.reads,q.writes,q)∈es)→a2D ops es k u=true →
 ∀ (j:Nat) (p:AOper),k≤j→all[j]?=some p→(∀ i∈n5 ops j,i < j)∧∀ (i:Nat) (q:AOper),i < j→all[i]?=some q→a0H q p=true∨i∈X9 ops 10 (n5 ops j)
 | [],k,es,l,_,_,j,p,hkj,hj=>by
  have:all.length≤k:=by have:=congrArg List.length l;simp at this; omega
  rw[List.getElem?_eq_none (by omega)]at hj; cases hj
 | p0::u,k,es,l,hes,h,j,p,hkj,hj=>by
  have x:k < all.length:=by have:=congrArg List.length l;simp at this; omega
  rw[List.drop_eq_getElem_cons x]at l;simp only[AM]at l;obtain⟨B,l⟩:=l;simp only[a2D,AA]at h;obtain⟨⟨C,D⟩,E⟩:=h;rcases Nat.lt_or_ge k j with z|hge
  · refine a6o all u (k+1) _ l (fun i q hi t=>?_) E j p z hj;rcases Nat.lt_or_ge i k with h4|h4
    · exact List.mem_cons_of_mem _ (hes i q h4 t)
    · obtain rfl:i=k:=by omega
      rw[AD x]at t;simp only[AC]at t;rw[B,t];simp
  · obtain rfl:j=k:=by omega
    rw[AD x]at hj;simp only[AC]at hj;rw[← hj,← B];refine⟨fun i hi=>?_,fun i q hi t=>?_⟩
    · have:=List.all_eq_true.1 C i hi;simpa using this
    · have:=List.all_eq_true.1 D _ (hes i q hi t);simp only[Bool.or_eq_true]at this;rcases this with(h5|h5)|h5
      · left; simp only[a0H,V4,Bool.or_eq_true]; exact .inl (by simpa using h5)
      · right;rw[List.any_eq_true]at h5;obtain⟨y,F,e⟩:=h5;have:i=y:=by simpa using e
        rw[this]; exact F
      · left; simp only[a0H,Bool.or_eq_true]; exact .inr h5
def N4 (n:Nat) (listed:Array Bool):List Nat:=(List.range n).filter fun i=>!listed.getD i true
theorem mem_rem {n:Nat} {listed:Array Bool} {i:Nat}:i∈N4 n listed↔i < n∧listed.getD i true=false:=by simp[N4]
theorem a2U (n:Nat) (listed:Array Bool):(N4 n listed).Pairwise (· < ·):=List.Pairwise.filter _ List.pairwise_lt_range
theorem a1J {l:Array Bool} {i:Nat} (h:i < l.size) (d e:Bool):l.getD i d=l.getD i e:=by simp[Array.getD_eq_getD_getElem?,h]
theorem b1G {n:Nat} {listed:Array Bool} (hl:listed.size=n) {i:Nat} {l1 l2:List Nat} (h:N4 n listed=l1++i::l2):N4 n (listed.setIfInBounds i true)=l1++l2:=by
 have hi:i∈N4 n listed:=by rw[h]; simp
 have z:=(mem_rem.1 hi).1;have e:N4 n (listed.setIfInBounds i true)=(N4 n listed).filter (fun x=>x != i):=by
  unfold N4;rw[List.filter_filter];apply List.filter_congr;intro x j;have t:x < n:=by simpa using j
  by_cases ex:x=i
  · subst ex;simp[Array.getD_eq_getD_getElem?,hl,t]
  · have:(listed.setIfInBounds i true).getD x true=listed.getD x true:=by simp[Array.getD_eq_getD_getElem?,Array.getElem?_setIfInBounds_ne (Ne.symm ex)]
    rw[this];simp[ex]
 rw[e,h];have l:=a2U n listed;rw[h]at l;have l:=List.pairwise_append.1 l;have u:∀ x∈l1,x≠i:=fun x j=>Nat.ne_of_lt (l.2.2 x j i (by simp))
 have y:∀ x∈l2,x≠i:=fun x j=>Nat.ne_of_gt ((List.pairwise_cons.1 l.2.1).1 x j)
 rw[List.filter_append,List.filter_cons_of_neg (by simp),List.filter_eq_self.2 (fun x j=>by simpa using u x j),List.filter_eq_self.2 (fun x j=>by simpa using y x j)]
theorem a0k {listed:Array Bool} (u:∀ j,listed.getD j false=true→∀ i∈n5 ops j,listed.getD i false=true) :
 ∀ (n:Nat) (l:List Nat),(∀ x∈l,listed.getD x false=true)→∀ x∈X9 ops n l,listed.getD x false=true
 | 0,l,h,x,hx=>h x hx
 | n+1,l,h,x,hx=>by
  simp only[X9,AP]at hx;rcases hx with hx|hx
  · exact h x hx
  · refine a0k u n _ (fun y t=>?_) x hx;obtain⟨z,B,t⟩:=List.mem_flatMap.1 t;exact u z (h z B) y t
theorem ready_iff {listed:Array Bool} {i:Nat}:i∈Region.ready .any ops listed↔i < ops.size∧listed.getD i true=false∧∀ b∈n5 ops i,listed.getD b false=true:=by
 unfold Region.ready;rw[List.mem_filter,List.mem_range];constructor
 · rintro⟨u,x⟩;simp only[AA,Bool.not_eq_true']at x;refine⟨u,x.1,fun b l=>?_⟩;have t:=x.2;unfold n5 at l;rw[Array.getElem?_eq_getElem u]at t l;simp only[AN,Option.getD_some]at t;simp only at l;obtain⟨e,y,l⟩:=List.mem_filterMap.1 l;have:=Array.all_eq_true_iff_forall_mem.1 t e (by simpa using y);split at l
   · rename_i j;simp only[AC]at l;subst l;simpa[j]using this
   · cases l
 · rintro⟨u,x,t⟩;refine⟨u,?_⟩;simp only[AA,Bool.not_eq_true'];refine⟨x,?_⟩;unfold n5 at t;rw[Array.getElem?_eq_getElem u]at t ⊢;simp only[AN,Option.getD_some];refine Array.all_eq_true_iff_forall_mem.2 fun e y=>?_
   cases j:Region.binds .any e with
   | false=>simp
   | true =>have:=t e.on (List.mem_filterMap.2 ⟨e,by simpa using y,by simp[j]⟩);simp[this]
theorem c4L (fx:Fx c) (hc:F9 c.P c.gt call) {u:List AOper} (b3:U0 c ops ops.toList u=true) (G:a2D ops [] 0 u=true) :
 ∀ (n:Nat) (listed:Array Bool) (g:Gh) (w:World) (pr:Nat→Option Pl) (bx:Nat→Nat) (σ:Sig) (a:Act),listed.size=u.length→(N4 u.length listed).length=n →
  (∀ j,listed.getD j false=true→∀ i∈n5 ops j,listed.getD i false=true) →
  S c g w pr bx σ a→g9 call ((N4 u.length listed).filterMap (u[·]?)) σ=some σ'→Post c g w a σ' (Q .normal)→wpAny c.P .any ops Q n listed a w:=by
 obtain⟨hl,U⟩:=X5 b3;have c0:ops.size=u.length:=by simpa using hl
 have V:=fun(j:Nat) (p:AOper) hj=>a6o (ops:=ops) u u 0 [] rfl (fun i q hi=>by omega) G j p (Nat.zero_le _) hj
 have F:∀ (listed:Array Bool),listed.size=u.length→Region.ready .any ops listed=[]→N4 u.length listed=[]:=by
  intro listed z E;cases y:N4 u.length listed with
  | nil=>rfl
  | cons i l =>
   exfalso;have hi:i∈N4 u.length listed:=by rw[y]; simp
   obtain⟨Z,O⟩:=mem_rem.1 hi;have:i∈Region.ready .any ops listed:=by
    refine ready_iff.2 ⟨by omega,O,fun b W=>?_⟩;have b8:=(V i _ (AD Z)).1 b W;have b2:b ∉ N4 u.length listed:=fun hm=>by
     have hs:=a2U u.length listed;rw[y]at hs hm;rcases List.mem_cons.1 hm with rfl|hm
     · omega
     · have:=(List.pairwise_cons.1 hs).1 b hm; omega
    have a2:b < u.length:=by omega
    cases hq:listed.getD b true with
    | false=>exact absurd (mem_rem.2 ⟨a2,hq⟩) b2
    | true=>rw[a1J (by omega) false true]; exact hq
   rw[E]at this;cases this
 intro n;induction n with
 | zero =>intro listed g w pr bx σ a z hn _ h E B;have y:N4 u.length listed=[]:=List.eq_nil_of_length_eq_zero hn;rw[y]at E;simp only[List.filterMap_nil,g9,AC]at E;subst E;refine⟨?_,B a w g pr bx rfl h (Tr.refl _ _ _)⟩;apply List.eq_nil_iff_forall_not_mem.2;intro i hi;obtain⟨Z,O,_⟩:=ready_iff.1 hi;have:=(mem_rem (n:=u.length)).2 ⟨show i < u.length by omega,O⟩;rw[y]at this;cases this
 | succ n ih =>
  intro listed g w pr bx σ a z hn R h E B;refine⟨fun he=>?_,fun i hi=>?_⟩
  · have:=F listed z he;rw[this]at hn;cases hn
  · obtain⟨Z,O,h3⟩:=ready_iff.1 hi;have C:i < u.length:=by omega
    have I:i∈N4 u.length listed:=mem_rem.2 ⟨C,O⟩;obtain⟨l1,l2,t⟩:=List.append_of_mem I;obtain⟨o,ho,b4,hg⟩:=U i _ (AD C);have hs:=a2U u.length listed;rw[t]at hs;have hs:=List.pairwise_append.1 hs;rw[t,List.filterMap_append,List.filterMap_cons_some (AD C)]at E;obtain⟨σ1,N,D⟩:=b6c (fun r E=>by
     obtain⟨k,hk,b5⟩:=List.mem_filterMap.1 E;have b1:k < i:=hs.2.2 k hk i (by simp);refine((V i _ (AD C)).2 k r b1 b5).resolve_right fun T=>?_
     have M:=a0k R 10 _ h3 k T;have J:k∈N4 u.length listed:=by rw[t]; simp[hk]
     have:=(mem_rem.1 J).2;rw[a1J (by omega) true false,M]at this;cases this) E
    rw[← List.filterMap_append,← b1G z t]at D;refine a4F fx hc h (by simpa using ho) b4 hg N fun a1 w1 g1 b7 Y b0 a0 b6=>?_
    refine ih (listed.setIfInBounds i true) g1 w1 b7 Y σ1 a1 (by simpa using z) ?_ (fun j hj b W=>?_) a0 D (B.trans b0 b6)
    · rw[b1G z t];rw[t]at hn;simp at hn ⊢;omega
    · have up:∀ x,listed.getD x false=true→(listed.setIfInBounds i true).getD x false=true:=fun x hx=>by
       by_cases e:i=x
       · subst e; simp[Array.getD_eq_getD_getElem?,z,C]
       · simpa[Array.getD_eq_getD_getElem?,Array.getElem?_setIfInBounds_ne e]using hx
      by_cases e:i=j
      · subst e;exact up b (h3 b W)
      · refine up b (R j ?_ b W);simpa[Array.getD_eq_getD_getElem?,Array.getElem?_setIfInBounds_ne e]using hj
def O8 (qs:List (Nat×AOper)) (listed:Array Bool):List (Nat×AOper):=qs.filter fun x=>!listed.getD x.1 true
theorem a0t:∀ {qs es:List (Nat×AOper)},a2A ops es qs=true→∀ {l1 l2:List (Nat×AOper)} {j:Nat} {p:AOper},qs=l1++(j,p)::l2 →
 (∀ i∈n5 ops j,∃ q,(i,q)∈es∨(i,q)∈l1)∧(∀ i q,(i,q)∈es∨(i,q)∈l1→i≠j∧(a0H q p=true∨i∈X9 ops 10 (n5 ops j)))
 | [],es,_,l1,l2,j,p,e=>by simp at e
 | x::qs,es,h,l1,l2,j,p,e=>by
  simp only[a2A,AA]at h;obtain⟨⟨u,z⟩,B⟩:=h;cases l1 with
  | nil =>
   simp only[List.nil_append,AM]at e;obtain⟨rfl,rfl⟩:=e;refine⟨fun i hi=>?_,fun i q hq=>?_⟩
   · have:=List.all_eq_true.1 u i hi;obtain⟨e,C,l⟩:=List.any_eq_true.1 this;have l:e.1=i:=by simpa using l
     exact⟨e.2,.inl (by rw[← l]; exact C)⟩
   · have hq:(i,q)∈es:=by simpa using hq
     have:=List.all_eq_true.1 z _ hq;simp only[AA,Bool.not_eq_true',Bool.or_eq_true]at this;obtain⟨t1,t2⟩:=this;refine⟨fun e=>by subst e; simp at t1,?_⟩;rcases t2 with t2|t2
     · exact .inl t2
     · right;obtain⟨y,D,t⟩:=List.any_eq_true.1 t2;have:i=y:=by simpa using t
       rw[this]; exact D
  | cons y l1 =>
   simp only[List.cons_append,AM]at e;obtain⟨rfl,e⟩:=e;obtain⟨E,F⟩:=a0t B e;refine⟨fun i hi=>?_,fun i q hq=>F i q ?_⟩
   · obtain⟨q,hq⟩:=E i hi;refine⟨q,?_⟩;rcases hq with hq|hq
     · rcases List.mem_cons.1 hq with rfl|hq
       · exact .inr (by simp)
       · exact .inl hq
     · exact .inr (by simp[hq])
   · rcases hq with hq|hq
     · exact .inl (by simp[hq])
     · rcases List.mem_cons.1 hq with rfl|hq
       · exact .inl (by simp)
       · exact .inr hq
theorem a4s {qs:List (Nat×AOper)} (h:a2A ops [] qs=true):(qs.map (·.1)).Nodup:=by
 rw[List.Nodup,List.pairwise_map];rw[List.pairwise_iff_getElem];intro i j hi t l;have e:qs=qs.take j++qs[j]::qs.drop (j+1):=by rw[← List.drop_eq_getElem_cons t,List.take_append_drop]
 have:=(a0t h (l1:=qs.take j) (l2:=qs.drop (j+1)) (j:=qs[j].1) (p:=qs[j].2) e).2 qs[i].1 qs[i].2 (.inr (by rw[List.mem_take_iff_getElem];exact⟨i,by omega,rfl⟩));exact this.1
theorem b7r (fx:Fx c) (hc:F9 c.P c.gt call) {qs:List (Nat×AOper)} (b7:c6z c ops qs=true) (y:a2A ops [] qs=true) (F:∀ i,i < ops.size→∃ p,(i,p)∈qs) :
 ∀ (n:Nat) (listed:Array Bool) (g:Gh) (w:World) (pr:Nat→Option Pl) (bx:Nat→Nat) (σ:Sig) (a:Act),listed.size=ops.size→(O8 qs listed).length=n →
  (∀ j,listed.getD j false=true→∀ i∈n5 ops j,listed.getD i false=true) →
  S c g w pr bx σ a→g9 call ((O8 qs listed).map (·.2)) σ=some σ'→Post c g w a σ' (Q .normal)→wpAny c.P .any ops Q n listed a w:=by
 have G:∀ {i p},(i,p)∈qs→∃ o,ops[i]?=some o∧a5N c o p=true∧a1f c ops o p=true:=fun {i p} hm=>by
  have:=List.all_eq_true.1 b7 _ hm;simp only at this;split at this
  · rename_i o ho;simp only[AA]at this;exact⟨o,ho,this.1,this.2⟩
  · cases this
 have N:∀ {i p},(i,p)∈qs→i < ops.size:=fun {i p} hm=>by obtain⟨o,ho,_⟩:=G hm;exact(Array.getElem?_eq_some_iff.1 ho).1
 have Z:=a4s y;have E:∀ (listed:Array Bool),listed.size=ops.size→Region.ready .any ops listed=[]→O8 qs listed=[]:=by
  intro listed z D;cases u:O8 qs listed with
  | nil=>rfl
  | cons x l =>
   exfalso;obtain⟨i,p⟩:=x;obtain⟨l1,l2,t,b6,hi,_⟩:=List.filter_eq_cons_iff.1 u;simp only[Bool.not_eq_true']at hi;have hm:(i,p)∈qs:=by rw[t]; simp
   have:i∈Region.ready .any ops listed:=by
    refine ready_iff.2 ⟨N hm,hi,fun b hb=>?_⟩;obtain⟨q,hq⟩:=(a0t y t).1 b hb;have hq:(b,q)∈l1:=by simpa using hq
    have T:=b6 _ hq;simp only[Bool.not_eq_true',Bool.not_eq_false]at T;have b3:b < listed.size:=by rw[z]; exact N (p:=q) (by rw[t]; simp[hq])
    rw[a1J b3 false true];exact T
   rw[D]at this;cases this
 intro n;induction n with
 | zero =>intro listed g w pr bx σ a z hn _ h D B;have u:O8 qs listed=[]:=List.eq_nil_of_length_eq_zero hn;rw[u]at D;simp only[AL,g9,AC]at D;subst D;refine⟨?_,B a w g pr bx rfl h (Tr.refl _ _ _)⟩;apply List.eq_nil_iff_forall_not_mem.2;intro i hi;obtain⟨R,h2,_⟩:=ready_iff.1 hi;obtain⟨p,hp⟩:=F i R;have:(i,p)∈O8 qs listed:=List.mem_filter.2 ⟨hp,by simp[h2]⟩;rw[u]at this;cases this
 | succ n ih =>
  intro listed g w pr bx σ a z hn U h D B;refine⟨fun he=>?_,fun i hi=>?_⟩
  · have:=E listed z he;rw[this]at hn;cases hn
  · obtain⟨R,h2,h3⟩:=ready_iff.1 hi;obtain⟨p,W⟩:=F i R;obtain⟨o,ho,b8,hg⟩:=G W;obtain⟨l1,l2,t⟩:=List.append_of_mem W;have u:O8 qs listed=O8 l1 listed++(i,p)::O8 l2 listed:=by unfold O8;rw[t,List.filter_append,List.filter_cons_of_pos (by simp[h2])]
    rw[u,AT,AG]at D;obtain⟨σ1,O,C⟩:=b6c (fun r D=>by
     obtain⟨⟨k,r'⟩,hk,rfl⟩:=List.mem_map.1 D;obtain⟨Y,J⟩:=List.mem_filter.1 hk;refine((a0t y t).2 k r' (.inr Y)).2.resolve_right fun V=>?_
     have M:=a0k U 10 _ h3 k V;have b5:k < listed.size:=by rw[z]; exact N (p:=r') (by rw[t]; simp[Y])
     simp only[Bool.not_eq_true']at J;rw[a1J b5 true false,M]at J;cases J) D
    have b0:∀ x∈l1++l2,x.1≠i:=by
     rw[t,AT,AG,List.Nodup,List.pairwise_append]at Z;obtain⟨_,a0,a2⟩:=Z;intro x hx e;rcases AP.1 hx with hx|hx
     · exact a2 x.1 (List.mem_map.2 ⟨x,hx,rfl⟩) i (by simp) e
     · exact(List.pairwise_cons.1 a0).1 x.1 (List.mem_map.2 ⟨x,hx,rfl⟩) e.symm
    have I:O8 qs (listed.setIfInBounds i true)=O8 l1 listed++O8 l2 listed:=by
     have e:∀ l:List (Nat×AOper),(∀ x∈l,x.1≠i)→O8 l (listed.setIfInBounds i true)=O8 l listed:=fun l hl=>by unfold O8;apply List.filter_congr;intro x hx;have c2:=hl x hx;rw[Array.getD_eq_getD_getElem?,Array.getD_eq_getD_getElem?,Array.getElem?_setIfInBounds_ne (Ne.symm c2)]
     have c1:(listed.setIfInBounds i true).getD i true=true:=by simp[Array.getD_eq_getD_getElem?,z,R]
     rw[← e l1 (fun x hx=>b0 x (by simp[hx])),← e l2 (fun x hx=>b0 x (by simp[hx]))];unfold O8;rw[t,List.filter_append,List.filter_cons_of_neg (by simp[c1])]
    rw[← AT,← I]at C;refine a4F fx hc h ho b8 hg O fun a1 w1 g1 c3 b1 b4 b2 c0=>?_
    refine ih (listed.setIfInBounds i true) g1 w1 c3 b1 σ1 a1 (by simpa using z) ?_ (fun j hj b hb=>?_) b2 C (B.trans b4 c0)
    · rw[I];rw[u]at hn;simp at hn ⊢;omega
    · have up:∀ x,listed.getD x false=true→(listed.setIfInBounds i true).getD x false=true:=fun x hx=>by
       by_cases e:i=x
       · subst e; simp[Array.getD_eq_getD_getElem?,z,R]
       · simpa[Array.getD_eq_getD_getElem?,Array.getElem?_setIfInBounds_ne e]using hx
      by_cases e:i=j
      · subst e;exact up b (h3 b hb)
      · refine up b (U j ?_ b hb);simpa[Array.getD_eq_getD_getElem?,Array.getElem?_setIfInBounds_ne e]using hj
theorem b6U:∀ {n:Nat} {l:List Nat},l.Nodup→(∀ x∈l,x < n)→l.length≤n
 | 0,l,_,h=>by
  cases l with
  | nil=>simp
  | cons x l=>exact absurd (h x (by simp)) (by omega)
 | n+1,l,i,h=>by
  have u:(l.erase n).length≤n:=b6U (i.erase n) fun x j=>by
   have hm:=List.mem_of_mem_erase j;have t:x≠n:=fun e=>by subst e;exact(List.Nodup.not_mem_erase i) j
   have:=h x hm;omega
  have y:l.length≤(l.erase n).length+1:=by rw[List.length_erase];split<;>omega
  omega
theorem b0l {n:Nat} {l:List Nat} (t:l.Nodup) (j:∀ x∈l,x < n) (u:l.length=n):∀ i,i < n→i∈l:=by
 intro i hi;by_cases hm:i∈l
 · exact hm
 · exfalso;have:=b6U (n:=n) (List.nodup_cons.2 ⟨hm,t⟩) fun x hx=>by
    rcases List.mem_cons.1 hx with rfl|hx
    · exact hi
    · exact j x hx
   simp at this;omega
end
end Go.Cb
namespace Go.Cb
open Classical
def a2J (c:Cx) (x:Operand) (y:Opd):Bool:=L7 c x y
def a4o (c:Cx) (ops:Array Oper) (d:Bool) (x:Operand):Bool:=match ops.toList,x with
 | [o0,o1,o2,o3],.tmp s1=>match o0.op,o0.dst,o1.op,o2.op,o3.op,o3.dst with
  | .alloc t,some s0,.store t1 (.tmp i) (.const (.bool _)),.store t2 (.tmp j) (.const (.bool _)),.load t3 (.tmp l),some s3 =>
   d && t1 == t && t2 == t && t3 == t && i == s0 && j == s0 && l == s0 && s3 == s1 && o1.dst.isNone && o2.dst.isNone && o0.guard.isNone && o1.guard.isNone && o2.guard.isNone && o3.guard.isNone &&
    !c.slots.contains s0 && !c.slots.contains s1 && s0 != s1 && decide (s0 < c.nt) && decide (s1 < c.nt) && r7 c t == some false && q9 c t == some 1 &&
    (match (c.P.info? t).bind (·.zero)with|some (.bool _)=>true|_=>false) && n5 ops 0 == [] && n5 ops 1 == [0] && n5 ops 2 == [0] && n5 ops 3 == [0,0,1,2]
  | _,_,_,_,_,_=>false
 | _,_=>false
def m9 (c:Cx):Code→ACode→Bool
 | .skip,.skip=>true
 | .exit id,.exit l=>id == l
 | .ret,.ret=>true
 | .region _ ops d,.reg kill t=>a3b c ops d kill t
 | .seq (.region _ ops d) (.cond x a b),.test kill t y i b'=>a3b c ops d kill t && a2J c x y && m9 c a i && m9 c b b'
 | .seq (.region _ ops d) (.seq (.cond x a b) rest),.seq (.test kill t y i b') j=>a3b c ops d kill t && a2J c x y && m9 c a i && m9 c b b' && m9 c rest j
 | .seq (.region _ ops d) (.cond x a b),.either _ i b'=>a4o c ops d x && m9 c a i && m9 c b b'
 | .seq (.region _ ops d) (.seq (.cond x a b) rest),.seq (.either _ i b') j=>a4o c ops d x && m9 c a i && m9 c b b' && m9 c rest j
 | .seq a b,.seq i b'=>m9 c a i && m9 c b b'
 | .cond x a b,.test kill t y i b'=>kill.isEmpty && t.isEmpty && a2J c x y && m9 c a i && m9 c b b'
 | .block id a,.blk l i=>id == l && m9 c a i
 | .loop a,.loop i=>m9 c a i
 | .scope a,i=>m9 c a i
 | _,_=>false
def Ex.toExit:Ex→Exit
 | .normal=>.normal
 | .exit id=>.exit id
 | .ret=>.ret
def After (c:Cx) (g:Gh) (w:World) (a:Act) (out:Out) (Q:Exit→Act→World→Prop):Prop :=
 ∀ i w' g' l j t,i.defers=a.defers→S c g' w' l j ⟨out.2.1,t,out.2.2⟩ i→Tr c.A g w g' w'→Q out.1.toExit i w'
def a4v (c:Cx) (x:Code) (y:ACode):Prop :=
 ∀ {call:d8} {n:Nat} {g:Gh} {w:World} {pr:Nat→Option Pl} {bx:Nat→Nat} {fr:List AV} {τ:Nat→AV} {st:St} {a:Act} {out:Out} {Q:Exit→Act→World→Prop},
  Fx c→c.P.follows .mixedOrders=true→F9 c.P c.gt call→S c g w pr bx ⟨fr,τ,st⟩ a→exec call n y fr st=some out→After c g w a out Q→x.wp c.P Q a w
section
variable {c:Cx}
theorem After.trans {g g':Gh} {w w':World} {a l:Act} {out:Out} {Q:Exit→Act→World→Prop} (h:After c g w a out Q) (t:l.defers=a.defers) (u:Tr c.A g w g' w'):After c g' w' l out Q :=
 fun a2 x g2 pr2 i j d2 s2 t2=>h a2 x g2 pr2 i j (d2.trans t) s2 (u.trans t2)
theorem a1u:∀ (kill:List Nat) (fr:List AV) (i:Nat),(i6 kill fr).getD i .undef=fr.getD i .undef∨(i6 kill fr).getD i .undef=.undef
 | [],fr,i=>.inl rfl
 | k::kill,fr,i=>by
  simp only[i6];rcases a1u kill (fr.set k .undef) i with h|h
  · rw[h,L3];split
    · exact .inr rfl
    · exact .inl rfl
  · exact .inr h
theorem a4Y:∀ (kill:List Nat) (fr:List AV),(i6 kill fr).length=fr.length
 | [],_=>rfl
 | k::kill,fr=>by rw[i6,a4Y kill,List.length_set]
theorem VarOK.undef {g:Gh} {w:World} {pr:Nat→Option Pl} {bx:Nat→Nat} {i:Nat} {v:Value}:VarOK g w pr bx i .undef v:=ValOK.undef
theorem S.reset {g:Gh} {w:World} {pr:Nat→Option Pl} {bx:Nat→Nat} {fr:List AV} {τ:Nat→AV} {st:St} {a:Act} (h:S c g w pr bx ⟨fr,τ,st⟩ a) (kill:List Nat) :
 S c g w pr bx ⟨i6 kill fr,fun _=>.undef,st⟩ a:=by
 refine⟨⟨h.fr.size,by rw[a4Y]; exact h.fr.len,fun i s hs=>?_,fun s hs=>ValOK.undef,h.fr.prv,fun i cs hi=>?_⟩,h.st,h.gl,h.fresh,h.stA⟩
 · rcases a1u kill fr i with e|e
   · rw[e]; exact h.fr.var i s hs
   · rw[e]; exact VarOK.undef
 · rcases a1u kill fr i with e|e
   · rw[e]at hi; exact h.fr.bxs i cs hi
   · rw[e]at hi; cases hi
theorem S.drawn {g:Gh} {w:World} {pr:Nat→Option Pl} {bx:Nat→Nat} {σ:Sig} {a:Act} (h:S c g w pr bx σ a) (n:Nat):S c g { w with drawn:=n } pr bx σ a∧Tr c.A g w g { w with drawn:=n }:=by have i:Ext g w g { w with drawn:=n }:=⟨AJ _,fun _ _=>rfl,fun _ _=>rfl,fun _ _ x=>x,fun _ _ _=>rfl⟩;have j:Tr No g w g { w with drawn:=n }:=⟨i,AJ _,Env.drawn rfl rfl rfl,fun b _ hs _=>⟨⟨rfl,fun _ x=>x⟩,hs⟩⟩;exact⟨⟨h.fr.evolve j,h.st.evolve i rfl (AJ _) (fun b p l=>⟨l,rfl,fun _ x=>x⟩) (fun _ _ x=>x) (fun _ _ x=>.inl x),h.gl.ext i,h.fresh,h.stA⟩,j.wider fun _ x=>x.elim⟩
theorem a1o (i:List AOper):∀ (n k:Nat),k+n=i.length→(List.range' k n).filterMap (i[·]?)=i.drop k
 | 0,k,h=>by rw[List.drop_of_length_le (by omega)]; rfl
 | n+1,k,h=>by rw[List.range'_succ,List.filterMap_cons_some (AD (show k < i.length by omega)),a1o i n (k+1) (by omega),← List.drop_eq_getElem_cons]
theorem a6s (i:List AOper):(List.range i.length).filterMap (i[·]?)=i:=by rw[List.range_eq_range',a1o i i.length 0 (by omega)];rfl
theorem b5o (N:Fx c) (hm:c.P.follows .mixedOrders=true) {call:d8} (U:F9 c.P c.gt call) {g:Gh} {w:World} {pr:Nat→Option Pl} {bx:Nat→Nat} {fr:List AV} {τ:Nat→AV} {st:St} {a:Act}
 {id:Nat} {ops:Array Oper} {d:Bool} {kill:List Nat} {t:List AOper} (z:a3b c ops d kill t=true) (h:S c g w pr bx ⟨fr,τ,st⟩ a) {σ':Sig} (W:g9 call t ⟨i6 kill fr,fun _=>.undef,st⟩=some σ')
 {Q:Exit→Act→World→Prop} (u:Post c g w a σ' (Q .normal)):(Code.region id ops d).wp c.P Q a w:=by
 unfold a3b at z;have O:=h.reset kill;split at z
 · -- in an order of its own
   rename_i M;simp only[AA]at M;have M:=M.1;subst M;simp only[c97,AA]at z;obtain⟨⟨⟨q1,q2⟩,q3⟩,q4⟩:=z;have q1:(a4P kill).length=ops.size:=by simpa using q1
   have q2:t.length=ops.size:=by simpa using q2
   generalize a4P kill=π at *
   refine wp_region_any hm ?_;obtain⟨D,E⟩:=O.drawn (w.drawn+1);have G:(π.zip t).map (·.1)=π:=List.map_fst_zip (by omega);have J:(π.zip t).map (·.2)=t:=List.map_snd_zip (by omega);have V:=a4s q4;have C:∀ x∈(π.zip t).map (·.1),x < ops.size:=fun x Y=>by
    obtain⟨y,Z,rfl⟩:=List.mem_map.1 Y;have:=List.all_eq_true.1 q3 y Z;split at this
    · rename_i o ho;exact(Array.getElem?_eq_some_iff.1 ho).1
    · cases this
   have F:∀ i,i < ops.size→∃ p,(i,p)∈π.zip t:=fun i hi=>by have:=b0l V C (by rw[G]; exact q1) i hi;obtain⟨y,Z,rfl⟩:=List.mem_map.1 this;exact⟨y.2,Z⟩
   have l:O8 (π.zip t) (Array.replicate ops.size false)=π.zip t:=by unfold O8;apply List.filter_eq_self.2;intro x Y;have:=C x.1 (List.mem_map.2 ⟨x,Y,rfl⟩);simp[this]
   refine b7r N U q3 q4 F ops.size (Array.replicate ops.size false) g _ pr bx _ a (by simp) (by rw[l,List.length_zip]; omega) (fun j I=>?_) D (by rw[l,J]; exact W) (u.trans rfl E);exfalso;rcases Nat.lt_or_ge j ops.size with hl|hl
   · simp[hl]at I
   · simp[Array.getD_eq_getD_getElem?,Nat.not_lt.2 hl]at I
 simp only[AA,Bool.or_eq_true,Bool.not_eq_true']at z;obtain⟨R,T⟩:=z;obtain⟨hl,_⟩:=X5 R;cases d with
 | false =>
  refine wp_region ?_;have:=a9B (Q:=Q) N U R ops.size 0 g w pr bx _ a (by simpa using hl) O (by simpa using W) u
  rwa [← List.range_eq_range']at this
 | true =>
  have T:=T.resolve_left (by simp);refine wp_region_any hm ?_;obtain⟨D,E⟩:=O.drawn (w.drawn+1);have B:ops.size=t.length:=by simpa using hl
  have l:N4 t.length (Array.replicate ops.size false)=List.range t.length:=by
   unfold N4;apply List.filter_eq_self.2;intro i hi;have:i < t.length:=by simpa using hi
   simp[B,this]
  refine c4L N U R T ops.size (Array.replicate ops.size false) g _ pr bx _ a (by simpa using B) (by rw[l]; simpa using B.symm) (fun j I=>?_) D (by rw[l,a6s]; exact W) (u.trans rfl E);exfalso;have C:j < t.length:=by
   rcases Nat.lt_or_ge j t.length with h|h
   · exact h
   · simp[Array.getD_eq_getD_getElem?,B,Nat.not_lt.2 h]at I
  simp[B,C]at I
theorem a2o {g:Gh} {w:World} {pr:Nat→Option Pl} {bx:Nat→Nat} {σ:Sig} {a:Act} (h:S c g w pr bx σ a) {x:Operand} {y:Opd} (i:a2J c x y=true) {b:Bool} (l:y.read σ=.bool b):a.eval x=.bool b:=by have j:=N3 h i;rw[l]at j;have t:=ValOK.rel j;simpa only [Rel]using t
theorem a3L {id:Nat} {ops:Array Oper} {d:Bool} {kill:List Nat} {F:List AOper} {x:Operand} {y:Opd} {A B:Code} {G I:ACode} (R:a3b c ops d kill F=true) (M:a2J c x y=true) (T:a4v c A G) (U:a4v c B I)
 {call:d8} {n:Nat} {g:Gh} {w:World} {pr:Nat→Option Pl} {bx:Nat→Nat} {fr:List AV} {τ:Nat→AV} {st:St} {a:Act} {out:Out} {Q Q':Exit→Act→World→Prop}
 (z:Fx c) (hm:c.P.follows .mixedOrders=true) (D:F9 c.P c.gt call) (h:S c g w pr bx ⟨fr,τ,st⟩ a) (j:exec call n (.test kill F y G I) fr st=some out) (N:After c g w a out Q') {K:Act→World→Prop}
 (V:∀ J w',(Code.cond x A B).wp c.P Q' J w'→K J w'):(Code.region id ops d).wp c.P (Exit.then K Q) a w:=by
 simp only[exec]at j;cases E:g9 call F ⟨i6 kill fr,fun _=>.undef,st⟩with
 | none=>simp[E]at j
 | some σ =>
  simp only[E,fL_eq]at j;refine b5o z hm D R h E fun a1 w1 g1 W O l i u=>?_
  show K a1 w1;refine V a1 w1 ?_;split at j
  · rename_i C;exact wp_cond (t:=true) (a2o i M C) (T z hm D (τ:=σ.τ) i j (N.trans l u))
  · rename_i C;exact wp_cond (t:=false) (a2o i M C) (U z hm D (τ:=σ.τ) i j (N.trans l u))
  · cases j
theorem Q9 {P:Program} {ops:Array Oper} {Q:Exit→Act→World→Prop} {i:Nat} {o:Oper} {K:Act→World→Prop} {a:Act} {w:World} (hi:ops[i]?=some o) (j:o.guard=none) (h:o.wp P a w K Q):wpOp P ops Q i K a w:=by unfold wpOp;simp only[hi];rw[if_pos (by simp[Region.wanted,j])];exact .inl h
theorem S.alloc {g:Gh} {w:World} {pr:Nat→Option Pl} {bx:Nat→Nat} {σ:Sig} {a:Act} (h:S c g w pr bx σ a) (cs:Array Value) (T:TypeId):S c g (w.alloc (.cells cs T)) pr bx σ a :=
 ⟨h.fr.evolve (Tr.alloc No h.st.cli (.cells cs T)),h.st.alloc (.cells cs T),h.gl.ext (Ext.alloc h.st.cli (.cells cs T)),fun b i=>h.fresh b (by simp at i; omega),h.stA⟩
theorem S.put_undef {g:Gh} {w:World} {pr:Nat→Option Pl} {bx:Nat→Nat} {fr:List AV} {st:St} {a:Act} (h:S c g w pr bx ⟨fr,fun _=>.undef,st⟩ a) {s:Nat} (hs:s ∉ c.slots) (hl:s < c.nt) (v:Value) :
 S c g w pr bx ⟨fr,fun _=>.undef,st⟩ (a.put (some s) v):=by
 have i:=h.fr.put_t hs hl (a:=.undef) (v:=v) ValOK.undef;have e:q8 (fun _=>AV.undef) s .undef=fun _=>AV.undef:=by funext j;unfold q8;split<;>rfl
 rw[e]at i;exact⟨i,h.st,h.gl,h.fresh,h.stA⟩
structure Toss (c:Cx) (g:Gh) (w0:World) (pr:Nat→Option Pl) (bx:Nat→Nat) (fr:List AV) (st:St) (a0:Act) (s0 blk:Nat) (a:Act) (w:World):Prop where
 s:S c g w pr bx ⟨fr,fun _=>.undef,st⟩ a
 tr:Tr c.A g w0 g w
 df:a.defers=a0.defers
 ptr:a.eval (.tmp s0)=.pointer (some (ad blk 0))
 cell:∃ T b,w.heap[blk]?=some (.cells #[.bool b] T (0,0))
 free:(∀ f,¬ g.cl blk f)∧g.sr blk=none∧(∀ p,pr blk≠some p)∧c.A blk
section
variable {g:Gh} {w0 w:World} {pr:Nat→Option Pl} {bx:Nat→Nat} {fr:List AV} {st:St} {a0 a:Act} {s0 blk:Nat} {o:Oper} {K:Act→World→Prop} {Q:Exit→Act→World→Prop}
theorem Toss.store (h:Toss c g w0 pr bx fr st a0 s0 blk a w) {t:TypeId} {b:Bool} (G:o.op=.store t (.tmp s0) (.const (.bool b))) (E:o.dst=none) (hn:q9 c t=some 1) (D:∀ w',Toss c g w0 pr bx fr st a0 s0 blk a w'→K a w'):o.wp c.P a w K Q:=by
 obtain⟨T,z,B⟩:=h.cell;have u:=a0W (c:=c) (w:=w) (a:=a) (o:=o) (v:=.bool b) G h.ptr rfl (by simpa[Value.cells]using hn) B (by simp[Value.cells]) (by simp[Value.cells,Value.oneCell']);unfold Oper.wp;rw[u];simp only[Oper.upon,E,Act.put];have e:(#[Value.bool z].toList.take 0++(Value.bool b).cells.toList++#[Value.bool z].toList.drop (0+(Value.bool b).cells.size)).toArray=#[.bool b]:=by simp[Value.cells]
 rw[e];have y:Ext g w g (w.setRow blk #[.bool b]):=Ext.setRow _ h.free.1;have i:∀ b',b'≠blk→H3 g w g (w.setRow blk #[.bool b]) b':=fun b' l=>⟨setRow_other w _ b' _ l,fun _ x=>x⟩
 have I:Tr c.A g w g (w.setRow blk #[.bool b]):=⟨y,by simp,Env.setRow _ _ _,fun b' _ hs C=>⟨i b' (fun e=>C (e ▸ h.free.2.2.2)),hs⟩⟩;refine D _ ⟨⟨?_,h.s.st.evolve y rfl (by simp) (fun b' p l=>⟨l,i b' (fun e=>by rw[e,h.free.2.1]at l; cases l)⟩) (fun _ _ x=>x) (fun _ _ x=>.inl x),h.s.gl.ext y,fun b' l=>h.s.fresh b' (by simpa using l),h.s.stA⟩,h.tr.trans I,h.df,h.ptr,⟨T,b,setRow_heap w _ _ _ T _ B⟩,h.free⟩;refine h.s.fr.change (fun _=>True) y (fun b' p l _=>⟨l,i b' (fun e=>h.free.2.2.1 p (e ▸ l))⟩) (fun b' p l=>?_) (fun j s _=>.inl ⟨⟨trivial,trivial,fun _=>trivial⟩,rfl⟩) (fun s _=>.inl ⟨trivial,rfl⟩) rfl (fun j cs F=>⟨cs,F⟩) h.s.fr.bxs;obtain⟨J,M,N⟩:=h.s.fr.prv b' p l;exact⟨J,by simpa using M,N⟩
theorem Toss.load (h:Toss c g w0 pr bx fr st a0 s0 blk a w) {t:TypeId} {s1:Nat} (C:o.op=.load t (.tmp s0)) (z:o.dst=some s1) (l:r7 c t=some false) (x:s1 ∉ c.slots) (hl:s1 < c.nt)
 (y:∀ j b,j.defers=a0.defers→S c g w pr bx ⟨fr,fun _=>.undef,st⟩ j→Tr c.A g w0 g w→j.eval (.tmp s1)=.bool b→K j w):o.wp c.P a w K Q:=by
 obtain⟨T,u,B⟩:=h.cell;have i:=a0T (c:=c) (w:=w) (a:=a) (o:=o) (v:=.bool u) C l h.ptr (by rw[cell_of_row w _ 0 _ T _ B]; rfl);unfold Oper.wp;rw[i,Oper.upon_value,z];refine y _ u h.df (h.s.put_undef x hl _) h.tr ?_;have:s1 < a.tmps.size:=by rw[h.s.fr.size]; exact hl
 simp only[Act.eval,Act.put];exact E2 this
end
theorem T4 {ops:Array Oper} (y:ops.size=4) (F:n5 ops 0=[]) (C:n5 ops 1=[0]) (D:n5 ops 2=[0]) (E:n5 ops 3=[0,0,1,2]) {l u x z:Bool} {i:Nat} (hi:i∈Region.ready .any ops #[l,u,x,z]) :
 (i=0∧l=false)∨(i=1∧u=false∧l=true)∨(i=2∧x=false∧l=true)∨(i=3∧z=false∧l=true∧u=true∧x=true):=by
 obtain⟨B,t,j⟩:=ready_iff.1 hi;rw[y]at B;match i,B with
 | 0,_=>exact .inl ⟨rfl,by simpa using t⟩
 | 1,_=>rw[C]at j; exact .inr (.inl ⟨rfl,by simpa using t,by simpa using j⟩)
 | 2,_=>rw[D]at j; exact .inr (.inr (.inl ⟨rfl,by simpa using t,by simpa using j⟩))
 | 3,_ =>rw[E]at j;simp only[List.mem_cons,List.not_mem_nil,or_false,forall_eq_or_imp,forall_eq]at j;exact .inr (.inr (.inr ⟨rfl,by simpa using t,by simpa using j.1,by simpa using j.2.2.1,by simpa using j.2.2.2⟩))
theorem a0F {ops:Array Oper} (x:ops.size=4) (D:n5 ops 0=[]) (E:n5 ops 1=[0]) (F:n5 ops 2=[0]) (G:n5 ops 3=[0,0,1,2]) {j l t u:Bool} (J:j=false∨l=false∨t=false∨u=false):Region.ready .any ops #[j,l,t,u]≠[]:=by
 intro I;have no:∀ i,i ∉ Region.ready .any ops #[j,l,t,u]:=fun i=>by rw[I]; simp
 have y:=fun h=>no 0 (ready_iff.2 h)
 have z:=fun h=>no 1 (ready_iff.2 h)
 have B:=fun h=>no 2 (ready_iff.2 h)
 have C:=fun h=>no 3 (ready_iff.2 h)
 rw[D]at y;rw[E]at z;rw[F]at B;rw[G]at C;simp[x]at y z B C;cases j<;>cases l<;>cases t<;>cases u<;>simp_all
theorem c41 (hm:c.P.follows .mixedOrders=true) {g:Gh} {w:World} {pr:Nat→Option Pl} {bx:Nat→Nat} {fr:List AV} {τ:Nat→AV} {st:St} {a:Act} {id:Nat} {ops:Array Oper} {d:Bool} {x:Operand} (F:a4o c ops d x=true)
 (h:S c g w pr bx ⟨fr,τ,st⟩ a) {Q:Exit→Act→World→Prop} (T:∀ b a' w',a'.defers=a.defers→S c g w' pr bx ⟨fr,fun _=>.undef,st⟩ a'→Tr c.A g w g w'→a'.eval x=.bool b→Q .normal a' w'):(Code.region id ops d).wp c.P Q a w:=by
 unfold a4o at F;split at F
 case h_2=>cases F
 rename_i o0 o1 o2 o3 s1 J;split at F
 case h_2=>cases F
 rename_i t s0 t1 u1 k1 t2 u2 k2 t3 u3 s3 e0 d0 e1 e2 e3 d3;simp only[AA,beq_iff_eq,bne_iff_ne,ne_eq,Option.isNone_iff_eq_none,decide_eq_true_eq,Bool.not_eq_true']at F;obtain⟨⟨⟨⟨⟨⟨⟨⟨⟨⟨⟨⟨⟨⟨⟨⟨⟨⟨⟨⟨⟨⟨⟨⟨⟨c1,c2⟩,c3⟩,c4⟩,c5⟩,c6⟩,c7⟩,c8⟩,c9⟩,U⟩,a0⟩,V⟩,W⟩,a1⟩,M⟩,N⟩,b6⟩,Y⟩,b0⟩,b1⟩,c21⟩,Z⟩,y⟩,B⟩,C⟩,D⟩:=F;have c2:=c2.symm; have c3:=c3.symm; have c4:=c4.symm; have c5:=c5.symm; have c6:=c6.symm; have c7:=c7.symm;subst c1; subst c2; subst c3; subst c4; subst c5; subst c6; subst c7; subst c8;have M:s0 ∉ c.slots:=by simpa using M
 have N:s3 ∉ c.slots:=by simpa using N
 have u:ops.size=4:=by rw[← Array.length_toList,J]; rfl
 have at_:∀ (i:Nat) o,[o0,o1,o2,o3][i]?=some o→ops[i]?=some o:=fun i o hi=>by rw[← Array.getElem?_toList,J]; exact hi
 split at Z
 case h_2=>cases Z
 rename_i z hz;refine wp_region_any hm ?_;rw[u];obtain⟨E,b4⟩:=(h.reset []).drawn (w.drawn+1);have E:S c g { w with drawn:=w.drawn+1 } pr bx ⟨fr,fun _=>.undef,st⟩ a:=E;show wpAny c.P .any ops Q 4 #[false,false,false,false] a { w with drawn:=w.drawn+1 };generalize ({ w with drawn:=w.drawn+1 }:World)=w1 at *
 -- the last one
 have last:∀ blk a2 I,Toss c g w pr bx fr st a s0 blk a2 I→wpAny c.P .any ops Q 1 #[true,true,true,false] a2 I:=by
  intro blk a2 I hT;refine⟨fun G=>absurd G (a0F u y B C D (by simp)),fun i hi=>?_⟩;rcases T4 u y B C D hi with⟨_,l⟩|⟨_,l,_⟩|⟨_,l,_⟩|⟨rfl,_⟩<;>try (cases l; done)
  refine Q9 (at_ 3 o3 rfl) a1 (hT.load e3 d3 b1 N b0 fun a3 b b3 b2 b5 l=>?_);show wpAny c.P .any ops Q 0 #[true,true,true,true] a3 I;refine⟨?_,T b a3 I b3 b2 b5 l⟩;apply List.eq_nil_iff_forall_not_mem.2;intro j hj;rcases T4 u y B C D hj with⟨_,l⟩|⟨_,l,_⟩|⟨_,l,_⟩|⟨_,l,_⟩<;>cases l
 have one:∀ blk a2 I,Toss c g w pr bx fr st a s0 blk a2 I→wpAny c.P .any ops Q 3 #[true,false,false,false] a2 I:=by
  intro blk a2 I hT;refine⟨fun G=>absurd G (a0F u y B C D (by simp)),fun i hi=>?_⟩;rcases T4 u y B C D hi with⟨_,l⟩|⟨rfl,_⟩|⟨rfl,_⟩|⟨_,_,_,l,_⟩<;>try (cases l; done)
  · refine Q9 (at_ 1 o1 rfl) V (hT.store e1 c9 c21 fun w3 O=>?_);show wpAny c.P .any ops Q 2 #[true,true,false,false] a2 w3;refine⟨fun G=>absurd G (a0F u y B C D (by simp)),fun i hi=>?_⟩;rcases T4 u y B C D hi with⟨_,l⟩|⟨_,l,_⟩|⟨rfl,_⟩|⟨_,_,_,_,l⟩<;>try (cases l; done)
    exact Q9 (at_ 2 o2 rfl) W (O.store e2 U c21 fun w4 R=>last blk a2 w4 R)
  · refine Q9 (at_ 2 o2 rfl) W (hT.store e2 U c21 fun w3 O=>?_);show wpAny c.P .any ops Q 2 #[true,false,true,false] a2 w3;refine⟨fun G=>absurd G (a0F u y B C D (by simp)),fun i hi=>?_⟩;rcases T4 u y B C D hi with⟨_,l⟩|⟨rfl,_⟩|⟨_,l,_⟩|⟨_,_,_,l,_⟩<;>try (cases l; done)
    exact Q9 (at_ 1 o1 rfl) V (O.store e1 c9 c21 fun w4 R=>last blk a2 w4 R)
 refine⟨fun G=>absurd G (a0F u y B C D (by simp)),fun i hi=>?_⟩;rcases T4 u y B C D hi with⟨rfl,_⟩|⟨_,_,l⟩|⟨_,_,l⟩|⟨_,_,l,_⟩<;>try (cases l; done)
 refine Q9 (at_ 0 o0 rfl) a0 ?_;unfold Oper.wp;rw[a4g e0 hz,Oper.upon_value,d0];show wpAny c.P .any ops Q 3 #[true,false,false,false] _ _;refine one w1.heap.size _ _ ⟨(E.alloc _ _).put_undef M Y _,b4.trans (Tr.alloc _ E.st.cli _),rfl,?_,⟨t,z,?_⟩,fun f hf=>Nat.lt_irrefl _ (E.st.cli _ f hf),?_,fun p hp=>?_,E.fresh _ (AJ _)⟩
 · have:s0 < a.tmps.size:=by rw[E.fr.size]; exact Y
   simp only[Act.eval,Act.put];exact E2 this
 · exact heap_alloc_new w1 _
 · cases hq:g.sr w1.heap.size with
   | none=>rfl
   | some p=>exact absurd (E.st.inn _ p hq) (Nat.lt_irrefl _)
 · have:=(E.fr.prv _ p hp).2.1;omega
theorem G7 {call:d8} {n:Nat} {A B:ACode} {fr:List AV} {st:St} {out:Out} (h:exec call n (.seq A B) fr st=some out) :
 (∃ i j,exec call n A fr st=some (.normal,i,j)∧exec call n B i j=some out)∨(exec call n A fr st=some out∧out.1≠.normal):=by
 simp only[exec]at h;split at h
 · rename_i i j t; exact .inl ⟨i,j,t,h⟩
 · rename_i t;obtain⟨e,l,st'⟩:=out;refine .inr ⟨h,fun hn=>?_⟩;simp only at hn;subst hn;exact t l st' h
theorem a5O {id:Nat} {ops:Array Oper} {d:Bool} {kill:List Nat} {x:Operand} {A B:Code} {D E:ACode} (R:a4o c ops d x=true) (T:a4v c A D) (U:a4v c B E)
 {call:d8} {n:Nat} {g:Gh} {w:World} {pr:Nat→Option Pl} {bx:Nat→Nat} {fr:List AV} {τ:Nat→AV} {st:St} {a:Act} {out:Out} {Q Q':Exit→Act→World→Prop}
 (G:Fx c) (hm:c.P.follows .mixedOrders=true) (J:F9 c.P c.gt call) (h:S c g w pr bx ⟨fr,τ,st⟩ a) (M:exec call n (.either kill D E) fr st=some out) (W:After c g w a out Q') {K:Act→World→Prop}
 (V:∀ F w',(Code.cond x A B).wp c.P Q' F w'→K F w'):(Code.region id ops d).wp c.P (Exit.then K Q) a w:=by
 simp only[exec]at M;obtain⟨oa,ob,N,O,Z,kb⟩:=a04 M;refine c41 hm R h fun b a1 w1 u i z I=>?_
 show K a1 w1;refine V a1 w1 ?_;have after:∀ o,C1 kill o=out→After c g w1 a1 o Q':=fun o Y a2 w2 g2 pr2 j a0 y l C=>by subst Y;exact W a2 w2 g2 pr2 j _ (y.trans u) (l.reset kill) (z.trans C)
 cases b with
 | true=>exact wp_cond (t:=true) I (T G hm J i N (after oa Z))
 | false=>exact wp_cond (t:=false) I (U G hm J i O (after ob kb))
theorem m3:∀ (x:Code) (y:ACode),m9 c x y=true→a4v c x y:=by
 intro x y h;unfold m9 at h;split at h
 · -- skip
   intro call n g w pr bx fr τ st a out Q F hm G E i D;simp only[exec,AC]at i;subst i;exact wp_skip (D a w g pr bx τ rfl E (Tr.refl _ _ _))
 · intro call n g w pr bx fr τ st a out Q F hm G E i D;simp only[beq_iff_eq]at h;subst h;simp only[exec,AC]at i;subst i;exact wp_exit (D a w g pr bx τ rfl E (Tr.refl _ _ _))
 · intro call n g w pr bx fr τ st a out Q F hm G E i D;simp only[exec,AC]at i;subst i;exact wp_ret (D a w g pr bx τ rfl E (Tr.refl _ _ _))
 · -- a region
   intro call n g w pr bx fr τ st a out Q F hm G E i D;rename_i id ops d kill ps;simp only[exec]at i;cases hr:g9 call ps ⟨i6 kill fr,fun _=>.undef,st⟩with
   | none=>simp[hr]at i
   | some σ =>simp only[hr,fL_eq,AC]at i;subst i;exact b5o F hm G h E hr fun a1 w1 g1 B z l j u=>D a1 w1 g1 B z σ.τ l j u
 · -- a region and a test
   intro call n g w pr bx fr τ st a out Q F hm G E i D;simp only[AA]at h;obtain⟨⟨⟨M,R⟩,N⟩,O⟩:=h;exact wp_seq (a3L M R (m3 _ _ N) (m3 _ _ O) F hm G E i D fun _ _ x=>x)
 · -- a region, a test, and more
   intro call n g w pr bx fr τ st a out Q F hm G E i D;simp only[AA]at h;obtain⟨⟨⟨⟨M,R⟩,N⟩,O⟩,Z⟩:=h;rename_i rest kill ps y Y B' W;rcases G7 i with⟨I,J,e1,e2⟩|⟨e1,hn⟩
   · refine wp_seq (a3L (Q':=Exit.then (rest.wp c.P Q) Q) M R (m3 _ _ N) (m3 _ _ O) F hm G E e1 (fun a1 w1 g1 B z C l j u=>?_) fun _ _ x=>wp_seq x);exact m3 _ _ Z F hm G j e2 (D.trans l u)
   · refine wp_seq (a3L (Q':=Exit.then (rest.wp c.P Q) Q) M R (m3 _ _ N) (m3 _ _ O) F hm G E e1 (fun a1 w1 g1 B z C l j u=>?_) fun _ _ x=>wp_seq x);have:=D a1 w1 g1 B z C l j u;revert this hn;cases out.1<;>simp[Ex.toExit,Exit.then]
 · -- a coin
   intro call n g w pr bx fr τ st a out Q F hm G E i D;simp only[AA]at h;obtain⟨⟨M,N⟩,O⟩:=h;exact wp_seq (a5O M (m3 _ _ N) (m3 _ _ O) F hm G E i D fun _ _ x=>x)
 · -- a coin, and more
   intro call n g w pr bx fr τ st a out Q F hm G E i D;simp only[AA]at h;obtain⟨⟨⟨M,N⟩,O⟩,Z⟩:=h;rename_i rest kill Y B' W;rcases G7 i with⟨I,J,e1,e2⟩|⟨e1,hn⟩
   · refine wp_seq (a5O (Q':=Exit.then (rest.wp c.P Q) Q) M (m3 _ _ N) (m3 _ _ O) F hm G E e1 (fun a1 w1 g1 B z C l j u=>?_) fun _ _ x=>wp_seq x);exact m3 _ _ Z F hm G j e2 (D.trans l u)
   · refine wp_seq (a5O (Q':=Exit.then (rest.wp c.P Q) Q) M (m3 _ _ N) (m3 _ _ O) F hm G E e1 (fun a1 w1 g1 B z C l j u=>?_) fun _ _ x=>wp_seq x);have:=D a1 w1 g1 B z C l j u;revert this hn;cases out.1<;>simp[Ex.toExit,Exit.then]
 · -- one after the other
   intro call n g w pr bx fr τ st a out Q F hm G E i D;simp only[AA]at h;obtain⟨M,R⟩:=h;refine wp_seq ?_;rcases G7 i with⟨I,J,e1,e2⟩|⟨e1,hn⟩
   · exact m3 _ _ M F hm G E e1 fun a1 w1 g1 B z C l j u=>m3 _ _ R F hm G j e2 (D.trans l u)
   · refine m3 _ _ M F hm G E e1 fun a1 w1 g1 B z C l j u=>?_
     have:=D a1 w1 g1 B z C l j u;revert this hn;cases out.1<;>simp[Ex.toExit,Exit.then]
 · -- a bare test
   intro call n g w pr bx fr τ st a out Q F hm G E i D;simp only[AA,List.isEmpty_iff]at h;obtain⟨⟨⟨⟨rfl,rfl⟩,R⟩,N⟩,O⟩:=h;simp only[exec,g9,i6,fL_eq]at i;have T:=E.reset [];split at i
   · rename_i hb;exact wp_cond (t:=true) (a2o T R hb) (m3 _ _ N F hm G T i D)
   · rename_i hb;exact wp_cond (t:=false) (a2o T R hb) (m3 _ _ O F hm G T i D)
   · cases i
 · -- a block
   intro call n g w pr bx fr τ st a out Q F hm G E i D;simp only[AA,beq_iff_eq]at h;obtain⟨rfl,M⟩:=h;simp only[exec]at i;refine wp_block ?_;split at i
   · rename_i V I J e1;simp only[AC]at i;subst i;refine m3 _ _ M F hm G E e1 fun a1 w1 g1 B z C l j u=>?_
     have:=D a1 w1 g1 B z C l j u;simp only[Ex.toExit,Exit.inBlock];split
     · rename_i e; simpa[e,Ex.toExit]using this
     · rename_i e; simpa[e,Ex.toExit]using this
   · rename_i U;refine m3 _ _ M F hm G E i fun a1 w1 g1 B z C l j u=>?_
     have:=D a1 w1 g1 B z C l j u;obtain⟨e,I,J⟩:=out;cases e with
     | normal=>exact this
     | exit V=>exact absurd i (U V I J)
     | ret=>exact this
 · -- a loop
   intro call n g w pr bx fr τ st a out Q F hm G E i D;rename_i A Y;simp only[exec]at i;refine wp_loop_rounds n ?_;have body:a4v c A Y:=m3 A Y h;have key:∀ (m:Nat) (g:Gh) (w:World) (pr:Nat→Option Pl) (bx:Nat→Nat) (fr:List AV) (τ:Nat→AV) (st:St) (a:Act),S c g w pr bx ⟨fr,τ,st⟩ a→E5 (exec call n Y) m fr st=some out→After c g w a out Q→Code.rounds c.P A Q m a w:=by
    intro m;induction m with
    | zero=>intro g w pr bx fr τ st a _ i; simp[E5]at i
    | succ m ih =>
     intro g w pr bx fr τ st a E i D;rw[rounds_succ];simp only[E5]at i;split at i
     · rename_i I J e1;exact body F hm G E e1 fun a1 w1 g1 B z C l j u=>ih g1 w1 B z I C J a1 j i (D.trans l u)
     · rename_i U;refine body F hm G E i fun a1 w1 g1 B z C l j u=>?_
       have:=D a1 w1 g1 B z C l j u;obtain⟨e,I,J⟩:=out;cases e with
       | normal=>exact absurd i (U I J)
       | exit V=>exact this
       | ret=>exact this
   exact key n g w pr bx fr τ st a E i D
 · -- a scope
   intro call n g w pr bx fr τ st a out Q F hm G E i D;refine wp_scope_straight (m3 _ _ h F hm G E i fun a1 w1 g1 B z C l j u=>?_);have:=D a1 w1 g1 B z C l j u;revert this;cases out.1<;>simp[Ex.toExit,Exit.noGoto]
 · cases h
termination_by x=>x
end
end Go.Cb
