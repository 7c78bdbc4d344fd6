import Derived.Test.YtgaibigpannjfaaGreatDoorXAms1
import Derived.Orders
import Derived.Scope
import Derived.LoopN
set_option maxRecDepth 4000
set_option linter.all false
namespace Go.Cb
open Classical
section
variable {c:Cx} {g:Gh} {w:World} {pr:Nat→Option Pl} {bx:Nat→Nat} {σ:Sig} {a:Act} {o:Oper} {call:e9} {b b' r:AV} {st st':St} {fr as:List AV}
theorem a9w {mine:Nat→Prop} {x:AV} {v:Value} (h:ArgOK g w bx fr mine x v) (j:x.plain=true):RowOK g w x.cellsW v.cells.toList:=by
 have hm:=a2M h j;have B:=h.plain j;cases x with
 | agg cs =>have z:=B.rel;simp only[Rel]at z;obtain⟨arr,rfl,t,C⟩:=z;exact⟨t,C,fun k y u i hu=>B.agg cs rfl arr rfl k y u i (by simpa[Value.cells]using hu)⟩
 | list own xs =>
  have z:=B.rel;simp only[Rel]at z;obtain⟨a0,n,cap,rfl,l⟩:=z;refine⟨by simp only[AV.cellsW,Value.cells,RelL]; exact⟨_,[],rfl,by simp only[Rel]; exact⟨a0,n,cap,rfl,l⟩,rfl⟩,by simp[Value.cells,Value.oneCell'],fun k y u i hu ys e=>?_⟩;obtain rfl:k=0:=by cases k with|zero=>rfl|succ k=>simp[AV.cellsW]at i
  simp[AV.cellsW]at i;simp[Value.cells]at hu;subst hu;rw[← i]at e;simp only[AV.list.injEq,Bool.and_eq_true,List.isEmpty_iff]at e;obtain⟨⟨rfl,rfl⟩,rfl⟩:=e;rcases B.own [] rfl with⟨a1,E,t⟩|⟨_,_,_,_,_,_,_,_,t,_⟩
  · exact⟨a1,E,t⟩
  · exact absurd rfl t
 | undef=>simp[AV.plain]at j
 | loc=>simp[AV.plain]at j
 | box=>simp[AV.plain]at j
 | tuple=>simp[AV.plain]at j
 | fresh=>simp[AV.plain]at j
 | _ =>
  refine⟨hm.rel,hm.one,fun k y u i _ ys e=>?_⟩;obtain rfl:k=0:=by cases k with|zero=>rfl|succ k=>simp[AV.cellsW]at i
  simp[AV.cellsW]at i;rw[← i]at e;cases e
theorem b7G (h:S c g w pr bx σ a) {x:Operand} {p:Opd} (l:F9 c x p=true) {i f:Nat} (t:p.read σ=.loc i f):p.spend σ=σ:=by
 cases j:p.src with
 | some src=>exact(O4 h l j src).2.1 i f t
 | none=>cases p<;>simp_all [Opd.src,Opd.spend]
theorem a5V (B:Fx c) (h:S c g w pr bx σ a) {x:Operand} {p:Opd} {d:Dst} (ho:o.op=.move x∨o.op=.assign x) (y:F9 c x p=true) (E:B9 c o.dst d=true)
 {next:Act→World→Prop} {Q:Exit→Act→World→Prop} (i:Post c g w a (d.put (p.read σ) (p.spend σ)) next):o.wp c.P a w next Q:=by
 obtain⟨l,C,t,_⟩:=P9 h y d.pl;have j:(execOp a.eval o).run c.P w=.ok (.value (a.eval x)) w:=by rcases ho with ho|ho<;>simp[execOp,ho]
 have u:ArgOK g w bx (p.spend σ).fr (fun b=>l b=some d.pl) (p.read σ) (a.eval x):=by
  cases z:p.read σ<;>rw[z]at t<;>first
   | exact t
   | (rw[b7G h y z]; exact t)
 unfold Oper.wp;rw[j];exact i _ _ g l bx (C9 _ _ _) (Z2 B C E (r:=p.read σ) (v:=a.eval x) u fun _ x=>x) (Tr.refl _ _ _)
theorem b2X {elem:TypeId} {x:Operand} (i:o.op=.box elem x) :
 (execOp a.eval o).run c.P w=.ok (.value (.pointer (some (ad w.heap.size 0)))) (w.alloc (.cells (a.eval x).cells elem)):=by
 simp[execOp,i,Instr.box,newVar,newRow]
theorem a4Q {elem:TypeId} {z:Value} (l:o.op=.alloc elem) (j:(c.P.info? elem).bind (·.zero)=some z) :
 (execOp a.eval o).run c.P w=.ok (.value (.pointer (some (ad w.heap.size 0)))) (w.alloc (.cells z.cells elem)):=by
 obtain⟨i,hi,j⟩:=Option.bind_eq_some_iff.1 j;simp[execOp,l,Instr.alloc,newVar,newRow,zeroValue,typeInfo,hi,j]
theorem b2U (y:Fx c) (h:S c g w pr bx σ a) {i s:Nat} (u:o.dst=some s) (hs:c.slots[i]?=some s) (hi:i∈c.bxs) (hu:σ.fr.getD i .undef=.undef) {cs:List AV} {arr:Array Value} {T:TypeId}
 (l:(execOp a.eval o).run c.P w=.ok (.value (.pointer (some (ad w.heap.size 0)))) (w.alloc (.cells arr T))) (B:RowOK g w cs arr.toList) {next:Act→World→Prop} {Q:Exit→Act→World→Prop}
 (j:Post c g w a { σ with fr:=σ.fr.set i (.box cs) } next):o.wp c.P a w next Q:=by
 obtain⟨x,t,z⟩:=b7Y y h hs hi hu (T:=T) B;unfold Oper.wp;rw[l,Oper.upon_value,u];exact j _ _ g x t rfl z (Tr.alloc _ h.st.cli _)
theorem a6j (E:Fx c) (h:S c g w pr bx σ a) {d:Dst} (G:B9 c o.dst d=true) {C:Obj} {O:_root_.Go.Obj} {r:AV} {v:Value} (l:(execOp a.eval o).run c.P w=.ok (.value v) (w.alloc O))
 {cap:Nat} (J:∀ c t z,O=.cells c t z→z=(0,0)) (u:Ext g w (g.more w.heap.size cap) (w.alloc O)→ObjOK (g.more w.heap.size cap) (w.alloc O) g.n C)
 (I:(r=.ptr σ.st.length 0∧v=.pointer (some (ad w.heap.size 0)))∨(r=.map σ.st.length∧v=.map (some w.heap.size))∨(∃ k B,r=.sl σ.st.length 0 k B∧v=.slice (some (ad w.heap.size 0)) k k∧k*B=cap)) {next:Act→World→Prop} {Q:Exit→Act→World→Prop}
 (j:Post c g w a (d.put r { σ with st:=σ.st++[C] }) next):o.wp c.P a w next Q:=by
 obtain⟨F,y,hm,i⟩:=c6O h (O:=O) J u;unfold Oper.wp;rw[l,Oper.upon_value];refine j _ _ _ pr bx (C9 _ _ _) (Z2 E F G (mine:=No) (r:=r) (v:=v) ?_ fun _ x=>x.elim) y;rcases I with⟨rfl,rfl⟩|⟨rfl,rfl⟩|⟨k,B,rfl,rfl,hk⟩
 · exact(show ValOK _ _ No (.ptr _ _) _ from ValOK.mk' (by simp only[Rel]; exact⟨i,by rw[hm]⟩) (by simp) (by simp))
 · exact(show ValOK _ _ No (.map _) _ from ValOK.mk' (by simp only[Rel]; exact⟨i,by rw[hm]⟩) (by simp) (by simp))
 · exact(show ValOK _ _ No (.sl _ _ _ _) _ from ValOK.mk' (by simp only[Rel]; exact⟨i,k,by rw[hm],Nat.le_refl _,by simp[Gh.more,h.st.n,hk]⟩) (by simp) (by simp))
def CallPost (g:Gh) (w:World) (st':St) (res:AV) (e:Ending) (w':World):Prop :=
 ∃ v g',e=.returned v∧SRel g' w' st'∧Tr No g w g' w'∧ValOK g' w' (fun b=>g'.sr b=none∧b < w'.heap.size∧(w.heap.size≤b∨g.sr b≠none)) res v
def a0o (P:Program) (f:Nat):Bool:=match P.funcs[f]? with
 | some fn=>!(fn.name == "runtime.NumGoroutine") && fn.body.isSome
 | none=>false
theorem a2G {P:Program} {f:FuncId} (h:a0o P f=true) (args:Array Value) (w:World):(callFunc f args).run P w=.ok (.enter f args) w:=by
 unfold a0o at h;split at h
 · rename_i fn l;simp only[Bool.and_eq_true,Bool.not_eq_true']at h;obtain⟨j,i⟩:=h;have i:fn.body.isNone=false:=by cases t:fn.body<;>simp_all
   simp only[callFunc,Sem.run_bind,run_program,Result.andThen_ok,l,j,i,Bool.false_eq_true,if_false,Sem.run_pure]
 · cases h
def L6 (P:Program) (gt:List (Nat×List AV)) (call:e9):Prop :=
 ∀ (f:Nat) (args:List AV) (st:St) (res:AV) (st':St),call f args st=some (res,st')→(∀ x∈args,x.weak=x) →
  a0o P f=true∧∀ (g:Gh) (w:World) (vs:List Value),SRel g w st→Globs gt g w→RelL g w args vs→Calls P f vs.toArray w (CallPost g w st' res)
theorem b0P (d:Dst) (r:AV) (σ:Sig) (st':St):d.put r { σ with st:=st' }={ d.put r σ with st:=st' }:=by cases d<;>rfl
theorem a9Y (V:Fx c) (h:S c g w pr bx σ a) {f:FuncId} {vs:Array Value} {res:AV} {d:Dst} (G:(execOp a.eval o).run c.P w=.ok (.enter f vs) w)
 (W:Calls c.P f vs w (CallPost g w st' res)) (X:B9 c o.dst d=true) {next:Act→World→Prop} {Q:Exit→Act→World→Prop} (u:Post c g w a (d.put res { σ with st:=st' }) next):o.wp c.P a w next Q:=by
 unfold Oper.wp;rw[G,Oper.upon_enter];refine W.mono fun e w' Y=>?_
 obtain⟨v,g',rfl,I,j,U⟩:=Y;show next (a.put o.dst v) w'
 have O:∀ i f,res≠.loc i f:=fun i f e=>by rw[e]at U; exact U.rel
 have z:∀ b p,g'.sr b=some p→c.A b:=fun b p l=>by
  rcases Nat.lt_or_ge b w.heap.size with N|hge
  · cases C:g.sr b with
    | some q=>exact h.stA b q C
    | none=>have:=(j.keep b N C (fun x=>x)).2; rw[l]at this; cases this
  · exact h.fresh b hge
 have t:∀ b p,pr b=some p→M8 g w g' w' b∧g'.sr b=none:=fun b p l=>by obtain⟨J,E,_⟩:=h.fr.prv b p l;exact j.keep b E J (fun x=>x)
 cases y:o.dst with
 | none =>
  have M:d=.none:=by cases d<;>simp_all [B9]
  subst M;refine u _ _ g' pr bx rfl ⟨h.fr.evolve j,I,h.gl.ext j.ext,fun b l=>h.fresh b (Nat.le_trans j.size l),z⟩ (j.wider fun _ x=>x.elim)
 | some s =>
  rw[← y];let pr2:Nat→Option Pl:=fun b=>if pr b=none∧g'.sr b=none∧b < w'.heap.size∧(w.heap.size≤b∨g.sr b≠none)then some d.pl else pr b
  have F:∀ b p,pr b=some p→pr2 b=some p:=fun b p l=>by simp only[pr2];rw[if_neg (by rw[l]; simp)];exact l
  refine u _ _ g' pr2 bx (C9 _ _ _) (b0P d res σ st' ▸ a3y V h X (by rw[y]; rfl) j.ext I (fun b p l _=>⟨F b p l,(t b p l).1⟩) (fun b p l=>?_) j.size z ?_) (j.wider fun _ x=>x.elim)
  · simp only[pr2]at l;split at l
    · rename_i B;obtain⟨_,E,L,h4⟩:=B;refine⟨E,L,?_⟩;rcases h4 with h4|h4
      · exact h.fresh b h4
      · cases C:g.sr b with
        | none=>exact absurd C h4
        | some q=>exact h.stA b q C
    · obtain⟨J,E,L⟩:=h.fr.prv b p l;exact⟨(t b p l).2,Nat.lt_of_lt_of_le E j.size,L⟩
  · refine ArgOK.of_val (U.mono (Ext.refl _ _) fun b l=>⟨?_,rfl,fun _ x=>x⟩) O;have hn:pr b=none:=by
     cases C:pr b with
     | none=>rfl
     | some q =>
      obtain⟨J,E,_⟩:=h.fr.prv b q C;rcases l.2.2 with h4|h4
      · omega
      · exact absurd J h4
    simp only[pr2];rw[if_pos ⟨hn,l⟩]
theorem OwnN.own {x:AV} {v:Value} {mine:Nat→Prop} (h:OwnN x v):OwnC g w mine x v:=fun xs e=>.inl (h xs e)
theorem b49 {mine:Nat→Prop} {x:AV} {v:Value} (h:OwnC g w mine x v):OwnN x.cellW1 v:=by
 intro xs e;cases x<;>simp only[AV.cellW1]at e<;>try (cases e; done)
 rename_i o ys;simp only[AV.list.injEq,Bool.and_eq_true,List.isEmpty_iff]at e;obtain⟨⟨rfl,rfl⟩,rfl⟩:=e;rcases h [] rfl with i|⟨_,_,_,_,_,_,_,_,i,_⟩
 · exact i
 · exact absurd rfl i
theorem Rel.cellW1 {x:AV} {v:Value} (h:Rel g w x v):Rel g w x.cellW1 v:=by cases x<;>first|exact h|(simp only[AV.cellW1,Rel]at h ⊢; exact h)
theorem RelL.cellW1:∀ {as:List AV} {vs:List Value},RelL g w as vs→RelL g w (as.map AV.cellW1) vs
 | [],_,h=>h
 | x::as,_,h=>by simp only[RelL,List.map_cons]at h ⊢;obtain⟨v,r,e,i,j⟩:=h;exact⟨v,r,e,i.cellW1,RelL.cellW1 j⟩
theorem a7C {mine:Nat→Prop} {x:AV} {v:Value} (h:ArgOK g w bx fr mine x v) (j:x.plain=true):RowOK g w (x.cells.map AV.cellW1) v.cells.toList:=by have hm:=a2M h j;refine⟨hm.rel.cellW1,hm.one,fun k y u i hu=>?_⟩;rw[List.getElem?_map]at i;obtain⟨z,l,rfl⟩:=Option.map_eq_some_iff.1 i;exact b49 (hm.own k z u l hu)
theorem c08 {cs u:List AV} {us vs:List Value} {off:Nat} (h:RowOK g w cs us) (l:RowOK g w u vs) (E:off+vs.length≤us.length):RowOK g w (B7 cs off u) (us.take off++vs++us.drop (off+vs.length)):=by
 obtain⟨G,I⟩:=a6o (off:=off) h.rel h.one l.rel l.one;refine⟨G,I,fun k x v y F=>?_⟩;have B:=h.rel.length;have C:=l.rel.length;unfold B7 at y;have t:=a1W (by omega) y;have i:=a1W (by omega) F;rcases t with⟨z,z2⟩|⟨z,z2,z3⟩|⟨z,z2⟩
 · rcases i with⟨_,v2⟩|⟨j,_⟩|⟨j,_⟩
   · exact h.own k x v z2 v2
   · omega
   · omega
 · rcases i with⟨j,_⟩|⟨_,_,v3⟩|⟨j,_⟩
   · omega
   · exact l.own _ x v z3 v3
   · omega
 · rcases i with⟨j,_⟩|⟨_,j,_⟩|⟨_,v2⟩
   · omega
   · omega
   · exact h.own k x v z2 v2
inductive RowsW (g:Gh) (w:World):List AV→List Value→Prop where
 | nil:RowsW g w [] []
 | cons {p:AV} {v:Value} {ps:List AV} {vs:List Value} (h:p.plain=true→RowOK g w (p.cells.map AV.cellW1) v.cells.toList) (t:RowsW g w ps vs):RowsW g w (p::ps) (v::vs)
theorem a1x {u:Nat}:∀ {is:List Nat} {G:List AV} {rs l:List (List AV)} {arr:Array Value} {vs:List Value},
 B0 u is G rs=some l→RowsW g w G vs→(∀ x∈rs,x.length=u)→RowOK g w rs.flatten arr.toList →
 ∃ j,Instr.fill (fun i=>some (i*u,u)) arr (is.zip vs)=some j∧(∀ x∈l,x.length=u)∧RowOK g w l.flatten j.toList∧l.length=rs.length
 | [],[],rs,l,arr,vs,h,ha,hr,hl=>by simp only[B0,Option.some.injEq]at h;subst h;exact⟨arr,by simp[Instr.fill],hr,hl,rfl⟩
 | i::is,p::G,rs,l,arr,vs,h,ha,hr,hl=>by
  simp only[B0]at h;split at h
  · rename_i S;obtain⟨y,B,hi⟩:=S;cases ha with
    | cons N O =>
     rename_i v vs;have t:=N y;have z:(p.cells.map AV.cellW1).length=u:=by simpa using B
     have F:v.cells.toList.length=v.cells.size:=by simp
     have W:v.cells.size=u:=by have:=t.rel.length; omega
     have E:=X4 hr;have C:rs.flatten.length=arr.size:=hl.rel.length.trans (by simp);have V:i*u+u≤arr.size:=by rw[← C,E,← Nat.succ_mul]; exact Nat.mul_le_mul_right _ hi
     have U:=a6U v (i*u) arr (by omega);have I:=c08 (off:=i*u) hl t (by simp; omega);rw[F,← U]at I;rw[← a2P z hr hi]at I;obtain⟨j,J,e2,L,M⟩:=a1x h O (fun x hx=>by
      rcases List.mem_or_eq_of_mem_set hx with hx|hx
      · exact hr x hx
      · rw[hx]; exact z) I
     refine⟨j,?_,e2,L,by rw[M,List.length_set]⟩;simp only[List.zip_cons_cons,Instr.fill];rw[if_neg (by simp; omega)];exact J
  · cases h
 | [],_::_,_,_,_,_,h,_,_,_=>by simp[B0]at h
 | _::_,[],_,_,_,_,h,_,_,_=>by simp[B0]at h
theorem b30 (fx:Fx c) (h:S c g w pr bx σ a) {t e len sz:Nat} {parts:Array (Nat×Operand)} {G:TypeInfo} {z:Value} {zero rs:List (List AV)} {z1:List AV} {is:List Nat} {q:Opd} {x:Operand} {d:Dst}
 (ho:o.op=.buildSlice t len parts) (hu:c.P.underlying t=some (.slice e)) (b4:c.P.info? e=some G) (hz:G.zero=some z) (b7:G.size=sz) (M:z.cells.size=sz) (b1:len*sz≤2 ^ 24) (V:len*sz≠0)
 (c1:H0 z.cells.toList z1=true) (y:zero=List.replicate len z1) (b5:parts.toList.map (·.1)=is) (hx:parts.toList.map (·.2)=[x]) (hq:F9 c x q=true) (hs:B0 sz is [q.read σ] zero=some rs)
 (hd:B9 c o.dst d=true) (L:o.dst.isSome=true) {next:Act→World→Prop} {Q:Exit→Act→World→Prop} (J:Post c g w a (d.put (.fresh rs) (q.spend σ)) next):o.wp c.P a w next Q:=by
 subst b7; subst b5;obtain⟨b0,N,hA,_⟩:=P9 h hq .fly;have Z:(q.spend σ).st=σ.st:=by cases q<;>rfl
 have b3:parts.toList.map (fun p=>a.eval p.2)=[a.eval x]:=by have:=congrArg (List.map a.eval) hx;simpa using this
 have hr:RowsW g w [q.read σ] (parts.toList.map fun p=>a.eval p.2):=by rw[b3];exact .cons (fun hp=>a7C hA hp) .nil
 obtain⟨q1,q2,q3⟩:=L5 c1 g w;have a2:z1.length=G.size:=by rw[q1.length,Array.length_toList]; exact M
 have F:∀ x∈zero,x.length=G.size:=fun x hx=>by rw[y]at hx; rw[List.eq_of_mem_replicate hx]; exact a2
 have X:∀ n,RowOK g w (List.replicate n z1).flatten (List.replicate n z.cells.toList).flatten:=by
  intro n;induction n with
  | zero=>exact⟨by simp[RelL],by simp,by simp⟩
  | succ n ih =>rw[List.replicate_succ,List.replicate_succ,List.flatten_cons,List.flatten_cons];exact RowOK.append ⟨q1,q2,q3⟩ ih
 have c0:=a1M z.cells len;obtain⟨arr,e1,e2,O,e5⟩:=a1x (arr:=(Array.range (len*z.cells.size)).map (z.cells[· % z.cells.size]!)) hs hr F (by rw[c0,y]; exact X len);rw[M]at e1;rw[← a2D]at e1;have Y:=run_buildSlice (P:=c.P) w t e len (parts.map fun(i,x)=>(i,a.eval x)) arr G z hu b4 hz (by omega) V (by rw[M,show(parts.map fun(i,x)=>(i,a.eval x)).toList=parts.toList.map fun p=>(p.1,a.eval p.2)by simp]; exact e1);have I:rs.length=len:=by rw[e5,y,List.length_replicate]
 have c3:arr.toList.length=len*G.size:=by rw[← O.rel.length,X4 e2,I]
 let g2:=g.claim w.heap.size 0 (len*G.size)
 have U:=heap_alloc_new w (_root_.Go.Obj.cells arr e);have he:Ext g w g2 (w.alloc (.cells arr e)):=⟨Nat.le_refl _,fun _ _=>rfl,fun _ _=>rfl,fun b f C=>.inl C,fun b f C=>World.cell?_alloc_lt _ _ _ (h.st.cli b f C)⟩;have l:∀ b,b < w.heap.size→M8 g w g2 (w.alloc (.cells arr e)) b:=fun b E=>⟨heap_alloc_old w _ E,fun f C=>by
  rcases C with C|⟨e',_⟩
  · exact C
  · omega⟩
 have B:∀ j,(w.alloc (.cells arr e)).cell? (ad w.heap.size j)=arr.toList[j]?:=fun j=>by rw[cell_of_row _ _ j arr e (0,0) U,← Array.getElem?_toList]
 have W:Rel g2 (w.alloc (.cells arr e)) (.fresh rs) (.slice (some (ad w.heap.size 0)) len len):=by
  simp only[Rel];refine⟨_,_,_,G.size,rfl,I.symm,Nat.le_refl _,RelRows.mk e2 (O.rel.ext he _ _) (fun j u hj=>?_) O.one (fun j hj=>.inr ⟨rfl,by omega,by omega⟩),fun k ys hk=>?_⟩
  · show(w.alloc (.cells arr e)).cell? (ad w.heap.size (0+j))=some u;rw[Nat.zero_add,B];exact hj
  · obtain⟨v,hv,_⟩:=O.rel.get hk;obtain⟨a0,n0,b8⟩:=O.own k _ v hk hv ys rfl;have c4:=(List.getElem?_eq_some_iff.1 hv).1;refine⟨.inr ⟨rfl,by omega,by omega⟩,a0,n0,?_⟩;rw[B,hv,b8]
 unfold Oper.wp;rw[show(execOp a.eval o).run c.P w=.ok (.value (.slice (some ⟨w.heap.size,0,none⟩) len len)) (w.alloc (.cells arr e))by simp only[execOp,ho,Sem.run_bind,Y,Result.andThen_ok,Sem.run_pure]];have a1:SRel g2 (w.alloc (.cells arr e)) σ.st:=h.st.evolve he rfl (by simp) (fun b q hq=>⟨hq,l b (h.st.inn b q hq)⟩) (fun _ _ x=>x) (fun b f C=>by
  rcases C with C|⟨e',_⟩
  · exact .inl C
  · right; simp; omega)
 refine J _ _ g2 b0 bx (C9 _ _ _) ?_ ⟨he,by simp,Env.alloc w _ (by intro c t z e; cases e; rfl),fun b E b6 _=>⟨l b E,b6⟩⟩;have:=a3y fx N hd L he a1 (pr2:=b0) (fun b p E _=>⟨E,l b (N.fr.prv b p E).2.1⟩)
  (fun b p E=>⟨(N.fr.prv b p E).1,by have:=(N.fr.prv b p E).2.1; simp; omega,(N.fr.prv b p E).2.2⟩) (by simp) N.stA (r:=.fresh rs) (v:=.slice (some ⟨w.heap.size,0,none⟩) len len)
  ⟨W,fun zs ez=>(by cases ez),fun _ ez=>(by cases ez)⟩
 have b2:∀ (τ:Sig),τ.st=σ.st→({ d.put (.fresh rs) τ with st:=σ.st }:Sig)=d.put (.fresh rs) τ:=fun τ c2=>by cases d<;>simp[Dst.put,← c2]
 rw[b2 _ Z]at this;exact this
theorem b4w (fx:Fx c) (h:S c g w pr bx σ a) {t e len E:Nat} {parts:Array (Nat×Operand)} {y:TypeInfo} {z:Value} {zero rs:List (List AV)} {U:List AV} {is:List Nat} {q:Opd} {x:Operand} {d:Dst}
 (ho:o.op=.buildSlice t len parts) (hu:c.P.underlying t=some (.slice e)) (Z:c.P.info? e=some y) (hz:y.zero=some z) (a2:y.size=E) (C:z.cells.size=E) (N:len*E≤2 ^ 24) (G:len*E≠0)
 (b1:H0 z.cells.toList U=true) (j:zero=List.replicate len U) (a0:parts.toList.map (·.1)=is) (O:parts.toList.map (·.2)=[x]) (hq:F9 c x q=true) (hs:B0 E is [q.read σ] zero=some rs)
 (hd:B9 c o.dst d=true) (a1:o.dst.isSome=true) {next:Act→World→Prop} {Q:Exit→Act→World→Prop} (l:Post c g w a (d.put (.sl σ.st.length 0 len E) { q.spend σ with st:=σ.st++[.cells rs.flatten] }) next):o.wp c.P a w next Q:=by
 subst a2; subst a0;obtain⟨b2,hS,hA,_⟩:=P9 h hq .fly;have L:(q.spend σ).st=σ.st:=by cases q<;>rfl
 have Y:parts.toList.map (fun p=>a.eval p.2)=[a.eval x]:=by have:=congrArg (List.map a.eval) O;simpa using this
 have hr:RowsW g w [q.read σ] (parts.toList.map fun p=>a.eval p.2):=by rw[Y];exact .cons (fun hp=>a7C hA hp) .nil
 obtain⟨q1,q2,q3⟩:=L5 b1 g w;have M:U.length=y.size:=by rw[q1.length,Array.length_toList]; exact C
 have u:∀ x∈zero,x.length=y.size:=fun x O=>by rw[j]at O; rw[List.eq_of_mem_replicate O]; exact M
 have I:∀ n,RowOK g w (List.replicate n U).flatten (List.replicate n z.cells.toList).flatten:=by
  intro n;induction n with
  | zero=>exact⟨by simp[RelL],by simp,by simp⟩
  | succ n ih =>rw[List.replicate_succ,List.replicate_succ,List.flatten_cons,List.flatten_cons];exact RowOK.append ⟨q1,q2,q3⟩ ih
 have b0:=a1M z.cells len;obtain⟨arr,V,e2,e3,e5⟩:=a1x (arr:=(Array.range (len*z.cells.size)).map (z.cells[· % z.cells.size]!)) hs hr u (by rw[b0,j]; exact I len);rw[C]at V;rw[← a2D]at V;have J:=run_buildSlice (P:=c.P) w t e len (parts.map fun(i,x)=>(i,a.eval x)) arr y z hu Z hz (by omega) G (by rw[C,show(parts.map fun(i,x)=>(i,a.eval x)).toList=parts.toList.map fun p=>(p.1,a.eval p.2)by simp]; exact V);have F:rs.length=len:=by rw[e5,j,List.length_replicate]
 have W:arr.toList.length=len*y.size:=by rw[← e3.rel.length,X4 e2,F]
 have X:arr.size=len*y.size:=by rw[← W,Array.length_toList]
 have B:(execOp a.eval o).run c.P w=.ok (.value (.slice (some (ad w.heap.size 0)) len len)) (w.alloc (.cells arr e)):=by simp only[execOp,ho,Sem.run_bind,J,Result.andThen_ok,Sem.run_pure]
 rw[← L]at l;exact a6j fx hS hd B (cap:=arr.size) (by intro c t z e; cases e; rfl) (a1Y hS e3) (.inr (.inr ⟨len,y.size,rfl,rfl,X.symm⟩)) l
noncomputable def Gh.grow (g:Gh) (od:Option Nat) (bb cpv:Nat):Gh where
 n:=g.n+1
 m:=fun o=>if o=g.n then bb else g.m o
 cl:=g.cl
 sr:=fun b=>if b=bb then some (g.n,none)else match g.sr b with
  | some (o,some k)=>if od=some o then some (g.n,some k)else some (o,some k)
  | r=>r
 cp:=fun o=>if o=g.n then cpv else g.cp o
theorem c7I {od:Option Nat} {bb cpv b o:Nat} {k:Option Nat} (h:g.sr b=some (o,k)) (i:b≠bb) (j:od≠some o):(g.grow od bb cpv).sr b=some (o,k):=by
 simp only[Gh.grow];rw[if_neg i,h];cases k with
 | none=>rfl
 | some k=>simp only; rw[if_neg j]
theorem b3s {bb cpv b o k:Nat} (h:g.sr b=some (o,some k)) (i:b≠bb):(g.grow (some o) bb cpv).sr b=some (g.n,some k):=by simp only[Gh.grow];rw[if_neg i,h];simp
theorem b0g {od:Option Nat} {bb cpv b:Nat} (h:g.sr b=none) (i:b≠bb):(g.grow od bb cpv).sr b=none:=by simp only[Gh.grow];rw[if_neg i,h]
theorem a6G {od:Option Nat} {bb cpv b:Nat} {p:Nat×Option Nat} (h:(g.grow od bb cpv).sr b=some p):b=bb∨∃ q,g.sr b=some q:=by
 simp only[Gh.grow]at h;split at h
 · exact .inl ‹_›
 · cases i:g.sr b with
   | none=>rw[i]at h; cases h
   | some q=>exact .inr ⟨q,rfl⟩
theorem c2n (h:S c g w pr bx σ a) {l:World} {od:Option Nat} {bb cpv:Nat} {cs:List AV} {st2:St} (E:Env w l) (t:w.heap.size≤l.heap.size) (U:bb < l.heap.size)
 (y:∀ b,b≠bb→b < w.heap.size→l.heap[b]?=w.heap[b]?) (X:∀ f,¬ g.cl bb f) (z:bb=w.heap.size∨∃ o,od=some o∧g.sr bb=some (o,none))
 (V:st2.length=g.n+1) (I:∀ x C,st2[x]?=some C→(x=g.n∧C=.cells cs)∨C=.dead∨(σ.st[x]?=some C∧od≠some x))
 (Z:Ext g w (g.grow od bb cpv) l→ObjOK (g.grow od bb cpv) l g.n (.cells cs)) :
 S c (g.grow od bb cpv) l pr bx { σ with st:=st2 } a∧Tr c.A g w (g.grow od bb cpv) l:=by
 have N:Ext g w (g.grow od bb cpv) l:=⟨by simp[Gh.grow],fun o u=>by simp[Gh.grow,Nat.ne_of_lt u],fun o u=>by simp[Gh.grow,Nat.ne_of_lt u],fun _ _ h=>h,
  fun b f O=>World.cell?_of_block (y b (fun e=>X f (e ▸ O)) (h.st.cli b f O))⟩
 have j:∀ b,b≠bb→b < w.heap.size→M8 g w (g.grow od bb cpv) l b:=fun b L M=>⟨y b L M,fun _ x=>x⟩
 have F:∀ b,b < w.heap.size→g.sr b=none→b≠bb:=fun b i hs e=>by
  subst e;rcases z with rfl|⟨o,_,u⟩
  · omega
  · rw[hs]at u; cases u
 have J:Tr No g w (g.grow od bb cpv) l:=⟨N,t,E,fun b i hs _=>⟨j b (F b i hs) i,b0g hs (F b i hs)⟩⟩;have hA:c.A bb:=by
  rcases z with rfl|⟨o,_,u⟩
  · exact h.fresh _ (Nat.le_refl _)
  · exact h.stA _ _ u
 refine⟨⟨h.fr.evolve J,⟨V.symm ▸ rfl,fun x C hx=>?_,fun b p i=>?_,fun b f O=>Nat.lt_of_lt_of_le (h.st.cli b f O) t⟩,h.gl.ext N,fun b i=>h.fresh b (Nat.le_trans t i),fun b p i=>?_⟩,J.wider fun _ x=>x.elim⟩
 · rcases I x C hx with⟨rfl,rfl⟩|rfl|⟨L,M⟩
   · exact Z N
   · trivial
   · refine(h.st.obj x C L).mono (by rw[h.st.n]; exact(List.getElem?_eq_some_iff.1 L).1) N fun b k i=>?_
     have W:=h.st.inn b _ i;have G:b≠bb:=fun e=>by
      subst e;rcases z with rfl|⟨o,Y,B⟩
      · omega
      · rw[i]at B;simp only[Option.some.injEq,Prod.mk.injEq]at B;exact M (Y.trans (by rw[B.1]))
     exact⟨c7I i G M,j b G W⟩
 · rcases a6G i with rfl|⟨q,hq⟩
   · exact U
   · exact Nat.lt_of_lt_of_le (h.st.inn b q hq) t
 · rcases a6G i with rfl|⟨q,hq⟩
   · exact hA
   · exact h.stA b q hq
theorem Z5 {t ty e:TypeId} {i:TypeInfo} {z:Value} (hu:c.P.underlying t=some (.slice e)) (hi:c.P.info? e=some i) (W:i.zero=some z) (V:z.cells.size=i.size) (N:0 < i.bytes)
 {a0:Option Addr} {n cap m c1:Nat} {us vs:List Value} {a1:Addr} (I:a0=none→cap=0) (Y:n≤cap) (L:us.length=n*i.size) (Z:∀ F,a0=some F→∀ (j:Nat) u,us[j]?=some u→w.cell? (F.add j)=some u)
 (E:vs.length=m*i.size) (X:∀ (j:Nat) u,vs[j]?=some u→w.cell? (a1.add j)=some u) (hm:0 < m) (S:¬ n+m≤cap) (M:(n+m)*i.bytes≤140737488355328) :
 ∃ (C:Array Value) (l:Nat),(Builtin.append_ #[t,t] ty #[.slice a0 n cap,.slice (some a1) m c1]).run c.P w =
  .ok (.slice (some (ad w.heap.size 0)) (n+m) l) (w.drew.alloc (.cells C e))∧C.toList.take ((n+m)*i.size)=us++vs∧C.size=l*i.size∧n+m≤l∧l≤maxLen:=by
 have x:n+m≤140737488355328:=Nat.le_trans (Nat.le_mul_of_pos_right _ N) M;have B:n+m≤maxLen:=by unfold maxLen; omega
 have y:=grownCap_ge w (n+m) cap e;have G:(us++vs).length=(n+m)*i.size:=by rw[List.length_append,L,E,Nat.add_mul]
 have J:∀ k,(Builtin.zeroCells z.cells k).size=k*i.size:=fun k=>by rw[size_zeroCells,V]
 cases a0 with
 | none =>
  have O:=I rfl;obtain rfl:n=0:=by omega
  subst O;have U:us=[]:=List.eq_nil_of_length_eq_zero (by simpa using L);subst U;simp only[Nat.zero_add]at y M x B ⊢;refine⟨_,_,run_append_nil (P:=c.P) w t ty e i z hu hi W a1 m c1 vs E X hm (by omega) (by omega),?_,?_,y,grownCap_le_maxLen w m 0 e B⟩
  · rw[Array.toList_append,List.toList_toArray,List.nil_append,← E,List.take_left]
  · rw[Array.size_append,J,List.size_toArray,E,← Nat.add_mul];congr 1; omega
 | some F =>
  refine⟨_,_,run_append_grow (P:=c.P) w t ty e i z hu hi W F n cap us L (Z F rfl) a1 m c1 vs E X (by omega) (by omega) (growslice_fits (by omega) M),?_,?_,y,grownCap_le_maxLen w _ cap e B⟩
  · simp only[Array.toList_append,List.append_assoc];rw[← List.append_assoc,← G];exact List.take_left
  · simp only[Array.size_append,List.size_toArray,J,L,E,← Nat.add_mul];congr 1; omega
theorem c5S (fx:Fx c) (h:S c g w pr bx σ a) {t e sz bytes:Nat} {i:TypeInfo} {z:Value} {x y:Operand} {p0 p1:Opd} {gs:List AV} {d:Dst} {at_:Array TypeId}
 (ho:o.op=.call { callee:=.builtin .append,args:=#[x,y],argTypes:=at_ }) (d3:at_=#[t,t]) (hu:c.P.underlying t=some (.slice e)) (hi:c.P.info? e=some i) (hz:i.zero=some z) (l2:i.size=sz) (i1:i.bytes=bytes)
 (e5:z.cells.size=sz) (d4:0 < bytes) (l0:F9 c x p0=true) (l1:Q8 c y p1=true) (hd:B9 c o.dst d=true) {b b' r:AV} {st':St}
 (hs:F6 sz bytes call (p0.read σ::p1.read σ::gs) b σ.st=some (r,b',st'))
 {next:Act→World→Prop} {Q:Exit→Act→World→Prop} (N:Post c g w a (d.put r { p0.spend σ with st:=st' }) next):o.wp c.P a w next Q:=by
 subst l2; subst i1;have d2:(2:Nat) ^ 47=140737488355328:=by decide
 obtain⟨b1,hS,L,_⟩:=P9 h l0 d.pl;have hY:=R3 h l1;have b8:(p0.spend σ).st=σ.st:=by cases p0<;>rfl
 -- the rows that are added
 have rows:∀ (ys:List (List AV)),p1.read σ=.fresh ys→s5 i.size ys=true →
  ∃ c1 bb vs,a.eval y=.slice (some (ad bb 0)) ys.length c1∧vs.length=ys.length*i.size∧RelL g w ys.flatten vs∧(∀ v∈vs,v.oneCell'=true)∧(∀ (k:Nat) (x:AV) (v:Value),ys.flatten[k]?=some x→vs[k]?=some v→OwnN x v) ∧
   ∀ (j:Nat) u,vs[j]?=some u→w.cell? ((ad bb 0).add j)=some u:=by
  intro ys e1 b4;rw[e1]at hY;have V:Rel g w (.fresh ys) (a.eval y):=ValOK.rel hY;simp only[Rel]at V;obtain⟨bb,n,c1,n1,ev,rfl,n3,b3,hN⟩:=V;have g4:=b1r b4 b3;have e4:∃ us,us.length=ys.length*i.size∧RelL g w ys.flatten us∧w.rangeAt bb 0 us∧(∀ u∈us,u.oneCell'=true):=by
   cases ys with
   | nil=>exact⟨[],by simp,by simp[RelL],fun j v hv=>by simp at hv,by simp⟩
   | cons y0 ys =>
    obtain rfl:n1=i.size:=by have h1:=b3.all y0 (by simp); have h2:=g4 y0 (by simp); omega
    obtain⟨us,u1,u2,u3,u4,_⟩:=b3.vals;exact⟨us,u1,u2,u3,u4⟩
  obtain⟨vs,u1,u2,u3,u4⟩:=e4;refine⟨c1,bb,vs,ev,u1,u2,u4,fun k x v F hv zs e2=>?_,fun j u hj=>?_⟩
  · subst e2;obtain⟨_,a0,n0,hc⟩:=hN k zs F;have:=u3 k v hv;rw[Nat.zero_add]at this;rw[show(⟨bb,k,none⟩:Addr)=ad bb k from rfl,hc]at this;exact⟨a0,n0,(Option.some.inj this).symm⟩
  · rw[Addr.add_ad];exact u3 j u hj
 -- what comes out
 have fin:∀ (od:Option Nat) (bb cpv k:Nat) (w2:World) (cs:List AV) (st2:St) (B:Nat),Env w w2→w.heap.size≤w2.heap.size→bb < w2.heap.size→(∀ b,b≠bb→b < w.heap.size→w2.heap[b]?=w.heap[b]?)→(∀ f,¬ g.cl bb f) →
  (bb=w.heap.size∨∃ o,od=some o∧g.sr bb=some (o,none))→st2.length=g.n+1→(∀ x Y,st2[x]?=some Y→(x=g.n∧Y=.cells cs)∨Y=.dead∨(σ.st[x]?=some Y∧od≠some x)) →
  (Ext g w (g.grow od bb cpv) w2→ObjOK (g.grow od bb cpv) w2 g.n (.cells cs))→k≤B→B*i.size=cpv →
  (Builtin.append_ #[t,t] o.type #[a.eval x,a.eval y]).run c.P w=.ok (.slice (some (ad bb 0)) k B) w2→r=.sl σ.st.length 0 k i.size→st'=st2→o.wp c.P a w next Q:=by
  intro od bb cpv k w2 cs st2 B f1 f2 f3 f4 f5 f6 f7 f8 f9 f10 f11 l er es;subst er; subst es;obtain⟨h7,l3⟩:=c2n hS f1 f2 f3 f4 f5 f6 f7 (by rw[b8]; exact f8) f9;have d8:=P2 (c:=c) (w:=w) ho d3 rfl rfl l;unfold Oper.wp;rw[d8,Oper.upon_value];refine N _ _ _ b1 bx (C9 _ _ _) (Z2 fx h7 hd (mine:=No) ?_ fun _ x=>x.elim) l3;refine(show ValOK _ _ No (.sl _ _ _ _) _ from ValOK.mk' ?_ (by simp) (by simp));simp only[Rel];rw[← h.st.n];exact⟨by simp[Gh.grow],B,by simp[Gh.grow],f10,by simp[Gh.grow,f11]⟩
 have d1:σ.st.length=g.n:=h.st.n.symm;have last:∀ (c3:St) (cs:List AV) (x:Nat) (Y:Obj),c3.length=σ.st.length→¬ x < σ.st.length→(c3++[Obj.cells cs])[x]?=some Y→x=g.n∧Y=.cells cs:=by
  intro c3 cs x Y n5 n4 F;rw[List.getElem?_append_right (by omega)]at F;have l4:x - c3.length=0:=by
   rcases Nat.eq_zero_or_pos (x - c3.length)with h0|h0
   · exact h0
   · rw[List.getElem?_eq_none (by simp; omega)]at F; cases F
  rw[l4]at F;simp at F;exact⟨by omega,F.symm⟩
 unfold F6 at hs;split at hs<;>first|cases hs; done|skip
 · rename_i ys c4 G;simp only[List.cons.injEq]at G;obtain⟨e0,e1,rfl⟩:=G;split at hs<;>first|cases hs; done|skip
   rename_i M;obtain⟨Z,b4,b7,_⟩:=M;simp only[Option.some.injEq,Prod.mk.injEq]at hs;obtain⟨rfl,rfl,rfl⟩:=hs;have hm:0 < ys.length:=by cases ys with|nil=>simp at Z|cons _ _=>simp
   obtain⟨c1,b5,vs,ev,vl,vr,v1,vo,vc⟩:=rows ys e1 b4;rw[e0]at L;have L:ValOK g w (fun b=>b1 b=some d.pl) (.list true []) (a.eval x):=L;obtain⟨a0,n0,eu,i4⟩:∃ a0 n0,a.eval x=.slice a0 n0 n0∧n0=0:=by
    have V:=L.rel;simp only[Rel]at V;obtain⟨h6,n',B,eu,rfl,_⟩:=V;rcases L.own [] rfl with⟨a2,n2,h2⟩|⟨_,_,_,_,_,_,_,_,h2,_⟩
    · rw[eu]at h2;simp only[Value.slice.injEq]at h2;obtain⟨rfl,h3,h4⟩:=h2;exact⟨h6,n2,by rw[eu,h4,h3],h3.symm⟩
    · exact absurd rfl h2
   subst i4;obtain⟨C,B,l,hC,b6,E,g0⟩:=Z5 (c:=c) (w:=w) (ty:=o.type) hu hi hz e5 d4 (a0:=a0) (n:=0) (cap:=0) (m:=ys.length) (c1:=c1) (us:=[]) (vs:=vs) (a1:=ad b5 0) (fun _=>rfl) (Nat.le_refl _) (by simp) (by simp) vl vc hm (by omega) (by rw[Nat.zero_add,← d2]; exact b7);rw[← eu,← ev]at l;simp only[Nat.zero_add,List.nil_append]at l hC E;have J:(w.drew.alloc (.cells C e)).heap[w.heap.size]?=some (.cells C e (0,0)):=heap_alloc_new w.drew _;have X:ys.flatten.length=ys.length*i.size:=by rw[vr.length,vl]
   refine fin none w.heap.size C.size ys.length (w.drew.alloc (.cells C e)) ys.flatten _ B ((Env.drawn (w:=w) (w':=w.drew) rfl rfl rfl).trans (Env.alloc w.drew _ (by intro c t z e; cases e; rfl))) (by simp) (by simp)
    (fun b _ hb=>heap_alloc_old w.drew _ hb) (fun f hf=>Nat.lt_irrefl _ (h.st.cli _ f hf)) (.inl rfl) (by rw[List.length_append,← h.st.n]; rfl) (fun x Y F=>?_) (fun he=>?_) E b6.symm l rfl rfl
   · by_cases I:x < σ.st.length
     · rw[List.getElem?_append_left I]at F;exact .inr (.inr ⟨F,by simp⟩)
     · exact .inl (last σ.st _ x Y rfl I F)
   · refine⟨by simp[Gh.grow],fun f hf=>?_,C,e,by simp only[Gh.grow,if_true]; exact J,by simp[Gh.grow],?_,?_,fun k x v F hv=>?_⟩
     · simp only[Gh.grow,if_true]at hf;exact Nat.lt_irrefl _ (h.st.cli _ f hf)
     · rw[X,hC]; exact vr.ext he _ _
     · rw[X,hC]; exact v1
     · refine OwnN.own (vo k x v F ?_);rw[← hC,List.getElem?_take,if_pos (by rw[← X]; exact(List.getElem?_eq_some_iff.1 F).1)];simpa using hv
 · rename_i ys c4 G;simp only[List.cons.injEq]at G;obtain⟨e0,e1,rfl⟩:=G;split at hs<;>first|cases hs; done|skip
   rename_i M;obtain⟨Z,b4,b7,_⟩:=M;simp only[Option.some.injEq,Prod.mk.injEq]at hs;obtain⟨rfl,rfl,rfl⟩:=hs;have hm:0 < ys.length:=by cases ys with|nil=>simp at Z|cons _ _=>simp
   obtain⟨c1,b5,vs,ev,vl,vr,v1,vo,vc⟩:=rows ys e1 b4;rw[e0]at L;have L:ValOK g w (fun b=>b1 b=some d.pl) .nils (a.eval x):=L;have eu:a.eval x=.slice none 0 0:=by have V:=L.rel;simpa[Rel]using V
   obtain⟨C,B,l,hC,b6,E,g0⟩:=Z5 (c:=c) (w:=w) (ty:=o.type) hu hi hz e5 d4 (a0:=none) (n:=0) (cap:=0) (m:=ys.length) (c1:=c1) (us:=[]) (vs:=vs) (a1:=ad b5 0) (fun _=>rfl) (Nat.le_refl _) (by simp) (by simp) vl vc hm (by omega) (by rw[Nat.zero_add,← d2]; exact b7);rw[← eu,← ev]at l;simp only[Nat.zero_add,List.nil_append]at l hC E;have J:(w.drew.alloc (.cells C e)).heap[w.heap.size]?=some (.cells C e (0,0)):=heap_alloc_new w.drew _;have X:ys.flatten.length=ys.length*i.size:=by rw[vr.length,vl]
   refine fin none w.heap.size C.size ys.length (w.drew.alloc (.cells C e)) ys.flatten _ B ((Env.drawn (w:=w) (w':=w.drew) rfl rfl rfl).trans (Env.alloc w.drew _ (by intro c t z e; cases e; rfl))) (by simp) (by simp)
    (fun b _ hb=>heap_alloc_old w.drew _ hb) (fun f hf=>Nat.lt_irrefl _ (h.st.cli _ f hf)) (.inl rfl) (by rw[List.length_append,← h.st.n]; rfl) (fun x Y F=>?_) (fun he=>?_) E b6.symm l rfl rfl
   · by_cases I:x < σ.st.length
     · rw[List.getElem?_append_left I]at F;exact .inr (.inr ⟨F,by simp⟩)
     · exact .inl (last σ.st _ x Y rfl I F)
   · refine⟨by simp[Gh.grow],fun f hf=>?_,C,e,by simp only[Gh.grow,if_true]; exact J,by simp[Gh.grow],?_,?_,fun k x v F hv=>?_⟩
     · simp only[Gh.grow,if_true]at hf;exact Nat.lt_irrefl _ (h.st.cli _ f hf)
     · rw[X,hC]; exact vr.ext he _ _
     · rw[X,hC]; exact v1
     · refine OwnN.own (vo k x v F ?_);rw[← hC,List.getElem?_take,if_pos (by rw[← X]; exact(List.getElem?_eq_some_iff.1 F).1)];simpa using hv
 · rename_i c4 G;simp only[List.cons.injEq]at G;obtain⟨e0,e1,rfl⟩:=G;split at hs<;>first|cases hs; done|skip
   simp only[Option.some.injEq,Prod.mk.injEq]at hs;obtain⟨rfl,rfl,rfl⟩:=hs;rw[e0]at L;have L:ValOK g w (fun b=>b1 b=some d.pl) .nils (a.eval x):=L;have eu:a.eval x=.slice none 0 0:=by have V:=L.rel;simpa[Rel]using V
   rw[e1]at hY;have ev:a.eval y=.slice none 0 0:=by have V:Rel g w .nils (a.eval y):=ValOK.rel hY;simpa[Rel]using V
   have l:=P2 (c:=c) (w:=w) ho d3 eu ev (P8 (P:=c.P) t o.type e i hu hi none none 0 0 0 (Nat.le_refl _));have d9:({ p0.spend σ with st:=σ.st }:Sig)=p0.spend σ:=by rw[← b8]
   rw[d9]at N;unfold Oper.wp;rw[l,Oper.upon_value,← eu];exact N _ _ g b1 bx (C9 _ _ _) (Z2 fx hS hd L fun _ x=>x) (Tr.refl _ _ _)
 · rename_i U n s' ys c4 G;simp only[List.cons.injEq]at G;obtain⟨e0,e1,rfl⟩:=G;split at hs<;>first|cases hs; done|skip
   rename_i xs F;split at hs<;>first|cases hs; done|skip
   rename_i M;obtain⟨rfl,Z,b4,c2,b7,_⟩:=M;simp only[Option.some.injEq,Prod.mk.injEq]at hs;obtain⟨rfl,rfl,rfl⟩:=hs;have hm:0 < ys.length:=by cases ys with|nil=>simp at Z|cons _ _=>simp
   obtain⟨c1,b5,vs,ev,vl,vr,v1,vo,vc⟩:=rows ys e1 b4;have X:ys.flatten.length=ys.length*i.size:=by rw[vr.length,vl]
   generalize n6:ys.length=m at *
   rw[e0]at L;have L:ValOK g w (fun b=>b1 b=some d.pl) (.sl U 0 n i.size) (a.eval x):=L;have V:=L.rel;simp only[Rel,Nat.zero_add]at V;obtain⟨n7,cap,eu,d6,c7⟩:=V;obtain⟨b2,e6,arr,T,hh,g1,c8,g7,h5⟩:=h.st.obj U _ F;have c0:(arr.toList.take (n*i.size)).length=n*i.size:=by rw[← c2,← c8.length]
   have d7:(xs++ys.flatten).length=n*i.size+m*i.size:=by rw[List.length_append,c2,X]
   have d0:∀ x Y,(σ.st.set U .dead++[Obj.cells (xs++ys.flatten)])[x]?=some Y→(x=g.n∧Y=.cells (xs++ys.flatten))∨Y=.dead∨(σ.st[x]?=some Y∧some U≠some x):=by
    intro x Y F;by_cases I:x < σ.st.length
    · rw[List.getElem?_append_left (by simpa using I)]at F;by_cases ex:U=x
      · subst ex;rw[List.getElem?_set_self I]at F;exact .inr (.inl (Option.some.inj F).symm)
      · rw[List.getElem?_set_ne ex]at F;exact .inr (.inr ⟨F,by simpa using ex⟩)
    · exact .inl (last _ _ x Y (by simp) I F)
   have g5:∀ (bb:Nat) (w2:World) (O:Array Value) (T2:TypeId),w2.heap[bb]?=some (.cells O T2 (0,0))→O.toList.take (n*i.size+m*i.size)=arr.toList.take (n*i.size)++vs→(∀ f,¬ g.cl bb f) →
    (∀ b,b≠bb→b < w.heap.size→w2.heap[b]?=w.heap[b]?)→(bb=w.heap.size∨g.sr bb=some (U,none)) →
    Ext g w (g.grow (some U) bb O.size) w2→ObjOK (g.grow (some U) bb O.size) w2 g.n (.cells (xs++ys.flatten)):=by
    intro bb w2 O T2 d5 e3 i5 g6 i0 he;refine⟨by simp[Gh.grow],fun f hf=>?_,O,T2,by simp only[Gh.grow,if_true]; exact d5,by simp[Gh.grow],?_,?_,fun k x v hk hv=>?_⟩
    · simp only[Gh.grow,if_true]at hf;exact i5 f hf
    · rw[d7,e3,← c2]; exact(c8.ext he _ _).append (vr.ext he _ _)
    · rw[d7,e3,← c2];intro v hv;rcases List.mem_append.1 hv with hv|hv
      · exact g7 v hv
      · exact v1 v hv
    · have i2:k < n*i.size+m*i.size:=by rw[← d7]; exact(List.getElem?_eq_some_iff.1 hk).1
      have c6:(arr.toList.take (n*i.size)++vs)[k]?=some v:=by rw[← e3,List.getElem?_take,if_pos i2]; simpa using hv
      by_cases i3:k < xs.length
      · rw[List.getElem?_append_left i3]at hk;rw[List.getElem?_append_left (by rw[c0]; omega),List.getElem?_take,if_pos (by omega)]at c6;refine(h5 k x v hk (by simpa using c6)).mono fun b hb=>?_
        have I:=h.st.inn b _ hb;have Z:b≠bb:=fun e2=>by
         subst e2;rcases i0 with h0|h0
         · omega
         · rw[hb]at h0; simp at h0
        exact⟨b3s hb Z,g6 b Z I,fun _ x=>x⟩
      · rw[List.getElem?_append_right (by omega)]at hk;rw[List.getElem?_append_right (by rw[c0]; omega),c0,← c2]at c6;exact OwnN.own (vo _ x v hk c6)
   by_cases W:n+m≤cap
   · have g3:n*i.size+vs.length≤arr.size:=by rw[vl,g1,← c7,← Nat.add_mul]; exact Nat.mul_le_mul_right _ W
     have l:=T8 (P:=c.P) (w:=w) t o.type e i T hu hi (g.m U) n cap arr hh (ad b5 0) m c1 vs vl vc v1 W g3;rw[← eu,← ev]at l;have h8:arr.toList.length=arr.size:=by simp
     generalize J:arr.toList.take (n*i.size)++vs++arr.toList.drop (n*i.size+vs.length)=new at *
     have i9:new.length=arr.size:=by rw[← J]; simp only[List.length_append,List.length_take,List.length_drop,h8]; omega
     have d5:=setRow_heap w (g.m U) arr new.toArray T _ hh;have I:g.m U < w.heap.size:=h.st.inn _ _ b2;refine fin (some U) (g.m U) new.toArray.size (n+m) (w.setRow (g.m U) new.toArray) (xs++ys.flatten) _ cap (Env.setRow _ _ _) (by simp) (by simpa using I) (fun b hb _=>setRow_other w _ b _ hb) e6 (.inr ⟨U,rfl,b2⟩)
      (by rw[List.length_append,List.length_set,d1]; rfl) d0 (g5 _ _ _ T d5 ?_ e6 (fun b hb _=>setRow_other w _ b _ hb) (.inr b2)) W (by simp[i9,g1,c7]) l rfl rfl
     rw[List.toList_toArray,← J,List.append_assoc,← List.append_assoc];rw[show n*i.size+m*i.size=(arr.toList.take (n*i.size)++vs).length by rw[List.length_append,c0,vl]];exact List.take_left
   · obtain⟨C,B,l,hC,b6,E,g0⟩:=Z5 (c:=c) (w:=w) (ty:=o.type) hu hi hz e5 d4 (a0:=some (ad (g.m U) 0)) (n:=n) (cap:=cap) (m:=m) (c1:=c1) (us:=arr.toList.take (n*i.size)) (vs:=vs) (a1:=ad b5 0) (fun h=>by cases h) d6 c0 (fun b0 h9 j u hj=>by
      cases h9;rw[Addr.add_ad,cell_of_row w _ _ arr T _ hh];rw[List.getElem?_take]at hj;split at hj
      · simpa using hj
      · cases hj) vl vc hm W (by rw[← d2]; exact b7)
     rw[← eu,← ev]at l;rw[Nat.add_mul]at hC;have J:(w.drew.alloc (.cells C e)).heap[w.heap.size]?=some (.cells C e (0,0)):=heap_alloc_new w.drew _;refine fin (some U) w.heap.size C.size (n+m) (w.drew.alloc (.cells C e)) (xs++ys.flatten) _ B ((Env.drawn (w:=w) (w':=w.drew) rfl rfl rfl).trans (Env.alloc w.drew _ (by intro c t z e; cases e; rfl))) (by simp) (by simp)
      (fun b _ hb=>heap_alloc_old w.drew _ hb) (fun f hf=>Nat.lt_irrefl _ (h.st.cli _ f hf)) (.inl rfl) (by rw[List.length_append,List.length_set,d1]; rfl) d0
      (g5 _ _ _ e J hC (fun f hf=>Nat.lt_irrefl _ (h.st.cli _ f hf)) (fun b _ hb=>heap_alloc_old w.drew _ hb) (.inl rfl)) E b6.symm l rfl rfl
 · rename_i U f0 n0 s0 c4 G;simp only[List.cons.injEq]at G;obtain⟨e0,e1,rfl⟩:=G;split at hs<;>first|cases hs; done|skip
   simp only[Option.some.injEq,Prod.mk.injEq]at hs;obtain⟨rfl,rfl,rfl⟩:=hs;rw[e0]at L;have L:ValOK g w (fun b=>b1 b=some d.pl) (.sl U f0 n0 s0) (a.eval x):=L;obtain⟨cap,eu,d6⟩:∃ cap,a.eval x=.slice (some (ad (g.m U) f0)) n0 cap∧n0≤cap:=by have V:=L.rel;simp only[Rel]at V;obtain⟨_,cap,h1,h2,_⟩:=V;exact⟨cap,h1,h2⟩
   rw[e1]at hY;have ev:a.eval y=.slice none 0 0:=by have V:Rel g w .nils (a.eval y):=ValOK.rel hY;simpa[Rel]using V
   have l:=P2 (c:=c) (w:=w) ho d3 eu ev (P8 (P:=c.P) t o.type e i hu hi _ none n0 cap 0 d6);have d9:({ p0.spend σ with st:=σ.st }:Sig)=p0.spend σ:=by rw[← b8]
   rw[d9]at N;unfold Oper.wp;rw[l,Oper.upon_value,← eu];exact N _ _ g b1 bx (C9 _ _ _) (Z2 fx hS hd L fun _ x=>x) (Tr.refl _ _ _)
end
end Go.Cb
namespace Go.Cb
open Classical
def C3 (p:AOper) (σ:Sig):AV:=match p.box with|some i=>σ.fr.getD i .undef|none=>.undef
section
variable (c:Cx) (o:Oper) (p:AOper)
def y8 (xs:List Operand):Bool:=p.box.isNone && a1O c xs p.args && B9 c o.dst p.dst
def b96:Bool:=match o.op,p.args with
 | .move x,[q]|.assign x,[q]=>p.box.isNone && F9 c x q && B9 c o.dst p.dst
 | _,_=>false
def b08:Bool:=match o.op with|.pick x y z=>y8 c o p [x,y,z]|_=>false
def a6R:Bool:=match o.op with|.nilCheck x=>y8 c o p [x]|_=>false
def a8x (zero:List AV):Bool:=match o.op,o.dst,p.box,p.dst,p.args with
 | .alloc t,some s,some i,.bx,[]=>c.slots[i]? == some s && c.bxs.contains i && a1l c.P t zero
 | _,_,_,_,_=>false
def b0i:Bool:=match o.op,o.dst,p.box,p.dst,p.args with
 | .box _ x,some s,some i,.bx,[q]=>c.slots[i]? == some s && c.bxs.contains i && F9 c x q
 | _,_,_,_,_=>false
def a6P (zero:List AV):Bool:=match o.op,p.args with
 | .alloc t,[]=>p.box.isNone && a1l c.P t zero && B9 c o.dst p.dst
 | _,_=>false
def b0q:Bool:=match o.op,p.args with
 | .box _ x,[q]=>p.box.isNone && F9 c x q && B9 c o.dst p.dst
 | _,_=>false
def a7I (places:List (Nat×Nat)):List Nat→List (Nat×Nat)→Bool
 | [],[]=>true
 | i::is,q::qs=>places[i]? == some q && a7I places is qs
 | _,_=>false
def a8Q (zero:List AV) (i:List (Nat×Nat)):Bool:=match o.op with
 | .build t parts=>(match a6Q c.P t with|some places=>a7I places (parts.toList.map (·.1)) i|none=>false) && a1l c.P t zero && y8 c o p (parts.toList.map (·.2))
 | _=>false
def a6T (i:Nat) (zero:List (List AV)) (at_:List Nat):Bool:=match o.op with
 | .buildSlice t len parts=>match c.P.underlying t with
  | some (.slice e)=>match c.P.info? e,zero with
   | some ie,z1::_=>match ie.zero with
    | some z=>ie.size == i && z.cells.size == i && decide (len*i≤2 ^ 24) && !(len*i == 0) && H0 z.cells.toList z1 && zero.length == len && zero.all (U7 · z1) &&
     parts.toList.map (·.1) == at_ && y8 c o p (parts.toList.map (·.2)) && o.dst.isSome
    | none=>false
   | _,_=>false
  | _=>false
 | _=>false
def b0o (i:Nat) (agg:Bool) (n:Nat):Bool:=match o.op,p.box with
 | .load t x,some j=>i == j && decide (i < c.slots.length) && D6 c t == some agg && C8 c t == some n && a1O c [x] p.args && B9 c o.dst p.dst
 | _,_=>false
def Y7 (agg:Bool) (n:Nat):Bool:=match o.op with
 | .load t x=>D6 c t == some agg && C8 c t == some n && y8 c o p [x]
 | _=>false
def a8X (i:Nat):Bool:=match o.op,p.box with
 | .load t x,some j=>i == j && decide (i < c.slots.length) && D6 c t == some false && a1O c [x] p.args && B9 c o.dst p.dst
 | _,_=>false
def a3x:Bool:=match o.op with
 | .load t x=>D6 c t == some false && y8 c o p [x]
 | _=>false
def b0E (i n:Nat):Bool:=match o.op,o.dst,p.dst,p.box,p.args with
 | .store t x y,none,.none,some j,[q0,q1]=>i == j && decide (i < c.slots.length) && C8 c t == some n && Q8 c x q0 && F9 c y q1
 | _,_,_,_,_=>false
def a5f (n:Nat):Bool:=match o.op,o.dst,p.dst,p.box,p.args with
 | .store t x y,none,.none,none,[q0,q1]=>C8 c t == some n && Q8 c x q0 && F9 c y q1
 | _,_,_,_,_=>false
def b5z (off:Nat):Bool:=match o.op with
 | .fieldAddr s x f=>(match a0W c s f with|some i=>(match C8 c i.type with|some n=>!(n == 0)|none=>false) && i.offset == off|none=>false) && y8 c o p [x]
 | _=>false
def b6i (off n:Nat) (agg:Bool):Bool:=match o.op with
 | .field s x f=>(match a0W c s f with|some i=>D6 c i.type == some agg && C8 c i.type == some n && i.offset == off|none=>false) && y8 c o p [x]
 | _=>false
def b3Q (j:Nat):Bool:=match o.op with
 | .indexAddr t x i=>(match c.P.underlying t with|some (.slice e)=>C8 c e == some j|_=>false) && y8 c o p [x,i]
 | _=>false
def b01 (len j:Nat):Bool:=match o.op with
 | .indexAddr t x i=>(match c.P.underlying t with|some (.array n e)=>n == len && C8 c e == some j|_=>false) && y8 c o p [x,i]
 | _=>false
def b0c:Bool:=match o.op with
 | .index t x i=>(match c.P.underlying t with|some .string=>true|_=>false) && y8 c o p [x,i]
 | _=>false
def b5s (i hi:Bool):Bool:=match o.op with
 | .slice t x l h none=>(match c.P.underlying t with|some .string=>true|_=>false) && l.isSome == i && h.isSome == hi && y8 c o p (x::(l.toList++h.toList))
 | _=>false
def b5D (j:Nat) (i hi:Bool):Bool:=match o.op with
 | .slice t x l h none=>(match c.P.underlying t with|some (.slice e)=>C8 c e == some j|_=>false) && l.isSome == i && h.isSome == hi && y8 c o p (x::(l.toList++h.toList))
 | _=>false
def b4t:Bool:=match o.op with
 | .slice t x none (some (.const (.int _ m))) (some (.const (.int _ n)))=>decide (m=0) && decide (n=0) && (match c.P.underlying t with|some (.slice e)=>(C8 c e).isSome|_=>false) && y8 c o p [x]
 | _=>false
def b59 (len j:Nat) (i hi:Bool):Bool:=match o.op with
 | .slice t x l h none=>(match c.P.underlying t with|some (.array n e)=>n == len && C8 c e == some j|_=>false) && l.isSome == i && h.isSome == hi && y8 c o p (x::(l.toList++h.toList))
 | _=>false
def b6z (op:BinOp):Bool:=match o.op with
 | .binOp i _ x y _=>decide (i=op) && y8 c o p [x,y]
 | _=>false
def b0I (op:BinOp):Bool:=match o.op with
 | .binOp i t x y _=>decide (i=op) && (match c.P.underlying t with|some .bool=>true|_=>false) && y8 c o p [x,y]
 | _=>false
def b03 (op:BinOp):Bool:=match o.op with
 | .binOp i t x y _=>(match c.P.underlying t with|some (.pointer _)=>decide (i=op) && !decide (op=.lss) && !decide (op=.gtr)|some (.interface _)=>(decide (i=.eql) && decide (op=.lss) || decide (i=.neq) && decide (op=.gtr)) && (match y with|.const .nilIface=>true|_=>false)|_=>false) && y8 c o p [x,y]
 | _=>false
def c0d (op:UnOp):Bool:=match o.op with
 | .unOp i _ x=>decide (i=op) && y8 c o p [x]
 | _=>false
def b0O (k:IntKind):Bool:=match o.op with
 | .convert t u x=>(match c.P.underlying t,c.P.underlying u with|some (.int _),some (.int i)=>decide (i=k)|_,_=>false) && y8 c o p [x]
 | _=>false
def b3t (f n:Nat):Bool:=match o.op with
 | .makeFunc (.func j) first i=>j == f && first.size == n && y8 c o p (first++i).toList
 | _=>false
def b6I:Bool:=match o.op,p.args with
 | .makeMap _ none,[]=>p.box.isNone && B9 c o.dst p.dst
 | _,_=>false
def b1o (l:Nat) (zero:List AV) (agg ok:Bool):Bool:=match o.op with
 | .lookup t m k j=>j == ok && (match c.P.underlying t with|some (.map u i)=>M2 c.P l u && D6 c i == some agg && a1l c.P i zero && a8K c.P i agg|_=>false) && y8 c o p [m,k]
 | _=>false
def b1D (i:Nat):Bool:=match o.op with
 | .mapUpdate t m k x|.insert t m k x=>(match c.P.underlying t with|some (.map j _)=>M2 c.P i j|_=>false) && o.dst.isNone && y8 c o p [m,k,x]
 | _=>false
def b4z (i:Nat):Bool:=match o.op with
 | .extract x j=>i == j && y8 c o p [x]
 | _=>false
def a5M (f:Nat):Bool:=match o.op with
 | .call { callee:=.value (.func f'),args:=xs,argTypes:=_ }=>f' == f && y8 c o p xs.toList
 | _=>false
def a8y:Bool:=match o.op with
 | .call { callee:=.value (.tmp s),args:=xs,argTypes:=_ }=>y8 c o p (.tmp s::xs.toList)
 | _=>false
def b1l:Bool:=match o.op with
 | .call { callee:=.builtin .len,args:=⟨[x]⟩,argTypes:=⟨t::_⟩ }=>(match c.P.underlying t with|some .string=>true|_=>false) && y8 c o p [x]
 | _=>false
def b0h:Bool:=match o.op with
 | .call { callee:=.builtin .len,args:=⟨[x]⟩,argTypes:=⟨t::_⟩ }=>(match c.P.underlying t with|some (.slice _)=>true|_=>false) && y8 c o p [x]
 | _=>false
def b7Z (P:Program) (t:TypeId):Bool:=match P.underlying t with
 | some (.struct ⟨[f0,f1]⟩)=>f0.name != "_" && f1.name != "_" && f0.offset == 0 && f1.offset == 1 && (match P.underlying f0.type with|some (.int _)=>true|_=>false) && (match P.underlying f1.type with|some .string=>true|_=>false)
 | _=>false
def b0w (neg:Bool):Bool:=match o.op with
 | .binOp op t x y _=>decide (op=if neg then .neq else .eql) && !c.P.eqGuardType c.P.depth t && !c.P.stoodInHeld t && b7Z c.P t && y8 c o p [x,y]
 | _=>false
def b0s:Bool:=match o.op with
 | .call { callee:=.builtin .min,args:=⟨[x,y]⟩,.. }=>y8 c o p [x,y]
 | _=>false
def b5B (j bytes:Nat):Bool:=match o.op,p.args with
 | .call { callee:=.builtin .append,args:=⟨[x,y]⟩,argTypes:=⟨[t,t']⟩ },[q0,q1]=>t == t' && (match c.P.underlying t with
  | some (.slice e)=>(match c.P.info? e with
   | some i=>i.size == j && i.bytes == bytes && decide (0 < bytes) && (match i.zero with|some z=>z.cells.size == j|none=>false)
   | none=>false)
  | _=>false) && p.box.isNone && F9 c x q0 && Q8 c y q1 && B9 c o.dst p.dst && o.dst.isSome
 | _,_=>false
def b0L (bytes:Nat):Bool:=match o.op,p.args with
 | .call { callee:=.builtin .append,args:=⟨[x,y]⟩,argTypes:=⟨[t,t']⟩ },[q0,q1]=>t == t' && (match c.P.underlying t with
  | some (.slice e)=>(match c.P.info? e with
   | some i=>i.size == 1 && i.bytes == bytes && decide (0 < bytes) && (match i.zero with|some z=>z.cells.size == 1|none=>false)
   | none=>false)
  | _=>false) && p.box.isNone && F9 c x q0 && Q8 c y q1 && B9 c o.dst p.dst && o.dst.isSome
 | _,_=>false
def a0F (i:Nat) (zero:List (List AV)) (at_:List Nat):Bool:=match o.op with
 | .buildSlice t len parts=>match c.P.underlying t with
  | some (.slice e)=>match c.P.info? e,zero with
   | some ie,z1::_=>match ie.zero with
    | some z=>ie.size == i && z.cells.size == i && decide (len*i≤2 ^ 24) && !(len*i == 0) && H0 z.cells.toList z1 && zero.length == len && zero.all (U7 · z1) &&
     parts.toList.map (·.1) == at_ && p.box.isNone && B9 c o.dst p.dst && (match parts.toList.map (·.2),p.args with|[x],[q]=>F9 c x q|_,_=>false) && o.dst.isSome
    | none=>false
   | _,_=>false
  | _=>false
 | _=>false
def b0l (j bytes:Nat):Bool:=match o.op,p.args with
 | .call { callee:=.builtin .append,args:=⟨[x,y]⟩,argTypes:=⟨[t,t']⟩ },q0::q1::gs=>t == t' && (match c.P.underlying t with
  | some (.slice e)=>(match c.P.info? e with
   | some i=>i.size == j && i.bytes == bytes && decide (0 < bytes) && (match i.zero with|some z=>z.cells.size == j|none=>false)
   | none=>false)
  | _=>false) && p.box.isNone && F9 c x q0 && Q8 c y q1 && B9 c o.dst p.dst && o.dst.isSome && gs.all (fun q=>!q.steals)
 | _,_=>false
def b5C:Bool:=match o.op with
 | .convert t u x=>(match c.P.underlying t,c.P.underlying u with|some (.slice e),some .string=>(match c.P.underlying e with|some (.int .u8)=>true|_=>false)|_,_=>false) && y8 c o p [x]
 | _=>false
def AOper.bare (p:AOper):AOper:=match p.kind with
 | .ldStR agg n=>{ p with kind:=.ldSt agg n,args:=p.args.take 1 }
 | .ldStSR _=>{ p with kind:=.ldStS,args:=p.args.take 1 }
 | .stStA n=>{ p with kind:=.stSt n,args:=p.args.take 2 }
 | .callA f m=>{ p with kind:=.call f,args:=p.args.take m }
 | _=>p
def AOper.beside (p:AOper):List Opd:=match p.kind with
 | .ldStR _ _=>p.args.drop 1
 | .ldStSR _=>p.args.drop 1
 | .stStA _=>p.args.drop 2
 | .callA _ m=>p.args.drop m
 | _=>[]
def Z7 (qs:List Opd):Bool:=qs.all fun q=>!q.steals
def a7o:Bool:=match p.kind with
 | .mv=>b96 c o p
 | .pick=>b08 c o p
 | .nilchk=>a6R c o p
 | .alloc zero=>a8x c o p zero
 | .boxV=>b0i c o p
 | .allocO zero=>a6P c o p zero
 | .boxO=>b0q c o p
 | .build zero t=>a8Q c o p zero t
 | .bslice j zero at_=>a6T c o p j zero at_
 | .bsliceM j zero at_=>a0F c o p j zero at_
 | .ldLc i agg n=>b0o c o p i agg n
 | .ldSt agg n=>Y7 c o p agg n
 | .ldRo agg n=>Y7 c o p agg n
 | .ldAn agg n=>Y7 c o p agg n
 | .ldStR agg n=>Y7 c o p.bare agg n && Z7 p.beside
 | .ldStSR _=>a3x c o p.bare && Z7 p.beside
 | .stStA n=>a5f c o p.bare n && Z7 p.beside
 | .callA f _=>a5M c o p.bare f && Z7 p.beside
 | .ldLcS i=>a8X c o p i
 | .ldStS=>a3x c o p
 | .stLc i n=>b0E c o p i n
 | .stSt n=>a5f c o p n
 | .fad off=>b5z c o p off
 | .fld off n agg=>b6i c o p off n agg
 | .iad j=>b3Q c o p j
 | .iadA len j=>b01 c o p len j
 | .idxS=>b0c c o p
 | .slS l hi=>b5s c o p l hi
 | .slL j l hi=>b5D c o p j l hi
 | .slZ=>b4t c o p
 | .slA len j l hi=>b59 c o p len j l hi
 | .bin op=>b6z c o p op
 | .binB op=>b0I c o p op
 | .binP op=>b03 c o p op
 | .un op=>c0d c o p op
 | .conv k=>b0O c o p k
 | .mkF f n=>b3t c o p f n
 | .mkM=>b6I c o p
 | .mget u zero agg ok=>b1o c o p u zero agg ok
 | .mset u=>b1D c o p u
 | .ext i=>b4z c o p i
 | .call f=>a5M c o p f
 | .callV=>a8y c o p
 | .lenS=>b1l c o p
 | .lenL=>b0h c o p
 | .app j bytes=>b5B c o p j bytes
 | .appM j bytes=>b0l c o p j bytes
 | .b2s=>b5C c o p
 | .appA bytes=>b0L c o p bytes
 | .bsliceO j zero at_=>a0F c o p j zero at_
 | .min2=>b0s c o p
 | .eqIS neg=>b0w c o p neg
 | .stuck=>true
def PureK:Prop:=∀ {g:Gh} {w:World} {pr:Nat→Option Pl} {bx:Nat→Nat} {σ:Sig} {a:Act} {call:e9} {r b':AV} {st':St},
 S c g w pr bx σ a→sem p.kind call (p.args.map (·.read σ)) (C3 p σ) σ.st=some (r,b',st')→s6 c g w bx σ.fr a o r∧b'=C3 p σ∧st'=σ.st
def OpK:Prop:=∀ {g:Gh} {w:World} {pr:Nat→Option Pl} {bx:Nat→Nat} {σ σ':Sig} {a:Act} {call:e9} {next:Act→World→Prop} {Q:Exit→Act→World→Prop},
 Fx c→L6 c.P c.gt call→S c g w pr bx σ a→E9 call p σ=some σ'→Post c g w a σ' next→o.wp c.P a w next Q
end
section
variable {c:Cx} {o:Oper} {p:AOper}
theorem c1Z (fr:List AV) (i:Nat):fr.set i (fr.getD i .undef)=fr:=by
 apply List.ext_getElem?;intro j;rw[List.getElem?_set];by_cases e:i=j
 · subst e;rw[if_pos rfl];split
   · rename_i h; simp[h]
   · rename_i h; rw[List.getElem?_eq_none (by omega)]
 · rw[if_neg e]
theorem n8 {call:e9} {σ σ':Sig} (h:E9 call p σ=some σ'):∃ r b' st',sem p.kind call (p.args.map (·.read σ)) (C3 p σ) σ.st=some (r,b',st') ∧
 σ'=p.dst.put r { g9 p.args σ with fr:=(match p.box with|some i=>(g9 p.args σ).fr.set i b'|none=>(g9 p.args σ).fr),st:=st' }:=by
 rw[O9]at h;cases j:p.box with
 | none =>
  have e:C3 p σ=.undef:=by simp only[C3,j]
  rw[e];simp only[j]at h;cases hs:sem p.kind call (p.args.map (·.read σ)) .undef σ.st with
  | none=>simp only[hs]at h; cases h
  | some x =>obtain⟨r,b',st'⟩:=x;simp only[hs]at h;exact⟨r,b',st',rfl,(Option.some.inj h).symm⟩
 | some i =>
  have e:C3 p σ=σ.fr.getD i .undef:=by simp only[C3,j]
  rw[e];simp only[j]at h;cases hs:sem p.kind call (p.args.map (·.read σ)) (σ.fr.getD i .undef) σ.st with
  | none=>simp only[hs]at h; cases h
  | some x =>obtain⟨r,b',st'⟩:=x;simp only[hs]at h;exact⟨r,b',st',rfl,(Option.some.inj h).symm⟩
theorem PureK.op (h:PureK c o p) (x:∀ σ,g9 p.args σ=σ) (C:B9 c o.dst p.dst=true):OpK c o p:=by
 intro g w pr bx σ σ' a call next Q z _ y u l
 obtain⟨r,b',st',hs,j⟩:=n8 u;obtain⟨⟨v,t,E⟩,rfl,rfl⟩:=h y hs;rw[x]at j;have j:σ'=p.dst.put r σ:=by
  rw[j];cases B:p.box with
  | none=>rfl
  | some i=>simp only[C3,B,c1Z]
 subst j;exact b2I z y C t E l
theorem X2 {xs:List Operand} (h:y8 c o p xs=true):p.box=none∧a1O c xs p.args=true∧B9 c o.dst p.dst=true:=by simp only[y8,Bool.and_eq_true,Option.isNone_iff_eq_none]at h;exact⟨h.1.1,h.1.2,h.2⟩
theorem s8 {xs:List Operand} (h:y8 c o p xs=true)
 (hs:∀ {g:Gh} {w:World} {pr:Nat→Option Pl} {bx:Nat→Nat} {σ:Sig} {a:Act} {call:e9} {r b' b:AV} {st':St},S c g w pr bx σ a→ArgsOK g w bx σ.fr (p.args.map (·.read σ)) (xs.map a.eval) →
  sem p.kind call (p.args.map (·.read σ)) b σ.st=some (r,b',st')→s6 c g w bx σ.fr a o r∧b'=b∧st'=σ.st):OpK c o p:=by
 obtain⟨u,j,t⟩:=X2 h;exact PureK.op (fun l i=>hs l (U6 l j) i) (fun σ=>G5 j) t
end
end Go.Cb
namespace Go.Cb
open Classical
abbrev nc:e9:=fun _ _ _=>none
section
variable {c:Cx} {o:Oper} {p:AOper}
theorem d7U (hk:p.kind=.mv) (h:b96 c o p=true):OpK c o p:=by
 intro g w pr bx σ σ' a call next Q y _ E u i
 obtain⟨r,b',st',hs,t⟩:=n8 u;unfold b96 at h;have key:∀ (x:Operand) (q:Opd),(o.op=.move x∨o.op=.assign x)→p.args=[q]→(p.box.isNone && F9 c x q && B9 c o.dst p.dst)=true→o.wp c.P a w next Q:=by
  intro x q l j h;simp only[Bool.and_eq_true,Option.isNone_iff_eq_none]at h;obtain⟨⟨z,B⟩,C⟩:=h;rw[hk,j]at hs;simp only[sem,a1a,List.map_cons,List.map_nil,Option.some.injEq,Prod.mk.injEq]at hs;obtain⟨rfl,rfl,rfl⟩:=hs;rw[z,j]at t;have e:σ'=p.dst.put (q.read σ) (q.spend σ):=by
   rw[t];have:(q.spend σ).st=σ.st:=by cases q<;>rfl
   simp only[g9];rw[← this]
  subst e;exact a5V y E l B C i
 split at h
 · rename_i x q l j; exact key x q (.inl l) j h
 · rename_i x q l j; exact key x q (.inr l) j h
 · cases h
theorem c3Q (hk:p.kind=.pick) (h:b08 c o p=true):OpK c o p:=by
 unfold b08 at h; split at h
 · rename_i x y z i;exact s8 h fun l j hs=>by rw[hk]at hs; exact c0w (call:=nc) i j hs
 · cases h
theorem b7Q (hk:p.kind=.nilchk) (h:a6R c o p=true):OpK c o p:=by
 unfold a6R at h; split at h
 · rename_i x i;exact s8 h fun l j hs=>by rw[hk]at hs; exact b36 (call:=nc) i j hs
 · cases h
theorem a3g {P:Program} {t:TypeId} {zero:List AV} (h:a1l P t zero=true):∃ z,(P.info? t).bind (·.zero)=some z∧H0 z.cells.toList zero=true:=by
 unfold a1l at h; split at h
 · rename_i z i; exact⟨z,i,h⟩
 · cases h
theorem b05 {zero:List AV} {z:Value} (h:H0 z.cells.toList zero=true) (g:Gh) (w:World):RowOK g w zero z.cells.toList:=by obtain⟨i,j,l⟩:=L5 h g w;exact⟨i,j,l⟩
theorem c0K {zero:List AV} (hk:p.kind=.alloc zero) (h:a8x c o p zero=true):OpK c o p:=by
 intro g w pr bx σ σ' a call next Q E _ J u j
 obtain⟨r,b',st',hs,l⟩:=n8 u;unfold a8x at h; split at h
 · rename_i t s i M L C x B;simp only[Bool.and_eq_true,beq_iff_eq]at h;obtain⟨⟨F,G⟩,I⟩:=h;obtain⟨z,N,y⟩:=a3g I;rw[hk,B]at hs;simp only[sem,V4,List.map_nil,C3,C]at hs;cases hu:σ.fr.getD i .undef<;>rw[hu]at hs<;>first|cases hs; done|skip
   simp only[Option.some.injEq,Prod.mk.injEq]at hs;obtain⟨rfl,rfl,rfl⟩:=hs;rw[C,B,x]at l;simp only[g9,Dst.put]at l;subst l;exact b2U E J L F (by simpa using G) hu (a4Q M N) (b05 y g w) j
 · cases h
theorem b1P {q:Opd} {σ:Sig} {i:Nat} (hu:σ.fr.getD i .undef=.undef):(q.spend σ).fr.getD i .undef=.undef:=by
 cases q<;>simp only[Opd.spend]<;>try exact hu
 rename_i j;rw[List.getD_eq_getElem?_getD,List.getElem?_set] ;by_cases e:j=i
 · subst e;rw[if_pos rfl,hu];split<;>rfl
 · rw[if_neg e,← List.getD_eq_getElem?_getD]; exact hu
theorem c3i (hk:p.kind=.boxV) (h:b0i c o p=true):OpK c o p:=by
 intro g w pr bx σ σ' a call next Q G _ N z l
 obtain⟨r,b',st',hs,j⟩:=n8 z;unfold b0i at h; split at h
 · rename_i t x s i q S O F B E;simp only[Bool.and_eq_true,beq_iff_eq]at h;obtain⟨⟨I,J⟩,L⟩:=h;rw[hk,E]at hs;simp only[sem,X1,List.map_cons,List.map_nil,C3,F]at hs;cases hu:σ.fr.getD i .undef<;>rw[hu]at hs<;>first|cases hs; done|skip
   dsimp only at hs;split at hs
   · rename_i C;simp only[Option.some.injEq,Prod.mk.injEq]at hs;obtain⟨rfl,rfl,rfl⟩:=hs;rw[F,E,B]at j;simp only[g9,Dst.put]at j;have u:(q.spend σ).st=σ.st:=by cases q<;>rfl
     rw[← u]at j;obtain⟨U,y,M,_⟩:=P9 N L (.tmp 0);subst j;exact b2U G y O I (by simpa using J) (b1P hu) (b2X S) (a9w M C) l
   · cases hs
 · cases h
theorem b7S {zero:List AV} (hk:p.kind=.allocO zero) (h:a6P c o p zero=true):OpK c o p:=by
 intro g w pr bx σ σ' a call next Q B _ x l i
 obtain⟨r,b',st',hs,j⟩:=n8 l;unfold a6P at h; split at h
 · rename_i t G y;simp only[Bool.and_eq_true,Option.isNone_iff_eq_none]at h;obtain⟨⟨C,E⟩,F⟩:=h;obtain⟨z,I,u⟩:=a3g E;rw[hk,y]at hs;simp only[sem,I7,List.map_nil,Option.some.injEq,Prod.mk.injEq]at hs;obtain⟨rfl,rfl,rfl⟩:=hs;rw[C,y]at j;subst j;exact a6j B x F (a4Q G I) (by intro c t z e; cases e; rfl) (a1Y x (b05 u g w)) (.inl ⟨rfl,rfl⟩) i
 · cases h
theorem c4Q (hk:p.kind=.boxO) (h:b0q c o p=true):OpK c o p:=by
 intro g w pr bx σ σ' a call next Q E _ L y j
 obtain⟨r,b',st',hs,i⟩:=n8 y;unfold b0q at h; split at h
 · rename_i t x q M C;simp only[Bool.and_eq_true,Option.isNone_iff_eq_none]at h;obtain⟨⟨F,G⟩,I⟩:=h;rw[hk,C]at hs;simp only[sem,O7,List.map_cons,List.map_nil]at hs;split at hs
   · rename_i B;simp only[Option.some.injEq,Prod.mk.injEq]at hs;obtain⟨rfl,rfl,rfl⟩:=hs;rw[F,C]at i;simp only[g9]at i;have u:(q.spend σ).st=σ.st:=by cases q<;>rfl
     rw[← u]at i;obtain⟨N,l,J,_⟩:=P9 L G (.tmp 0);subst i;exact a6j E l I (b2X M) (by intro c t z e; cases e; rfl) (a1Y l (a9w J B)) (.inl ⟨rfl,rfl⟩) j
   · cases hs
 · cases h
theorem d3X (hk:p.kind=.mkM) (h:b6I c o p=true):OpK c o p:=by
 intro g w pr bx σ σ' a call next Q y _ u l i
 obtain⟨r,b',st',hs,j⟩:=n8 l;unfold b6I at h; split at h
 · rename_i t E x;simp only[Bool.and_eq_true,Option.isNone_iff_eq_none]at h;obtain⟨B,C⟩:=h;rw[hk,x]at hs;simp only[sem,Y4,List.map_nil,Option.some.injEq,Prod.mk.injEq]at hs;obtain⟨rfl,rfl,rfl⟩:=hs;rw[B,x]at j;subst j;refine a6j y u C (O:=.map #[] 0) (by simp[execOp,E,Instr.makeMap]) (by intro c t z e; cases e) (b6m u) (.inr (.inl ⟨rfl,rfl⟩)) i
 · cases h
end
end Go.Cb
namespace Go.Cb
open Classical
section
variable {c:Cx} {o:Oper} {p:AOper}
theorem e1h {op:UnOp} (hk:p.kind=.un op) (h:c0d c o p op=true):OpK c o p:=by
 unfold c0d at h; split at h
 · rename_i l t x i;simp only[Bool.and_eq_true,decide_eq_true_eq]at h;obtain⟨rfl,h⟩:=h;exact s8 h fun u j hs=>by rw[hk]at hs; exact c9m (call:=nc) i j hs
 · cases h
theorem d1s {op:BinOp} (hk:p.kind=.bin op) (h:b6z c o p op=true):OpK c o p:=by
 unfold b6z at h; split at h
 · rename_i l t x y z i;simp only[Bool.and_eq_true,decide_eq_true_eq]at h;obtain⟨rfl,h⟩:=h;exact s8 h fun u j hs=>by rw[hk]at hs; exact c5k (call:=nc) i j hs
 · cases h
theorem c3m {op:BinOp} (hk:p.kind=.binB op) (h:b0I c o p op=true):OpK c o p:=by
 unfold b0I at h; split at h
 · rename_i u t x y B j;simp only[Bool.and_eq_true,decide_eq_true_eq]at h;obtain⟨⟨rfl,i⟩,h⟩:=h;split at i
   · rename_i hu; exact s8 h fun z l hs=>by rw[hk]at hs; exact b9O (call:=nc) j hu l hs
   · cases i
 · cases h
theorem c5b {op:BinOp} (hk:p.kind=.binP op) (h:b03 c o p op=true):OpK c o p:=by
 unfold b03 at h; split at h
 · rename_i C t x y E z;rw[Bool.and_eq_true]at h;obtain⟨i,h⟩:=h;split at i
   · rename_i e hu;simp only[Bool.and_eq_true,decide_eq_true_eq,Bool.not_eq_true',decide_eq_false_iff_not]at i;obtain⟨⟨rfl,j⟩,l⟩:=i;exact s8 h fun B u hs=>by rw[hk]at hs; exact b9m (call:=nc) z hu ⟨j,l⟩ u hs
   · rename_i ms hu;rw[Bool.and_eq_true]at i;obtain⟨j,l⟩:=i;split at l
     case h_2=>cases l
     simp only[Bool.or_eq_true,Bool.and_eq_true,decide_eq_true_eq]at j;exact s8 h fun B u hs=>by rw[hk]at hs; exact c1O (call:=nc) z hu j u hs
   · cases i
 · cases h
theorem c7L {k:IntKind} (hk:p.kind=.conv k) (h:b0O c o p k=true):OpK c o p:=by
 unfold b0O at h; split at h
 · rename_i t u x l;simp only[Bool.and_eq_true]at h;obtain⟨hu,h⟩:=h;split at hu
   · rename_i i j;simp only[decide_eq_true_eq]at hu;subst hu;exact s8 h fun z y hs=>by rw[hk]at hs; exact c0r (call:=nc) l i j y hs
   · cases hu
 · cases h
theorem d7u {i:Nat} (hk:p.kind=.ext i) (h:b4z c o p i=true):OpK c o p:=by
 unfold b4z at h; split at h
 · rename_i x j l;simp only[Bool.and_eq_true,beq_iff_eq]at h;obtain⟨rfl,h⟩:=h;exact s8 h fun u t hs=>by rw[hk]at hs; exact c4K (call:=nc) l t hs
 · cases h
theorem b2G {ag:Bool} {n:Nat} (hk:p.kind=.ldSt ag n) (h:Y7 c o p ag n=true):OpK c o p:=by
 unfold Y7 at h; split at h
 · rename_i t x u;simp only[Bool.and_eq_true,beq_iff_eq]at h;obtain⟨⟨i,j⟩,h⟩:=h;exact s8 h fun l y hs=>by rw[hk]at hs; exact b1p (call:=nc) l.st u i j y hs
 · cases h
theorem c2z {ag:Bool} {n:Nat} (hk:p.kind=.ldRo ag n) (h:Y7 c o p ag n=true):OpK c o p:=by
 unfold Y7 at h; split at h
 · rename_i t x l;simp only[Bool.and_eq_true,beq_iff_eq]at h;obtain⟨⟨i,j⟩,h⟩:=h;exact s8 h fun y u hs=>by rw[hk]at hs; exact b1J (call:=nc) l i j u hs
 · cases h
theorem c6U {ag:Bool} {n:Nat} (hk:p.kind=.ldAn ag n) (h:Y7 c o p ag n=true):OpK c o p:=by
 unfold Y7 at h; split at h
 · rename_i t x u;simp only[Bool.and_eq_true,beq_iff_eq]at h;obtain⟨⟨i,j⟩,h⟩:=h;exact s8 h fun l y hs=>by rw[hk]at hs; exact c0a (call:=nc) l.st u i j y hs
 · cases h
theorem c4z {i:Nat} {ag:Bool} {n:Nat} (hk:p.kind=.ldLc i ag n) (h:b0o c o p i ag n=true):OpK c o p:=by
 unfold b0o at h; split at h
 · rename_i t x j F E;simp only[Bool.and_eq_true,beq_iff_eq,decide_eq_true_eq]at h;obtain⟨⟨⟨⟨⟨rfl,y⟩,z⟩,B⟩,l⟩,C⟩:=h;refine PureK.op (fun u hs=>?_) (fun σ=>G5 l) C;rw[hk]at hs;simp only[C3,E]at hs ⊢;exact c0M (call:=nc) u.fr (List.getElem?_eq_getElem y) F z B (U6 u l) hs
 · cases h
theorem d5P {off:Nat} (hk:p.kind=.fad off) (h:b5z c o p off=true):OpK c o p:=by
 unfold b5z at h; split at h
 · rename_i s x f t;simp only[Bool.and_eq_true]at h;obtain⟨i,h⟩:=h;split at i
   · rename_i y l;simp only[Bool.and_eq_true,beq_iff_eq]at i;obtain⟨i,j⟩:=i;split at i
     · rename_i n hn;exact s8 h fun z u hs=>by rw[hk]at hs; exact c42 (call:=nc) t l hn (by simpa using i) j u hs
     · cases i
   · cases i
 · cases h
theorem d3S {off n:Nat} {ag:Bool} (hk:p.kind=.fld off n ag) (h:b6i c o p off n ag=true):OpK c o p:=by
 unfold b6i at h; split at h
 · rename_i s x f u;simp only[Bool.and_eq_true]at h;obtain⟨i,h⟩:=h;split at i
   · rename_i z t;simp only[Bool.and_eq_true,beq_iff_eq]at i;obtain⟨⟨i,j⟩,l⟩:=i;exact s8 h fun B y hs=>by rw[hk]at hs; exact c3b (call:=nc) u t i j l y hs
   · cases i
 · cases h
theorem c8R {l:Nat} (hk:p.kind=.iad l) (h:b3Q c o p l=true):OpK c o p:=by
 unfold b3Q at h; split at h
 · rename_i t x i u;simp only[Bool.and_eq_true]at h;obtain⟨j,h⟩:=h;split at j
   · rename_i e hu;simp only[beq_iff_eq]at j;exact s8 h fun z y hs=>by rw[hk]at hs; exact c7u (call:=nc) u hu j y hs
   · cases j
 · cases h
theorem c32 {len l:Nat} (hk:p.kind=.iadA len l) (h:b01 c o p len l=true):OpK c o p:=by
 unfold b01 at h; split at h
 · rename_i t x i u;simp only[Bool.and_eq_true]at h;obtain⟨j,h⟩:=h;split at j
   · rename_i n e hu;simp only[Bool.and_eq_true,beq_iff_eq]at j;obtain⟨rfl,j⟩:=j;exact s8 h fun z y hs=>by rw[hk]at hs; exact b9G (call:=nc) u hu j y hs
   · cases j
 · cases h
theorem c3a (hk:p.kind=.idxS) (h:b0c c o p=true):OpK c o p:=by
 unfold b0c at h; split at h
 · rename_i t x i l;simp only[Bool.and_eq_true]at h;obtain⟨j,h⟩:=h;split at j
   · rename_i hu;exact s8 h fun y u hs=>by rw[hk]at hs; exact c1j (call:=nc) l hu u hs
   · cases j
 · cases h
theorem a6L {a:Act} {x:Operand} {l h:Option Operand}:(x::(l.toList++h.toList)).map a.eval=a.eval x::((l.map a.eval).toList++(h.map a.eval).toList):=by cases l<;>cases h<;>rfl
theorem d0w {u hi:Bool} (hk:p.kind=.slS u hi) (h:b5s c o p u hi=true):OpK c o p:=by
 unfold b5s at h; split at h
 · rename_i t x l z y;simp only[Bool.and_eq_true,beq_iff_eq]at h;obtain⟨⟨⟨i,rfl⟩,rfl⟩,h⟩:=h;split at i
   · rename_i hu;exact s8 h fun B j hs=>by rw[hk]at hs; rw[a6L]at j; exact c64 (call:=nc) y hu j hs
   · cases i
 · cases h
theorem d2I {y:Nat} {u hi:Bool} (hk:p.kind=.slL y u hi) (h:b5D c o p y u hi=true):OpK c o p:=by
 unfold b5D at h; split at h
 · rename_i t x l B z;simp only[Bool.and_eq_true,beq_iff_eq]at h;obtain⟨⟨⟨i,rfl⟩,rfl⟩,h⟩:=h;split at i
   · rename_i e hu;simp only[beq_iff_eq]at i;exact s8 h fun C j hs=>by rw[hk]at hs; rw[a6L]at j; exact c6x (call:=nc) z hu i j hs
   · cases i
 · cases h
theorem d47 (hk:p.kind=.slZ) (h:b4t c o p=true):OpK c o p:=by
 unfold b4t at h; split at h
 · rename_i t x k m y n j;simp only[Bool.and_eq_true,decide_eq_true_eq]at h;obtain⟨⟨⟨rfl,rfl⟩,i⟩,h⟩:=h;split at i
   · rename_i e hu;exact s8 h fun u l hs=>by rw[hk]at hs; exact c3e (call:=nc) j hu i l hs
   · cases i
 · cases h
theorem d2F {len y:Nat} {u hi:Bool} (hk:p.kind=.slA len y u hi) (h:b59 c o p len y u hi=true):OpK c o p:=by
 unfold b59 at h; split at h
 · rename_i t x l B z;simp only[Bool.and_eq_true,beq_iff_eq]at h;obtain⟨⟨⟨i,rfl⟩,rfl⟩,h⟩:=h;split at i
   · rename_i n e hu;simp only[Bool.and_eq_true,beq_iff_eq]at i;obtain⟨rfl,i⟩:=i;exact s8 h fun C j hs=>by rw[hk]at hs; rw[a6L]at j; exact c3T (call:=nc) z hu i j hs
   · cases i
 · cases h
theorem c8I {f n:Nat} (hk:p.kind=.mkF f n) (h:b3t c o p f n=true):OpK c o p:=by
 unfold b3t at h; split at h
 · rename_i u first i l
   simp only[Bool.and_eq_true,beq_iff_eq]at h;obtain⟨⟨rfl,j⟩,h⟩:=h;exact s8 h fun x t hs=>by rw[hk]at hs; exact c6k (call:=nc) l j t hs
 · cases h
theorem c7n {j:Nat} {zero:List AV} {ag ok:Bool} (hk:p.kind=.mget j zero ag ok) (h:b1o c o p j zero ag ok=true):OpK c o p:=by
 unfold b1o at h; split at h
 · rename_i t m k C z;simp only[Bool.and_eq_true,beq_iff_eq]at h;obtain⟨⟨rfl,i⟩,h⟩:=h;split at i
   · rename_i F E hu;simp only[Bool.and_eq_true,beq_iff_eq]at i;obtain⟨⟨⟨i,l⟩,u⟩,x⟩:=i;exact s8 h fun y B hs=>by rw[hk]at hs; exact b9l (call:=nc) y.st z hu i l u x B hs
   · cases i
 · cases h
theorem c7c (hk:p.kind=.lenS) (h:b1l c o p=true):OpK c o p:=by
 unfold b1l at h; split at h
 · rename_i x t ts j;simp only[Bool.and_eq_true]at h;obtain⟨i,h⟩:=h;split at i
   · rename_i hu;exact s8 h fun u l hs=>by rw[hk]at hs; exact b9q (call:=nc) j (by simp) hu l hs
   · cases i
 · cases h
theorem c51 (hk:p.kind=.lenL) (h:b0h c o p=true):OpK c o p:=by
 unfold b0h at h; split at h
 · rename_i x t ts j;simp only[Bool.and_eq_true]at h;obtain⟨i,h⟩:=h;split at i
   · rename_i e hu;exact s8 h fun u l hs=>by rw[hk]at hs; exact b9S (call:=nc) j (by simp) hu l hs
   · cases i
 · cases h
theorem c4E {neg:Bool} (hk:p.kind=.eqIS neg) (h:b0w c o p neg=true):OpK c o p:=by
 unfold b0w at h; split at h
 · rename_i op t x y I B;simp only[Bool.and_eq_true,decide_eq_true_eq,Bool.not_eq_true']at h;obtain⟨⟨⟨⟨rfl,hm⟩,i⟩,hi⟩,h⟩:=h;unfold b7Z at hi;split at hi
   case h_2=>cases hi
   rename_i f0 f1 hu;simp only[Bool.and_eq_true,bne_iff_ne,beq_iff_eq]at hi;obtain⟨⟨⟨⟨⟨E,F⟩,o0⟩,o1⟩,u⟩,z⟩:=hi;split at u
   case h_2=>cases u
   rename_i k0 j;split at z
   case h_2=>cases z
   rename_i l;exact s8 h fun G C hs=>by rw[hk]at hs; exact c0j (call:=nc) B hm i hu E F o0 o1 j l C hs
 · cases h
theorem c6B (hk:p.kind=.min2) (h:b0s c o p=true):OpK c o p:=by
 unfold b0s at h; split at h
 · rename_i x y _ _ i;exact s8 h fun l j hs=>by rw[hk]at hs; exact c0D (call:=nc) i j hs
 · cases h
theorem a6F:∀ {places:List (Nat×Nat)} {is:List Nat} {qs:List (Nat×Nat)},a7I places is qs=true→is.map (fun i=>places[i]?)=qs.map some
 | _,[],[],_=>rfl
 | places,i::is,q::qs,h=>by simp only[a7I,Bool.and_eq_true,beq_iff_eq]at h;simp only[List.map_cons,h.1,a6F h.2]
theorem c0q {zero:List AV} {i:List (Nat×Nat)} (hk:p.kind=.build zero i) (h:a8Q c o p zero i=true):OpK c o p:=by
 unfold a8Q at h; split at h
 · rename_i t parts B;simp only[Bool.and_eq_true]at h;obtain⟨⟨j,y⟩,h⟩:=h;split at j
   · rename_i places l;obtain⟨z,C,u⟩:=a3g y;refine s8 h fun {g w pr bx σ a call r b' b st'} E x hs=>?_
     rw[hk]at hs;rw[List.map_map]at x;exact b6W (call:=nc) B l C u (a6F j) x hs
   · cases j
 · cases h
end
end Go.Cb
namespace Go.Cb
open Classical
section
variable {c:Cx} {o:Oper} {p:AOper}
theorem b76 {I:Nat} {zero:List (List AV)} {at_:List Nat} (hk:p.kind=.bslice I zero at_) (h:a6T c o p I zero at_=true):OpK c o p:=by
 intro g w pr bx σ σ' a call next Q L _ G B j
 obtain⟨r,b',st',hs,u⟩:=n8 B;unfold a6T at h;split at h
 case h_2=>cases h
 rename_i t len parts Z;split at h
 case h_2=>cases h
 rename_i e hu;split at h
 case h_2=>cases h
 rename_i ie J zs C;split at h
 case h_2=>cases h
 rename_i z hz;simp only[Bool.and_eq_true,beq_iff_eq,decide_eq_true_eq]at h;obtain⟨⟨⟨⟨⟨⟨⟨⟨⟨M,N⟩,O⟩,S⟩,U⟩,V⟩,W⟩,X⟩,Y⟩,x⟩:=h;obtain⟨p1,p2,p3⟩:=X2 Y;rw[hk]at hs;simp only[sem,N3]at hs;obtain⟨rs,E,hs⟩:=Option.map_eq_some_iff.1 hs;simp only[Prod.mk.injEq]at hs;obtain⟨rfl,rfl,rfl⟩:=hs;rw[p1,G5 p2]at u;subst u;have i:=U6 G p2;rw[List.map_map]at i;have l:J::zs=List.replicate len J:=by apply List.eq_replicate_iff.2;refine⟨V,fun y hy=>?_⟩;have F:=List.all_eq_true.1 W y hy;exact(H6 _ _).1 F
 exact b7z L G Z hu C hz M N O (by simpa using S) U l X i E p3 x j
theorem b4F {L:Nat} {zero:List (List AV)} {at_:List Nat} (hk:p.kind=.bsliceM L zero at_) (h:a0F c o p L zero at_=true):OpK c o p:=by
 intro g w pr bx σ σ' a call next Q N _ hS E j
 obtain⟨r,b',st',hs,i⟩:=n8 E;unfold a0F at h;split at h
 case h_2=>cases h
 rename_i t len parts ho;split at h
 case h_2=>cases h
 rename_i e hu;split at h
 case h_2=>cases h
 rename_i ie M zs F;split at h
 case h_2=>cases h
 rename_i z hz;simp only[Bool.and_eq_true,beq_iff_eq,decide_eq_true_eq]at h;simp only[Option.isNone_iff_eq_none]at h;obtain⟨⟨⟨⟨⟨⟨⟨⟨⟨⟨⟨O,S⟩,U⟩,V⟩,W⟩,X⟩,Y⟩,Z⟩,p1⟩,p3⟩,C⟩,B⟩:=h;split at C
 case h_2=>cases C
 rename_i x q hx J;rw[hk,J]at hs;simp only[sem,K4,List.map_cons,List.map_nil]at hs;obtain⟨rs,G,hs⟩:=Option.map_eq_some_iff.1 hs;simp only[Prod.mk.injEq]at hs;obtain⟨rfl,rfl,rfl⟩:=hs;rw[p1,J]at i;simp only[g9]at i;have u:(q.spend σ).st=σ.st:=by cases q<;>rfl
 rw[← u]at i;subst i;have l:M::zs=List.replicate len M:=by apply List.eq_replicate_iff.2;refine⟨X,fun y hy=>?_⟩;have I:=List.all_eq_true.1 Y y hy;exact(H6 _ _).1 I
 exact b30 N hS ho hu F hz O S U (by simpa using V) W l Z hx C G p3 B j
theorem b5x {N:Nat} {zero:List (List AV)} {at_:List Nat} (hk:p.kind=.bsliceO N zero at_) (h:a0F c o p N zero at_=true):OpK c o p:=by
 intro g w pr bx σ σ' a call next Q O _ hS C i
 obtain⟨r,b',st',hs,j⟩:=n8 C;unfold a0F at h;split at h
 case h_2=>cases h
 rename_i t len parts ho;split at h
 case h_2=>cases h
 rename_i e hu;split at h
 case h_2=>cases h
 rename_i ie J zs E;split at h
 case h_2=>cases h
 rename_i z hz;simp only[Bool.and_eq_true,beq_iff_eq,decide_eq_true_eq]at h;simp only[Option.isNone_iff_eq_none]at h;obtain⟨⟨⟨⟨⟨⟨⟨⟨⟨⟨⟨S,U⟩,V⟩,W⟩,X⟩,L⟩,Y⟩,Z⟩,p1⟩,p3⟩,B⟩,u⟩:=h;split at B
 case h_2=>cases B
 rename_i x q hx M;rw[hk,M]at hs;simp only[sem,K5,List.map_cons,List.map_nil]at hs;obtain⟨rs,F,hs⟩:=Option.map_eq_some_iff.1 hs;simp only[Prod.mk.injEq]at hs;obtain⟨rfl,rfl,rfl⟩:=hs;rw[p1,M]at j;simp only[g9]at j;subst j;have l:J::zs=List.replicate len J:=by apply List.eq_replicate_iff.2;refine⟨L,fun y hy=>?_⟩;have G:=List.all_eq_true.1 Y y hy;exact(H6 _ _).1 G
 have I:(J::zs).length=len:=L;rw[I]at i;exact b4w O hS ho hu E hz S U V (by simpa using W) X l Z hx B F p3 u i
theorem b9z {i:Nat} (hk:p.kind=.ldLcS i) (h:a8X c o p i=true):OpK c o p:=by
 intro g w pr bx σ σ' a call next Q J _ G C l
 obtain⟨r,b',st',hs,y⟩:=n8 C;unfold a8X at h; split at h
 · rename_i t x j S I;simp only[Bool.and_eq_true,beq_iff_eq,decide_eq_true_eq]at h;obtain⟨⟨⟨⟨rfl,L⟩,M⟩,F⟩,N⟩:=h;obtain⟨q,U,O⟩:=(U6 G F).one;rw[hk,U]at hs;simp only[C3,I,sem]at hs;unfold O0 at hs;split at hs<;>first|cases hs; done|skip
   rename_i j off cs u B;simp only[List.cons.injEq,and_true]at u;subst u;split at hs<;>first|cases hs; done|skip
   rename_i E;subst E;split at hs<;>first|cases hs; done|skip
   rename_i z V;simp only[Option.some.injEq,Prod.mk.injEq]at hs;obtain⟨rfl,rfl,rfl⟩:=hs;rw[I,G5 F]at y;subst y;exact c0h J G (List.getElem?_eq_getElem L) S M B V O.2 N l
 · cases h
theorem b0B (hk:p.kind=.ldStS) (h:a3x c o p=true):OpK c o p:=by
 intro g w pr bx σ σ' a call next Q E _ B y i
 obtain⟨r,b',st',hs,l⟩:=n8 y;unfold a3x at h; split at h
 · rename_i t x I;simp only[Bool.and_eq_true,beq_iff_eq]at h;obtain⟨F,h⟩:=h;obtain⟨p1,p2,p3⟩:=X2 h;obtain⟨q,J,G⟩:=(U6 B p2).one;rw[hk,J]at hs;simp only[sem]at hs;unfold E8 at hs;split at hs<;>first|cases hs; done|skip
   rename_i M off j;simp only[List.cons.injEq,and_true]at j;subst j;split at hs<;>first|cases hs; done|skip
   rename_i cs u;split at hs<;>first|cases hs; done|skip
   rename_i z L;simp only[Option.some.injEq,Prod.mk.injEq]at hs;obtain⟨rfl,rfl,rfl⟩:=hs;rw[p1,G5 p2]at l;subst l;have C:=ValOK.rel G;simp only[Rel]at C;exact c1b E B I F u L C.2 p3 i
 · cases h
theorem c2O {i n:Nat} (hk:p.kind=.stLc i n) (h:b0E c o p i n=true):OpK c o p:=by
 intro g w pr bx σ σ' a call next Q fx _ M I z
 obtain⟨r,b',st',hs,l⟩:=n8 I;unfold b0E at h; split at h
 · rename_i t x y j S U ho hd J O N;simp only[Bool.and_eq_true,beq_iff_eq,decide_eq_true_eq]at h;obtain⟨⟨⟨⟨rfl,Y⟩,Z⟩,F⟩,h3⟩:=h;have L:=R3 M F;have C:S.spend σ=σ:=by simp only[Q8,Bool.and_eq_true]at F;have:=F.2;cases S<;>simp_all [Opd.steals,Opd.spend]
   rw[hk,N]at hs;simp only[C3,O,sem,List.map_cons,List.map_nil]at hs;unfold O6 at hs;split at hs<;>first|cases hs; done|skip
   rename_i j off x' cs B G;simp only[List.cons.injEq,and_true]at B;obtain⟨e0,X⟩:=B;split at hs<;>first|cases hs; done|skip
   rename_i u;obtain⟨rfl,c1,V,W⟩:=u;simp only[Option.some.injEq,Prod.mk.injEq]at hs;obtain⟨rfl,rfl,rfl⟩:=hs;rw[O,N,J]at l;simp only[g9,C,Dst.put]at l;have E:(U.spend σ).st=σ.st:=by cases U<;>rfl
   subst X;rw[← E]at l;subst l;rw[e0]at L;exact c5s M (List.getElem?_eq_getElem Y) ho Z G L.2 h3 c1 V W hd z
 · cases h
theorem b25 {n:Nat} (hk:p.kind=.stSt n) (h:a5f c o p n=true):OpK c o p:=by
 intro g w pr bx σ σ' a call next Q Z _ I E j
 obtain⟨r,b',st',hs,l⟩:=n8 E;unfold a5f at h; split at h
 · rename_i t x y M q1 Y X F W J;simp only[Bool.and_eq_true,beq_iff_eq]at h;obtain⟨⟨U,B⟩,V⟩:=h;have G:=R3 I B;have z:M.spend σ=σ:=by simp only[Q8,Bool.and_eq_true]at B;have:=B.2;cases M<;>simp_all [Opd.steals,Opd.spend]
   rw[hk,J]at hs;simp only[sem,List.map_cons,List.map_nil]at hs;unfold H5 at hs;split at hs<;>first|cases hs; done|skip
   rename_i oo off x' u;simp only[List.cons.injEq,and_true]at u;obtain⟨e0,S⟩:=u;split at hs<;>first|cases hs; done|skip
   rename_i cs C;split at hs<;>first|cases hs; done|skip
   rename_i i;obtain⟨c1,N,O⟩:=i;simp only[fL_eq,Option.some.injEq,Prod.mk.injEq]at hs;obtain⟨rfl,rfl,rfl⟩:=hs;rw[W,J,F]at l;simp only[g9,z,Dst.put]at l;subst S;subst l;rw[e0]at G;have L:=ValOK.rel G;simp only[Rel]at L;exact c7r I Y U C L.2 V c1 N O X j
 · cases h
theorem c5T {S:Nat} (hk:p.kind=.mset S) (h:b1D c o p S=true):OpK c o p:=by
 intro g w pr bx σ σ' a call next Q Z _ J N j
 obtain⟨r,b',st',hs,l⟩:=n8 N;unfold b1D at h;have key:∀ (t:TypeId) (m k x:Operand),(o.op=.mapUpdate t m k x∨o.op=.insert t m k x) →
  ((match c.P.underlying t with|some (.map U _)=>M2 c.P S U|_=>false) && o.dst.isNone && y8 c o p [m,k,x])=true→o.wp c.P a w next Q:=by
  intro t m k x u h;simp only[Bool.and_eq_true,Option.isNone_iff_eq_none]at h;obtain⟨⟨F,G⟩,h⟩:=h;split at F
  case h_2=>cases F
  rename_i U Y hu;obtain⟨p1,p2,p3⟩:=X2 h;obtain⟨q0,q1,q2,W,I,y,z⟩:=(U6 J p2).three;rw[hk,W]at hs;simp only[sem]at hs;unfold X0 at hs;split at hs<;>first|cases hs; done|skip
  rename_i oo kv xv B;simp only[List.cons.injEq,and_true]at B;obtain⟨rfl,rfl,rfl⟩:=B;split at hs<;>first|cases hs; done|skip
  rename_i E;split at hs<;>first|cases hs; done|skip
  rename_i es C;have O:=ValOK.rel I;simp only[Rel]at O;have L:p.dst=.none:=by rw[G]at p3;cases V:p.dst<;>simp_all [B9]
  rw[p1,G5 p2,L]at l;simp only[Dst.put]at l;subst l;split at hs
  · rename_i i v M;simp only[Option.some.injEq,Prod.mk.injEq]at hs;obtain⟨rfl,rfl,rfl⟩:=hs;exact b3g J u hu F C O.2 y z E G (by rw[M]) j
  · rename_i M;obtain⟨zz,X,hs⟩:=Option.bind_eq_some_iff.1 hs;simp only[Option.some.injEq,Prod.mk.injEq]at hs;obtain⟨rfl,rfl,rfl⟩:=hs;exact b3g J u hu F C O.2 y z E G (by rw[M]; simp[X]) j
  · cases hs
 split at h
 · rename_i t m k x u; exact key t m k x (.inl u) h
 · rename_i t m k x u; exact key t m k x (.inr u) h
 · cases h
theorem d4f {N bytes:Nat} (hk:p.kind=.app N bytes) (h:b5B c o p N bytes=true):OpK c o p:=by
 intro g w pr bx σ σ' a call next Q V _ hS I l
 obtain⟨r,b',st',hs,j⟩:=n8 I;unfold b5B at h; split at h
 · rename_i x y t t' E M ho L;simp only[Bool.and_eq_true,beq_iff_eq,Option.isNone_iff_eq_none]at h;obtain⟨⟨⟨⟨⟨⟨rfl,u⟩,W⟩,X⟩,G⟩,Y⟩,Z⟩:=h;split at u<;>first|cases u; done|skip
   rename_i e hu;split at u<;>first|cases u; done|skip
   rename_i ie J;simp only[Bool.and_eq_true,beq_iff_eq,decide_eq_true_eq]at u;obtain⟨⟨⟨z1,z2⟩,z3⟩,z4⟩:=u;split at z4<;>first|cases z4; done|skip
   rename_i z hz;simp only[beq_iff_eq]at z4;have C:M.spend (E.spend σ)=E.spend σ:=by simp only[Q8,Bool.and_eq_true]at G;have:=G.2;cases M<;>simp_all [Opd.steals,Opd.spend]
   rw[hk,L]at hs;simp only[sem,List.map_cons,List.map_nil]at hs;unfold W6 at hs;split at hs<;>first|cases hs; done|skip
   rename_i xs own ys B;simp only[List.cons.injEq,and_true]at B;obtain⟨e0,U⟩:=B;split at hs<;>first|cases hs; done|skip
   rename_i i;simp only[Bool.and_eq_true,decide_eq_true_eq]at i;obtain⟨⟨c1,O⟩,S⟩:=i;simp only[Option.some.injEq,Prod.mk.injEq]at hs;obtain⟨rfl,rfl,rfl⟩:=hs;rw[W,L]at j;simp only[g9,C]at j;have F:(E.spend σ).st=σ.st:=by cases E<;>rfl
   rw[← F]at j;subst j;exact b70 V hS ho rfl hu J hz z1 z2 z4 z3 X G Y Z e0 U c1 O S l
 · cases h
theorem c6m {J bytes:Nat} (hk:p.kind=.appM J bytes) (h:b0l c o p J bytes=true):OpK c o p:=by
 intro g w pr bx σ σ' a call next Q L _ U E i
 obtain⟨r,b',st',hs,j⟩:=n8 E;unfold b0l at h; split at h
 · rename_i x y t t' q0 I gs V G;simp only[Bool.and_eq_true,beq_iff_eq,Option.isNone_iff_eq_none]at h;obtain⟨⟨⟨⟨⟨⟨⟨rfl,l⟩,M⟩,N⟩,C⟩,O⟩,h6⟩,S⟩:=h;split at l<;>first|cases l; done|skip
   rename_i e hu;split at l<;>first|cases l; done|skip
   rename_i ie F;simp only[Bool.and_eq_true,beq_iff_eq,decide_eq_true_eq]at l;obtain⟨⟨⟨Z,z2⟩,z3⟩,z4⟩:=l;split at z4<;>first|cases z4; done|skip
   rename_i z X;simp only[beq_iff_eq]at z4;have u:∀ τ:Sig,I.spend τ=τ:=fun τ=>by simp only[Q8,Bool.and_eq_true]at C;have:=C.2;cases I<;>simp_all [Opd.steals,Opd.spend]
   have B:∀ (gs:List Opd) (τ:Sig),gs.all (fun q=>!q.steals)=true→g9 gs τ=τ:=by
    intro gs;induction gs with
    | nil=>intro τ _; rfl
    | cons q gs Y =>
     intro τ hg;simp only[List.all_cons,Bool.and_eq_true]at hg;have W:q.spend τ=τ:=by have:=hg.1;cases q<;>simp_all [Opd.steals,Opd.spend]
     rw[g9,W];exact Y τ hg.2
   rw[hk,G]at hs;simp only[sem,List.map_cons]at hs;rw[M,G]at j;simp only[g9,u,B gs _ S]at j;subst j;exact c5S L U V rfl hu F X Z z2 z4 z3 N C O hs i
 · cases h
theorem c43 {bytes:Nat} (hk:p.kind=.appA bytes) (h:b0L c o p bytes=true):OpK c o p:=by
 intro g w pr bx σ σ' a call next Q O _ W N u
 obtain⟨r,b',st',hs,j⟩:=n8 N;unfold b0L at h; split at h
 · rename_i x y t t' I q1 Y X;simp only[Bool.and_eq_true,beq_iff_eq,Option.isNone_iff_eq_none]at h;obtain⟨⟨⟨⟨⟨⟨rfl,B⟩,h2⟩,S⟩,G⟩,U⟩,V⟩:=h;split at B<;>first|cases B; done|skip
   rename_i e hu;split at B<;>first|cases B; done|skip
   rename_i ie E;simp only[Bool.and_eq_true,beq_iff_eq,decide_eq_true_eq]at B;obtain⟨⟨⟨z1,z2⟩,z3⟩,z4⟩:=B;split at z4<;>first|cases z4; done|skip
   rename_i z Z;simp only[beq_iff_eq]at z4;have F:q1.spend (I.spend σ)=I.spend σ:=by simp only[Q8,Bool.and_eq_true]at G;have:=G.2;cases q1<;>simp_all [Opd.steals,Opd.spend]
   have C:(I.spend σ).st=σ.st:=by cases I<;>rfl
   rw[hk,X]at hs;simp only[sem,List.map_cons,List.map_nil]at hs;rw[h2,X]at j;simp only[g9,F]at j;unfold a0c at hs;split at hs<;>first|cases hs; done|skip
   · rename_i xs l;simp only[List.cons.injEq,and_true]at l;obtain⟨e0,L⟩:=l;split at hs<;>first|cases hs; done|skip
     rename_i i;simp only[Bool.and_eq_true,decide_eq_true_eq]at i;obtain⟨c1,J⟩:=i;simp only[Option.some.injEq,Prod.mk.injEq]at hs;obtain⟨rfl,rfl,rfl⟩:=hs;rw[← C]at j;subst j;exact b7q O W Y rfl hu E Z z1 z2 z4 z3 S G U V e0 L c1 J u
   · rename_i xs ob n l;simp only[List.cons.injEq,and_true]at l;obtain⟨e0,L⟩:=l;split at hs<;>first|cases hs; done|skip
     rename_i cs M;split at hs<;>first|cases hs; done|skip
     rename_i i;simp only[Bool.and_eq_true,decide_eq_true_eq]at i;obtain⟨⟨c1,c4⟩,J⟩:=i;simp only[Option.some.injEq,Prod.mk.injEq]at hs;obtain⟨rfl,rfl,rfl⟩:=hs;rw[← C]at j;subst j;obtain rfl:=Nat.eq_of_beq_eq_true c4;exact c2T O W Y rfl hu E Z z1 z2 z4 z3 S G U V e0 L M c1 J u
 · cases h
theorem d7r (hk:p.kind=.b2s) (h:b5C c o p=true):OpK c o p:=by
 unfold b5C at h; split at h
 · rename_i t u x y;simp only[Bool.and_eq_true]at h;obtain⟨hu,h⟩:=h;split at hu
   · rename_i e i j;split at hu
     · rename_i l;exact s8 h fun B z hs=>by rw[hk]at hs; exact c47 (call:=nc) y i l j z hs
     · cases hu
   · cases hu
 · cases h
theorem b3e {f:Nat} (hk:p.kind=.call f) (h:a5M c o p f=true):OpK c o p:=by
 intro g w pr bx σ σ' a call next Q G J t B j
 obtain⟨r,b',st',hs,l⟩:=n8 B;unfold a5M at h; split at h
 · rename_i F xs E L;simp only[Bool.and_eq_true,beq_iff_eq]at h;obtain⟨rfl,h⟩:=h;obtain⟨p1,p2,p3⟩:=X2 h;have I:=U6 t p2;rw[hk]at hs;simp only[sem,B6]at hs;split at hs<;>first|cases hs; done|skip
   rename_i C;obtain⟨⟨v,st2⟩,i,hs⟩:=Option.map_eq_some_iff.1 hs;simp only[Prod.mk.injEq]at hs;obtain⟨rfl,rfl,rfl⟩:=hs;rw[p1,G5 p2]at l;subst l;obtain⟨z,u⟩:=J _ _ _ _ _ i (fun x M=>by obtain⟨y,_,rfl⟩:=List.mem_map.1 M; exact I6 y);refine a9Y G t (f:=F) (vs:=xs.map a.eval) ?_ ?_ p3 j
   · unfold execOp;simp only[L,resolve,Deferred.ofValue,Act.eval,Sem.run_bind,Sem.run_pure,Result.andThen_ok,invoke,Array.append_empty,Array.empty_append];exact a2G z _ _
   · have:=u g w _ t.st t.gl (a0R I C);have e:(xs.toList.map a.eval).toArray=xs.map a.eval:=by apply Array.ext'; simp
     rw[e]at this;exact this
 · cases h
theorem c0g (hk:p.kind=.callV) (h:a8y c o p=true):OpK c o p:=by
 intro g w pr bx σ σ' a call next Q fx hc I S t
 obtain⟨r,b',st',hs,E⟩:=n8 S;unfold a8y at h; split at h
 · rename_i s xs a0 ho;obtain⟨p1,p2,p3⟩:=X2 h;obtain⟨q,qs,hq,L,hA⟩:=(U6 I p2).cons_inv;rw[hk,hq]at hs;simp only[sem]at hs;unfold H9 at hs;split at hs<;>first|cases hs; done|skip
   rename_i f first X as B
   simp only[List.cons.injEq]at B;obtain⟨rfl,rfl⟩:=B;split at hs<;>first|cases hs; done|skip
   rename_i U;obtain⟨⟨v,st2⟩,j,hs⟩:=Option.map_eq_some_iff.1 hs;simp only[Prod.mk.injEq]at hs;obtain⟨rfl,rfl,rfl⟩:=hs;rw[p1,G5 p2]at E;subst E;obtain⟨N,M⟩:=hc _ _ _ _ _ j (fun x hx=>by obtain⟨y,_,rfl⟩:=List.mem_map.1 hx; exact I6 y);have J:=ValOK.rel L;simp only[Rel]at J;obtain⟨G,F,O,V,W⟩:=J;refine a9Y fx I (f:=f) (vs:=G++xs.map a.eval++F) ?_ ?_ p3 t
   · unfold execOp;simp only[ho,resolve,O,Deferred.ofValue,Sem.run_bind,Sem.run_pure,Result.andThen_ok,invoke];exact a2G N _ _
   · have Y:∀ {l:List AV} {us:List Value},RelL g w l us→RelL g w (l.map AV.weak) us:=fun {l} {us} hl=>RelL.of_get (by rw[List.length_map]; exact hl.length) fun i y u Z hu=>by rw[List.getElem?_map]at Z;obtain⟨z,hz,rfl⟩:=Option.map_eq_some_iff.1 Z;obtain⟨u',C,J⟩:=hl.get hz;rw[hu]at C;cases C;exact J.weak
     have:=M g w (G.toList++xs.toList.map a.eval++F.toList) I.st I.gl (by rw[List.map_append,List.map_append];exact((Y V).append (a0R hA U)).append (Y W));have e:(G.toList++xs.toList.map a.eval++F.toList).toArray=G++xs.map a.eval++F:=by apply Array.ext'; simp
     rw[e]at this;exact this
 · cases h
theorem b2v {q:Opd} (h:(!q.steals)=true) (σ:Sig):q.spend σ=σ:=by cases q<;>simp_all [Opd.steals,Opd.spend]
theorem a3q:∀ {qs:List Opd},Z7 qs=true→∀ σ:Sig,g9 qs σ=σ
 | [],_,_=>rfl
 | q::qs,h,σ=>by simp only[Z7,List.all_cons,Bool.and_eq_true]at h;rw[g9,b2v h.1];exact a3q h.2 σ
theorem a5q:∀ (i qs:List Opd) (σ:Sig),g9 (i++qs) σ=g9 qs (g9 i σ)
 | [],_,_=>rfl
 | p::i,qs,σ=>by rw[List.cons_append,g9,g9,a5q i]
theorem a4r {j:AOper} {m:Nat} (hk:OpK c o j) (J:j.dst=p.dst) (G:j.box=p.box) (F:j.args=p.args.take m) (L:Z7 (p.args.drop m)=true)
 (hs:∀ {call:e9} {σ:Sig} {r b':AV} {st':St},sem p.kind call (p.args.map (·.read σ)) (C3 p σ) σ.st=some (r,b',st')→sem j.kind call (j.args.map (·.read σ)) (C3 j σ) σ.st=some (r,b',st')):OpK c o p:=by
 intro g w pr bx σ σ' a call next Q B I E x l
 obtain⟨r,b',st',C,z⟩:=n8 x;refine hk B I E (σ':=σ') ?_ l;have u:=hs C;rw[O9];have y:g9 p.args σ=g9 j.args σ:=by
  rw[F];conv=>lhs; rw[← List.take_append_drop m p.args]
  rw[a5q,a3q L]
 rw[z,y,← J,← G];cases t:j.box with
 | none=>simp only[C3,t]at u ⊢; rw[u]
 | some i=>simp only[C3,t]at u ⊢; rw[u]
theorem c2c {ag:Bool} {n:Nat} (hk:p.kind=.ldStR ag n) (h:(Y7 c o p.bare ag n && Z7 p.beside)=true):OpK c o p:=by
 simp only[Bool.and_eq_true]at h;have e:p.bare={ p with kind:=.ldSt ag n,args:=p.args.take 1 }:=by unfold AOper.bare; rw[hk]
 have e2:p.beside=p.args.drop 1:=by unfold AOper.beside; rw[hk]
 rw[e,e2]at h;refine @a4r c o p { p with kind:=.ldSt ag n,args:=p.args.take 1 } 1 (b2G (p:={ p with kind:=.ldSt ag n,args:=p.args.take 1 }) rfl h.1) rfl rfl rfl h.2 ?_;intro call σ r b' st' hs;rw[hk]at hs;simp only[sem]at hs ⊢;unfold G8 at hs;split at hs<;>first|cases hs; done|skip
 rename_i j off rt i;split at hs<;>first|cases hs; done|skip
 split at hs<;>first|cases hs; done|skip
 rw[List.map_take,i];exact hs
theorem b8x {d:Nat} (hk:p.kind=.ldStSR d) (h:(a3x c o p.bare && Z7 p.beside)=true):OpK c o p:=by
 simp only[Bool.and_eq_true]at h;have e:p.bare={ p with kind:=.ldStS,args:=p.args.take 1 }:=by unfold AOper.bare; rw[hk]
 have e2:p.beside=p.args.drop 1:=by unfold AOper.beside; rw[hk]
 rw[e,e2]at h;refine @a4r c o p { p with kind:=.ldStS,args:=p.args.take 1 } 1 (b0B (p:={ p with kind:=.ldStS,args:=p.args.take 1 }) rfl h.1) rfl rfl rfl h.2 ?_;intro call σ r b' st' hs;rw[hk]at hs;simp only[sem]at hs ⊢;unfold F0 at hs;split at hs<;>first|cases hs; done|skip
 rename_i j off l f i;split at hs<;>first|cases hs; done|skip
 rw[List.map_take,i];exact hs
theorem c2f {n:Nat} (hk:p.kind=.stStA n) (h:(a5f c o p.bare n && Z7 p.beside)=true):OpK c o p:=by
 simp only[Bool.and_eq_true]at h;have e:p.bare={ p with kind:=.stSt n,args:=p.args.take 2 }:=by unfold AOper.bare; rw[hk]
 have e2:p.beside=p.args.drop 2:=by unfold AOper.beside; rw[hk]
 rw[e,e2]at h;refine @a4r c o p { p with kind:=.stSt n,args:=p.args.take 2 } 2 (b25 (p:={ p with kind:=.stSt n,args:=p.args.take 2 }) rfl h.1) rfl rfl rfl h.2 ?_;intro call σ r b' st' hs;rw[hk]at hs;simp only[sem]at hs ⊢;unfold H1 at hs;split at hs<;>first|cases hs; done|skip
 rename_i j off x rt gs i;split at hs<;>first|cases hs; done|skip
 split at hs<;>first|cases hs; done|skip
 rw[List.map_take,i];exact hs
theorem c0B {f m:Nat} (hk:p.kind=.callA f m) (h:(a5M c o p.bare f && Z7 p.beside)=true):OpK c o p:=by
 simp only[Bool.and_eq_true]at h;have e:p.bare={ p with kind:=.call f,args:=p.args.take m }:=by unfold AOper.bare; rw[hk]
 have e2:p.beside=p.args.drop m:=by unfold AOper.beside; rw[hk]
 rw[e,e2]at h;refine @a4r c o p { p with kind:=.call f,args:=p.args.take m } m (b3e (p:={ p with kind:=.call f,args:=p.args.take m }) rfl h.1) rfl rfl rfl h.2 ?_;intro call σ r b' st' hs;rw[hk]at hs;simp only[sem]at hs ⊢;unfold G9 at hs;split at hs<;>first|cases hs; done|skip
 rename_i v j l i;split at hs<;>first|cases hs; done|skip
 simp only[Option.some.injEq,Prod.mk.injEq]at hs;obtain⟨rfl,rfl,rfl⟩:=hs;rw[List.map_take];exact i
theorem c1X (hk:p.kind=.stuck):OpK c o p:=by
 intro g w pr bx σ σ' a call next Q t _ u i j
 obtain⟨r,b',st',hs,l⟩:=n8 i;rw[hk]at hs;cases hs
theorem c2u (h:a7o c o p=true):OpK c o p:=by
 unfold a7o at h;split at h
 case h_1 hk=>exact d7U hk h
 case h_2 hk=>exact c3Q hk h
 case h_3 hk=>exact b7Q hk h
 case h_4 hk=>exact c0K hk h
 case h_5 hk=>exact c3i hk h
 case h_6 hk=>exact b7S hk h
 case h_7 hk=>exact c4Q hk h
 case h_8 hk=>exact c0q hk h
 case h_9 hk=>exact b76 hk h
 case h_10 hk=>exact b4F hk h
 case h_11 hk=>exact c4z hk h
 case h_12 hk=>exact b2G hk h
 case h_13 hk=>exact c2z hk h
 case h_14 hk=>exact c6U hk h
 case h_15 hk=>exact c2c hk h
 case h_16 hk=>exact b8x hk h
 case h_17 hk=>exact c2f hk h
 case h_18 hk=>exact c0B hk h
 case h_19 hk=>exact b9z hk h
 case h_20 hk=>exact b0B hk h
 case h_21 hk=>exact c2O hk h
 case h_22 hk=>exact b25 hk h
 case h_23 hk=>exact d5P hk h
 case h_24 hk=>exact d3S hk h
 case h_25 hk=>exact c8R hk h
 case h_26 hk=>exact c32 hk h
 case h_27 hk=>exact c3a hk h
 case h_28 hk=>exact d0w hk h
 case h_29 hk=>exact d2I hk h
 case h_30 hk=>exact d47 hk h
 case h_31 hk=>exact d2F hk h
 case h_32 hk=>exact d1s hk h
 case h_33 hk=>exact c3m hk h
 case h_34 hk=>exact c5b hk h
 case h_35 hk=>exact e1h hk h
 case h_36 hk=>exact c7L hk h
 case h_37 hk=>exact c8I hk h
 case h_38 hk=>exact d3X hk h
 case h_39 hk=>exact c7n hk h
 case h_40 hk=>exact c5T hk h
 case h_41 hk=>exact d7u hk h
 case h_42 hk=>exact b3e hk h
 case h_43 hk=>exact c0g hk h
 case h_44 hk=>exact c7c hk h
 case h_45 hk=>exact c51 hk h
 case h_46 hk=>exact d4f hk h
 case h_47 hk=>exact c6m hk h
 case h_48 hk=>exact d7r hk h
 case h_49 hk=>exact c43 hk h
 case h_50 hk=>exact b5x hk h
 case h_51 hk=>exact c6B hk h
 case h_52 hk=>exact c4E hk h
 case h_53 hk=>exact c1X hk
end
end Go.Cb
namespace Go.Cb
open Classical
inductive Atom where
 | t (s:Nat)|v (i:Nat)|st
 deriving DecidableEq
def Opd.atoms:Opd→List Atom
 | .t s|.ts s=>[.t s]
 | .v i|.vs i|.l i=>[.v i]
 | .c _=>[]
def Opd.spent:Opd→List Atom
 | .ts s=>[.t s]
 | .vs i=>[.v i]
 | _=>[]
def Kind.useSt:Kind→Bool
 | .allocO _|.boxO|.bsliceO ..|.appM ..|.appA _|.ldSt ..|.ldAn ..|.ldStR ..|.ldStSR _|.stStA _|.callA ..|.ldStS|.stSt _|.mkM|.mget ..|.mset _|.call _|.callV=>true
 | _=>false
def Kind.setSt:Kind→Bool
 | .allocO _|.boxO|.bsliceO ..|.appM ..|.ldStSR _|.stStA _|.callA ..|.ldStS|.stSt _|.mkM|.mset _|.call _|.callV=>true
 | _=>false
def Dst.atoms:Dst→List Atom
 | .t s=>[.t s]
 | .v i=>[.v i]
 | _=>[]
def AOper.reads (p:AOper):List Atom :=
 p.args.flatMap Opd.atoms++(match p.box with|some i=>[.v i]|none=>[])++(match p.guard with|some (x,_)=>x.atoms|none=>[])++(if p.kind.useSt then [.st]else [])
def AOper.writes (p:AOper):List Atom :=
 p.dst.atoms++p.args.flatMap Opd.spent++(match p.box with|some i=>if p.kind.alters then [.v i]else []|none=>[])++(if p.kind.setSt then [.st]else [])
def Atom.beq:Atom→Atom→Bool
 | .t a,.t b=>Nat.beq a b
 | .v a,.v b=>Nat.beq a b
 | .st,.st=>true
 | _,_=>false
def meets (x y:List Atom):Bool:=x.any fun a=>y.any (Atom.beq a)
def Kind.isLd:Kind→Bool
 | .ldSt ..|.ldAn ..|.ldStR ..=>true
 | _=>false
def Kind.upto:Kind→Option Nat
 | .appM ..=>some 2
 | .callA _ m=>some m
 | .stStA _=>some 3
 | _=>none
def Opd.same:Opd→Opd→Bool
 | .t a,.t b=>Nat.beq a b
 | .v a,.v b=>Nat.beq a b
 | _,_=>false
def b0J (p q:AOper):Bool:=p.box.isNone && q.box.isNone && Z7 p.args
def b0D (p q:AOper):Bool:=!meets (p.dst.atoms) q.reads && !meets p.dst.atoms q.writes && !meets q.writes (p.args.flatMap Opd.atoms++p.dst.atoms++(match p.guard with|some (x,_)=>x.atoms|none=>[]))
def b7s (p q:AOper):Bool:=(match p.kind with|.ldStR ..=>true|_=>false) && (match q.kind.upto,p.args with|some m,[_,r]=>(q.args.drop m).any (Opd.same r)|_,_=>false)
def b6U (p q:AOper):Bool:=match p.kind,q.kind,p.args with|.stStA _,.stStA _,_::_::r::_=>(q.args.drop 3).any (Opd.same r)|_,_,_=>false
def Kind.isSt:Kind→Bool
 | .ldStS|.ldStSR _=>true
 | _=>false
def d2X (p q:AOper):Bool:=(p.kind.isSt && q.kind.isLd) || (p.kind.isLd && q.kind.isSt)
def b7O (p q:AOper):Bool:=match p.kind,q.kind,p.args,q.args with|.ldStSR d,.ldStSR e,[_,r],[_,s]=>Opd.same r s && !Nat.beq d e|_,_,_,_=>false
def a1T (p q:AOper):Bool:=b0J p q && b0D p q && (b7s p q || b6U p q || d2X p q || b7O p q)
def a0m (p q:AOper):Bool:=!meets p.writes q.reads && !meets p.writes q.writes && !meets q.writes p.reads
def a1t (p q:AOper):Bool:=a0m p q || a1T p q
def B3 (ops:Array Oper) (j:Nat):List Nat:=match ops[j]? with
 | some o=>o.after.toList.filterMap fun e=>if Region.binds .any e then some e.on else none
 | none=>[]
def a0H (ops:Array Oper):Nat→List Nat→List Nat
 | 0,l=>l
 | n+1,l=>l++a0H ops n (l.flatMap (B3 ops))
def Atom.same (x:Atom) (σ1 σ2:Sig):Prop:=match x with
 | .t s=>σ1.τ s=σ2.τ s
 | .v i=>σ1.fr.getD i .undef=σ2.fr.getD i .undef
 | .st=>σ1.st=σ2.st
theorem Atom.same_refl (x:Atom) (σ:Sig):x.same σ σ:=by cases x<;>rfl
theorem Atom.same_trans {x:Atom} {σ1 σ2 i:Sig} (h:x.same σ1 σ2) (j:x.same σ2 i):x.same σ1 i:=by cases x<;>exact Eq.trans h j
theorem Atom.same_symm {x:Atom} {σ1 σ2:Sig} (h:x.same σ1 σ2):x.same σ2 σ1:=by cases x<;>exact Eq.symm h
theorem Sig.ext_atoms {σ1 σ2:Sig} (hl:σ1.fr.length=σ2.fr.length) (h:∀ x:Atom,x.same σ1 σ2):σ1=σ2:=by
 obtain⟨j,y,u⟩:=σ1;obtain⟨l,z,st2⟩:=σ2;have B:y=z:=funext fun s=>h (.t s)
 have e2:u=st2:=h .st;have C:j=l:=by apply List.ext_getElem hl;intro i E F;have:=h (.v i);simp only[Atom.same]at this;simpa[E,F]using this
 rw[B,e2,C]
theorem Atom.beq_iff (x y:Atom):Atom.beq x y=true↔x=y:=by cases x<;>cases y<;>simp[Atom.beq]
theorem K0 {xs ys:List Atom} (h:meets xs ys=false):∀ x∈xs,x ∉ ys:=by
 intro x i j;have:meets xs ys=true:=by unfold meets;rw[List.any_eq_true];refine⟨x,i,?_⟩;rw[List.any_eq_true];exact⟨x,j,(Atom.beq_iff x x).2 rfl⟩
 rw[h]at this; cases this
theorem a0E {q:Opd} {σ1 σ2:Sig} (h:∀ x∈q.atoms,x.same σ1 σ2):q.read σ1=q.read σ2:=by cases q<;>simp only[Opd.atoms,List.mem_cons,List.not_mem_nil,or_false,forall_eq,false_imp_iff,implies_true,Atom.same]at h<;>simp only[Opd.read]<;>first|rw[h]|rfl
theorem Q9 (fr:List AV) (i j:Nat) (a:AV):(fr.set i a).getD j .undef=if i=j∧i < fr.length then a else fr.getD j .undef:=by
 rw[List.getD_eq_getElem?_getD,List.getElem?_set];by_cases e:i=j
 · subst e;rw[if_pos rfl];by_cases hl:i < fr.length
   · rw[if_pos hl,if_pos ⟨rfl,hl⟩]; rfl
   · rw[if_neg hl,if_neg (fun h=>hl h.2)];simp[hl]
 · rw[if_neg e,if_neg (fun h=>e h.1),List.getD_eq_getElem?_getD]
theorem a4U (q:Opd) (σ:Sig):(q.spend σ).fr.length=σ.fr.length:=by cases q<;>simp[Opd.spend]
theorem O2:∀ (qs:List Opd) (σ:Sig),(g9 qs σ).fr.length=σ.fr.length
 | [],_=>rfl
 | q::qs,σ=>by rw[g9,O2 qs,a4U]
theorem a1P (d:Dst) (r:AV) (σ:Sig):(d.put r σ).fr.length=σ.fr.length:=by cases d<;>simp[Dst.put]
theorem a7Z {q:Opd} {σ1 σ2:Sig} (hl:σ1.fr.length=σ2.fr.length) {x:Atom} (h:x.same σ1 σ2) (j:∀ x∈q.spent,x.same σ1 σ2):x.same (q.spend σ1) (q.spend σ2):=by
 cases q<;>simp only[Opd.spend]<;>try exact h
 · rename_i s;have hs:=j (.t s) (by simp[Opd.spent]);cases x<;>simp only[Atom.same]at*<;> try exact h
   simp only[C6];split
   · rw[hs]
   · exact h
 · rename_i i;have hs:=j (.v i) (by simp[Opd.spent]);cases x<;>simp only[Atom.same]at*<;> try exact h
   rw[Q9,Q9,hl,hs,h]
theorem a1v:∀ {qs:List Opd} {σ1 σ2:Sig},σ1.fr.length=σ2.fr.length→∀ {x:Atom},x.same σ1 σ2→(∀ q∈qs,∀ x∈q.spent,x.same σ1 σ2)→x.same (g9 qs σ1) (g9 qs σ2)
 | [],_,_,_,_,h,_=>h
 | q::qs,σ1,σ2,hl,x,h,hq=>by
  simp only[g9];have l:∀ y∈q.spent,y.same σ1 σ2:=fun y j=>hq q (by simp) y j
  exact a1v (by rw[a4U,a4U,hl]) (a7Z hl h l) fun t i y j=>a7Z hl (hq t (by simp[i]) y j) l
theorem b12 {q:Opd} {σ:Sig} {x:Atom} (h:x ∉ q.spent):x.same (q.spend σ) σ:=by
 cases q<;>simp only[Opd.spend]<;>try exact x.same_refl _
 · rename_i s;simp only[Opd.spent,List.mem_cons,List.not_mem_nil,or_false]at h;cases x<;>simp only[Atom.same];rename_i t;simp only[C6];rw[if_neg];simp only[Nat.beq_eq];intro e; exact h (by rw[e])
 · rename_i i;simp only[Opd.spent,List.mem_cons,List.not_mem_nil,or_false]at h;cases x<;>simp only[Atom.same];rename_i j;rw[Q9,if_neg];intro e; exact h (by rw[e.1])
theorem a3D:∀ {qs:List Opd} {σ:Sig} {x:Atom},x ∉ qs.flatMap Opd.spent→x.same (g9 qs σ) σ
 | [],_,x,_=>x.same_refl _
 | q::qs,σ,x,h=>by simp only[List.flatMap_cons,List.mem_append,not_or]at h;exact Atom.same_trans (x:=x) (a3D (qs:=qs) (σ:=q.spend σ) h.2) (b12 h.1)
theorem a2w {d:Dst} {r:AV} {σ1 σ2:Sig} (hl:σ1.fr.length=σ2.fr.length) {x:Atom} (h:x.same σ1 σ2∨x∈d.atoms):x.same (d.put r σ1) (d.put r σ2):=by
 cases d<;>simp only[Dst.put,Dst.atoms,List.mem_cons,List.not_mem_nil,or_false]at h ⊢<;>try exact h
 · rename_i s;cases x<;>simp only[Atom.same,reduceCtorEq,or_false,Atom.t.injEq]at h ⊢<;>try exact h
   rename_i t;simp only[C6];split
   · rfl
   · rename_i l;rcases h with h|h
     · exact h
     · exact absurd (by simp[h]) l
 · rename_i i;cases x<;>simp only[Atom.same,reduceCtorEq,or_false,Atom.v.injEq]at h ⊢<;>try exact h
   rename_i j;rw[Q9,Q9,hl];split
   · rfl
   · rename_i l;rcases h with h|rfl
     · exact h
     · have:¬ j < σ2.fr.length:=fun u=>l ⟨rfl,u⟩
       simp[show ¬ j < σ1.fr.length by omega,this]
theorem a2C {d:Dst} {r:AV} {σ:Sig} {x:Atom} (h:x ∉ d.atoms):x.same (d.put r σ) σ:=by
 cases d<;>simp only[Dst.put,Dst.atoms,List.mem_cons,List.not_mem_nil,or_false]at h ⊢<;>try exact x.same_refl _
 · rename_i s;cases x<;>simp only[Atom.same];rename_i t;simp only[C6];rw[if_neg];simp only[Nat.beq_eq];intro e; exact h (by rw[e])
 · rename_i i;cases x<;>simp only[Atom.same];rename_i j;rw[Q9,if_neg];intro e; exact h (by rw[e.1])
theorem b4M {i:Nat} {b:AV} {l st2:St} {σ1 σ2:Sig} (hl:σ1.fr.length=σ2.fr.length) {x:Atom} (h:x.same { σ1 with st:=l } { σ2 with st:=st2 }∨x=.v i) :
 x.same { σ1 with fr:=σ1.fr.set i b,st:=l } { σ2 with fr:=σ2.fr.set i b,st:=st2 }:=by
 cases x<;>simp only[Atom.same,reduceCtorEq,or_false,Atom.v.injEq]at h ⊢<;>try exact h
 rename_i j;rw[Q9,Q9,hl];split
 · rfl
 · rename_i u;rcases h with h|rfl
   · exact h
   · have:¬ j < σ2.fr.length:=fun t=>u ⟨rfl,t⟩
     simp[show ¬ j < σ1.fr.length by omega,this]
theorem a2f {k:Kind} (hk:k.setSt=false) {call:e9} {as:List AV} {b r b':AV} {st st':St} (h:sem k call as b st=some (r,b',st')):st'=st:=by
 cases k<;>simp only[Kind.setSt,Bool.true_eq_false]at hk<;>simp only[sem,a1a,F3,G0,V4,X1,I7,O7,N9,N3,K4,K5,W7,W9,F6,G8,F0,H1,G9,M0,F4,P1,H3,O0,E8,O6,H5,P6,W5,O1,I4,N7,S0,P3,Y8,W2,F1,S7,N8,a0q,R8,Y3,Y4,X3,X0,S1,B6,H9,R9,J6,W6,W3,a0c]at h;all_goals (repeat' split at h)
 all_goals first
  | (cases h; done)
  | (simp only[Option.some.injEq,Prod.mk.injEq]at h; exact h.2.2.symm)
  | (obtain⟨z,i,h⟩:=Option.map_eq_some_iff.1 h; simp only[Prod.mk.injEq]at h; exact h.2.2.symm)
  | (obtain⟨⟨l,u⟩,i,h⟩:=Option.map_eq_some_iff.1 h; simp only[Prod.mk.injEq]at h; exact h.2.2.symm)
theorem b4R {f:Nat} {call:e9} {as:List AV} {b r b':AV} {st st':St} (h:B6 f call as b st=some (r,b',st')):b'=b:=by
 unfold B6 at h;split at h
 · obtain⟨⟨v,s⟩,_,h⟩:=Option.map_eq_some_iff.1 h;simp only[Prod.mk.injEq]at h;exact h.2.1.symm
 · cases h
theorem c1y {f m:Nat} {call:e9} {as:List AV} {b r b':AV} {st st':St} (h:G9 f m call as b st=some (r,b',st')):b'=b:=by
 unfold G9 at h;split at h<;>first|cases h; done|skip
 rename_i i;split at h<;>first|cases h; done|skip
 simp only[Option.some.injEq,Prod.mk.injEq]at h;obtain⟨_,rfl,_⟩:=h;exact b4R i
theorem a3H {k:Kind} (hk:k.alters=false) {call:e9} {as:List AV} {b r b':AV} {st st':St} (h:sem k call as b st=some (r,b',st')):b'=b:=by
 have j:∀ f m,k=.callA f m→b'=b:=fun f m e=>by subst e; exact c1y h
 cases k<;>simp only[Kind.alters,Bool.true_eq_false]at hk<;>simp only[sem,a1a,F3,G0,V4,X1,I7,O7,N9,N3,K4,K5,W7,W9,F6,G8,F0,H1,G9,M0,F4,P1,H3,O0,E8,O6,H5,P6,W5,O1,I4,N7,S0,P3,Y8,W2,F1,S7,N8,a0q,R8,Y3,Y4,X3,X0,S1,B6,H9,R9,J6,W6,W3,a0c]at h;all_goals first
  | exact j _ _ rfl
  | skip
 all_goals (repeat' split at h)
 all_goals first
  | (cases h; done)
  | (simp only[Option.some.injEq,Prod.mk.injEq]at h; exact h.2.1.symm)
  | (simp only[fL_eq,Option.some.injEq,Prod.mk.injEq]at h; exact h.2.1.symm)
  | (obtain⟨z,i,h⟩:=Option.map_eq_some_iff.1 h; simp only[Prod.mk.injEq]at h; exact h.2.1.symm)
  | (obtain⟨⟨l,u⟩,i,h⟩:=Option.map_eq_some_iff.1 h; simp only[Prod.mk.injEq]at h; exact h.2.1.symm)
  | (obtain⟨z,i,h⟩:=Option.bind_eq_some_iff.1 h; simp only[Option.some.injEq,Prod.mk.injEq]at h; exact h.2.1.symm)
theorem c2R {k:Kind} (hk:k.useSt=false) {call:e9} {as:List AV} {b r b':AV} {st st':St} (h:sem k call as b st=some (r,b',st')) (st2:St):sem k call as b st2=some (r,b',st2):=by
 cases k<;>simp only[Kind.useSt,Bool.true_eq_false]at hk<;>simp only[sem,a1a,F3,G0,V4,X1,I7,O7,N9,N3,K4,K5,W7,W9,F6,G8,F0,H1,G9,M0,F4,P1,H3,O0,E8,O6,H5,P6,W5,O1,I4,N7,S0,P3,Y8,W2,F1,S7,N8,a0q,R8,Y3,Y4,X3,X0,S1,B6,H9,R9,J6,W6,W3,a0c]at h ⊢;all_goals (repeat' split at h)
 all_goals first
  | (cases h; done)
  | (simp only[Option.some.injEq,Prod.mk.injEq]at h; obtain⟨rfl,rfl,rfl⟩:=h; simp_all; done)
  | (obtain⟨z,i,h⟩:=Option.map_eq_some_iff.1 h; simp only[Prod.mk.injEq]at h; obtain⟨rfl,rfl,rfl⟩:=h; simp_all; done)
  | (obtain⟨⟨l,u⟩,i,h⟩:=Option.map_eq_some_iff.1 h; simp only[Prod.mk.injEq]at h; obtain⟨rfl,rfl,rfl⟩:=h; simp_all; done)
  | skip
end Go.Cb
namespace Go.Cb
open Classical
section
variable {p q:AOper} {call:e9} {σ σ' σ1 σ2:Sig}
theorem a1R {r b':AV} {st':St} (h:sem p.kind call (p.args.map (·.read σ)) (C3 p σ) σ.st=some (r,b',st')) :
 E9 call p σ=some (p.dst.put r { g9 p.args σ with fr:=(match p.box with|some i=>(g9 p.args σ).fr.set i b'|none=>(g9 p.args σ).fr),st:=st' }):=by
 rw[O9];cases j:p.box with
 | none =>
  have e:C3 p σ=.undef:=by simp only[C3,j]
  rw[e]at h;simp only[j,h]
 | some i =>
  have e:C3 p σ=σ.fr.getD i .undef:=by simp only[C3,j]
  rw[e]at h;simp only[j,h]
theorem a3z {k:Kind} (h:k.setSt=true):k.useSt=true:=by cases k<;>first|rfl|cases h
theorem a2Z (x:Opd):∀ y∈x.spent,y∈x.atoms:=by cases x<;>simp[Opd.spent,Opd.atoms]
theorem a1c:∀ (qs:List Opd) (σ:Sig),(g9 qs σ).st=σ.st
 | [],_=>rfl
 | x::qs,σ=>by rw[g9,a1c qs];cases x<;>rfl
theorem a2d (h:E9 call p σ=some σ'):(∀ x,x ∉ p.writes→x.same σ' σ)∧σ'.fr.length=σ.fr.length:=by
 obtain⟨r,b',st',hs,rfl⟩:=n8 h;refine⟨fun x C=>?_,?_⟩
 · simp only[AOper.writes,List.mem_append,not_or]at C;obtain⟨⟨⟨E,F⟩,z⟩,B⟩:=C;refine Atom.same_trans (a2C E) ?_;have l:=a3D (qs:=p.args) (σ:=σ) F;have u:x=.st→st'=σ.st:=fun e=>by
    subst e;cases hk:p.kind.setSt with
    | true=>rw[hk]at B; simp at B
    | false=>exact a2f hk hs
   cases y:p.box with
   | none =>
    cases x<;>simp only[Atom.same]at l ⊢
    · exact l
    · exact l
    · exact u rfl
   | some i =>
    cases x with
    | t s=>exact l
    | st=>exact u rfl
    | v j =>
     simp only[Atom.same]at l ⊢;rw[Q9];split
     · rename_i G;obtain⟨rfl,_⟩:=G;cases hk:p.kind.alters with
       | true=>rw[y,hk]at z; simp at z
       | false =>rw[a3H hk hs];simp only[C3,y]
     · exact l
 · rw[a1P];cases y:p.box with
   | none=>exact O2 _ _
   | some i=>simp[O2]
theorem c1z (hl:σ1.fr.length=σ2.fr.length) (L:∀ x∈p.reads,x.same σ1 σ2) {G:Sig} (h:E9 call p σ1=some G) :
 ∃ I,E9 call p σ2=some I∧∀ x:Atom,(x.same σ1 σ2∨x∈p.writes)→x.same G I:=by
 obtain⟨r,b',st',hs,rfl⟩:=n8 h;have z:p.args.map (·.read σ1)=p.args.map (·.read σ2):=List.map_congr_left fun y J=>a0E fun x hx=>L x (by simp only[AOper.reads,List.mem_append,List.mem_flatMap];exact .inl (.inl (.inl ⟨y,J,hx⟩)))
 have E:C3 p σ1=C3 p σ2:=by
  unfold C3;cases C:p.box with
  | none=>rfl
  | some i =>have:=L (.v i) (by simp[AOper.reads,C]);exact this
 have l:∀ y∈p.args,∀ x∈y.spent,x.same σ1 σ2:=fun y J x hx=>L x (by simp only[AOper.reads,List.mem_append,List.mem_flatMap];exact .inl (.inl (.inl ⟨y,J,a2Z y x hx⟩)))
 have B:(g9 p.args σ1).fr.length=(g9 p.args σ2).fr.length:=by rw[O2,O2,hl]
 -- the meaning on the other side
 obtain⟨st2,M,u⟩:∃ st2,sem p.kind call (p.args.map (·.read σ2)) (C3 p σ2) σ2.st=some (r,b',st2)∧∀ x:Atom,(x.same σ1 σ2∨(x=.st∧p.kind.setSt=true))→x.same { g9 p.args σ1 with st:=st' } { g9 p.args σ2 with st:=st2 }:=by
  have other:∀ (st2:St) (x:Atom),x≠.st→x.same σ1 σ2→x.same { g9 p.args σ1 with st:=st' } { g9 p.args σ2 with st:=st2 }:=fun st2 x hx h=>by have:=a1v hl h l;cases x<;>first|exact this|exact absurd rfl hx
  cases hu:p.kind.useSt with
  | true =>
   have U:σ1.st=σ2.st:=L .st (by simp[AOper.reads,hu]);rw[z,E,U]at hs;refine⟨st',hs,fun x hx=>?_⟩;cases x with
   | st=>rfl
   | t s=>exact other _ _ (by simp) (hx.resolve_right (by simp))
   | v i=>exact other _ _ (by simp) (hx.resolve_right (by simp))
  | false =>
   have F:p.kind.setSt=false:=by
    cases hk:p.kind.setSt with
    | false=>rfl
    | true=>rw[a3z hk]at hu; cases hu
   have S:=a2f F hs;rw[z,E]at hs;refine⟨σ2.st,c2R hu hs σ2.st,fun x hx=>?_⟩;rw[F]at hx;have hx:=hx.resolve_right (by simp);cases x with
   | st=>rw[S]; exact hx
   | t s=>exact other _ _ (by simp) hx
   | v i=>exact other _ _ (by simp) hx
 refine⟨_,a1R M,fun x hx=>a2w ?_ ?_⟩
 · cases C:p.box with
   | none=>exact B
   | some i=>simp[B]
 · by_cases N:x∈p.dst.atoms
   · exact .inr N
   left
   -- either as before, or written
   have hx':x.same σ1 σ2∨(∃ i,p.box=some i∧x=.v i)∨(x=.st∧p.kind.setSt=true):=by
    rcases hx with hx|hx
    · exact .inl hx
    · simp only[AOper.writes,List.mem_append]at hx;rcases hx with((hx|hx)|hx)|hx
      · exact absurd hx N
      · obtain⟨y,J,hx⟩:=List.mem_flatMap.1 hx;exact .inl (l y J x hx)
      · right; left;cases C:p.box with
        | none=>rw[C]at hx; simp at hx
        | some i =>
         rw[C]at hx;refine⟨i,rfl,?_⟩;simp only at hx;split at hx
         · simpa using hx
         · simp at hx
      · right; right;split at hx
        · rename_i hk; exact⟨by simpa using hx,hk⟩
        · simp at hx
   cases C:p.box with
   | none =>
    rcases hx' with hx'|⟨i,hi,_⟩|hx'
    · exact u x (.inl hx')
    · rw[C]at hi; cases hi
    · exact u x (.inr hx')
   | some i =>
    refine b4M B ?_;rcases hx' with hx'|⟨j,O,e⟩|hx'
    · exact .inl (u x (.inl hx'))
    · rw[C]at O; cases O; exact .inr e
    · exact .inl (u x (.inr hx'))
theorem a6z {x:Opd} {want:Bool} (hg:p.guard=some (x,want)):∀ y∈x.atoms,y∈p.reads:=fun y i=>by simp only[AOper.reads,hg,List.mem_append];exact .inl (.inr i)
theorem a1N:∀ y∈p.dst.atoms,y∈p.writes:=fun y i=>by simp only[AOper.writes,List.mem_append];exact .inl (.inl (.inl i))
theorem U0 (h:m2 call p σ=some σ'):(∀ x,x ∉ p.writes→x.same σ' σ)∧σ'.fr.length=σ.fr.length:=by
 unfold m2 at h;have i:∀ {σ'},some (p.dst.put (.tuple []) σ)=some σ'→(∀ x,x ∉ p.writes→x.same σ' σ)∧σ'.fr.length=σ.fr.length:=fun {σ'} h=>by obtain rfl:=Option.some.inj h;exact⟨fun x l=>a2C fun j=>l (a1N x j),a1P _ _ _⟩
 split at h
 · exact a2d h
 · split at h
   · split at h
     · exact a2d h
     · exact i h
   · exact i h
   · cases h
theorem a7K (hl:σ1.fr.length=σ2.fr.length) (z:∀ x∈p.reads,x.same σ1 σ2) {j:Sig} (h:m2 call p σ1=some j) :
 ∃ l,m2 call p σ2=some l∧∀ x:Atom,(x.same σ1 σ2∨x∈p.writes)→x.same j l:=by
 have u:∀ {j},E9 call p σ1=some j→∃ l,E9 call p σ2=some l∧∀ x:Atom,(x.same σ1 σ2∨x∈p.writes)→x.same j l:=fun h=>c1z hl z h
 have t:∀ {j},some (p.dst.put (.tuple []) σ1)=some j→∃ l,some (p.dst.put (.tuple []) σ2)=some l∧∀ x:Atom,(x.same σ1 σ2∨x∈p.writes)→x.same j l:=fun {j} h=>by
  obtain rfl:=Option.some.inj h;refine⟨_,rfl,fun x hx=>?_⟩;by_cases F:x∈p.dst.atoms
  · exact a2w hl (.inr F)
  · refine a2w hl (.inl ?_);rcases hx with hx|hx
    · exact hx
    · simp only[AOper.writes,List.mem_append]at hx;rcases hx with((hx|hx)|hx)|hx
      · exact absurd hx F
      · obtain⟨y,E,hx⟩:=List.mem_flatMap.1 hx;exact z x (by simp only[AOper.reads,List.mem_append,List.mem_flatMap]; exact .inl (.inl (.inl ⟨y,E,a2Z y x hx⟩)))
      · cases B:p.box with
        | none=>rw[B]at hx; simp at hx
        | some i =>
         rw[B]at hx;simp only at hx;split at hx
         · have:x=.v i:=by simpa using hx
           exact z x (by simp[AOper.reads,B,this])
         · simp at hx
      · split at hx
        · rename_i hk;have:x=.st:=by simpa using hx
          exact z x (by simp[AOper.reads,a3z hk,this])
        · simp at hx
 unfold m2 at h ⊢;cases hg:p.guard with
 | none=>simp only[hg]at h ⊢; exact u h
 | some G =>
  obtain⟨x,want⟩:=G;simp only[hg]at h ⊢;rw[← a0E (q:=x) (σ1:=σ1) fun y E=>z y (a6z hg y E)];split at h
  · rename_i b B;split at h
    · rename_i C;rw[if_pos C];exact u h
    · rename_i C;rw[if_neg C];exact t h
  · exact t h
  · cases h
theorem a9P (t:a0m p q=true) {σ1 σ2:Sig} (E:m2 call p σ=some σ1) (F:m2 call q σ1=some σ2) :
 ∃ l,m2 call q σ=some l∧m2 call p l=some σ2:=by
 simp only[a0m,Bool.and_eq_true,Bool.not_eq_true']at t;obtain⟨⟨a1,a2⟩,a3⟩:=t;have a1:=K0 a1;have a2:=K0 a2;have a3:=K0 a3;obtain⟨f1,l1⟩:=U0 E;obtain⟨f2,l2⟩:=U0 F
 -- q first
 obtain⟨j,I,O⟩:=a7K (σ1:=σ1) (σ2:=σ) (p:=q) l1 (fun x B=>f1 x fun z=>a1 x z B) F;obtain⟨M,J⟩:=U0 I;obtain⟨u,G,sp⟩:=a7K (σ1:=σ) (σ2:=j) (p:=p) J.symm (fun x B=>Atom.same_symm (M x fun z=>a3 x z B)) E;obtain⟨L,N⟩:=U0 G;refine⟨j,I,?_⟩;rw[G];congr 1;refine Sig.ext_atoms (by rw[N,J,l2,l1]) fun x=>?_
 by_cases i:x∈p.writes
 · -- p wrote it last, in both
   have y:x.same σ1 u:=sp x (.inr i);have e2:x.same σ2 σ1:=f2 x (a2 x i);exact Atom.same_symm (Atom.same_trans e2 y)
 · have y:x.same u j:=L x i;have e2:x.same σ2 j:=O x (by
    by_cases C:x∈q.writes
    · exact .inr C
    · exact .inl (f1 x i))
   exact Atom.same_trans y (Atom.same_symm e2)
theorem a7e {x y:Opd} (h:x.same y=true):x=y:=by cases x<;>cases y<;>simp[Opd.same]at h<;>rw[h]
theorem Q2 {o:Option Nat} {n:Nat}:∀ {gs:List AV},N2 o n gs=true→∀ g∈gs,∃ p,P5 g=some p∧p < n∧o≠some p
 | [],_,g,hg=>by simp at hg
 | g0::gs,h,g,hg=>by
  simp only[N2,Bool.and_eq_true]at h;obtain⟨i,l⟩:=h;rcases List.mem_cons.1 hg with rfl|hg
  · split at i
    · rename_i p t;simp only[Bool.and_eq_true]at i;refine⟨p,t,by simpa using i.1,?_⟩;have j:=i.2;cases o with
      | none=>simp
      | some o =>simp only[Bool.not_eq_true']at j;intro e;simp only[Option.some.injEq]at e;subst e;simp at j
    · cases i
  · exact Q2 l g hg
theorem a9x {st st':St}:∀ {gs:List AV},kept st st' gs=true→∀ g∈gs,∃ p,P5 g=some p∧st'[p]?=st[p]?
 | [],_,g,hg=>by simp at hg
 | g0::gs,h,g,hg=>by
  simp only[kept,Bool.and_eq_true]at h;obtain⟨i,j⟩:=h;rcases List.mem_cons.1 hg with rfl|hg
  · split at i
    · rename_i p u;refine⟨p,u,?_⟩;split at i
      · rename_i a b l t;rw[l,t,(a1i _ _).1 i]
      · cases i
    · cases i
  · exact a9x j g hg
theorem b3v {k:Kind} {m:Nat} (hk:k.upto=some m) {call:e9} {as:List AV} {b b' r:AV} {st st':St} (h:sem k call as b st=some (r,b',st')):∀ g∈as.drop m,∃ p,P5 g=some p∧st'[p]?=st[p]?:=by
 cases k<;>simp only[Kind.upto,Option.some.injEq,reduceCtorEq]at hk
 · -- stStA
   subst hk;simp only[sem]at h;unfold H1 at h;split at h<;>first|cases h; done|skip
   rename_i o off x rt gs;split at h<;>first|cases h; done|skip
   split at h<;>first|cases h; done|skip
   rename_i i;intro g hg;obtain⟨p,j,hl,l⟩:=Q2 i.2 g (by simpa using hg);refine⟨p,j,?_⟩;simp only[H5]at h;split at h<;>first|cases h; done|skip
   split at h<;>first|cases h; done|skip
   simp only[fL_eq,Option.some.injEq,Prod.mk.injEq]at h;obtain⟨_,_,rfl⟩:=h;exact List.getElem?_set_ne fun e=>l (by rw[e])
 · -- callA
   subst hk;simp only[sem]at h;unfold G9 at h;split at h<;>first|cases h; done|skip
   split at h<;>first|cases h; done|skip
   rename_i i;simp only[Option.some.injEq,Prod.mk.injEq]at h;obtain⟨_,_,rfl⟩:=h;exact fun g hg=>a9x i g hg
 · -- appM
   subst hk;simp only[sem]at h;unfold F6 at h;split at h<;>first|cases h; done|skip
   · rename_i ys gs;split at h<;>first|cases h; done|skip
     rename_i i;simp only[Option.some.injEq,Prod.mk.injEq]at h;obtain⟨_,_,rfl⟩:=h;intro g hg;obtain⟨p,j,hl,_⟩:=Q2 i.2.2.2 g (by simpa using hg);exact⟨p,j,List.getElem?_append_left hl⟩
   · rename_i ys gs;split at h<;>first|cases h; done|skip
     rename_i i;simp only[Option.some.injEq,Prod.mk.injEq]at h;obtain⟨_,_,rfl⟩:=h;intro g hg;obtain⟨p,j,hl,_⟩:=Q2 i.2.2.2 g (by simpa using hg);exact⟨p,j,List.getElem?_append_left hl⟩
   · rename_i gs;split at h<;>first|cases h; done|skip
     rename_i i;simp only[Option.some.injEq,Prod.mk.injEq]at h;obtain⟨_,_,rfl⟩:=h;intro g hg;obtain⟨p,j,hl,_⟩:=Q2 i g (by simpa using hg);exact⟨p,j,rfl⟩
   · rename_i o n s ys gs;split at h<;>first|cases h; done|skip
     split at h<;>first|cases h; done|skip
     rename_i i;simp only[Option.some.injEq,Prod.mk.injEq]at h;obtain⟨_,_,rfl⟩:=h;intro g hg;obtain⟨p,j,hl,l⟩:=Q2 i.2.2.2.2.2 g (by simpa using hg);refine⟨p,j,?_⟩;rw[List.getElem?_append_left (by simpa using hl),List.getElem?_set_ne (fun e=>l (by rw[e]))]
   · rename_i o f n s gs;split at h<;>first|cases h; done|skip
     rename_i i;simp only[Option.some.injEq,Prod.mk.injEq]at h;obtain⟨_,_,rfl⟩:=h;intro g hg;obtain⟨p,j,hl,_⟩:=Q2 i g (by simpa using hg);exact⟨p,j,rfl⟩
def Sw (t u:Kind) (call:e9) (A B:List AV):Prop:=∀ (s0 sp z:St) (x C y l:AV),sem t call A .undef s0=some (x,C,sp)→sem u call B .undef sp=some (y,l,z) →
 ∃ i j,sem u call B .undef s0=some (y,l,i)∧sem t call A .undef i=some (x,j,z)
theorem a8k {k:Kind} (hk:k.isLd=true) {call:e9} {A:List AV} {b r b':AV} {st st':St} (h:sem k call A b st=some (r,b',st')):st'=st ∧
 ∃ (ag:Bool) (n:Nat),(∀ j,sem k call A b j=some (r,b',j))∨∃ (o off:Nat) (cs:List AV),A.head?=some (.ptr o off)∧st[o]?=some (Obj.cells cs)∧m4 ag n (cs.drop off)=some r∧∀ (j:St) (i:List AV),j[o]?=some (Obj.cells i)→m4 ag n (i.drop off)=some r→sem k call A b j=some (r,b',j):=by
 have one:∀ ag n (A:List AV),F4 ag n call A b st=some (r,b',st')→st'=st∧∃ (o off:Nat) (cs:List AV),A=[.ptr o off]∧st[o]?=some (Obj.cells cs)∧m4 ag n (cs.drop off)=some r∧b'=b:=by
  intro ag n A h;unfold F4 at h;split at h<;>first|cases h; done|skip
  rename_i o off;split at h<;>first|cases h; done|skip
  rename_i cs C;obtain⟨v,G,t⟩:=Option.map_eq_some_iff.1 h;simp only[Prod.mk.injEq]at t;obtain⟨rfl,rfl,rfl⟩:=t;exact⟨rfl,o,off,cs,rfl,C,G,rfl⟩
 have l:∀ (ag:Bool) (n o off:Nat) (j:St) (i:List AV),j[o]?=some (Obj.cells i)→m4 ag n (i.drop off)=some r→F4 ag n call [.ptr o off] b j=some (r,b,j):=by intro ag n o off j i u x;unfold F4;simp only[u,x,Option.map_some]
 cases k<;>simp only[Kind.isLd,Bool.false_eq_true]at hk
 · rename_i ag n;simp only[sem]at h ⊢;obtain⟨e,o,off,cs,rfl,u,x,rfl⟩:=one ag n A h;exact⟨e,ag,n,.inr ⟨o,off,cs,rfl,u,x,fun j i y z=>l ag n o off j i y z⟩⟩
 · rename_i ag n;simp only[sem]at h ⊢;unfold H3 at h;split at h<;>first|cases h; done|skip
   · rename_i cs;obtain⟨v,G,t⟩:=Option.map_eq_some_iff.1 h;simp only[Prod.mk.injEq]at t;obtain⟨rfl,rfl,rfl⟩:=t;refine⟨rfl,ag,n,.inl fun j=>?_⟩;unfold H3;simp only[G,Option.map_some]
   · rename_i o off;obtain⟨e,I,B,cs,t,u,x,rfl⟩:=one ag n [.ptr o off] h;simp only[List.cons.injEq,AV.ptr.injEq,and_true]at t;obtain⟨rfl,rfl⟩:=t;exact⟨e,ag,n,.inr ⟨o,off,cs,rfl,u,x,fun j i y z=>l ag n o off j i y z⟩⟩
 · rename_i ag n;simp only[sem]at h ⊢;unfold G8 at h;split at h<;>first|cases h; done|skip
   rename_i o off rt;split at h<;>first|cases h; done|skip
   rename_i p F;split at h<;>first|cases h; done|skip
   rename_i E;obtain⟨e,I,B,cs,t,u,x,rfl⟩:=one ag n [.ptr o off] h;simp only[List.cons.injEq,AV.ptr.injEq,and_true]at t;obtain⟨rfl,rfl⟩:=t;refine⟨e,ag,n,.inr ⟨o,off,cs,rfl,u,x,fun j i y z=>?_⟩⟩;unfold G8;simp only[F,E,if_true];exact l ag n o off j i y z
theorem a6l {k:Kind} (hk:k.isSt=true) {call:e9} {A:List AV} {b r b':AV} {st st':St} (h:sem k call A b st=some (r,b',st')) :
 ∃ (o off:Nat) (cs:List AV),st[o]?=some (Obj.cells cs)∧cs[off]?=some r∧st'=st.set o (.cells (cs.set off r.weak1))∧(∃ x,A.head?=some (.ptr o off)∧x=A)∧∀ (j:St) (i:List AV),j[o]?=some (Obj.cells i)→i[off]?=some r→sem k call A b j=some (r,b',j.set o (.cells (i.set off r.weak1))):=by
 have one:∀ (A:List AV),E8 call A b st=some (r,b',st')→∃ (o off:Nat) (cs:List AV),A=[.ptr o off]∧st[o]?=some (Obj.cells cs)∧cs[off]?=some r∧st'=st.set o (.cells (cs.set off r.weak1))∧b'=b:=by
  intro A h;unfold E8 at h;split at h<;>first|cases h; done|skip
  rename_i o off;split at h<;>first|cases h; done|skip
  rename_i cs C;split at h<;>first|cases h; done|skip
  rename_i c B;simp only[Option.some.injEq,Prod.mk.injEq]at h;obtain⟨rfl,rfl,rfl⟩:=h;exact⟨o,off,cs,rfl,C,B,rfl,rfl⟩
 have l:∀ (o off:Nat) (j:St) (i:List AV),j[o]?=some (Obj.cells i)→i[off]?=some r→E8 call [.ptr o off] b j=some (r,b,j.set o (.cells (i.set off r.weak1))):=by intro o off j i u y;unfold E8;simp only[u,y]
 cases k<;>simp only[Kind.isSt,Bool.false_eq_true]at hk
 · simp only[sem]at h ⊢;obtain⟨o,off,cs,rfl,u,y,t,rfl⟩:=one A h;exact⟨o,off,cs,u,y,t,⟨_,rfl,rfl⟩,fun j i t z=>l o off j i t z⟩
 · simp only[sem]at h ⊢;unfold F0 at h;split at h<;>first|cases h; done|skip
   split at h<;>first|cases h; done|skip
   rename_i o off p f B;obtain⟨G,F,cs,E,u,y,t,rfl⟩:=one [.ptr o off] h;simp only[List.cons.injEq,AV.ptr.injEq,and_true]at E;obtain⟨rfl,rfl⟩:=E;refine⟨o,off,cs,u,y,t,⟨_,rfl,rfl⟩,fun j i t z=>?_⟩;unfold F0;simp only[B,and_self,if_true];exact l o off j i t z
theorem b2l (x:AV):x.weak1.weak1=x.weak1:=by cases x<;>rfl
theorem a4P {ag:Bool} {n off k:Nat} {cs:List AV} {x:AV} (h:cs[k]?=some x):m4 ag n ((cs.set k x.weak1).drop off)=m4 ag n (cs.drop off):=by
 have hm:(cs.set k x.weak1).map AV.weak1=cs.map AV.weak1:=by
  rw[List.map_set,b2l];apply List.ext_getElem?;intro i;rw[List.getElem?_set];split
  · rename_i e;subst e;have hl:=(List.getElem?_eq_some_iff.1 h).1;simp[hl,h];rw[List.getElem?_eq_getElem hl]at h;exact congrArg AV.weak1 (Option.some.inj h).symm
  · rfl
 have j:((cs.set k x.weak1).drop off).map AV.weak1=(cs.drop off).map AV.weak1:=by rw[List.map_drop,hm,List.map_drop]
 have hl:((cs.set k x.weak1).drop off).length=(cs.drop off).length:=by simp
 unfold m4;cases ag with
 | true=>simp only[if_true]; rw[hl,List.map_take,j,List.map_take]
 | false =>simp only[Bool.false_eq_true,if_false];revert j;cases (cs.set k x.weak1).drop off<;>cases cs.drop off<;>intro j<;>simp at j<;>simp[j]
theorem e6i {i F:Kind} {call:e9} {A B:List AV} {a r:AV} {m:Nat} (E:(match i with|.ldStR ..=>true|_=>false)=true) (M:A=[a,r]) (N:F.upto=some m) (O:r∈B.drop m):Sw i F call A B:=by
 intro s0 sp y U G V S z C;have hk:i.isLd=true:=by cases i<;>first|rfl|cases E
 obtain⟨rfl,ag,n,h⟩:=a8k hk z;refine⟨y,G,C,?_⟩;rcases h with h|⟨o,off,cs,l,I,J,L⟩
 · exact h y
 · obtain⟨p,u,x⟩:=b3v N C r O;have t:o=p:=by
    cases i<;>simp only[Bool.false_eq_true]at E;have j:=z;rw[M]at l j;simp only[List.head?_cons,Option.some.injEq]at l;subst l;simp only[sem,G8,u]at j;split at j
    · rename_i e;simpa using e
    · cases j
   subst t;exact L y cs (x.trans I) J
theorem e7L {E F:Kind} {call:e9} {A B:List AV} (h:((E.isSt && F.isLd) || (E.isLd && F.isSt))=true):Sw E F call A B:=by
 intro s0 sp M J G L I x y;simp only[Bool.or_eq_true,Bool.and_eq_true]at h;rcases h with⟨z,C⟩|⟨z,C⟩
 · obtain⟨o,off,cs,a1,a2,rfl,_,a4⟩:=a6l z x;obtain⟨rfl,ag,n,h⟩:=a8k C y;refine⟨s0,G,?_,x⟩;rcases h with h|⟨o2,u,j,_,i,l,t⟩
   · exact h s0
   · have hl:=(List.getElem?_eq_some_iff.1 a1).1;by_cases e:o=o2
     · subst e;rw[List.getElem?_set_self hl]at i;simp only[Option.some.injEq,Obj.cells.injEq]at i;subst i;rw[a4P a2]at l;exact t s0 cs a1 l
     · rw[List.getElem?_set_ne e]at i;exact t s0 j i l
 · obtain⟨rfl,ag,n,h⟩:=a8k z x;obtain⟨o,off,cs,a1,a2,rfl,_,a4⟩:=a6l C y;refine⟨_,G,y,?_⟩;rcases h with h|⟨o2,u,j,_,i,l,t⟩
   · exact h _
   · have hl:=(List.getElem?_eq_some_iff.1 a1).1;by_cases e:o=o2
     · subst e;rw[a1]at i;simp only[Option.some.injEq,Obj.cells.injEq]at i;subst i;exact t _ _ (List.getElem?_set_self hl) (by rw[a4P a2]; exact l)
     · exact t _ j (by rw[List.getElem?_set_ne e]; exact i) l
theorem e9k {d e:Nat} {call:e9} {A B:List AV} {a b r:AV} (L:A=[a,r]) (M:B=[b,r]) (W:d≠e):Sw (.ldStSR d) (.ldStSR e) call A B:=by
 intro s0 sp Z Y U O X I J;obtain⟨o,off,cs,a1,a2,rfl,⟨_,a3,_⟩,a4⟩:=a6l (k:=.ldStSR d) rfl I;obtain⟨o2,N,V,E,G,rfl,⟨_,F,_⟩,S⟩:=a6l (k:=.ldStSR e) rfl J;have u:=I;have x:=J;simp only[sem,L]at u;simp only[sem,M]at x;unfold F0 at u x;split at u<;>first|cases u; done|skip
 rename_i o3 t p3 f3 j;simp only[List.cons.injEq,and_true]at j;obtain⟨rfl,rfl⟩:=j;split at u<;>first|cases u; done|skip
 rename_i c1;split at x<;>first|cases x; done|skip
 rename_i o4 i p4 f4 j;simp only[List.cons.injEq,AV.ptr.injEq,and_true]at j;obtain⟨rfl,rfl,rfl⟩:=j;split at x<;>first|cases x; done|skip
 rename_i z;rw[L]at a3;rw[M]at F;simp only[List.head?_cons,Option.some.injEq,AV.ptr.injEq]at a3 F;obtain⟨rfl,rfl⟩:=a3;obtain⟨rfl,rfl⟩:=F;obtain⟨c1,y⟩:=c1;obtain⟨z,C⟩:=z;have c1:o3=p3:=by simpa using c1
 have z:o4=p3:=by simpa using z
 have y:t=f3+d:=by simpa using y
 have C:i=f3+e:=by simpa using C
 subst c1; subst z;have hl:=(List.getElem?_eq_some_iff.1 a1).1;have l:t≠i:=by omega
 rw[List.getElem?_set_self hl]at E;simp only[Option.some.injEq,Obj.cells.injEq]at E;subst E;rw[List.getElem?_set_ne l]at G;refine⟨_,U,S s0 cs a1 G,?_⟩;have:=a4 (s0.set o4 (.cells (cs.set i O.weak1))) (cs.set i O.weak1) (List.getElem?_set_self hl) (by rw[List.getElem?_set_ne (Ne.symm l)]; exact a2);rw[this];simp only[List.set_set];rw[List.set_comm _ _ l]
theorem e7b {n Z:Nat} {call:e9} {A B As Bs:List AV} {a x r:AV} (X:A=a::x::r::As) (M:r∈B.drop 3):Sw (.stStA n) (.stStA Z) call A B:=by
 intro s0 sp sq rp O rq bq I J;have form:∀ {n:Nat} {A:List AV} {s F:St} {r b:AV},H1 n call A .undef s=some (r,b,F)→∃ (o off:Nat) (x rt:AV) (gs:List AV) (cs:List AV),A=.ptr o off::x::rt::gs∧P5 rt=some o∧N2 (some o) s.length gs=true∧s[o]?=some (Obj.cells cs)∧F=s.set o (.cells (B7 cs off x.cells)) ∧
  ∀ (u:St) (i:List AV),u.length=s.length→u[o]?=some (Obj.cells i)→i=cs→H1 n call A .undef u=some (r,b,u.set o (.cells (B7 cs off x.cells))):=by
  intro n A s F r b h;unfold H1 at h;split at h<;>first|cases h; done|skip
  rename_i o off x rt gs;split at h<;>first|cases h; done|skip
  rename_i p L;split at h<;>first|cases h; done|skip
  rename_i Y;obtain⟨c1,G⟩:=Y;have y:o=p:=by simpa using c1
  subst y;simp only[H5]at h;split at h<;>first|cases h; done|skip
  rename_i cs C;split at h<;>first|cases h; done|skip
  rename_i j;simp only[fL_eq,Option.some.injEq,Prod.mk.injEq]at h;obtain⟨rfl,rfl,rfl⟩:=h;refine⟨o,off,x,rt,gs,cs,rfl,L,G,C,rfl,fun u i hl W e=>?_⟩;subst e;unfold H1;simp only[L,c1,hl,G,and_self,if_true];unfold H5;simp only[W,j,and_self,if_true,fL_eq]
 simp only[sem]at I J ⊢;obtain⟨o,off,x1,rt,gs,cs,z,e2,e3,S,rfl,U⟩:=form I;obtain⟨o2,N,x2,a0,V,i,f1,f2,f3,f4,rfl,f6⟩:=form J;rw[X]at z;simp only[List.cons.injEq]at z;obtain⟨rfl,rfl,rfl,rfl⟩:=z;rw[f1]at M;obtain⟨p,t,_,E⟩:=Q2 f3 r (by simpa using M);rw[e2]at t;simp only[Option.some.injEq]at t;subst t;have l:o2≠o:=fun e=>E (by rw[e])
 rw[List.getElem?_set_ne (Ne.symm l)]at f4;refine⟨_,O,f6 s0 i (by simp) f4 rfl,?_⟩;rw[U _ cs (by simp) (by rw[List.getElem?_set_ne l]; exact S) rfl];rw[List.set_comm _ _ l]
theorem b2P (d:Dst) (r:AV) (σ:Sig):(d.put r σ).st=σ.st:=by cases d<;>rfl
theorem e1u (V:a1T p q=true) {σ1 σ2:Sig} (h1:E9 call p σ=some σ1) (h2:E9 call q σ1=some σ2) :
 ∃ N,E9 call q σ=some N∧E9 call p N=some σ2:=by
 simp only[a1T,b0J,b0D,Bool.and_eq_true,Bool.not_eq_true',Option.isNone_iff_eq_none]at V;obtain⟨⟨⟨⟨Y,Z⟩,B⟩,⟨a1,a2⟩,a3⟩,hsw⟩:=V;have a1:=K0 a1;have a2:=K0 a2;have a3:=K0 a3;obtain⟨rp,bp,sp,hp,i⟩:=n8 h1;obtain⟨rq,bq,sq,hq,l⟩:=n8 h2;have M:∀ τ:Sig,g9 p.args τ=τ:=fun τ=>by
  clear hsw hp i h1 a3;revert B;induction p.args with
  | nil=>intro _; rfl
  | cons y ys ih =>
   intro B;simp only[Z7,List.all_cons,Bool.and_eq_true]at B;have:y.spend τ=τ:=by have:=B.1;cases y<;>simp_all [Opd.steals,Opd.spend]
   rw[g9,this];exact ih B.2
 have I:∀ (x:AOper) (τ:Sig),x.box=none→C3 x τ=.undef:=fun x τ h=>by unfold C3; rw[h]
 rw[I p _ Y]at hp;rw[I q _ Z]at hq;rw[M,Y]at i;rw[Z]at l;simp only at i l
 -- what q reads is not what p writes
 have j:∀ x:Atom,x≠.st→x ∉ p.dst.atoms→x.same σ1 σ:=fun x t F=>by rw[i];refine Atom.same_trans (a2C F) ?_;cases x<;>first|rfl|exact absurd rfl t
 have O:q.args.map (·.read σ1)=q.args.map (·.read σ):=List.map_congr_left fun y C=>a0E fun x t=>by
  have b6:x∈q.reads:=by simp only[AOper.reads,List.mem_append,List.mem_flatMap];exact .inl (.inl (.inl ⟨y,C,t⟩))
  refine j x ?_ fun F=>a1 x F b6
  intro e;subst e;cases y<;>simp[Opd.atoms]at t
 have W:σ1.st=sp:=by rw[i,b0P]
 rw[O,W]at hq;have a0:Sw p.kind q.kind call (p.args.map (·.read σ)) (q.args.map (·.read σ)):=by
  simp only[Bool.or_eq_true]at hsw;rcases hsw with((hsw|hsw)|hsw)|hsw
  · simp only[b7s,Bool.and_eq_true]at hsw;obtain⟨k1,k2⟩:=hsw;split at k2
    case h_2=>cases k2
    rename_i m x r hm t;obtain⟨y,C,S⟩:=List.any_eq_true.1 k2;obtain rfl:=a7e S;exact e6i k1 (a:=x.read σ) (r:=r.read σ) (by rw[t]; rfl) hm (by rw[← List.map_drop]; exact List.mem_map.2 ⟨r,C,rfl⟩)
  · simp only[b6U]at hsw;split at hsw
    case h_2=>cases hsw
    rename_i n n' x1 x2 r rest k1 k2 t;obtain⟨y,C,S⟩:=List.any_eq_true.1 hsw;obtain rfl:=a7e S;rw[k1,k2];exact e7b (As:=rest.map (·.read σ)) (Bs:=[]) (a:=x1.read σ) (x:=x2.read σ) (r:=r.read σ) (by rw[t]; rfl) (by rw[← List.map_drop]; exact List.mem_map.2 ⟨r,C,rfl⟩)
  · exact e7L hsw
  · simp only[b7O]at hsw;split at hsw
    case h_2=>cases hsw
    rename_i d e x1 r x2 s k1 k2 t C;simp only[Bool.and_eq_true,Bool.not_eq_true']at hsw;obtain rfl:=a7e hsw.1;have b3:d≠e:=by intro h;subst h;simp at hsw
    rw[k1,k2];exact e9k (a:=x1.read σ) (b:=x2.read σ) (r:=r.read σ) (by rw[t]; rfl) (by rw[C]; rfl) b3
 obtain⟨U,c0,b5,b4⟩:=a0 _ _ _ _ _ _ _ hp hq;have u:=a1R (p:=q) (σ:=σ) (call:=call) (by rw[I q _ Z]; exact b5);rw[Z]at u;simp only at u;refine⟨_,u,?_⟩;generalize E:q.dst.put rq { g9 q.args σ with st:=U }=σq at u;have b8:q.dst.put rq { fr:=(g9 q.args σ).fr,τ:=(g9 q.args σ).τ,st:=U }=σq:=E;obtain⟨fq,lq⟩:=a2d u;have X:σq.st=U:=by rw[← E,b0P]
 have G:p.args.map (·.read σq)=p.args.map (·.read σ):=List.map_congr_left fun y C=>a0E fun x t=>fq x fun hw=>a3 x hw (List.mem_append.2 (.inl (List.mem_append.2 (.inl (List.mem_flatMap.2 ⟨y,C,t⟩)))))
 rw[a1R (p:=p) (σ:=σq) (call:=call) (by rw[I p _ Y,G,X]; exact b4)];rw[M,Y];congr 1;refine Sig.ext_atoms ?_ fun x=>?_
 · rw[a1P,l,a1P,O2,i,a1P];exact lq
 by_cases L:x=.st
 · subst L;show(p.dst.put rp _).st=σ2.st;rw[l,b2P,b2P]
 by_cases F:x∈p.dst.atoms
 · have e1:x.same σ1 (p.dst.put rp { fr:=σq.fr,τ:=σq.τ,st:=sq }):=by rw[i];exact a2w (σ1:=⟨σ.fr,σ.τ,sp⟩) (σ2:=⟨σq.fr,σq.τ,sq⟩) (show σ.fr.length=σq.fr.length from lq.symm) (.inr F)
   have e2:x.same σ2 σ1:=(a2d h2).1 x (a2 x F);exact Atom.same_symm (Atom.same_trans e2 e1)
 · have e1:x.same (p.dst.put rp { fr:=σq.fr,τ:=σq.τ,st:=sq }) σq:=Atom.same_trans (a2C F) (by cases x<;>first|rfl|exact absurd rfl L);have l1:σ1.fr.length=σ.fr.length:=by rw[i,a1P]
   have J:∀ y∈q.args,∀ z∈y.spent,z.same σ1 σ:=fun y C z hz=>by
    have b7:z∈q.reads:=by simp only[AOper.reads,List.mem_append,List.mem_flatMap];exact .inl (.inl (.inl ⟨y,C,a2Z y z hz⟩))
    refine j z ?_ fun F=>a1 z F b7
    intro e;subst e;cases y<;>simp[Opd.spent]at hz
   have e2:x.same σ2 σq:=by
    rw[l,← E];refine a2w (by simp[O2,l1]) ?_;by_cases b0:x∈q.dst.atoms
    · exact .inr b0
    · left;have:=a1v l1 (j x L F) J;cases x<;>first|exact this|exact absurd rfl L
   exact Atom.same_trans e1 (Atom.same_symm e2)
def Goes (p:AOper) (σ:Sig):Prop:=∀ x want,p.guard=some (x,want)→∃ b,x.read σ=.bool b∧(b == want)=true
def Skips (p:AOper) (σ:Sig):Prop:=∃ x want,p.guard=some (x,want)∧(x.read σ=.tuple []∨∃ b,x.read σ=.bool b∧(b == want)=false)
theorem a7G (h:m2 call p σ=some σ'):(Goes p σ∧E9 call p σ=some σ')∨(Skips p σ∧σ'=p.dst.put (.tuple []) σ):=by
 unfold m2 at h;split at h
 · rename_i hg;exact .inl ⟨fun x want e=>(by rw[hg]at e; cases e),h⟩
 · rename_i x want hg;split at h
   · rename_i b i;split at h
     · rename_i j;refine .inl ⟨fun t l e=>?_,h⟩;rw[hg]at e;cases e;exact⟨b,i,j⟩
     · rename_i j;exact .inr ⟨⟨x,want,hg,.inr ⟨b,i,by simpa using j⟩⟩,(Option.some.inj h).symm⟩
   · rename_i i;exact .inr ⟨⟨x,want,hg,.inl i⟩,(Option.some.inj h).symm⟩
   · cases h
theorem Goes.step (h:Goes p σ):m2 call p σ=E9 call p σ:=by
 unfold m2;cases hg:p.guard with
 | none=>rfl
 | some l =>obtain⟨x,want⟩:=l;obtain⟨b,i,j⟩:=h x want hg;simp only[i,j,if_true]
theorem Skips.step (h:Skips p σ):m2 call p σ=some (p.dst.put (.tuple []) σ):=by
 obtain⟨x,want,hg,h⟩:=h;unfold m2;rw[hg];rcases h with h|⟨b,i,j⟩
 · simp only[h]
 · simp only[i,j,Bool.false_eq_true,if_false]
theorem Goes.same {σ1 σ2:Sig} (h:Goes p σ1) (hs:∀ x want,p.guard=some (x,want)→x.read σ1=x.read σ2):Goes p σ2:=fun x want hg=>by rw[← hs x want hg]; exact h x want hg
theorem Skips.same {σ1 σ2:Sig} (h:Skips p σ1) (hs:∀ x want,p.guard=some (x,want)→x.read σ1=x.read σ2):Skips p σ2:=by obtain⟨x,want,hg,h⟩:=h;exact⟨x,want,hg,by rw[← hs x want hg]; exact h⟩
def P0 (p:AOper):AOper:={ dst:=p.dst,kind:=.mv,args:=[.c (.tuple [])] }
theorem S4 (τ:Sig):m2 call (P0 p) τ=some (p.dst.put (.tuple []) τ):=by show E9 call (P0 p) τ=_;rw[O9];rfl
theorem b7r:Atom.st ∉ p.dst.atoms:=by cases p.dst<;>simp[Dst.atoms]
theorem a0T:(P0 p).writes=p.dst.atoms:=by simp[AOper.writes,P0,Opd.spent,Kind.setSt]
theorem a1C:(P0 p).reads=[]:=by simp[AOper.reads,P0,Opd.atoms,Kind.useSt]
theorem J8 {xs ys:List Atom} (h:∀ x∈xs,x ∉ ys):meets xs ys=false:=by
 cases hm:meets xs ys with
 | false=>rfl
 | true =>exfalso;unfold meets at hm;rw[List.any_eq_true]at hm;obtain⟨x,j,i⟩:=hm;rw[List.any_eq_true]at i;obtain⟨y,l,e⟩:=i;rw[Atom.beq_iff]at e;subst e;exact h x j l
theorem e0r (z:a1T p q=true) {σ1 σ2:Sig} (I:m2 call p σ=some σ1) (J:m2 call q σ1=some σ2) :
 ∃ u,m2 call q σ=some u∧m2 call p u=some σ2:=by
 have C:=z;simp only[a1T,b0J,b0D,Bool.and_eq_true,Bool.not_eq_true',Option.isNone_iff_eq_none]at z;obtain⟨⟨⟨⟨S,X⟩,M⟩,⟨a1,a2⟩,a3⟩,_⟩:=z;have a1:=K0 a1;have a2:=K0 a2;have a3:=K0 a3
 -- guards are read alike
 have G:∀ {x:AOper} {y:Opd} {want:Bool},x.guard=some (y,want)→Atom.st ∉ y.atoms:=fun {x y want} _=>by cases y<;>simp[Opd.atoms]
 have f1:=(U0 I).1;have V:∀ x,x∈p.writes→x∈p.dst.atoms∨x=.st:=fun x hx=>by
  simp only[AOper.writes,S,List.mem_append]at hx;rcases hx with((hx|hx)|hx)|hx
  · exact .inl hx
  · obtain⟨y,W,hx⟩:=List.mem_flatMap.1 hx;have:=List.all_eq_true.1 M y W;cases y<;>simp_all [Opd.spent,Opd.steals]
  · simp at hx
  · split at hx
    · exact .inr (by simpa using hx)
    · simp at hx
 have U:∀ y want,q.guard=some (y,want)→y.read σ1=y.read σ:=fun y want hg=>a0E fun x hx=>f1 x fun N=>by
  rcases V x N with t|rfl
  · exact a1 x t (a6z hg x hx)
  · exact G hg hx
 have F:∀ {τ:Sig},(∀ x,x ∉ q.writes→x.same τ σ)→∀ y want,p.guard=some (y,want)→y.read σ=y.read τ:=fun {τ} O y want hg=>(a0E fun x hx=>O x fun N=>a3 x N (by rw[hg];exact List.mem_append.2 (.inr hx))).symm
 rcases a7G I with⟨k1,E⟩|⟨k1,E⟩<;>rcases a7G J with⟨k2,e2⟩|⟨k2,e2⟩
 · obtain⟨σ',j,l⟩:=e1u C E e2;refine⟨σ',by rw[(k2.same U).step]; exact j,?_⟩;rw[(k1.same (F (a2d j).1)).step];exact l
 · -- p runs, q is passed over
   have L:m2 call (P0 q) σ1=some σ2:=by rw[S4,e2]
   have i:a0m p (P0 q)=true:=by
    simp only[a0m,a0T,a1C,Bool.and_eq_true,Bool.not_eq_true'];refine⟨⟨J8 fun x _=>by simp,J8 fun x hx t=>?_⟩,J8 fun x t hx=>?_⟩
    · rcases V x hx with h|rfl
      · exact a2 x h (a1N x t)
      · exact b7r t
    · simp only[AOper.reads,S,List.mem_append]at hx;rcases hx with((hx|hx)|hx)|hx
      · exact a3 x (a1N x t) (List.mem_append.2 (.inl (List.mem_append.2 (.inl hx))))
      · simp at hx
      · exact a3 x (a1N x t) (List.mem_append.2 (.inr hx))
      · split at hx
        · simp only[List.mem_cons,List.not_mem_nil,or_false]at hx;subst hx;exact b7r t
        · simp at hx
   obtain⟨σ',j,l⟩:=a9P i I L;rw[S4]at j;exact⟨σ',by rw[(k2.same U).step]; exact j,l⟩
 · -- p is passed over
   have B:m2 call (P0 p) σ=some σ1:=by rw[S4,E]
   have i:a0m (P0 p) q=true:=by simp only[a0m,a0T,a1C,Bool.and_eq_true,Bool.not_eq_true'];exact⟨⟨J8 fun x hx=>a1 x hx,J8 fun x hx=>a2 x hx⟩,J8 fun x _=>by simp⟩
   obtain⟨σ',j,l⟩:=a9P i B J;rw[S4]at l;refine⟨σ',j,?_⟩;rw[(k1.same (F (U0 j).1)).step];exact l
 · have B:m2 call (P0 p) σ=some σ1:=by rw[S4,E]
   have i:a0m (P0 p) q=true:=by simp only[a0m,a0T,a1C,Bool.and_eq_true,Bool.not_eq_true'];exact⟨⟨J8 fun x hx=>a1 x hx,J8 fun x hx=>a2 x hx⟩,J8 fun x _=>by simp⟩
   obtain⟨σ',j,l⟩:=a9P i B J;rw[S4]at l;refine⟨σ',j,?_⟩;rw[(k1.same (F (U0 j).1)).step];exact l
theorem c6j (hap:a1t p q=true) {σ1 σ2:Sig} (j:m2 call p σ=some σ1) (l:m2 call q σ1=some σ2) :
 ∃ i,m2 call q σ=some i∧m2 call p i=some σ2:=by
 simp only[a1t,Bool.or_eq_true]at hap;rcases hap with hap|hap
 · exact a9P hap j l
 · exact e0r hap j l
theorem b7l {j:List AOper} {rest:List AOper} (i:∀ r∈j,a1t r p=true) (h:l7 call (j++p::rest) σ=some σ') :
 ∃ σ1,m2 call p σ=some σ1∧l7 call (j++rest) σ1=some σ':=by
 induction j generalizing σ with
 | nil =>
  simp only[List.nil_append,l7]at h;cases hs:m2 call p σ with
  | none=>simp[hs]at h
  | some σ1=>simp only[hs]at h; exact⟨σ1,rfl,h⟩
 | cons r j x =>
  simp only[List.cons_append,l7]at h;cases hs:m2 call r σ with
  | none=>simp[hs]at h
  | some y =>simp only[hs]at h;obtain⟨σ2,l,t⟩:=x (fun r u=>i r (by simp[u])) h;obtain⟨σ1,g1,g2⟩:=c6j (i r (by simp)) hs l;refine⟨σ1,g1,?_⟩;simp only[List.cons_append,l7,g2];exact t
end
end Go.Cb
namespace Go.Cb
open Classical
def a1X (c:Cx) (ops:Array Oper) (o:Oper) (p:AOper):Bool:=match o.guard,p.guard with
 | none,none=>true
 | some (j,w),some (x,w')=>(w == w') && (match (ops[j]?).bind (·.dst)with|some d=>Q8 c (.tmp d) x && decide (d < c.nt)|none=>false) && B9 c o.dst p.dst
 | _,_=>false
def Z6 (c:Cx) (ops:Array Oper):List Oper→List AOper→Bool
 | [],[]=>true
 | o::os,p::ps=>a7o c o p && a1X c ops o p && Z6 c ops os ps
 | _,_=>false
def a3w (ops:Array Oper):List (Nat×List Atom×List Atom×AOper)→Nat→List AOper→Bool
 | _,_,[]=>true
 | es,j,p::ps =>
  (B3 ops j).all (fun i=>Nat.blt i j) &&
  es.all (fun e=>(!meets e.2.2.1 p.reads && !meets e.2.2.1 p.writes && !meets p.writes e.2.1) || (a0H ops 10 (B3 ops j)).any (Nat.beq e.1) || a1T e.2.2.2 p) &&
  a3w ops ((j,p.reads,p.writes,p)::es) (j+1) ps
def c88 (c:Cx) (ops:Array Oper) (qs:List (Nat×AOper)):Bool:=qs.all fun x=>match ops[x.1]? with
 | some o=>a7o c o x.2 && a1X c ops o x.2
 | none=>false
def a3A (ops:Array Oper):List (Nat×AOper)→List (Nat×AOper)→Bool
 | _,[]=>true
 | es,x::qs =>(B3 ops x.1).all (fun i=>es.any fun e=>Nat.beq e.1 i) && es.all (fun e=>!Nat.beq e.1 x.1 && (a1t e.2 x.2 || (a0H ops 10 (B3 ops x.1)).any (Nat.beq e.1))) && a3A ops (x::es) qs
def a6d (kill:List Nat):List Nat:=kill.filterMap fun k=>if Nat.ble 1000000 k then some (k - 1000000)else none
def c9H (c:Cx) (ops:Array Oper) (kill:List Nat) (i:List AOper):Bool :=
 let j:=a6d kill
 Nat.beq j.length ops.size && Nat.beq i.length ops.size && c88 c ops (j.zip i) && a3A ops [] (j.zip i)
def a4m (c:Cx) (ops:Array Oper) (draw:Bool) (kill:List Nat) (i:List AOper):Bool :=
 if draw && !(a6d kill).isEmpty then c9H c ops kill i else Z6 c ops ops.toList i && (!draw || a3w ops [] 0 i)
section
variable {c:Cx} {g:Gh} {w:World} {pr:Nat→Option Pl} {bx:Nat→Nat} {σ σ':Sig} {a:Act} {call:e9} {ops:Array Oper} {next:Act→World→Prop} {Q:Exit→Act→World→Prop}
theorem a6q (G:Fx c) (O:L6 c.P c.gt call) (h:S c g w pr bx σ a) {i:Nat} {o:Oper} {p:AOper} (hi:ops[i]?=some o) (C:a7o c o p=true) (hg:a1X c ops o p=true)
 (hs:m2 call p σ=some σ') (l:Post c g w a σ' next):wpOp c.P ops Q i next a w:=by
 unfold wpOp;simp only[hi];unfold m2 at hs;unfold a1X at hg;split at hg
 · rename_i z I;rw[I]at hs;have E:Region.wanted o (yielded ops a.tmps)=true:=by simp[Region.wanted,z]
   rw[if_pos E];exact .inl (c2u C G O h hs l)
 · rename_i j want x N z I;simp only[Bool.and_eq_true,beq_iff_eq]at hg;obtain⟨⟨rfl,hg⟩,V⟩:=hg;split at hg
   · rename_i d B;simp only[Bool.and_eq_true,decide_eq_true_eq]at hg;obtain⟨W,L⟩:=hg;have F:=R3 h W;have M:d < a.tmps.size:=by rw[h.fr.size]; exact L
     have U:∀ v,a.eval (.tmp d)=v→yielded ops a.tmps j=(match v with|.bool b=>some b|_=>none):=fun v t=>by
      have e:a.tmps[d]?=some v:=by rw[← t]; simp[Act.eval,M]
      simp only[yielded,B,Option.bind_some,e];cases v<;>rfl
     rw[I]at hs;simp only at hs;have skip:Region.wanted o (yielded ops a.tmps)=false→some (p.dst.put (.tuple []) σ)=some σ'→(if Region.wanted o (yielded ops a.tmps)=true then o.wp c.P a w next Q∨(o.asks c.P a w∧LetsOut Q)else next (a.put o.dst undef) w):=fun E hs=>by rw[if_neg (by rw[E]; simp)];obtain rfl:=Option.some.inj hs;refine l _ _ g pr bx (C9 _ _ _) (Z2 G h V (mine:=No) (r:=.tuple []) (v:=undef) ?_ fun _ x=>x.elim) (Tr.refl _ _ _);exact(show ValOK g w No (.tuple []) undef from ValOK.mk' (by simp only[Rel]; exact⟨#[],rfl,by simp[RelL]⟩) (by simp) (by simp))
     split at hs
     · rename_i b J;rw[J]at F;have t:=ValOK.rel F;simp only[Rel]at t;have u:=U _ t;split at hs
       · rename_i y;have E:Region.wanted o (yielded ops a.tmps)=true:=by simp only[Region.wanted,z,u];simpa using y
         rw[if_pos E];exact .inl (c2u C G O h hs l)
       · rename_i y;exact skip (by simp only[Region.wanted,z,u];simpa using y) hs
     · rename_i J;rw[J]at F;have t:=ValOK.rel F;simp only[Rel]at t;obtain⟨arr,t,X⟩:=t;have u:=U _ t;exact skip (by simp[Region.wanted,z,u]) hs
     · cases hs
   · cases hg
 · cases hg
theorem a0B {os:List Oper}:∀ {j:List AOper},Z6 c ops os j=true→os.length=j.length∧∀ (i:Nat) (p:AOper),j[i]?=some p→∃ o,os[i]?=some o∧a7o c o p=true∧a1X c ops o p=true:=by
 induction os with
 | nil =>
  intro j h;cases j with
  | nil=>exact⟨rfl,fun i p h=>by simp at h⟩
  | cons p j=>simp[Z6]at h
 | cons o os y =>
  intro j h;cases j with
  | nil=>simp[Z6]at h
  | cons p j =>
   rw[Z6,Bool.and_eq_true,Bool.and_eq_true]at h;obtain⟨⟨t,u⟩,x⟩:=h;obtain⟨l,hg⟩:=y x;refine⟨by rw[List.length_cons,List.length_cons,l],fun i q hi=>?_⟩;cases i with
   | zero =>rw[List.getElem?_cons_zero]at hi;obtain rfl:=Option.some.inj hi;exact⟨o,rfl,t,u⟩
   | succ i =>rw[List.getElem?_cons_succ]at hi ⊢;exact hg i q hi
theorem Post.trans {i:Sig} {g':Gh} {w':World} {l:Act} (h:Post c g w a i next) (t:l.defers=a.defers) (u:Tr c.A g w g' w'):Post c g' w' l i next :=
 fun a2 y g2 pr2 j d2 x t2=>h a2 y g2 pr2 j (d2.trans t) x (u.trans t2)
theorem b0p (E:Fx c) (F:L6 c.P c.gt call) {u:List AOper} (t:Z6 c ops ops.toList u=true):∀ (n k:Nat) (g:Gh) (w:World) (pr:Nat→Option Pl) (bx:Nat→Nat) (σ:Sig) (a:Act),k+n=u.length →
 S c g w pr bx σ a→l7 call (u.drop k) σ=some σ'→Post c g w a σ' (Q .normal)→wpOps c.P ops Q (List.range' k n) a w
 | 0,k,g,w,pr,bx,σ,a,hk,h,j,i=>by rw[List.drop_of_length_le (by omega)]at j;simp only[l7,Option.some.injEq]at j;subst j;exact i a w g pr bx rfl h (Tr.refl _ _ _)
 | n+1,k,g,w,pr,bx,σ,a,hk,h,j,i=>by
  obtain⟨hl,l⟩:=a0B t;rw[List.drop_eq_getElem_cons (by omega)]at j;simp only[l7]at j;obtain⟨o,J,G,I⟩:=l k _ (List.getElem?_eq_getElem (show k < u.length by omega));cases hs:m2 call (u[k]'(by omega)) σ with
  | none=>simp[hs]at j
  | some σ1 =>
   simp only[hs]at j;rw[List.range'_succ,wpOps_cons];refine a6q E F h (by simpa using J) G I hs fun a1 w1 g1 C x z y B=>?_
   exact b0p E F t n (k+1) g1 w1 C x σ1 a1 (by omega) y j (i.trans z B)
end
end Go.Cb
namespace Go.Cb
open Classical
section
variable {c:Cx} {σ':Sig} {call:e9} {ops:Array Oper} {Q:Exit→Act→World→Prop}
theorem a78 (all:List AOper):∀ (u:List AOper) (k:Nat) (es:List (Nat×List Atom×List Atom×AOper)),u=all.drop k→(∀ (i:Nat) (q:AOper),i < k→all[i]?=some q→(i,q.reads,q.writes,q)∈es)→a3w ops es k u=true →
 ∀ (j:Nat) (p:AOper),k≤j→all[j]?=some p→(∀ i∈B3 ops j,i < j)∧∀ (i:Nat) (q:AOper),i < j→all[i]?=some q→a1t q p=true∨i∈a0H ops 10 (B3 ops j)
 | [],k,es,l,_,_,j,p,hkj,hj=>by
  have:all.length≤k:=by have:=congrArg List.length l;simp at this; omega
  rw[List.getElem?_eq_none (by omega)]at hj; cases hj
 | p0::u,k,es,l,hes,h,j,p,hkj,hj=>by
  have hk:k < all.length:=by have:=congrArg List.length l;simp at this; omega
  rw[List.drop_eq_getElem_cons hk]at l;simp only[List.cons.injEq]at l;obtain⟨e0,l⟩:=l;simp only[a3w,Bool.and_eq_true]at h;obtain⟨⟨z,B⟩,C⟩:=h;rcases Nat.lt_or_ge k j with x|hge
  · refine a78 all u (k+1) _ l (fun i q hi t=>?_) C j p x hj;rcases Nat.lt_or_ge i k with h4|h4
    · exact List.mem_cons_of_mem _ (hes i q h4 t)
    · obtain rfl:i=k:=by omega
      rw[List.getElem?_eq_getElem hk]at t;simp only[Option.some.injEq]at t;rw[e0,t];simp
  · obtain rfl:j=k:=by omega
    rw[List.getElem?_eq_getElem hk]at hj;simp only[Option.some.injEq]at hj;rw[← hj,← e0];refine⟨fun i hi=>?_,fun i q hi t=>?_⟩
    · have:=List.all_eq_true.1 z i hi;simpa using this
    · have:=List.all_eq_true.1 B _ (hes i q hi t);simp only[Bool.or_eq_true]at this;rcases this with(h5|h5)|h5
      · left; simp only[a1t,a0m,Bool.or_eq_true]; exact .inl (by simpa using h5)
      · right;rw[List.any_eq_true]at h5;obtain⟨y,E,e⟩:=h5;have:i=y:=by simpa using e
        rw[this]; exact E
      · left; simp only[a1t,Bool.or_eq_true]; exact .inr h5
def R6 (n:Nat) (listed:Array Bool):List Nat:=(List.range n).filter fun i=>!listed.getD i true
theorem mem_rem {n:Nat} {listed:Array Bool} {i:Nat}:i∈R6 n listed↔i < n∧listed.getD i true=false:=by simp[R6]
theorem a4a (n:Nat) (listed:Array Bool):(R6 n listed).Pairwise (· < ·):=List.Pairwise.filter _ List.pairwise_lt_range
theorem a2N {l:Array Bool} {i:Nat} (h:i < l.size) (d e:Bool):l.getD i d=l.getD i e:=by simp[Array.getD_eq_getD_getElem?,h]
theorem b2E {n:Nat} {listed:Array Bool} (hl:listed.size=n) {i:Nat} {l1 l2:List Nat} (h:R6 n listed=l1++i::l2):R6 n (listed.setIfInBounds i true)=l1++l2:=by
 have hi:i∈R6 n listed:=by rw[h]; simp
 have z:=(mem_rem.1 hi).1;have e:R6 n (listed.setIfInBounds i true)=(R6 n listed).filter (fun x=>x != i):=by
  unfold R6;rw[List.filter_filter];apply List.filter_congr;intro x j;have t:x < n:=by simpa using j
  by_cases ex:x=i
  · subst ex;simp[Array.getD_eq_getD_getElem?,hl,t]
  · have:(listed.setIfInBounds i true).getD x true=listed.getD x true:=by simp[Array.getD_eq_getD_getElem?,Array.getElem?_setIfInBounds_ne (Ne.symm ex)]
    rw[this];simp[ex]
 rw[e,h];have l:=a4a n listed;rw[h]at l;have l:=List.pairwise_append.1 l;have u:∀ x∈l1,x≠i:=fun x j=>Nat.ne_of_lt (l.2.2 x j i (by simp))
 have y:∀ x∈l2,x≠i:=fun x j=>Nat.ne_of_gt ((List.pairwise_cons.1 l.2.1).1 x j)
 rw[List.filter_append,List.filter_cons_of_neg (by simp),List.filter_eq_self.2 (fun x j=>by simpa using u x j),List.filter_eq_self.2 (fun x j=>by simpa using y x j)]
theorem a06 {listed:Array Bool} (u:∀ j,listed.getD j false=true→∀ i∈B3 ops j,listed.getD i false=true) :
 ∀ (n:Nat) (l:List Nat),(∀ x∈l,listed.getD x false=true)→∀ x∈a0H ops n l,listed.getD x false=true
 | 0,l,h,x,hx=>h x hx
 | n+1,l,h,x,hx=>by
  simp only[a0H,List.mem_append]at hx;rcases hx with hx|hx
  · exact h x hx
  · refine a06 u n _ (fun y t=>?_) x hx;obtain⟨z,B,t⟩:=List.mem_flatMap.1 t;exact u z (h z B) y t
theorem ready_iff {listed:Array Bool} {i:Nat}:i∈Region.ready .any ops listed↔i < ops.size∧listed.getD i true=false∧∀ b∈B3 ops i,listed.getD b false=true:=by
 unfold Region.ready;rw[List.mem_filter,List.mem_range];constructor
 · rintro⟨u,x⟩;simp only[Bool.and_eq_true,Bool.not_eq_true']at x;refine⟨u,x.1,fun b l=>?_⟩;have t:=x.2;unfold B3 at l;rw[Array.getElem?_eq_getElem u]at t l;simp only[Option.map_some,Option.getD_some]at t;simp only at l;obtain⟨e,y,l⟩:=List.mem_filterMap.1 l;have:=Array.all_eq_true_iff_forall_mem.1 t e (by simpa using y);split at l
   · rename_i j;simp only[Option.some.injEq]at l;subst l;simpa[j]using this
   · cases l
 · rintro⟨u,x,t⟩;refine⟨u,?_⟩;simp only[Bool.and_eq_true,Bool.not_eq_true'];refine⟨x,?_⟩;unfold B3 at t;rw[Array.getElem?_eq_getElem u]at t ⊢;simp only[Option.map_some,Option.getD_some];refine Array.all_eq_true_iff_forall_mem.2 fun e y=>?_
   cases j:Region.binds .any e with
   | false=>simp
   | true =>have:=t e.on (List.mem_filterMap.2 ⟨e,by simpa using y,by simp[j]⟩);simp[this]
theorem c4D (fx:Fx c) (hc:L6 c.P c.gt call) {u:List AOper} (b3:Z6 c ops ops.toList u=true) (I:a3w ops [] 0 u=true) :
 ∀ (n:Nat) (listed:Array Bool) (g:Gh) (w:World) (pr:Nat→Option Pl) (bx:Nat→Nat) (σ:Sig) (a:Act),listed.size=u.length→(R6 u.length listed).length=n →
  (∀ j,listed.getD j false=true→∀ i∈B3 ops j,listed.getD i false=true) →
  S c g w pr bx σ a→l7 call ((R6 u.length listed).filterMap (u[·]?)) σ=some σ'→Post c g w a σ' (Q .normal)→wpAny c.P .any ops Q n listed a w:=by
 obtain⟨hl,W⟩:=a0B b3;have c0:ops.size=u.length:=by simpa using hl
 have X:=fun(j:Nat) (p:AOper) hj=>a78 (ops:=ops) u u 0 [] rfl (fun i q hi=>by omega) I j p (Nat.zero_le _) hj
 have G:∀ (listed:Array Bool),listed.size=u.length→Region.ready .any ops listed=[]→R6 u.length listed=[]:=by
  intro listed z F;cases y:R6 u.length listed with
  | nil=>rfl
  | cons i l =>
   exfalso;have hi:i∈R6 u.length listed:=by rw[y]; simp
   obtain⟨h1,O⟩:=mem_rem.1 hi;have:i∈Region.ready .any ops listed:=by
    refine ready_iff.2 ⟨by omega,O,fun b Y=>?_⟩;have b8:=(X i _ (List.getElem?_eq_getElem h1)).1 b Y;have b2:b ∉ R6 u.length listed:=fun hm=>by
     have hs:=a4a u.length listed;rw[y]at hs hm;rcases List.mem_cons.1 hm with rfl|hm
     · omega
     · have:=(List.pairwise_cons.1 hs).1 b hm; omega
    have a2:b < u.length:=by omega
    cases hq:listed.getD b true with
    | false=>exact absurd (mem_rem.2 ⟨a2,hq⟩) b2
    | true=>rw[a2N (by omega) false true]; exact hq
   rw[F]at this;cases this
 intro n;induction n with
 | zero =>intro listed g w pr bx σ a z hn _ h F B;have y:R6 u.length listed=[]:=List.eq_nil_of_length_eq_zero hn;rw[y]at F;simp only[List.filterMap_nil,l7,Option.some.injEq]at F;subst F;refine⟨?_,B a w g pr bx rfl h (Tr.refl _ _ _)⟩;apply List.eq_nil_iff_forall_not_mem.2;intro i hi;obtain⟨h1,O,_⟩:=ready_iff.1 hi;have:=(mem_rem (n:=u.length)).2 ⟨show i < u.length by omega,O⟩;rw[y]at this;cases this
 | succ n ih =>
  intro listed g w pr bx σ a z hn U h F B;refine⟨fun he=>?_,fun i hi=>?_⟩
  · have:=G listed z he;rw[this]at hn;cases hn
  · obtain⟨h1,O,h3⟩:=ready_iff.1 hi;have C:i < u.length:=by omega
    have J:i∈R6 u.length listed:=mem_rem.2 ⟨C,O⟩;obtain⟨l1,l2,t⟩:=List.append_of_mem J;obtain⟨o,ho,b4,hg⟩:=W i _ (List.getElem?_eq_getElem C);have hs:=a4a u.length listed;rw[t]at hs;have hs:=List.pairwise_append.1 hs;rw[t,List.filterMap_append,List.filterMap_cons_some (List.getElem?_eq_getElem C)]at F;obtain⟨σ1,N,E⟩:=b7l (fun r F=>by
     obtain⟨k,hk,b5⟩:=List.mem_filterMap.1 F;have b1:k < i:=hs.2.2 k hk i (by simp);refine((X i _ (List.getElem?_eq_getElem C)).2 k r b1 b5).resolve_right fun V=>?_
     have M:=a06 U 10 _ h3 k V;have L:k∈R6 u.length listed:=by rw[t]; simp[hk]
     have:=(mem_rem.1 L).2;rw[a2N (by omega) true false,M]at this;cases this) F
    rw[← List.filterMap_append,← b2E z t]at E;refine a6q fx hc h (by simpa using ho) b4 hg N fun a1 w1 g1 b7 Z b0 a0 b6=>?_
    refine ih (listed.setIfInBounds i true) g1 w1 b7 Z σ1 a1 (by simpa using z) ?_ (fun j hj b Y=>?_) a0 E (B.trans b0 b6)
    · rw[b2E z t];rw[t]at hn;simp at hn ⊢;omega
    · have up:∀ x,listed.getD x false=true→(listed.setIfInBounds i true).getD x false=true:=fun x hx=>by
       by_cases e:i=x
       · subst e; simp[Array.getD_eq_getD_getElem?,z,C]
       · simpa[Array.getD_eq_getD_getElem?,Array.getElem?_setIfInBounds_ne e]using hx
      by_cases e:i=j
      · subst e;exact up b (h3 b Y)
      · refine up b (U j ?_ b Y);simpa[Array.getD_eq_getD_getElem?,Array.getElem?_setIfInBounds_ne e]using hj
def T7 (qs:List (Nat×AOper)) (listed:Array Bool):List (Nat×AOper):=qs.filter fun x=>!listed.getD x.1 true
theorem a1g:∀ {qs es:List (Nat×AOper)},a3A ops es qs=true→∀ {l1 l2:List (Nat×AOper)} {j:Nat} {p:AOper},qs=l1++(j,p)::l2 →
 (∀ i∈B3 ops j,∃ q,(i,q)∈es∨(i,q)∈l1)∧(∀ i q,(i,q)∈es∨(i,q)∈l1→i≠j∧(a1t q p=true∨i∈a0H ops 10 (B3 ops j)))
 | [],es,_,l1,l2,j,p,e=>by simp at e
 | x::qs,es,h,l1,l2,j,p,e=>by
  simp only[a3A,Bool.and_eq_true]at h;obtain⟨⟨u,z⟩,B⟩:=h;cases l1 with
  | nil =>
   simp only[List.nil_append,List.cons.injEq]at e;obtain⟨rfl,rfl⟩:=e;refine⟨fun i hi=>?_,fun i q hq=>?_⟩
   · have:=List.all_eq_true.1 u i hi;obtain⟨e,C,l⟩:=List.any_eq_true.1 this;have l:e.1=i:=by simpa using l
     exact⟨e.2,.inl (by rw[← l]; exact C)⟩
   · have hq:(i,q)∈es:=by simpa using hq
     have:=List.all_eq_true.1 z _ hq;simp only[Bool.and_eq_true,Bool.not_eq_true',Bool.or_eq_true]at this;obtain⟨t1,t2⟩:=this;refine⟨fun e=>by subst e; simp at t1,?_⟩;rcases t2 with t2|t2
     · exact .inl t2
     · right;obtain⟨y,E,t⟩:=List.any_eq_true.1 t2;have:i=y:=by simpa using t
       rw[this]; exact E
  | cons y l1 =>
   simp only[List.cons_append,List.cons.injEq]at e;obtain⟨rfl,e⟩:=e;obtain⟨F,G⟩:=a1g B e;refine⟨fun i hi=>?_,fun i q hq=>G i q ?_⟩
   · obtain⟨q,hq⟩:=F i hi;refine⟨q,?_⟩;rcases hq with hq|hq
     · rcases List.mem_cons.1 hq with rfl|hq
       · exact .inr (by simp)
       · exact .inl hq
     · exact .inr (by simp[hq])
   · rcases hq with hq|hq
     · exact .inl (by simp[hq])
     · rcases List.mem_cons.1 hq with rfl|hq
       · exact .inl (by simp)
       · exact .inr hq
theorem a5K {qs:List (Nat×AOper)} (h:a3A ops [] qs=true):(qs.map (·.1)).Nodup:=by
 rw[List.Nodup,List.pairwise_map];rw[List.pairwise_iff_getElem];intro i j hi t l;have e:qs=qs.take j++qs[j]::qs.drop (j+1):=by rw[← List.drop_eq_getElem_cons t,List.take_append_drop]
 have:=(a1g h (l1:=qs.take j) (l2:=qs.drop (j+1)) (j:=qs[j].1) (p:=qs[j].2) e).2 qs[i].1 qs[i].2 (.inr (by rw[List.mem_take_iff_getElem];exact⟨i,by omega,rfl⟩));exact this.1
theorem b88 (fx:Fx c) (hc:L6 c.P c.gt call) {qs:List (Nat×AOper)} (b8:c88 c ops qs=true) (y:a3A ops [] qs=true) (G:∀ i,i < ops.size→∃ p,(i,p)∈qs) :
 ∀ (n:Nat) (listed:Array Bool) (g:Gh) (w:World) (pr:Nat→Option Pl) (bx:Nat→Nat) (σ:Sig) (a:Act),listed.size=ops.size→(T7 qs listed).length=n →
  (∀ j,listed.getD j false=true→∀ i∈B3 ops j,listed.getD i false=true) →
  S c g w pr bx σ a→l7 call ((T7 qs listed).map (·.2)) σ=some σ'→Post c g w a σ' (Q .normal)→wpAny c.P .any ops Q n listed a w:=by
 have I:∀ {i p},(i,p)∈qs→∃ o,ops[i]?=some o∧a7o c o p=true∧a1X c ops o p=true:=fun {i p} hm=>by
  have:=List.all_eq_true.1 b8 _ hm;simp only at this;split at this
  · rename_i o ho;simp only[Bool.and_eq_true]at this;exact⟨o,ho,this.1,this.2⟩
  · cases this
 have N:∀ {i p},(i,p)∈qs→i < ops.size:=fun {i p} hm=>by obtain⟨o,ho,_⟩:=I hm;exact(Array.getElem?_eq_some_iff.1 ho).1
 have a0:=a5K y;have F:∀ (listed:Array Bool),listed.size=ops.size→Region.ready .any ops listed=[]→T7 qs listed=[]:=by
  intro listed z E;cases u:T7 qs listed with
  | nil=>rfl
  | cons x l =>
   exfalso;obtain⟨i,p⟩:=x;obtain⟨l1,l2,t,b7,hi,_⟩:=List.filter_eq_cons_iff.1 u;simp only[Bool.not_eq_true']at hi;have hm:(i,p)∈qs:=by rw[t]; simp
   have:i∈Region.ready .any ops listed:=by
    refine ready_iff.2 ⟨N hm,hi,fun b hb=>?_⟩;obtain⟨q,hq⟩:=(a1g y t).1 b hb;have hq:(b,q)∈l1:=by simpa using hq
    have V:=b7 _ hq;simp only[Bool.not_eq_true',Bool.not_eq_false]at V;have b4:b < listed.size:=by rw[z]; exact N (p:=q) (by rw[t]; simp[hq])
    rw[a2N b4 false true];exact V
   rw[E]at this;cases this
 intro n;induction n with
 | zero =>intro listed g w pr bx σ a z hn _ h E B;have u:T7 qs listed=[]:=List.eq_nil_of_length_eq_zero hn;rw[u]at E;simp only[List.map_nil,l7,Option.some.injEq]at E;subst E;refine⟨?_,B a w g pr bx rfl h (Tr.refl _ _ _)⟩;apply List.eq_nil_iff_forall_not_mem.2;intro i hi;obtain⟨U,h2,_⟩:=ready_iff.1 hi;obtain⟨p,hp⟩:=G i U;have:(i,p)∈T7 qs listed:=List.mem_filter.2 ⟨hp,by simp[h2]⟩;rw[u]at this;cases this
 | succ n ih =>
  intro listed g w pr bx σ a z hn W h E B;refine⟨fun he=>?_,fun i hi=>?_⟩
  · have:=F listed z he;rw[this]at hn;cases hn
  · obtain⟨U,h2,h3⟩:=ready_iff.1 hi;obtain⟨p,Y⟩:=G i U;obtain⟨o,ho,c0,hg⟩:=I Y;obtain⟨l1,l2,t⟩:=List.append_of_mem Y;have u:T7 qs listed=T7 l1 listed++(i,p)::T7 l2 listed:=by unfold T7;rw[t,List.filter_append,List.filter_cons_of_pos (by simp[h2])]
    rw[u,List.map_append,List.map_cons]at E;obtain⟨σ1,O,C⟩:=b7l (fun r E=>by
     obtain⟨⟨k,r'⟩,hk,rfl⟩:=List.mem_map.1 E;obtain⟨Z,L⟩:=List.mem_filter.1 hk;refine((a1g y t).2 k r' (.inr Z)).2.resolve_right fun X=>?_
     have M:=a06 W 10 _ h3 k X;have b6:k < listed.size:=by rw[z]; exact N (p:=r') (by rw[t]; simp[Z])
     simp only[Bool.not_eq_true']at L;rw[a2N b6 true false,M]at L;cases L) E
    have b1:∀ x∈l1++l2,x.1≠i:=by
     rw[t,List.map_append,List.map_cons,List.Nodup,List.pairwise_append]at a0;obtain⟨_,a2,b0⟩:=a0;intro x hx e;rcases List.mem_append.1 hx with hx|hx
     · exact b0 x.1 (List.mem_map.2 ⟨x,hx,rfl⟩) i (by simp) e
     · exact(List.pairwise_cons.1 a2).1 x.1 (List.mem_map.2 ⟨x,hx,rfl⟩) e.symm
    have J:T7 qs (listed.setIfInBounds i true)=T7 l1 listed++T7 l2 listed:=by
     have e:∀ l:List (Nat×AOper),(∀ x∈l,x.1≠i)→T7 l (listed.setIfInBounds i true)=T7 l listed:=fun l hl=>by unfold T7;apply List.filter_congr;intro x hx;have c3:=hl x hx;rw[Array.getD_eq_getD_getElem?,Array.getD_eq_getD_getElem?,Array.getElem?_setIfInBounds_ne (Ne.symm c3)]
     have c2:(listed.setIfInBounds i true).getD i true=true:=by simp[Array.getD_eq_getD_getElem?,z,U]
     rw[← e l1 (fun x hx=>b1 x (by simp[hx])),← e l2 (fun x hx=>b1 x (by simp[hx]))];unfold T7;rw[t,List.filter_append,List.filter_cons_of_neg (by simp[c2])]
    rw[← List.map_append,← J]at C;refine a6q fx hc h ho c0 hg O fun a1 w1 g1 c4 b2 b5 b3 c1=>?_
    refine ih (listed.setIfInBounds i true) g1 w1 c4 b2 σ1 a1 (by simpa using z) ?_ (fun j hj b hb=>?_) b3 C (B.trans b5 c1)
    · rw[J];rw[u]at hn;simp at hn ⊢;omega
    · have up:∀ x,listed.getD x false=true→(listed.setIfInBounds i true).getD x false=true:=fun x hx=>by
       by_cases e:i=x
       · subst e; simp[Array.getD_eq_getD_getElem?,z,U]
       · simpa[Array.getD_eq_getD_getElem?,Array.getElem?_setIfInBounds_ne e]using hx
      by_cases e:i=j
      · subst e;exact up b (h3 b hb)
      · refine up b (W j ?_ b hb);simpa[Array.getD_eq_getD_getElem?,Array.getElem?_setIfInBounds_ne e]using hj
theorem b69:∀ {n:Nat} {l:List Nat},l.Nodup→(∀ x∈l,x < n)→l.length≤n
 | 0,l,_,h=>by
  cases l with
  | nil=>simp
  | cons x l=>exact absurd (h x (by simp)) (by omega)
 | n+1,l,i,h=>by
  have u:(l.erase n).length≤n:=b69 (i.erase n) fun x j=>by
   have hm:=List.mem_of_mem_erase j;have t:x≠n:=fun e=>by subst e;exact(List.Nodup.not_mem_erase i) j
   have:=h x hm;omega
  have y:l.length≤(l.erase n).length+1:=by rw[List.length_erase];split<;>omega
  omega
theorem b1m {n:Nat} {l:List Nat} (t:l.Nodup) (j:∀ x∈l,x < n) (u:l.length=n):∀ i,i < n→i∈l:=by
 intro i hi;by_cases hm:i∈l
 · exact hm
 · exfalso;have:=b69 (n:=n) (List.nodup_cons.2 ⟨hm,t⟩) fun x hx=>by
    rcases List.mem_cons.1 hx with rfl|hx
    · exact hi
    · exact j x hx
   simp at this;omega
end
end Go.Cb
namespace Go.Cb
open Classical
def a3G (c:Cx) (x:Operand) (y:Opd):Bool:=Q8 c x y
def a4W (c:Cx) (ops:Array Oper) (d:Bool) (x:Operand):Bool:=match ops.toList,x with
 | [o0,o1,o2,o3],.tmp s1=>match o0.op,o0.dst,o1.op,o2.op,o3.op,o3.dst with
  | .alloc t,some s0,.store t1 (.tmp j) (.const (.bool _)),.store t2 (.tmp l) (.const (.bool _)),.load t3 (.tmp u),some i =>
   d && t1 == t && t2 == t && t3 == t && j == s0 && l == s0 && u == s0 && i == s1 && o1.dst.isNone && o2.dst.isNone && o0.guard.isNone && o1.guard.isNone && o2.guard.isNone && o3.guard.isNone &&
    !c.slots.contains s0 && !c.slots.contains s1 && s0 != s1 && decide (s0 < c.nt) && decide (s1 < c.nt) && D6 c t == some false && C8 c t == some 1 &&
    (match (c.P.info? t).bind (·.zero)with|some (.bool _)=>true|_=>false) && B3 ops 0 == [] && B3 ops 1 == [0] && B3 ops 2 == [0] && B3 ops 3 == [0,0,1,2]
  | _,_,_,_,_,_=>false
 | _,_=>false
def B2 (c:Cx):Code→ACode→Bool
 | .skip,.skip=>true
 | .exit id,.exit l=>id == l
 | .ret,.ret=>true
 | .region _ ops d,.reg kill t=>a4m c ops d kill t
 | .seq (.region _ ops d) (.cond x a b),.test kill t y i b'=>a4m c ops d kill t && a3G c x y && B2 c a i && B2 c b b'
 | .seq (.region _ ops d) (.seq (.cond x a b) rest),.seq (.test kill t y i b') j=>a4m c ops d kill t && a3G c x y && B2 c a i && B2 c b b' && B2 c rest j
 | .seq (.region _ ops d) (.cond x a b),.either _ i b'=>a4W c ops d x && B2 c a i && B2 c b b'
 | .seq (.region _ ops d) (.seq (.cond x a b) rest),.seq (.either _ i b') j=>a4W c ops d x && B2 c a i && B2 c b b' && B2 c rest j
 | .seq a b,.seq i b'=>B2 c a i && B2 c b b'
 | .cond x a b,.test kill t y i b'=>kill.isEmpty && t.isEmpty && a3G c x y && B2 c a i && B2 c b b'
 | .block id a,.blk l i=>id == l && B2 c a i
 | .loop a,.loop i=>B2 c a i
 | .scope a,i=>B2 c a i
 | _,_=>false
def Ex.toExit:Ex→Exit
 | .normal=>.normal
 | .exit id=>.exit id
 | .ret=>.ret
def After (c:Cx) (g:Gh) (w:World) (a:Act) (out:Out) (Q:Exit→Act→World→Prop):Prop :=
 ∀ i w' g' l j t,i.defers=a.defers→S c g' w' l j ⟨out.2.1,t,out.2.2⟩ i→Tr c.A g w g' w'→Q out.1.toExit i w'
def a6p (c:Cx) (x:Code) (y:ACode):Prop :=
 ∀ {call:e9} {n:Nat} {g:Gh} {w:World} {pr:Nat→Option Pl} {bx:Nat→Nat} {fr:List AV} {τ:Nat→AV} {st:St} {a:Act} {out:Out} {Q:Exit→Act→World→Prop},
  Fx c→c.P.follows .mixedOrders=true→L6 c.P c.gt call→S c g w pr bx ⟨fr,τ,st⟩ a→exec call n y fr st=some out→After c g w a out Q→x.wp c.P Q a w
section
variable {c:Cx}
theorem After.trans {g g':Gh} {w w':World} {a l:Act} {out:Out} {Q:Exit→Act→World→Prop} (h:After c g w a out Q) (t:l.defers=a.defers) (u:Tr c.A g w g' w'):After c g' w' l out Q :=
 fun a2 y g2 pr2 i j d2 x t2=>h a2 y g2 pr2 i j (d2.trans t) x (u.trans t2)
theorem a2m:∀ (kill:List Nat) (fr:List AV) (i:Nat),(m0 kill fr).getD i .undef=fr.getD i .undef∨(m0 kill fr).getD i .undef=.undef
 | [],fr,i=>.inl rfl
 | k::kill,fr,i=>by
  simp only[m0];rcases a2m kill (fr.set k .undef) i with h|h
  · rw[h,Q9];split
    · exact .inr rfl
    · exact .inl rfl
  · exact .inr h
theorem a6A:∀ (kill:List Nat) (fr:List AV),(m0 kill fr).length=fr.length
 | [],_=>rfl
 | k::kill,fr=>by rw[m0,a6A kill,List.length_set]
theorem VarOK.undef {g:Gh} {w:World} {pr:Nat→Option Pl} {bx:Nat→Nat} {i:Nat} {v:Value}:VarOK g w pr bx i .undef v:=ValOK.undef
theorem S.reset {g:Gh} {w:World} {pr:Nat→Option Pl} {bx:Nat→Nat} {fr:List AV} {τ:Nat→AV} {st:St} {a:Act} (h:S c g w pr bx ⟨fr,τ,st⟩ a) (kill:List Nat) :
 S c g w pr bx ⟨m0 kill fr,fun _=>.undef,st⟩ a:=by
 refine⟨⟨h.fr.size,by rw[a6A]; exact h.fr.len,fun i s hs=>?_,fun s hs=>ValOK.undef,h.fr.prv,fun i cs hi=>?_⟩,h.st,h.gl,h.fresh,h.stA⟩
 · rcases a2m kill fr i with e|e
   · rw[e]; exact h.fr.var i s hs
   · rw[e]; exact VarOK.undef
 · rcases a2m kill fr i with e|e
   · rw[e]at hi; exact h.fr.bxs i cs hi
   · rw[e]at hi; cases hi
theorem S.drawn {g:Gh} {w:World} {pr:Nat→Option Pl} {bx:Nat→Nat} {σ:Sig} {a:Act} (h:S c g w pr bx σ a) (n:Nat):S c g { w with drawn:=n } pr bx σ a∧Tr c.A g w g { w with drawn:=n }:=by have i:Ext g w g { w with drawn:=n }:=⟨Nat.le_refl _,fun _ _=>rfl,fun _ _=>rfl,fun _ _ x=>x,fun _ _ _=>rfl⟩;have j:Tr No g w g { w with drawn:=n }:=⟨i,Nat.le_refl _,Env.drawn rfl rfl rfl,fun b _ hs _=>⟨⟨rfl,fun _ x=>x⟩,hs⟩⟩;exact⟨⟨h.fr.evolve j,h.st.evolve i rfl (Nat.le_refl _) (fun b p l=>⟨l,rfl,fun _ x=>x⟩) (fun _ _ x=>x) (fun _ _ x=>.inl x),h.gl.ext i,h.fresh,h.stA⟩,j.wider fun _ x=>x.elim⟩
theorem a2b (i:List AOper):∀ (n k:Nat),k+n=i.length→(List.range' k n).filterMap (i[·]?)=i.drop k
 | 0,k,h=>by rw[List.drop_of_length_le (by omega)]; rfl
 | n+1,k,h=>by rw[List.range'_succ,List.filterMap_cons_some (List.getElem?_eq_getElem (show k < i.length by omega)),a2b i n (k+1) (by omega),← List.drop_eq_getElem_cons]
theorem a7L (i:List AOper):(List.range i.length).filterMap (i[·]?)=i:=by rw[List.range_eq_range',a2b i i.length 0 (by omega)];rfl
theorem b8l (N:Fx c) (hm:c.P.follows .mixedOrders=true) {call:e9} (W:L6 c.P c.gt call) {g:Gh} {w:World} {pr:Nat→Option Pl} {bx:Nat→Nat} {fr:List AV} {τ:Nat→AV} {st:St} {a:Act}
 {id:Nat} {ops:Array Oper} {d:Bool} {kill:List Nat} {t:List AOper} (z:a4m c ops d kill t=true) (h:S c g w pr bx ⟨fr,τ,st⟩ a) {σ':Sig} (Y:l7 call t ⟨m0 kill fr,fun _=>.undef,st⟩=some σ')
 {Q:Exit→Act→World→Prop} (u:Post c g w a σ' (Q .normal)):(Code.region id ops d).wp c.P Q a w:=by
 unfold a4m at z;have O:=h.reset kill;split at z
 · -- in an order of its own
   rename_i M;simp only[Bool.and_eq_true]at M;have M:=M.1;subst M;simp only[c9H,Bool.and_eq_true]at z;obtain⟨⟨⟨q1,q2⟩,q3⟩,q4⟩:=z;have q1:(a6d kill).length=ops.size:=by simpa using q1
   have q2:t.length=ops.size:=by simpa using q2
   generalize a6d kill=π at *
   refine wp_region_any hm ?_;obtain⟨E,F⟩:=O.drawn (w.drawn+1);have I:(π.zip t).map (·.1)=π:=List.map_fst_zip (by omega);have L:(π.zip t).map (·.2)=t:=List.map_snd_zip (by omega);have X:=a5K q4;have C:∀ x∈(π.zip t).map (·.1),x < ops.size:=fun x Z=>by
    obtain⟨y,hy,rfl⟩:=List.mem_map.1 Z;have:=List.all_eq_true.1 q3 y hy;split at this
    · rename_i o ho;exact(Array.getElem?_eq_some_iff.1 ho).1
    · cases this
   have G:∀ i,i < ops.size→∃ p,(i,p)∈π.zip t:=fun i hi=>by have:=b1m X C (by rw[I]; exact q1) i hi;obtain⟨y,hy,rfl⟩:=List.mem_map.1 this;exact⟨y.2,hy⟩
   have l:T7 (π.zip t) (Array.replicate ops.size false)=π.zip t:=by unfold T7;apply List.filter_eq_self.2;intro x Z;have:=C x.1 (List.mem_map.2 ⟨x,Z,rfl⟩);simp[this]
   refine b88 N W q3 q4 G ops.size (Array.replicate ops.size false) g _ pr bx _ a (by simp) (by rw[l,List.length_zip]; omega) (fun j J=>?_) E (by rw[l,L]; exact Y) (u.trans rfl F);exfalso;rcases Nat.lt_or_ge j ops.size with hl|hl
   · simp[hl]at J
   · simp[Array.getD_eq_getD_getElem?,Nat.not_lt.2 hl]at J
 simp only[Bool.and_eq_true,Bool.or_eq_true,Bool.not_eq_true']at z;obtain⟨U,V⟩:=z;obtain⟨hl,_⟩:=a0B U;cases d with
 | false =>
  refine wp_region ?_;have:=b0p (Q:=Q) N W U ops.size 0 g w pr bx _ a (by simpa using hl) O (by simpa using Y) u
  rwa [← List.range_eq_range']at this
 | true =>
  have V:=V.resolve_left (by simp);refine wp_region_any hm ?_;obtain⟨E,F⟩:=O.drawn (w.drawn+1);have B:ops.size=t.length:=by simpa using hl
  have l:R6 t.length (Array.replicate ops.size false)=List.range t.length:=by
   unfold R6;apply List.filter_eq_self.2;intro i hi;have:i < t.length:=by simpa using hi
   simp[B,this]
  refine c4D N W U V ops.size (Array.replicate ops.size false) g _ pr bx _ a (by simpa using B) (by rw[l]; simpa using B.symm) (fun j J=>?_) E (by rw[l,a7L]; exact Y) (u.trans rfl F);exfalso;have C:j < t.length:=by
   rcases Nat.lt_or_ge j t.length with h|h
   · exact h
   · simp[Array.getD_eq_getD_getElem?,B,Nat.not_lt.2 h]at J
  simp[B,C]at J
theorem a3K {g:Gh} {w:World} {pr:Nat→Option Pl} {bx:Nat→Nat} {σ:Sig} {a:Act} (h:S c g w pr bx σ a) {x:Operand} {y:Opd} (i:a3G c x y=true) {b:Bool} (l:y.read σ=.bool b):a.eval x=.bool b:=by have j:=R3 h i;rw[l]at j;have t:=ValOK.rel j;simpa only [Rel]using t
theorem a5l {id:Nat} {ops:Array Oper} {d:Bool} {kill:List Nat} {G:List AOper} {x:Operand} {y:Opd} {A B:Code} {I J:ACode} (U:a4m c ops d kill G=true) (M:a3G c x y=true) (V:a6p c A I) (W:a6p c B J)
 {call:e9} {n:Nat} {g:Gh} {w:World} {pr:Nat→Option Pl} {bx:Nat→Nat} {fr:List AV} {τ:Nat→AV} {st:St} {a:Act} {out:Out} {Q Q':Exit→Act→World→Prop}
 (z:Fx c) (hm:c.P.follows .mixedOrders=true) (E:L6 c.P c.gt call) (h:S c g w pr bx ⟨fr,τ,st⟩ a) (j:exec call n (.test kill G y I J) fr st=some out) (N:After c g w a out Q') {K:Act→World→Prop}
 (X:∀ L w',(Code.cond x A B).wp c.P Q' L w'→K L w'):(Code.region id ops d).wp c.P (Exit.then K Q) a w:=by
 simp only[exec]at j;cases F:l7 call G ⟨m0 kill fr,fun _=>.undef,st⟩with
 | none=>simp[F]at j
 | some σ =>
  simp only[F,fL_eq]at j;refine b8l z hm E U h F fun a1 w1 g1 Y O l i u=>?_
  show K a1 w1;refine X a1 w1 ?_;split at j
  · rename_i C;exact wp_cond (t:=true) (a3K i M C) (V z hm E (τ:=σ.τ) i j (N.trans l u))
  · rename_i C;exact wp_cond (t:=false) (a3K i M C) (W z hm E (τ:=σ.τ) i j (N.trans l u))
  · cases j
theorem X5 {P:Program} {ops:Array Oper} {Q:Exit→Act→World→Prop} {i:Nat} {o:Oper} {K:Act→World→Prop} {a:Act} {w:World} (hi:ops[i]?=some o) (hg:o.guard=none) (h:o.wp P a w K Q):wpOp P ops Q i K a w:=by unfold wpOp;simp only[hi];rw[if_pos (by simp[Region.wanted,hg])];exact .inl h
theorem S.alloc {g:Gh} {w:World} {pr:Nat→Option Pl} {bx:Nat→Nat} {σ:Sig} {a:Act} (h:S c g w pr bx σ a) (cs:Array Value) (T:TypeId):S c g (w.alloc (.cells cs T)) pr bx σ a :=
 ⟨h.fr.evolve (Tr.alloc No h.st.cli (.cells cs T)),h.st.alloc (.cells cs T),h.gl.ext (Ext.alloc h.st.cli (.cells cs T)),fun b i=>h.fresh b (by simp at i; omega),h.stA⟩
theorem S.put_undef {g:Gh} {w:World} {pr:Nat→Option Pl} {bx:Nat→Nat} {fr:List AV} {st:St} {a:Act} (h:S c g w pr bx ⟨fr,fun _=>.undef,st⟩ a) {s:Nat} (hs:s ∉ c.slots) (hl:s < c.nt) (v:Value) :
 S c g w pr bx ⟨fr,fun _=>.undef,st⟩ (a.put (some s) v):=by
 have i:=h.fr.put_t hs hl (a:=.undef) (v:=v) ValOK.undef;have e:C6 (fun _=>AV.undef) s .undef=fun _=>AV.undef:=by funext j;unfold C6;split<;>rfl
 rw[e]at i;exact⟨i,h.st,h.gl,h.fresh,h.stA⟩
structure Toss (c:Cx) (g:Gh) (w0:World) (pr:Nat→Option Pl) (bx:Nat→Nat) (fr:List AV) (st:St) (a0:Act) (s0 blk:Nat) (a:Act) (w:World):Prop where
 s:S c g w pr bx ⟨fr,fun _=>.undef,st⟩ a
 tr:Tr c.A g w0 g w
 df:a.defers=a0.defers
 ptr:a.eval (.tmp s0)=.pointer (some (ad blk 0))
 cell:∃ T b,w.heap[blk]?=some (.cells #[.bool b] T (0,0))
 free:(∀ f,¬ g.cl blk f)∧g.sr blk=none∧(∀ p,pr blk≠some p)∧c.A blk
section
variable {g:Gh} {w0 w:World} {pr:Nat→Option Pl} {bx:Nat→Nat} {fr:List AV} {st:St} {a0 a:Act} {s0 blk:Nat} {o:Oper} {K:Act→World→Prop} {Q:Exit→Act→World→Prop}
theorem Toss.store (h:Toss c g w0 pr bx fr st a0 s0 blk a w) {t:TypeId} {b:Bool} (I:o.op=.store t (.tmp s0) (.const (.bool b))) (F:o.dst=none) (hn:C8 c t=some 1) (E:∀ w',Toss c g w0 pr bx fr st a0 s0 blk a w'→K a w'):o.wp c.P a w K Q:=by
 obtain⟨T,z,B⟩:=h.cell;have u:=a1A (c:=c) (w:=w) (a:=a) (o:=o) (v:=.bool b) I h.ptr rfl (by simpa[Value.cells]using hn) B (by simp[Value.cells]) (by simp[Value.cells,Value.oneCell']);unfold Oper.wp;rw[u];simp only[Oper.upon,F,Act.put];have e:(#[Value.bool z].toList.take 0++(Value.bool b).cells.toList++#[Value.bool z].toList.drop (0+(Value.bool b).cells.size)).toArray=#[.bool b]:=by simp[Value.cells]
 rw[e];have y:Ext g w g (w.setRow blk #[.bool b]):=Ext.setRow _ h.free.1;have i:∀ b',b'≠blk→M8 g w g (w.setRow blk #[.bool b]) b':=fun b' l=>⟨setRow_other w _ b' _ l,fun _ x=>x⟩
 have J:Tr c.A g w g (w.setRow blk #[.bool b]):=⟨y,by simp,Env.setRow _ _ _,fun b' _ hs C=>⟨i b' (fun e=>C (e ▸ h.free.2.2.2)),hs⟩⟩;refine E _ ⟨⟨?_,h.s.st.evolve y rfl (by simp) (fun b' p l=>⟨l,i b' (fun e=>by rw[e,h.free.2.1]at l; cases l)⟩) (fun _ _ x=>x) (fun _ _ x=>.inl x),h.s.gl.ext y,fun b' l=>h.s.fresh b' (by simpa using l),h.s.stA⟩,h.tr.trans J,h.df,h.ptr,⟨T,b,setRow_heap w _ _ _ T _ B⟩,h.free⟩;refine h.s.fr.change (fun _=>True) y (fun b' p l _=>⟨l,i b' (fun e=>h.free.2.2.1 p (e ▸ l))⟩) (fun b' p l=>?_) (fun j s _=>.inl ⟨⟨trivial,trivial,fun _=>trivial⟩,rfl⟩) (fun s _=>.inl ⟨trivial,rfl⟩) rfl (fun j cs G=>⟨cs,G⟩) h.s.fr.bxs;obtain⟨L,M,N⟩:=h.s.fr.prv b' p l;exact⟨L,by simpa using M,N⟩
theorem Toss.load (h:Toss c g w0 pr bx fr st a0 s0 blk a w) {t:TypeId} {j:Nat} (E:o.op=.load t (.tmp s0)) (B:o.dst=some j) (u:D6 c t=some false) (y:j ∉ c.slots) (hl:j < c.nt)
 (z:∀ l b,l.defers=a0.defers→S c g w pr bx ⟨fr,fun _=>.undef,st⟩ l→Tr c.A g w0 g w→l.eval (.tmp j)=.bool b→K l w):o.wp c.P a w K Q:=by
 obtain⟨T,x,C⟩:=h.cell;have i:=a1u (c:=c) (w:=w) (a:=a) (o:=o) (v:=.bool x) E u h.ptr (by rw[cell_of_row w _ 0 _ T _ C]; rfl);unfold Oper.wp;rw[i,Oper.upon_value,B];refine z _ x h.df (h.s.put_undef y hl _) h.tr ?_;have:j < a.tmps.size:=by rw[h.s.fr.size]; exact hl
 simp only[Act.eval,Act.put];exact I9 this
end
theorem a0a {ops:Array Oper} (y:ops.size=4) (G:B3 ops 0=[]) (C:B3 ops 1=[0]) (E:B3 ops 2=[0]) (F:B3 ops 3=[0,0,1,2]) {l u x z:Bool} {i:Nat} (hi:i∈Region.ready .any ops #[l,u,x,z]) :
 (i=0∧l=false)∨(i=1∧u=false∧l=true)∨(i=2∧x=false∧l=true)∨(i=3∧z=false∧l=true∧u=true∧x=true):=by
 obtain⟨B,t,j⟩:=ready_iff.1 hi;rw[y]at B;match i,B with
 | 0,_=>exact .inl ⟨rfl,by simpa using t⟩
 | 1,_=>rw[C]at j; exact .inr (.inl ⟨rfl,by simpa using t,by simpa using j⟩)
 | 2,_=>rw[E]at j; exact .inr (.inr (.inl ⟨rfl,by simpa using t,by simpa using j⟩))
 | 3,_ =>rw[F]at j;simp only[List.mem_cons,List.not_mem_nil,or_false,forall_eq_or_imp,forall_eq]at j;exact .inr (.inr (.inr ⟨rfl,by simpa using t,by simpa using j.1,by simpa using j.2.2.1,by simpa using j.2.2.2⟩))
theorem a1n {ops:Array Oper} (x:ops.size=4) (E:B3 ops 0=[]) (F:B3 ops 1=[0]) (G:B3 ops 2=[0]) (I:B3 ops 3=[0,0,1,2]) {j l t u:Bool} (L:j=false∨l=false∨t=false∨u=false):Region.ready .any ops #[j,l,t,u]≠[]:=by
 intro J;have no:∀ i,i ∉ Region.ready .any ops #[j,l,t,u]:=fun i=>by rw[J]; simp
 have y:=fun h=>no 0 (ready_iff.2 h)
 have z:=fun h=>no 1 (ready_iff.2 h)
 have B:=fun h=>no 2 (ready_iff.2 h)
 have C:=fun h=>no 3 (ready_iff.2 h)
 rw[E]at y;rw[F]at z;rw[G]at B;rw[I]at C;simp[x]at y z B C;cases j<;>cases l<;>cases t<;>cases u<;>simp_all
theorem c5d (hm:c.P.follows .mixedOrders=true) {g:Gh} {w:World} {pr:Nat→Option Pl} {bx:Nat→Nat} {fr:List AV} {τ:Nat→AV} {st:St} {a:Act} {id:Nat} {ops:Array Oper} {d:Bool} {x:Operand} (G:a4W c ops d x=true)
 (h:S c g w pr bx ⟨fr,τ,st⟩ a) {Q:Exit→Act→World→Prop} (V:∀ b a' w',a'.defers=a.defers→S c g w' pr bx ⟨fr,fun _=>.undef,st⟩ a'→Tr c.A g w g w'→a'.eval x=.bool b→Q .normal a' w'):(Code.region id ops d).wp c.P Q a w:=by
 unfold a4W at G;split at G
 case h_2=>cases G
 rename_i o0 o1 o2 o3 s1 L;split at G
 case h_2=>cases G
 rename_i t s0 t1 u1 k1 t2 u2 k2 t3 u3 s3 e0 d0 e1 e2 e3 d3;simp only[Bool.and_eq_true,beq_iff_eq,bne_iff_ne,ne_eq,Option.isNone_iff_eq_none,decide_eq_true_eq,Bool.not_eq_true']at G;obtain⟨⟨⟨⟨⟨⟨⟨⟨⟨⟨⟨⟨⟨⟨⟨⟨⟨⟨⟨⟨⟨⟨⟨⟨⟨c1,c2⟩,c3⟩,c4⟩,c5⟩,c6⟩,c7⟩,c8⟩,c9⟩,W⟩,a1⟩,X⟩,Y⟩,b0⟩,M⟩,N⟩,b7⟩,Z⟩,b1⟩,b2⟩,c21⟩,a0⟩,y⟩,B⟩,C⟩,E⟩:=G;have c2:=c2.symm; have c3:=c3.symm; have c4:=c4.symm; have c5:=c5.symm; have c6:=c6.symm; have c7:=c7.symm;subst c1; subst c2; subst c3; subst c4; subst c5; subst c6; subst c7; subst c8;have M:s0 ∉ c.slots:=by simpa using M
 have N:s3 ∉ c.slots:=by simpa using N
 have u:ops.size=4:=by rw[← Array.length_toList,L]; rfl
 have at_:∀ (i:Nat) o,[o0,o1,o2,o3][i]?=some o→ops[i]?=some o:=fun i o hi=>by rw[← Array.getElem?_toList,L]; exact hi
 split at a0
 case h_2=>cases a0
 rename_i z hz;refine wp_region_any hm ?_;rw[u];obtain⟨F,b5⟩:=(h.reset []).drawn (w.drawn+1);have F:S c g { w with drawn:=w.drawn+1 } pr bx ⟨fr,fun _=>.undef,st⟩ a:=F;show wpAny c.P .any ops Q 4 #[false,false,false,false] a { w with drawn:=w.drawn+1 };generalize ({ w with drawn:=w.drawn+1 }:World)=w1 at *
 -- the last one
 have last:∀ blk a2 J,Toss c g w pr bx fr st a s0 blk a2 J→wpAny c.P .any ops Q 1 #[true,true,true,false] a2 J:=by
  intro blk a2 J hT;refine⟨fun I=>absurd I (a1n u y B C E (by simp)),fun i hi=>?_⟩;rcases a0a u y B C E hi with⟨_,l⟩|⟨_,l,_⟩|⟨_,l,_⟩|⟨rfl,_⟩<;>try (cases l; done)
  refine X5 (at_ 3 o3 rfl) b0 (hT.load e3 d3 b2 N b1 fun a3 b b4 b3 b6 l=>?_);show wpAny c.P .any ops Q 0 #[true,true,true,true] a3 J;refine⟨?_,V b a3 J b4 b3 b6 l⟩;apply List.eq_nil_iff_forall_not_mem.2;intro j hj;rcases a0a u y B C E hj with⟨_,l⟩|⟨_,l,_⟩|⟨_,l,_⟩|⟨_,l,_⟩<;>cases l
 have one:∀ blk a2 J,Toss c g w pr bx fr st a s0 blk a2 J→wpAny c.P .any ops Q 3 #[true,false,false,false] a2 J:=by
  intro blk a2 J hT;refine⟨fun I=>absurd I (a1n u y B C E (by simp)),fun i hi=>?_⟩;rcases a0a u y B C E hi with⟨_,l⟩|⟨rfl,_⟩|⟨rfl,_⟩|⟨_,_,_,l,_⟩<;>try (cases l; done)
  · refine X5 (at_ 1 o1 rfl) X (hT.store e1 c9 c21 fun w3 O=>?_);show wpAny c.P .any ops Q 2 #[true,true,false,false] a2 w3;refine⟨fun I=>absurd I (a1n u y B C E (by simp)),fun i hi=>?_⟩;rcases a0a u y B C E hi with⟨_,l⟩|⟨_,l,_⟩|⟨rfl,_⟩|⟨_,_,_,_,l⟩<;>try (cases l; done)
    exact X5 (at_ 2 o2 rfl) Y (O.store e2 W c21 fun w4 U=>last blk a2 w4 U)
  · refine X5 (at_ 2 o2 rfl) Y (hT.store e2 W c21 fun w3 O=>?_);show wpAny c.P .any ops Q 2 #[true,false,true,false] a2 w3;refine⟨fun I=>absurd I (a1n u y B C E (by simp)),fun i hi=>?_⟩;rcases a0a u y B C E hi with⟨_,l⟩|⟨rfl,_⟩|⟨_,l,_⟩|⟨_,_,_,l,_⟩<;>try (cases l; done)
    exact X5 (at_ 1 o1 rfl) X (O.store e1 c9 c21 fun w4 U=>last blk a2 w4 U)
 refine⟨fun I=>absurd I (a1n u y B C E (by simp)),fun i hi=>?_⟩;rcases a0a u y B C E hi with⟨rfl,_⟩|⟨_,_,l⟩|⟨_,_,l⟩|⟨_,_,l,_⟩<;>try (cases l; done)
 refine X5 (at_ 0 o0 rfl) a1 ?_;unfold Oper.wp;rw[a4Q e0 hz,Oper.upon_value,d0];show wpAny c.P .any ops Q 3 #[true,false,false,false] _ _;refine one w1.heap.size _ _ ⟨(F.alloc _ _).put_undef M Z _,b5.trans (Tr.alloc _ F.st.cli _),rfl,?_,⟨t,z,?_⟩,fun f hf=>Nat.lt_irrefl _ (F.st.cli _ f hf),?_,fun p hp=>?_,F.fresh _ (Nat.le_refl _)⟩
 · have:s0 < a.tmps.size:=by rw[F.fr.size]; exact Z
   simp only[Act.eval,Act.put];exact I9 this
 · exact heap_alloc_new w1 _
 · cases hq:g.sr w1.heap.size with
   | none=>rfl
   | some p=>exact absurd (F.st.inn _ p hq) (Nat.lt_irrefl _)
 · have:=(F.fr.prv _ p hp).2.1;omega
theorem M6 {call:e9} {n:Nat} {A B:ACode} {fr:List AV} {st:St} {out:Out} (h:exec call n (.seq A B) fr st=some out) :
 (∃ i j,exec call n A fr st=some (.normal,i,j)∧exec call n B i j=some out)∨(exec call n A fr st=some out∧out.1≠.normal):=by
 simp only[exec]at h;split at h
 · rename_i i j t; exact .inl ⟨i,j,t,h⟩
 · rename_i t;obtain⟨e,l,st'⟩:=out;refine .inr ⟨h,fun hn=>?_⟩;simp only at hn;subst hn;exact t l st' h
theorem a7m {id:Nat} {ops:Array Oper} {d:Bool} {kill:List Nat} {x:Operand} {A B:Code} {E F:ACode} (U:a4W c ops d x=true) (V:a6p c A E) (W:a6p c B F)
 {call:e9} {n:Nat} {g:Gh} {w:World} {pr:Nat→Option Pl} {bx:Nat→Nat} {fr:List AV} {τ:Nat→AV} {st:St} {a:Act} {out:Out} {Q Q':Exit→Act→World→Prop}
 (I:Fx c) (hm:c.P.follows .mixedOrders=true) (L:L6 c.P c.gt call) (h:S c g w pr bx ⟨fr,τ,st⟩ a) (M:exec call n (.either kill E F) fr st=some out) (Y:After c g w a out Q') {K:Act→World→Prop}
 (X:∀ G w',(Code.cond x A B).wp c.P Q' G w'→K G w'):(Code.region id ops d).wp c.P (Exit.then K Q) a w:=by
 simp only[exec]at M;obtain⟨oa,ob,N,O,ka,kb⟩:=a1E M;refine c5d hm U h fun b a1 w1 u i z J=>?_
 show K a1 w1;refine X a1 w1 ?_;have after:∀ o,G1 kill o=out→After c g w1 a1 o Q':=fun o Z a2 w2 g2 pr2 j a0 y l C=>by subst Z;exact Y a2 w2 g2 pr2 j _ (y.trans u) (l.reset kill) (z.trans C)
 cases b with
 | true=>exact wp_cond (t:=true) J (V I hm L i N (after oa ka))
 | false=>exact wp_cond (t:=false) J (W I hm L i O (after ob kb))
theorem u9:∀ (x:Code) (y:ACode),B2 c x y=true→a6p c x y:=by
 intro x y h;unfold B2 at h;split at h
 · -- skip
   intro call n g w pr bx fr τ st a out Q G hm I F i E;simp only[exec,Option.some.injEq]at i;subst i;exact wp_skip (E a w g pr bx τ rfl F (Tr.refl _ _ _))
 · intro call n g w pr bx fr τ st a out Q G hm I F i E;simp only[beq_iff_eq]at h;subst h;simp only[exec,Option.some.injEq]at i;subst i;exact wp_exit (E a w g pr bx τ rfl F (Tr.refl _ _ _))
 · intro call n g w pr bx fr τ st a out Q G hm I F i E;simp only[exec,Option.some.injEq]at i;subst i;exact wp_ret (E a w g pr bx τ rfl F (Tr.refl _ _ _))
 · -- a region
   intro call n g w pr bx fr τ st a out Q G hm I F i E;rename_i id ops d kill ps;simp only[exec]at i;cases hr:l7 call ps ⟨m0 kill fr,fun _=>.undef,st⟩with
   | none=>simp[hr]at i
   | some σ =>simp only[hr,fL_eq,Option.some.injEq]at i;subst i;exact b8l G hm I h F hr fun a1 w1 g1 B z l j u=>E a1 w1 g1 B z σ.τ l j u
 · -- a region and a test
   intro call n g w pr bx fr τ st a out Q G hm I F i E;simp only[Bool.and_eq_true]at h;obtain⟨⟨⟨N,V⟩,O⟩,U⟩:=h;exact wp_seq (a5l N V (u9 _ _ O) (u9 _ _ U) G hm I F i E fun _ _ x=>x)
 · -- a region, a test, and more
   intro call n g w pr bx fr τ st a out Q G hm I F i E;simp only[Bool.and_eq_true]at h;obtain⟨⟨⟨⟨N,V⟩,O⟩,U⟩,h5⟩:=h;rename_i rest kill ps y A' B' Z;rcases M6 i with⟨J,L,M,e2⟩|⟨M,hn⟩
   · refine wp_seq (a5l (Q':=Exit.then (rest.wp c.P Q) Q) N V (u9 _ _ O) (u9 _ _ U) G hm I F M (fun a1 w1 g1 B z C l j u=>?_) fun _ _ x=>wp_seq x);exact u9 _ _ h5 G hm I j e2 (E.trans l u)
   · refine wp_seq (a5l (Q':=Exit.then (rest.wp c.P Q) Q) N V (u9 _ _ O) (u9 _ _ U) G hm I F M (fun a1 w1 g1 B z C l j u=>?_) fun _ _ x=>wp_seq x);have:=E a1 w1 g1 B z C l j u;revert this hn;cases out.1<;>simp[Ex.toExit,Exit.then]
 · -- a coin
   intro call n g w pr bx fr τ st a out Q G hm I F i E;simp only[Bool.and_eq_true]at h;obtain⟨⟨N,O⟩,U⟩:=h;exact wp_seq (a7m N (u9 _ _ O) (u9 _ _ U) G hm I F i E fun _ _ x=>x)
 · -- a coin, and more
   intro call n g w pr bx fr τ st a out Q G hm I F i E;simp only[Bool.and_eq_true]at h;obtain⟨⟨⟨N,O⟩,U⟩,h5⟩:=h;rename_i rest kill A' B' Z;rcases M6 i with⟨J,L,M,e2⟩|⟨M,hn⟩
   · refine wp_seq (a7m (Q':=Exit.then (rest.wp c.P Q) Q) N (u9 _ _ O) (u9 _ _ U) G hm I F M (fun a1 w1 g1 B z C l j u=>?_) fun _ _ x=>wp_seq x);exact u9 _ _ h5 G hm I j e2 (E.trans l u)
   · refine wp_seq (a7m (Q':=Exit.then (rest.wp c.P Q) Q) N (u9 _ _ O) (u9 _ _ U) G hm I F M (fun a1 w1 g1 B z C l j u=>?_) fun _ _ x=>wp_seq x);have:=E a1 w1 g1 B z C l j u;revert this hn;cases out.1<;>simp[Ex.toExit,Exit.then]
 · -- one after the other
   intro call n g w pr bx fr τ st a out Q G hm I F i E;simp only[Bool.and_eq_true]at h;obtain⟨N,V⟩:=h;refine wp_seq ?_;rcases M6 i with⟨J,L,M,e2⟩|⟨M,hn⟩
   · exact u9 _ _ N G hm I F M fun a1 w1 g1 B z C l j u=>u9 _ _ V G hm I j e2 (E.trans l u)
   · refine u9 _ _ N G hm I F M fun a1 w1 g1 B z C l j u=>?_
     have:=E a1 w1 g1 B z C l j u;revert this hn;cases out.1<;>simp[Ex.toExit,Exit.then]
 · -- a bare test
   intro call n g w pr bx fr τ st a out Q G hm I F i E;simp only[Bool.and_eq_true,List.isEmpty_iff]at h;obtain⟨⟨⟨⟨rfl,rfl⟩,V⟩,O⟩,U⟩:=h;simp only[exec,l7,m0,fL_eq]at i;have W:=F.reset [];split at i
   · rename_i hb;exact wp_cond (t:=true) (a3K W V hb) (u9 _ _ O G hm I W i E)
   · rename_i hb;exact wp_cond (t:=false) (a3K W V hb) (u9 _ _ U G hm I W i E)
   · cases i
 · -- a block
   intro call n g w pr bx fr τ st a out Q G hm I F i E;simp only[Bool.and_eq_true,beq_iff_eq]at h;obtain⟨rfl,N⟩:=h;simp only[exec]at i;refine wp_block ?_;split at i
   · rename_i Y J L M;simp only[Option.some.injEq]at i;subst i;refine u9 _ _ N G hm I F M fun a1 w1 g1 B z C l j u=>?_
     have:=E a1 w1 g1 B z C l j u;simp only[Ex.toExit,Exit.inBlock];split
     · rename_i e; simpa[e,Ex.toExit]using this
     · rename_i e; simpa[e,Ex.toExit]using this
   · rename_i X;refine u9 _ _ N G hm I F i fun a1 w1 g1 B z C l j u=>?_
     have:=E a1 w1 g1 B z C l j u;obtain⟨e,J,L⟩:=out;cases e with
     | normal=>exact this
     | exit Y=>exact absurd i (X Y J L)
     | ret=>exact this
 · -- a loop
   intro call n g w pr bx fr τ st a out Q G hm I F i E;rename_i A A';simp only[exec]at i;refine wp_loop_rounds n ?_;have body:a6p c A A':=u9 A A' h;have key:∀ (m:Nat) (g:Gh) (w:World) (pr:Nat→Option Pl) (bx:Nat→Nat) (fr:List AV) (τ:Nat→AV) (st:St) (a:Act),S c g w pr bx ⟨fr,τ,st⟩ a→J2 (exec call n A') m fr st=some out→After c g w a out Q→Code.rounds c.P A Q m a w:=by
    intro m;induction m with
    | zero=>intro g w pr bx fr τ st a _ i; simp[J2]at i
    | succ m ih =>
     intro g w pr bx fr τ st a F i E;rw[rounds_succ];simp only[J2]at i;split at i
     · rename_i J L M;exact body G hm I F M fun a1 w1 g1 B z C l j u=>ih g1 w1 B z J C L a1 j i (E.trans l u)
     · rename_i X;refine body G hm I F i fun a1 w1 g1 B z C l j u=>?_
       have:=E a1 w1 g1 B z C l j u;obtain⟨e,J,L⟩:=out;cases e with
       | normal=>exact absurd i (X J L)
       | exit Y=>exact this
       | ret=>exact this
   exact key n g w pr bx fr τ st a F i E
 · -- a scope
   intro call n g w pr bx fr τ st a out Q G hm I F i E;refine wp_scope_straight (u9 _ _ h G hm I F i fun a1 w1 g1 B z C l j u=>?_);have:=E a1 w1 g1 B z C l j u;revert this;cases out.1<;>simp[Ex.toExit,Exit.noGoto]
 · cases h
termination_by x=>x
end
end Go.Cb
