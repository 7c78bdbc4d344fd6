import Derived.Test.YtcmfklfjebaeoaaGreatDoorXAms2
import Derived.Scope
import Derived.LoopN
import Derived.Defers
/-
 THE ABSTRACT MACHINE, part 26: code.
-/
set_option maxRecDepth 4000
set_option linter.unusedSimpArgs false
set_option linter.unusedVariables false
namespace Go.Cb
open Classical

def a1F (c:Cx) (x:Operand) (y:Opd):Bool:=E0 c x y

def a2O (c:Cx) (ops:Array Oper) (d:Bool) (x:Operand):Bool:=match ops.toList,x with
 | [o0,o1,o2,o3],.tmp s1=>match o0.op,o0.dst,o1.op,o2.op,o3.op,o3.dst with
  | .alloc t,some s0,.store t1 (.tmp u1) (.const (.bool _)),.store t2 (.tmp u2) (.const (.bool _)),.load t3 (.tmp u3),some s3 =>
   d && t1 == t && t2 == t && t3 == t && u1 == s0 && u2 == s0 && u3 == s0 && s3 == s1 && o1.dst.isNone && o2.dst.isNone && o0.guard.isNone && o1.guard.isNone && o2.guard.isNone && o3.guard.isNone &&
    !c.slots.contains s0 && !c.slots.contains s1 && s0 != s1 && decide (s0 < c.nt) && decide (s1 < c.nt) && p7 c t == some false && n9 c t == some 1 &&
    (match (c.P.info? t).bind (·.zero) with|some (.bool _)=>true|_=>false) && n7 ops 0 == [] && n7 ops 1 == [0] && n7 ops 2 == [0] && n7 ops 3 == [0,0,1,2]
  | _,_,_,_,_,_=>false
 | _,_=>false

def n4 (c:Cx):Code→ACode→Bool
 | .skip,.skip=>true
 | .exit id,.exit id'=>id == id'
 | .ret,.ret=>true
 | .region _ ops d,.reg kill ps=>a2i c ops d kill ps
 | .seq (.region _ ops d) (.cond x a b),.test kill ps y a' b'=>a2i c ops d kill ps && a1F c x y && n4 c a a' && n4 c b b'
 | .seq (.region _ ops d) (.seq (.cond x a b) rest),.seq (.test kill ps y a' b') rest'=>a2i c ops d kill ps && a1F c x y && n4 c a a' && n4 c b b' && n4 c rest rest'
 | .seq (.region _ ops d) (.cond x a b),.either _ a' b'=>a2O c ops d x && n4 c a a' && n4 c b b'
 | .seq (.region _ ops d) (.seq (.cond x a b) rest),.seq (.either _ a' b') rest'=>a2O c ops d x && n4 c a a' && n4 c b b' && n4 c rest rest'
 | .seq a b,.seq a' b'=>n4 c a a' && n4 c b b'
 | .cond x a b,.test kill ps y a' b'=>kill.isEmpty && ps.isEmpty && a1F c x y && n4 c a a' && n4 c b b'
 | .block id a,.blk id' a'=>id == id' && n4 c a a'
 | .loop a,.loop a'=>n4 c a a'
 | .scope a,a'=>n4 c a a'
 | _,_=>false

def Ex.toExit:Ex→Exit
 | .normal=>.normal
 | .exit id=>.exit id
 | .ret=>.ret

def After (c:Cx) (g:Gh) (w:World) (a:Act) (out:Out) (Q:Exit→Act→World→Prop):Prop :=
 ∀ a' w' g' pr' bx' τ',a'.defers=a.defers→S c g' w' pr' bx' ⟨out.2.1,τ',out.2.2⟩ a'→Tr c.A g w g' w'→Q out.1.toExit a' w'

def a3x (c:Cx) (x:Code) (y:ACode):Prop :=
 ∀ {call:b6} {n:Nat} {g:Gh} {w:World} {pr:Nat→Option Pl} {bx:Nat→Nat} {fr:List AV} {τ:Nat→AV} {st:St} {a:Act} {out:Out} {Q:Exit→Act→World→Prop},
  Fx c→c.P.follows .mixedOrders=true→F3 c.P c.gt call→S c g w pr bx ⟨fr,τ,st⟩ a→b9 call n y fr st=some out→After c g w a out Q→x.wp c.P Q a w

section
variable {c:Cx}

theorem After.trans {g g':Gh} {w w':World} {a a':Act} {out:Out} {Q:Exit→Act→World→Prop} (h:After c g w a out Q) (hd:a'.defers=a.defers) (ht:Tr c.A g w g' w'):After c g' w' a' out Q :=
 fun a2 w2 g2 pr2 bx2 τ2 d2 s2 t2=>h a2 w2 g2 pr2 bx2 τ2 (d2.trans hd) s2 (ht.trans t2)

theorem a0T:∀ (kill:List Nat) (fr:List AV) (i:Nat),(e7 kill fr).getD i .undef=fr.getD i .undef∨(e7 kill fr).getD i .undef=.undef
 | [],fr,i=>.inl rfl
 | k::kill,fr,i=>by
  simp only [e7]
  rcases a0T kill (fr.set k .undef) i with h|h
  · rw [h,K2]
    split
    · exact .inr rfl
    · exact .inl rfl
  · exact .inr h
theorem a3W:∀ (kill:List Nat) (fr:List AV),(e7 kill fr).length=fr.length
 | [],_=>rfl
 | k::kill,fr=>by rw [e7,a3W kill,List.length_set]

theorem VarOK.undef {g:Gh} {w:World} {pr:Nat→Option Pl} {bx:Nat→Nat} {i:Nat} {v:Value}:VarOK g w pr bx i .undef v:=ValOK.undef

theorem S.reset {g:Gh} {w:World} {pr:Nat→Option Pl} {bx:Nat→Nat} {fr:List AV} {τ:Nat→AV} {st:St} {a:Act} (h:S c g w pr bx ⟨fr,τ,st⟩ a) (kill:List Nat) :
 S c g w pr bx ⟨e7 kill fr,fun _=>.undef,st⟩ a:=by
 refine ⟨⟨h.fr.size,by rw [a3W]; exact h.fr.len,fun i s hs=>?_,fun s hs=>ValOK.undef,h.fr.prv,fun i cs hi=>?_⟩,h.st,h.gl,h.fresh,h.stA⟩
 · rcases a0T kill fr i with e|e
   · rw [e]; exact h.fr.var i s hs
   · rw [e]; exact VarOK.undef
 · rcases a0T kill fr i with e|e
   · rw [e] at hi; exact h.fr.bxs i cs hi
   · rw [e] at hi; cases hi

theorem S.drawn {g:Gh} {w:World} {pr:Nat→Option Pl} {bx:Nat→Nat} {σ:Sig} {a:Act} (h:S c g w pr bx σ a) (n:Nat):S c g { w with drawn:=n } pr bx σ a∧Tr c.A g w g { w with drawn:=n }:=by
 have he:Ext g w g { w with drawn:=n }:=⟨Nat.le_refl _,fun _ _=>rfl,fun _ _=>rfl,fun _ _ x=>x,fun _ _ _=>rfl⟩
 have ht:Tr No g w g { w with drawn:=n }:=⟨he,Nat.le_refl _,Env.drawn rfl rfl rfl,fun b _ hs _=>⟨⟨rfl,fun _ x=>x⟩,hs⟩⟩
 exact ⟨⟨h.fr.evolve ht,h.st.evolve he rfl (Nat.le_refl _) (fun b p hb=>⟨hb,rfl,fun _ x=>x⟩) (fun _ _ x=>x) (fun _ _ x=>.inl x),h.gl.ext he,h.fresh,h.stA⟩,ht.wider fun _ x=>x.elim⟩

theorem a0H (ps:List AOper):∀ (n k:Nat),k+n=ps.length→(List.range' k n).filterMap (ps[·]?)=ps.drop k
 | 0,k,h=>by rw [List.drop_of_length_le (by omega)]; rfl
 | n+1,k,h=>by
  rw [List.range'_succ,List.filterMap_cons_some (List.getElem?_eq_getElem (show k < ps.length by omega)),a0H ps n (k+1) (by omega),← List.drop_eq_getElem_cons]
theorem a4V (ps:List AOper):(List.range ps.length).filterMap (ps[·]?)=ps:=by
 rw [List.range_eq_range',a0H ps ps.length 0 (by omega)]
 rfl

theorem b23 (fx:Fx c) (hm:c.P.follows .mixedOrders=true) {call:b6} (hc:F3 c.P c.gt call) {g:Gh} {w:World} {pr:Nat→Option Pl} {bx:Nat→Nat} {fr:List AV} {τ:Nat→AV} {st:St} {a:Act}
 {id:Nat} {ops:Array Oper} {d:Bool} {kill:List Nat} {ps:List AOper} (hok:a2i c ops d kill ps=true) (h:S c g w pr bx ⟨fr,τ,st⟩ a) {σ':Sig} (hr:g9 call ps ⟨e7 kill fr,fun _=>.undef,st⟩=some σ')
 {Q:Exit→Act→World→Prop} (hnext:Post c g w a σ' (Q .normal)):(Code.region id ops d).wp c.P Q a w:=by
 unfold a2i at hok
 have h0:=h.reset kill
 split at hok
 · -- in an order of its own
   rename_i hd
   simp only [Bool.and_eq_true] at hd
   have hd:=hd.1
   subst hd
   simp only [c1b,Bool.and_eq_true] at hok
   obtain ⟨⟨⟨q1,q2⟩,q3⟩,q4⟩:=hok
   have q1:(a3w kill).length=ops.size:=by simpa using q1
   have q2:ps.length=ops.size:=by simpa using q2
   generalize a3w kill=π at *
   refine wp_region_any hm ?_
   obtain ⟨hd1,hd2⟩:=h0.drawn (w.drawn+1)
   have hfst:(π.zip ps).map (·.1)=π:=List.map_fst_zip (by omega)
   have hsnd:(π.zip ps).map (·.2)=ps:=List.map_snd_zip (by omega)
   have hnd:=a2L q4
   have hlt:∀ x∈(π.zip ps).map (·.1),x < ops.size:=fun x hx=>by
    obtain ⟨y,hy,rfl⟩:=List.mem_map.1 hx
    have:=List.all_eq_true.1 q3 y hy
    split at this
    · rename_i o ho
      exact (Array.getElem?_eq_some_iff.1 ho).1
    · cases this
   have hall:∀ i,i < ops.size→∃ p,(i,p)∈π.zip ps:=fun i hi=>by
    have:=a8f hnd hlt (by rw [hfst]; exact q1) i hi
    obtain ⟨y,hy,rfl⟩:=List.mem_map.1 this
    exact ⟨y.2,hy⟩
   have hrem:N8 (π.zip ps) (Array.replicate ops.size false)=π.zip ps:=by
    unfold N8
    apply List.filter_eq_self.2
    intro x hx
    have:=hlt x.1 (List.mem_map.2 ⟨x,hx,rfl⟩)
    simp [this]
   refine b64 fx hc q3 q4 hall ops.size (Array.replicate ops.size false) g _ pr bx _ a (by simp) (by rw [hrem,List.length_zip]; omega) (fun j hj=>?_) hd1 (by rw [hrem,hsnd]; exact hr) (hnext.trans rfl hd2)
   exfalso
   rcases Nat.lt_or_ge j ops.size with hl|hl
   · simp [hl] at hj
   · simp [Array.getD_eq_getD_getElem?,Nat.not_lt.2 hl] at hj
 simp only [Bool.and_eq_true,Bool.or_eq_true,Bool.not_eq_true'] at hok
 obtain ⟨h1,h2⟩:=hok
 obtain ⟨hl,_⟩:=U4 h1
 cases d with
 | false =>
  refine wp_region ?_
  have:=a6U (Q:=Q) fx hc h1 ops.size 0 g w pr bx _ a (by simpa using hl) h0 (by simpa using hr) hnext
  rwa [← List.range_eq_range'] at this
 | true =>
  have h2:=h2.resolve_left (by simp)
  refine wp_region_any hm ?_
  obtain ⟨hd1,hd2⟩:=h0.drawn (w.drawn+1)
  have hsz:ops.size=ps.length:=by simpa using hl
  have hrem:L9 ps.length (Array.replicate ops.size false)=List.range ps.length:=by
   unfold L9
   apply List.filter_eq_self.2
   intro i hi
   have:i < ps.length:=by simpa using hi
   simp [hsz,this]
  refine b94 fx hc h1 h2 ops.size (Array.replicate ops.size false) g _ pr bx _ a (by simpa using hsz) (by rw [hrem]; simpa using hsz.symm) (fun j hj=>?_) hd1 (by rw [hrem,a4V]; exact hr) (hnext.trans rfl hd2)
  exfalso
  have hlt:j < ps.length:=by
   rcases Nat.lt_or_ge j ps.length with h|h
   · exact h
   · simp [Array.getD_eq_getD_getElem?,hsz,Nat.not_lt.2 h] at hj
  simp [hsz,hlt] at hj

theorem a1N {g:Gh} {w:World} {pr:Nat→Option Pl} {bx:Nat→Nat} {σ:Sig} {a:Act} (h:S c g w pr bx σ a) {x:Operand} {y:Opd} (hok:a1F c x y=true) {b:Bool} (hb:y.read σ=.bool b):a.eval x=.bool b:=by
 have hA:=H4 h hok
 rw [hb] at hA
 have hr:=ValOK.rel hA
 simpa only [Rel] using hr

theorem a2T {id:Nat} {ops:Array Oper} {d:Bool} {kill:List Nat} {ps:List AOper} {x:Operand} {y:Opd} {A B:Code} {A' B':ACode} (h1:a2i c ops d kill ps=true) (h2:a1F c x y=true) (hA:a3x c A A') (hB:a3x c B B')
 {call:b6} {n:Nat} {g:Gh} {w:World} {pr:Nat→Option Pl} {bx:Nat→Nat} {fr:List AV} {τ:Nat→AV} {st:St} {a:Act} {out:Out} {Q Q':Exit→Act→World→Prop}
 (fx:Fx c) (hm:c.P.follows .mixedOrders=true) (hc:F3 c.P c.gt call) (h:S c g w pr bx ⟨fr,τ,st⟩ a) (he:b9 call n (.test kill ps y A' B') fr st=some out) (hQ:After c g w a out Q') {K:Act→World→Prop}
 (hK:∀ a' w',(Code.cond x A B).wp c.P Q' a' w'→K a' w'):(Code.region id ops d).wp c.P (Exit.then K Q) a w:=by
 simp only [b9] at he
 cases hr:g9 call ps ⟨e7 kill fr,fun _=>.undef,st⟩ with
 | none=>simp [hr] at he
 | some σ =>
  simp only [hr,fL_eq] at he
  refine b23 fx hm hc h1 h hr fun a1 w1 g1 pr1 bx1 hd1 hS1 ht1=>?_
  show K a1 w1
  refine hK a1 w1 ?_
  split at he
  · rename_i hb
    exact wp_cond (t:=true) (a1N hS1 h2 hb) (hA fx hm hc (τ:=σ.τ) hS1 he (hQ.trans hd1 ht1))
  · rename_i hb
    exact wp_cond (t:=false) (a1N hS1 h2 hb) (hB fx hm hc (τ:=σ.τ) hS1 he (hQ.trans hd1 ht1))
  · cases he

theorem P2 {P:Program} {ops:Array Oper} {Q:Exit→Act→World→Prop} {i:Nat} {o:Oper} {K:Act→World→Prop} {a:Act} {w:World} (hi:ops[i]?=some o) (hg:o.guard=none) (h:o.wp P a w K Q):wpOp P ops Q i K a w:=by
 unfold wpOp
 simp only [hi]
 rw [if_pos (by simp [Region.wanted,hg])]
 exact .inl h
theorem S.alloc {g:Gh} {w:World} {pr:Nat→Option Pl} {bx:Nat→Nat} {σ:Sig} {a:Act} (h:S c g w pr bx σ a) (cs:Array Value) (T:TypeId):S c g (w.alloc (.cells cs T)) pr bx σ a :=
 ⟨h.fr.evolve (Tr.alloc No h.st.cli (.cells cs T)),h.st.alloc (.cells cs T),h.gl.ext (Ext.alloc h.st.cli (.cells cs T)),fun b hb=>h.fresh b (by simp at hb; omega),h.stA⟩
theorem S.put_undef {g:Gh} {w:World} {pr:Nat→Option Pl} {bx:Nat→Nat} {fr:List AV} {st:St} {a:Act} (h:S c g w pr bx ⟨fr,fun _=>.undef,st⟩ a) {s:Nat} (hs:s ∉ c.slots) (hl:s < c.nt) (v:Value) :
 S c g w pr bx ⟨fr,fun _=>.undef,st⟩ (a.put (some s) v):=by
 have h1:=h.fr.put_t hs hl (a:=.undef) (v:=v) ValOK.undef
 have e:p8 (fun _=>AV.undef) s .undef=fun _=>AV.undef:=by
  funext j
  unfold p8
  split <;> rfl
 rw [e] at h1
 exact ⟨h1,h.st,h.gl,h.fresh,h.stA⟩

structure Toss (c:Cx) (g:Gh) (w0:World) (pr:Nat→Option Pl) (bx:Nat→Nat) (fr:List AV) (st:St) (a0:Act) (s0 blk:Nat) (a:Act) (w:World):Prop where
 s:S c g w pr bx ⟨fr,fun _=>.undef,st⟩ a
 tr:Tr c.A g w0 g w
 df:a.defers=a0.defers
 ptr:a.eval (.tmp s0)=.pointer (some (ad blk 0))
 cell:∃ T b,w.heap[blk]?=some (.cells #[.bool b] T (0,0))
 free:(∀ f,¬ g.cl blk f)∧g.sr blk=none∧(∀ p,pr blk≠some p)∧c.A blk

section
variable {g:Gh} {w0 w:World} {pr:Nat→Option Pl} {bx:Nat→Nat} {fr:List AV} {st:St} {a0 a:Act} {s0 blk:Nat} {o:Oper} {K:Act→World→Prop} {Q:Exit→Act→World→Prop}

theorem Toss.store (h:Toss c g w0 pr bx fr st a0 s0 blk a w) {t:TypeId} {b:Bool} (ho:o.op=.store t (.tmp s0) (.const (.bool b))) (hd:o.dst=none) (hn:n9 c t=some 1) (hK:∀ w',Toss c g w0 pr bx fr st a0 s0 blk a w'→K a w'):o.wp c.P a w K Q:=by
 obtain ⟨T,b0,hh⟩:=h.cell
 have hrun:=a0c (c:=c) (w:=w) (a:=a) (o:=o) (v:=.bool b) ho h.ptr rfl (by simpa [Value.cells] using hn) hh (by simp [Value.cells]) (by simp [Value.cells,Value.oneCell'])
 unfold Oper.wp
 rw [hrun]
 simp only [Oper.upon,hd,Act.put]
 have e:(#[Value.bool b0].toList.take 0++(Value.bool b).cells.toList++#[Value.bool b0].toList.drop (0+(Value.bool b).cells.size)).toArray=#[.bool b]:=by simp [Value.cells]
 rw [e]
 have he:Ext g w g (w.setRow blk #[.bool b]):=Ext.setRow _ h.free.1
 have hsame:∀ b',b'≠blk→E2 g w g (w.setRow blk #[.bool b]) b':=fun b' hb=>⟨setRow_other w _ b' _ hb,fun _ x=>x⟩
 have ht:Tr c.A g w g (w.setRow blk #[.bool b]):=⟨he,by simp,Env.setRow _ _ _,fun b' _ hs hA=>⟨hsame b' (fun e=>hA (e ▸ h.free.2.2.2)),hs⟩⟩
 refine hK _ ⟨⟨?_,h.s.st.evolve he rfl (by simp) (fun b' p hb=>⟨hb,hsame b' (fun e=>by rw [e,h.free.2.1] at hb; cases hb)⟩) (fun _ _ x=>x) (fun _ _ x=>.inl x),h.s.gl.ext he,fun b' hb=>h.s.fresh b' (by simpa using hb),h.s.stA⟩,h.tr.trans ht,h.df,h.ptr,⟨T,b,setRow_heap w _ _ _ T _ hh⟩,h.free⟩
 refine h.s.fr.change (fun _=>True) he (fun b' p hb _=>⟨hb,hsame b' (fun e=>h.free.2.2.1 p (e ▸ hb))⟩) (fun b' p hb=>?_) (fun j s _=>.inl ⟨⟨trivial,trivial,fun _=>trivial⟩,rfl⟩) (fun s _=>.inl ⟨trivial,rfl⟩) rfl (fun j cs hj=>⟨cs,hj⟩) h.s.fr.bxs
 obtain ⟨q1,q2,q3⟩:=h.s.fr.prv b' p hb
 exact ⟨q1,by simpa using q2,q3⟩

theorem Toss.load (h:Toss c g w0 pr bx fr st a0 s0 blk a w) {t:TypeId} {s1:Nat} (ho:o.op=.load t (.tmp s0)) (hd:o.dst=some s1) (hag:p7 c t=some false) (h1:s1 ∉ c.slots) (hl:s1 < c.nt)
 (hK:∀ a' b,a'.defers=a0.defers→S c g w pr bx ⟨fr,fun _=>.undef,st⟩ a'→Tr c.A g w0 g w→a'.eval (.tmp s1)=.bool b→K a' w):o.wp c.P a w K Q:=by
 obtain ⟨T,b0,hh⟩:=h.cell
 have hrun:=a0i (c:=c) (w:=w) (a:=a) (o:=o) (v:=.bool b0) ho hag h.ptr (by rw [cell_of_row w _ 0 _ T _ hh]; rfl)
 unfold Oper.wp
 rw [hrun,Oper.upon_value,hd]
 refine hK _ b0 h.df (h.s.put_undef h1 hl _) h.tr ?_
 have:s1 < a.tmps.size:=by rw [h.s.fr.size]; exact hl
 simp only [Act.eval,Act.put]
 exact D6 this
end

theorem Q6 {ops:Array Oper} (hsz:ops.size=4) (h0:n7 ops 0=[]) (h1:n7 ops 1=[0]) (h2:n7 ops 2=[0]) (h3:n7 ops 3=[0,0,1,2]) {b0 b1 b2 b3:Bool} {i:Nat} (hi:i∈Region.ready .any ops #[b0,b1,b2,b3]) :
 (i=0∧b0=false)∨(i=1∧b1=false∧b0=true)∨(i=2∧b2=false∧b0=true)∨(i=3∧b3=false∧b0=true∧b1=true∧b2=true):=by
 obtain ⟨q1,q2,q3⟩:=ready_iff.1 hi
 rw [hsz] at q1
 match i,q1 with
 | 0,_=>exact .inl ⟨rfl,by simpa using q2⟩
 | 1,_=>rw [h1] at q3; exact .inr (.inl ⟨rfl,by simpa using q2,by simpa using q3⟩)
 | 2,_=>rw [h2] at q3; exact .inr (.inr (.inl ⟨rfl,by simpa using q2,by simpa using q3⟩))
 | 3,_ =>
  rw [h3] at q3
  simp only [List.mem_cons,List.not_mem_nil,or_false,forall_eq_or_imp,forall_eq] at q3
  exact .inr (.inr (.inr ⟨rfl,by simpa using q2,by simpa using q3.1,by simpa using q3.2.2.1,by simpa using q3.2.2.2⟩))
theorem Z9 {ops:Array Oper} (hsz:ops.size=4) (h0:n7 ops 0=[]) (h1:n7 ops 1=[0]) (h2:n7 ops 2=[0]) (h3:n7 ops 3=[0,0,1,2]) {b0 b1 b2 b3:Bool} (hb:b0=false∨b1=false∨b2=false∨b3=false):Region.ready .any ops #[b0,b1,b2,b3]≠[]:=by
 intro he
 have no:∀ i,i ∉ Region.ready .any ops #[b0,b1,b2,b3]:=fun i=>by rw [he]; simp
 have n0:=fun h=>no 0 (ready_iff.2 h)
 have n1:=fun h=>no 1 (ready_iff.2 h)
 have n2:=fun h=>no 2 (ready_iff.2 h)
 have n3:=fun h=>no 3 (ready_iff.2 h)
 rw [h0] at n0
 rw [h1] at n1
 rw [h2] at n2
 rw [h3] at n3
 simp [hsz] at n0 n1 n2 n3
 cases b0 <;> cases b1 <;> cases b2 <;> cases b3 <;> simp_all

theorem b8c (hm:c.P.follows .mixedOrders=true) {g:Gh} {w:World} {pr:Nat→Option Pl} {bx:Nat→Nat} {fr:List AV} {τ:Nat→AV} {st:St} {a:Act} {id:Nat} {ops:Array Oper} {d:Bool} {x:Operand} (hok:a2O c ops d x=true)
 (h:S c g w pr bx ⟨fr,τ,st⟩ a) {Q:Exit→Act→World→Prop} (hnext:∀ b a' w',a'.defers=a.defers→S c g w' pr bx ⟨fr,fun _=>.undef,st⟩ a'→Tr c.A g w g w'→a'.eval x=.bool b→Q .normal a' w'):(Code.region id ops d).wp c.P Q a w:=by
 unfold a2O at hok
 split at hok
 case h_2=>cases hok
 rename_i o0 o1 o2 o3 s1 hops
 split at hok
 case h_2=>cases hok
 rename_i t s0 t1 u1 k1 t2 u2 k2 t3 u3 s3 e0 d0 e1 e2 e3 d3
 simp only [Bool.and_eq_true,beq_iff_eq,bne_iff_ne,ne_eq,Option.isNone_iff_eq_none,decide_eq_true_eq,Bool.not_eq_true'] at hok
 obtain ⟨⟨⟨⟨⟨⟨⟨⟨⟨⟨⟨⟨⟨⟨⟨⟨⟨⟨⟨⟨⟨⟨⟨⟨⟨c1,c2⟩,c3⟩,c4⟩,c5⟩,c6⟩,c7⟩,c8⟩,c9⟩,c10⟩,c11⟩,c12⟩,c13⟩,c14⟩,c15⟩,c16⟩,c17⟩,c18⟩,c19⟩,c20⟩,c21⟩,c22⟩,c23⟩,c24⟩,c25⟩,c26⟩:=hok
 have c2:=c2.symm; have c3:=c3.symm; have c4:=c4.symm; have c5:=c5.symm; have c6:=c6.symm; have c7:=c7.symm
 subst c1; subst c2; subst c3; subst c4; subst c5; subst c6; subst c7; subst c8
 have c15:s0 ∉ c.slots:=by simpa using c15
 have c16:s3 ∉ c.slots:=by simpa using c16
 have hsz:ops.size=4:=by rw [← Array.length_toList,hops]; rfl
 have at_:∀ (i:Nat) o,[o0,o1,o2,o3][i]?=some o→ops[i]?=some o:=fun i o hi=>by rw [← Array.getElem?_toList,hops]; exact hi
 split at c22
 case h_2=>cases c22
 rename_i z hz
 refine wp_region_any hm ?_
 rw [hsz]
 obtain ⟨hS0,ht0⟩:=(h.reset []).drawn (w.drawn+1)
 have hS0:S c g { w with drawn:=w.drawn+1 } pr bx ⟨fr,fun _=>.undef,st⟩ a:=hS0
 show wpAny c.P .any ops Q 4 #[false,false,false,false] a { w with drawn:=w.drawn+1 }
 generalize ({ w with drawn:=w.drawn+1 }:World)=w1 at *
 -- the last one
 have last:∀ blk a2 w2,Toss c g w pr bx fr st a s0 blk a2 w2→wpAny c.P .any ops Q 1 #[true,true,true,false] a2 w2:=by
  intro blk a2 w2 hT
  refine ⟨fun he=>absurd he (Z9 hsz c23 c24 c25 c26 (by simp)),fun i hi=>?_⟩
  rcases Q6 hsz c23 c24 c25 c26 hi with ⟨_,hb⟩|⟨_,hb,_⟩|⟨_,hb,_⟩|⟨rfl,_⟩ <;> try (cases hb; done)
  refine P2 (at_ 3 o3 rfl) c14 (hT.load e3 d3 c20 c16 c19 fun a3 b hdf hS3 ht3 hb=>?_)
  show wpAny c.P .any ops Q 0 #[true,true,true,true] a3 w2
  refine ⟨?_,hnext b a3 w2 hdf hS3 ht3 hb⟩
  apply List.eq_nil_iff_forall_not_mem.2
  intro j hj
  rcases Q6 hsz c23 c24 c25 c26 hj with ⟨_,hb⟩|⟨_,hb,_⟩|⟨_,hb,_⟩|⟨_,hb,_⟩ <;> cases hb
 have one:∀ blk a2 w2,Toss c g w pr bx fr st a s0 blk a2 w2→wpAny c.P .any ops Q 3 #[true,false,false,false] a2 w2:=by
  intro blk a2 w2 hT
  refine ⟨fun he=>absurd he (Z9 hsz c23 c24 c25 c26 (by simp)),fun i hi=>?_⟩
  rcases Q6 hsz c23 c24 c25 c26 hi with ⟨_,hb⟩|⟨rfl,_⟩|⟨rfl,_⟩|⟨_,_,_,hb,_⟩ <;> try (cases hb; done)
  · refine P2 (at_ 1 o1 rfl) c12 (hT.store e1 c9 c21 fun w3 hT3=>?_)
    show wpAny c.P .any ops Q 2 #[true,true,false,false] a2 w3
    refine ⟨fun he=>absurd he (Z9 hsz c23 c24 c25 c26 (by simp)),fun i hi=>?_⟩
    rcases Q6 hsz c23 c24 c25 c26 hi with ⟨_,hb⟩|⟨_,hb,_⟩|⟨rfl,_⟩|⟨_,_,_,_,hb⟩ <;> try (cases hb; done)
    exact P2 (at_ 2 o2 rfl) c13 (hT3.store e2 c10 c21 fun w4 hT4=>last blk a2 w4 hT4)
  · refine P2 (at_ 2 o2 rfl) c13 (hT.store e2 c10 c21 fun w3 hT3=>?_)
    show wpAny c.P .any ops Q 2 #[true,false,true,false] a2 w3
    refine ⟨fun he=>absurd he (Z9 hsz c23 c24 c25 c26 (by simp)),fun i hi=>?_⟩
    rcases Q6 hsz c23 c24 c25 c26 hi with ⟨_,hb⟩|⟨rfl,_⟩|⟨_,hb,_⟩|⟨_,_,_,hb,_⟩ <;> try (cases hb; done)
    exact P2 (at_ 1 o1 rfl) c12 (hT3.store e1 c9 c21 fun w4 hT4=>last blk a2 w4 hT4)
 refine ⟨fun he=>absurd he (Z9 hsz c23 c24 c25 c26 (by simp)),fun i hi=>?_⟩
 rcases Q6 hsz c23 c24 c25 c26 hi with ⟨rfl,_⟩|⟨_,_,hb⟩|⟨_,_,hb⟩|⟨_,_,hb,_⟩ <;> try (cases hb; done)
 refine P2 (at_ 0 o0 rfl) c11 ?_
 unfold Oper.wp
 rw [a3h e0 hz,Oper.upon_value,d0]
 show wpAny c.P .any ops Q 3 #[true,false,false,false] _ _
 refine one w1.heap.size _ _ ⟨(hS0.alloc _ _).put_undef c15 c18 _,ht0.trans (Tr.alloc _ hS0.st.cli _),rfl,?_,⟨t,z,?_⟩,fun f hf=>Nat.lt_irrefl _ (hS0.st.cli _ f hf),?_,fun p hp=>?_,hS0.fresh _ (Nat.le_refl _)⟩
 · have:s0 < a.tmps.size:=by rw [hS0.fr.size]; exact c18
   simp only [Act.eval,Act.put]
   exact D6 this
 · exact heap_alloc_new w1 _
 · cases hq:g.sr w1.heap.size with
   | none=>rfl
   | some p=>exact absurd (hS0.st.inn _ p hq) (Nat.lt_irrefl _)
 · have:=(hS0.fr.prv _ p hp).2.1
   omega

theorem G1 {call:b6} {n:Nat} {A B:ACode} {fr:List AV} {st:St} {out:Out} (h:b9 call n (.seq A B) fr st=some out) :
 (∃ fr1 st1,b9 call n A fr st=some (.normal,fr1,st1)∧b9 call n B fr1 st1=some out)∨(b9 call n A fr st=some out∧out.1≠.normal):=by
 simp only [b9] at h
 split at h
 · rename_i fr1 st1 h1; exact .inl ⟨fr1,st1,h1,h⟩
 · rename_i h1
   obtain ⟨e,fr',st'⟩:=out
   refine .inr ⟨h,fun hn=>?_⟩
   simp only at hn
   subst hn
   exact h1 fr' st' h

theorem a4z {id:Nat} {ops:Array Oper} {d:Bool} {kill:List Nat} {x:Operand} {A B:Code} {A' B':ACode} (h1:a2O c ops d x=true) (hA:a3x c A A') (hB:a3x c B B')
 {call:b6} {n:Nat} {g:Gh} {w:World} {pr:Nat→Option Pl} {bx:Nat→Nat} {fr:List AV} {τ:Nat→AV} {st:St} {a:Act} {out:Out} {Q Q':Exit→Act→World→Prop}
 (fx:Fx c) (hm:c.P.follows .mixedOrders=true) (hc:F3 c.P c.gt call) (h:S c g w pr bx ⟨fr,τ,st⟩ a) (he:b9 call n (.either kill A' B') fr st=some out) (hQ:After c g w a out Q') {K:Act→World→Prop}
 (hK:∀ a' w',(Code.cond x A B).wp c.P Q' a' w'→K a' w'):(Code.region id ops d).wp c.P (Exit.then K Q) a w:=by
 simp only [b9] at he
 obtain ⟨oa,ob,ea,eb,ka,kb⟩:=a0n he
 refine b8c hm h1 h fun b a1 w1 hd1 hS1 ht1 hb=>?_
 show K a1 w1
 refine hK a1 w1 ?_
 have after:∀ o,G0 kill o=out→After c g w1 a1 o Q':=fun o ho a2 w2 g2 pr2 bx2 τ2 hd2 hS2 ht2=>by
  subst ho
  exact hQ a2 w2 g2 pr2 bx2 _ (hd2.trans hd1) (hS2.reset kill) (ht1.trans ht2)
 cases b with
 | true=>exact wp_cond (t:=true) hb (hA fx hm hc hS1 ea (after oa ka))
 | false=>exact wp_cond (t:=false) hb (hB fx hm hc hS1 eb (after ob kb))

theorem m4:∀ (x:Code) (y:ACode),n4 c x y=true→a3x c x y:=by
 intro x y h
 unfold n4 at h
 split at h
 · -- skip
   intro call n g w pr bx fr τ st a out Q fx hm hc hS he hQ
   simp only [b9,Option.some.injEq] at he
   subst he
   exact wp_skip (hQ a w g pr bx τ rfl hS (Tr.refl _ _ _))
 · intro call n g w pr bx fr τ st a out Q fx hm hc hS he hQ
   simp only [beq_iff_eq] at h
   subst h
   simp only [b9,Option.some.injEq] at he
   subst he
   exact wp_exit (hQ a w g pr bx τ rfl hS (Tr.refl _ _ _))
 · intro call n g w pr bx fr τ st a out Q fx hm hc hS he hQ
   simp only [b9,Option.some.injEq] at he
   subst he
   exact wp_ret (hQ a w g pr bx τ rfl hS (Tr.refl _ _ _))
 · -- a region
   intro call n g w pr bx fr τ st a out Q fx hm hc hS he hQ
   rename_i id ops d kill ps
   simp only [b9] at he
   cases hr:g9 call ps ⟨e7 kill fr,fun _=>.undef,st⟩ with
   | none=>simp [hr] at he
   | some σ =>
    simp only [hr,fL_eq,Option.some.injEq] at he
    subst he
    exact b23 fx hm hc h hS hr fun a1 w1 g1 pr1 bx1 hd1 hS1 ht1=>hQ a1 w1 g1 pr1 bx1 σ.τ hd1 hS1 ht1
 · -- a region and a test
   intro call n g w pr bx fr τ st a out Q fx hm hc hS he hQ
   simp only [Bool.and_eq_true] at h
   obtain ⟨⟨⟨h1,h2⟩,h3⟩,h4⟩:=h
   exact wp_seq (a2T h1 h2 (m4 _ _ h3) (m4 _ _ h4) fx hm hc hS he hQ fun _ _ x=>x)
 · -- a region, a test, and more
   intro call n g w pr bx fr τ st a out Q fx hm hc hS he hQ
   simp only [Bool.and_eq_true] at h
   obtain ⟨⟨⟨⟨h1,h2⟩,h3⟩,h4⟩,h5⟩:=h
   rename_i rest kill ps y A' B' rest'
   rcases G1 he with ⟨fr1,st1,e1,e2⟩|⟨e1,hn⟩
   · refine wp_seq (a2T (Q':=Exit.then (rest.wp c.P Q) Q) h1 h2 (m4 _ _ h3) (m4 _ _ h4) fx hm hc hS e1 (fun a1 w1 g1 pr1 bx1 τ1 hd1 hS1 ht1=>?_) fun _ _ x=>wp_seq x)
     exact m4 _ _ h5 fx hm hc hS1 e2 (hQ.trans hd1 ht1)
   · refine wp_seq (a2T (Q':=Exit.then (rest.wp c.P Q) Q) h1 h2 (m4 _ _ h3) (m4 _ _ h4) fx hm hc hS e1 (fun a1 w1 g1 pr1 bx1 τ1 hd1 hS1 ht1=>?_) fun _ _ x=>wp_seq x)
     have:=hQ a1 w1 g1 pr1 bx1 τ1 hd1 hS1 ht1
     revert this hn
     cases out.1 <;> simp [Ex.toExit,Exit.then]
 · -- a coin
   intro call n g w pr bx fr τ st a out Q fx hm hc hS he hQ
   simp only [Bool.and_eq_true] at h
   obtain ⟨⟨h1,h3⟩,h4⟩:=h
   exact wp_seq (a4z h1 (m4 _ _ h3) (m4 _ _ h4) fx hm hc hS he hQ fun _ _ x=>x)
 · -- a coin, and more
   intro call n g w pr bx fr τ st a out Q fx hm hc hS he hQ
   simp only [Bool.and_eq_true] at h
   obtain ⟨⟨⟨h1,h3⟩,h4⟩,h5⟩:=h
   rename_i rest kill A' B' rest'
   rcases G1 he with ⟨fr1,st1,e1,e2⟩|⟨e1,hn⟩
   · refine wp_seq (a4z (Q':=Exit.then (rest.wp c.P Q) Q) h1 (m4 _ _ h3) (m4 _ _ h4) fx hm hc hS e1 (fun a1 w1 g1 pr1 bx1 τ1 hd1 hS1 ht1=>?_) fun _ _ x=>wp_seq x)
     exact m4 _ _ h5 fx hm hc hS1 e2 (hQ.trans hd1 ht1)
   · refine wp_seq (a4z (Q':=Exit.then (rest.wp c.P Q) Q) h1 (m4 _ _ h3) (m4 _ _ h4) fx hm hc hS e1 (fun a1 w1 g1 pr1 bx1 τ1 hd1 hS1 ht1=>?_) fun _ _ x=>wp_seq x)
     have:=hQ a1 w1 g1 pr1 bx1 τ1 hd1 hS1 ht1
     revert this hn
     cases out.1 <;> simp [Ex.toExit,Exit.then]
 · -- one after the other
   intro call n g w pr bx fr τ st a out Q fx hm hc hS he hQ
   simp only [Bool.and_eq_true] at h
   obtain ⟨h1,h2⟩:=h
   refine wp_seq ?_
   rcases G1 he with ⟨fr1,st1,e1,e2⟩|⟨e1,hn⟩
   · exact m4 _ _ h1 fx hm hc hS e1 fun a1 w1 g1 pr1 bx1 τ1 hd1 hS1 ht1=>m4 _ _ h2 fx hm hc hS1 e2 (hQ.trans hd1 ht1)
   · refine m4 _ _ h1 fx hm hc hS e1 fun a1 w1 g1 pr1 bx1 τ1 hd1 hS1 ht1=>?_
     have:=hQ a1 w1 g1 pr1 bx1 τ1 hd1 hS1 ht1
     revert this hn
     cases out.1 <;> simp [Ex.toExit,Exit.then]
 · -- a bare test
   intro call n g w pr bx fr τ st a out Q fx hm hc hS he hQ
   simp only [Bool.and_eq_true,List.isEmpty_iff] at h
   obtain ⟨⟨⟨⟨rfl,rfl⟩,h2⟩,h3⟩,h4⟩:=h
   simp only [b9,g9,e7,fL_eq] at he
   have hS0:=hS.reset []
   split at he
   · rename_i hb
     exact wp_cond (t:=true) (a1N hS0 h2 hb) (m4 _ _ h3 fx hm hc hS0 he hQ)
   · rename_i hb
     exact wp_cond (t:=false) (a1N hS0 h2 hb) (m4 _ _ h4 fx hm hc hS0 he hQ)
   · cases he
 · -- a block
   intro call n g w pr bx fr τ st a out Q fx hm hc hS he hQ
   simp only [Bool.and_eq_true,beq_iff_eq] at h
   obtain ⟨rfl,h1⟩:=h
   simp only [b9] at he
   refine wp_block ?_
   split at he
   · rename_i id' fr1 st1 e1
     simp only [Option.some.injEq] at he
     subst he
     refine m4 _ _ h1 fx hm hc hS e1 fun a1 w1 g1 pr1 bx1 τ1 hd1 hS1 ht1=>?_
     have:=hQ a1 w1 g1 pr1 bx1 τ1 hd1 hS1 ht1
     simp only [Ex.toExit,Exit.inBlock]
     split
     · rename_i e; simpa [e,Ex.toExit] using this
     · rename_i e; simpa [e,Ex.toExit] using this
   · rename_i hne
     refine m4 _ _ h1 fx hm hc hS he fun a1 w1 g1 pr1 bx1 τ1 hd1 hS1 ht1=>?_
     have:=hQ a1 w1 g1 pr1 bx1 τ1 hd1 hS1 ht1
     obtain ⟨e,fr1,st1⟩:=out
     cases e with
     | normal=>exact this
     | exit id'=>exact absurd he (hne id' fr1 st1)
     | ret=>exact this
 · -- a loop
   intro call n g w pr bx fr τ st a out Q fx hm hc hS he hQ
   rename_i A A'
   simp only [b9] at he
   refine wp_loop_rounds n ?_
   have body:a3x c A A':=m4 A A' h
   have key:∀ (m:Nat) (g:Gh) (w:World) (pr:Nat→Option Pl) (bx:Nat→Nat) (fr:List AV) (τ:Nat→AV) (st:St) (a:Act),S c g w pr bx ⟨fr,τ,st⟩ a→F0 (b9 call n A') m fr st=some out→After c g w a out Q→Code.rounds c.P A Q m a w:=by
    intro m
    induction m with
    | zero=>intro g w pr bx fr τ st a _ he; simp [F0] at he
    | succ m ih =>
     intro g w pr bx fr τ st a hS he hQ
     rw [rounds_succ]
     simp only [F0] at he
     split at he
     · rename_i fr1 st1 e1
       exact body fx hm hc hS e1 fun a1 w1 g1 pr1 bx1 τ1 hd1 hS1 ht1=>ih g1 w1 pr1 bx1 fr1 τ1 st1 a1 hS1 he (hQ.trans hd1 ht1)
     · rename_i hne
       refine body fx hm hc hS he fun a1 w1 g1 pr1 bx1 τ1 hd1 hS1 ht1=>?_
       have:=hQ a1 w1 g1 pr1 bx1 τ1 hd1 hS1 ht1
       obtain ⟨e,fr1,st1⟩:=out
       cases e with
       | normal=>exact absurd he (hne fr1 st1)
       | exit id'=>exact this
       | ret=>exact this
   exact key n g w pr bx fr τ st a hS he hQ
 · -- a scope
   intro call n g w pr bx fr τ st a out Q fx hm hc hS he hQ
   refine wp_scope_straight (m4 _ _ h fx hm hc hS he fun a1 w1 g1 pr1 bx1 τ1 hd1 hS1 ht1=>?_)
   have:=hQ a1 w1 g1 pr1 bx1 τ1 hd1 hS1 ht1
   revert this
   cases out.1 <;> simp [Ex.toExit,Exit.noGoto]
 · cases h
termination_by x=>x
end
end Go.Cb
/-
 THE ABSTRACT MACHINE, part 27: functions, and calls at every depth.
-/
set_option maxRecDepth 4000
set_option linter.unusedSimpArgs false
set_option linter.unusedVariables false
namespace Go.Cb
open Classical

def a1D:List Nat→Bool
 | []=>true
 | x::xs=>!xs.any (Nat.beq x) && a1D xs

def S7 (c:Cx):List ResultVar→List ResK→Bool
 | [],[]=>true
 | .tmp t::rs,.v i::ks=>c.slots[i]? == some t && !c.bxs.contains i && S7 c rs ks
 | .tmp t::rs,.vs i::ks=>c.slots[i]? == some t && !c.bxs.contains i && S7 c rs ks
 | .cell a t::rs,.bx i agg n::ks=>c.slots[i]? == some a && p7 c t == some agg && n9 c t == some n && S7 c rs ks
 | .cell a t::rs,.po i agg n::ks=>c.slots[i]? == some a && !c.bxs.contains i && p7 c t == some agg && n9 c t == some n && S7 c rs ks
 | _,_=>false

def a0R (P:Program) (gt:List (Nat×List AV)) (slots bxs:List Nat) (fn:Func) (f:AFn) (A:Nat→Prop):Bool :=
 f.ext.isNone && a1D slots && slots.all (fun s=>Nat.blt s fn.ntmps) && slots.take f.np == List.range f.np && Nat.ble f.np slots.length && Nat.beq f.nv slots.length &&
  (match fn.body with|some x=>n4 ⟨P,slots,bxs,fn.ntmps,gt,A⟩ x f.code|none=>false) && S7 ⟨P,slots,bxs,fn.ntmps,gt,A⟩ fn.results.toList f.results

def C5 (P:Program) (gt:List (Nat×List AV)) (f:Nat) (e:List AV→St→Option (AV×St)):Prop :=
 ∀ (args:List AV) (st:St) (res:AV) (st':St),e args st=some (res,st')→(∀ x∈args,x.weak=x) →
  ∀ (g:Gh) (w:World) (vs:List Value),SRel g w st→Globs gt g w→RelL g w args vs→Calls P f vs.toArray w (CallPost g w st' res)

structure ProgOK (P:Program) (gt:List (Nat×List AV)) (tbl:Nat→Option AFn):Prop where
 mixed:P.follows .mixedOrders=true
 fn:∀ f af,tbl f=some af→S1 P (vf f)=true∧((∃ slots bxs fn,P.funcs[vf f]?=some fn∧∀ A,a0R P gt slots bxs fn af A=true)∨(∃ e,af.ext=some e∧C5 P gt (vf f) e))

theorem a3U:∀ {xs:List Nat},a1D xs=true→xs.Nodup
 | [],_=>List.nodup_nil
 | x::xs,h=>by
  simp only [a1D,Bool.and_eq_true,Bool.not_eq_true',List.any_eq_false,Nat.beq_eq] at h
  exact List.nodup_cons.2 ⟨fun hm=>h.1 x hm rfl,a3U h.2⟩

section
variable {c:Cx} {g:Gh} {w:World} {pr:Nat→Option Pl} {bx:Nat→Nat} {σ:Sig} {a:Act}

theorem a7z {t:TypeId} {n bb f:Nat} {ag:Bool} {cs:List AV} {us:List Value} {r:AV} (hag:p7 c t=some ag) (hn:n9 c t=some n) (hl:RelL g w cs us) (hc:w.rangeAt bb f us) (h1:∀ u∈us,u.oneCell'=true) (ht:d9 ag n cs=some r) :
 ∃ v,(loadVar t (ad bb f)).run c.P w=.ok v w∧ValOK g w No r v:=by
 obtain ⟨v,hrun,hr⟩:=V0 (c:=c) (g:=g) (bx:=fun _=>0) (fr:=[]) (a:={ tmps:=#[.pointer (some (ad bb f))],defers:=[] }) (o:={ (default:Oper) with op:=.load t (.tmp 0) }) (x:=.tmp 0) rfl hag hn (by simp [Act.eval]) hl hc h1 ht
 refine ⟨v,?_,?_⟩
 · simp only [execOp,Instr.loadAt,Instr.sureAddr,Act.eval,Sem.run_bind,Sem.run_pure] at hrun
   have e:(Array.getD #[Value.pointer (some (ad bb f))] 0 undef)=.pointer (some (ad bb f)):=rfl
   rw [e] at hrun
   simp only [Sem.run_pure,Result.andThen_ok] at hrun
   cases hq:(loadVar t (ad bb f)).run c.P w with
   | ok u w' =>
    rw [hq] at hrun
    simp only [Result.andThen_ok,Result.ok.injEq,Next.value.injEq] at hrun
    obtain ⟨rfl,rfl⟩:=hrun
    rfl
   | halt x w'=>rw [hq] at hrun; cases hrun
 · cases r <;> first|exact hr|skip
   · exfalso
     unfold d9 at ht
     split at ht
     · split at ht <;> simp at ht
     · split at ht
       · rename_i y ys
         simp only [Option.some.injEq] at ht
         simp only [RelL] at hl
         obtain ⟨v',r',_,hr',_⟩:=hl
         cases y <;> simp only [AV.weak1,reduceCtorEq] at ht
         simp [Rel] at hr'
       · cases ht
   · exfalso
     unfold d9 at ht
     split at ht
     · split at ht <;> simp at ht
     · split at ht
       · rename_i y ys
         simp only [Option.some.injEq] at ht
         simp only [RelL] at hl
         obtain ⟨v',r',_,hr',_⟩:=hl
         cases y <;> simp only [AV.weak1,reduceCtorEq] at ht
         simp [Rel] at hr'
       · cases ht

theorem VarOK.val {i:Nat} {x:AV} {v:Value} (h:VarOK g w pr bx i x v) (hb:∀ cs,x≠.box cs):ValOK g w (fun b=>pr b=some (.var i)) x v:=by
 cases x <;> first|exact h|exact absurd rfl (hb _)|exact h.elim

theorem a8y (h:S c g w pr bx σ a):∀ {rs:List ResultVar} {ks:List ResK} {vs:List AV},S7 c rs ks=true→B8 ks σ.fr σ.st=some vs →
 ∃ us:List Value,(rs.mapM fun (r:ResultVar)=>(match r with|.tmp t=>pure (a.tmps.getD t undef)|.cell x t=>do loadVar t (← asAddr (a.tmps.getD x undef)):Sem Value)).run c.P w=.ok us w ∧
  us.length=vs.length∧∀ (k:Nat) (x:AV) (u:Value),vs[k]?=some x→us[k]?=some u→ValOK g w (fun b=>∃ p,pr b=some p) x u
 | [],[],vs,_,hg=>by
  simp only [B8,Option.some.injEq] at hg
  subst hg
  exact ⟨[],rfl,rfl,fun k x u hx=>by simp at hx⟩
 | r::rs,k::ks,vs,hok,hg=>by
  simp only [B8] at hg
  split at hg
  case h_2=>cases hg
  rename_i x xs hx hxs
  simp only [Option.some.injEq] at hg
  subst hg
  have one:∃ u,((match r with|.tmp t=>pure (a.tmps.getD t undef)|.cell x t=>do loadVar t (← asAddr (a.tmps.getD x undef)):Sem Value)).run c.P w=.ok u w∧ValOK g w (fun b=>∃ p,pr b=some p) x u∧S7 c rs ks=true:=by
   have nobox:∀ i,i ∉ c.bxs→∀ cs,σ.fr.getD i .undef≠.box cs:=fun i hi cs hc=>hi (h.fr.bxs i cs hc)
   unfold S7 at hok
   split at hok <;> first|(rename_i e1 e2; cases e1; cases e2; done)|skip
   · rename_i e1 e2; cases e1
   · rename_i t rs' i ks' e1 e2
     cases e1; cases e2
     simp only [Bool.and_eq_true,beq_iff_eq] at hok
     simp only [ResK.get,Option.some.injEq] at hx
     subst hx
     have hv:=h.fr.var i t hok.1.1
     have hnbx:=nobox i (by simpa using hok.1.2)
     refine ⟨_,rfl,?_,hok.2⟩
     cases hq:σ.fr.getD i .undef <;> rw [hq] at hv <;> first
      | exact ValOK.of_weak (ValOK.rel hv)
      | exact hv.elim
      | exact absurd hq (hnbx _)
   · rename_i t rs' i ks' e1 e2
     cases e1; cases e2
     simp only [Bool.and_eq_true,beq_iff_eq] at hok
     simp only [ResK.get,Option.some.injEq] at hx
     subst hx
     have hv:=(h.fr.var i t hok.1.1).val (nobox i (by simpa using hok.1.2))
     exact ⟨_,rfl,hv.mono (Ext.refl _ _) fun b hb=>⟨⟨_,hb⟩,rfl,fun _ x=>x⟩,hok.2⟩
   · rename_i y t rs' i ag n ks' e1 e2
     cases e1; cases e2
     simp only [Bool.and_eq_true,beq_iff_eq] at hok
     obtain ⟨⟨⟨h1,h2⟩,h3⟩,h4⟩:=hok
     simp only [ResK.get] at hx
     split at hx
     · rename_i cs hcs
       have hvar:=h.fr.var i y h1
       rw [hcs] at hvar
       obtain ⟨hptr,_,_,arr,T,hh,hl,h1c,_⟩:=hvar
       obtain ⟨u,hu,hval⟩:=a7z (c:=c) h2 h3 hl (by simpa using a3S hh 0) h1c hx
       refine ⟨u,?_,hval.mono (Ext.refl _ _) fun b hb=>hb.elim,h4⟩
       simp only [hptr,asAddr,Sem.run_bind,Sem.run_pure,Result.andThen_ok]
       exact hu
     · cases hx
   · rename_i y t rs' i ag n ks' e1 e2
     cases e1; cases e2
     simp only [Bool.and_eq_true,beq_iff_eq] at hok
     obtain ⟨⟨⟨⟨h1,h0⟩,h2⟩,h3⟩,h4⟩:=hok
     simp only [ResK.get] at hx
     split at hx
     · rename_i o off hcs
       split at hx
       · rename_i cs hst
         have hvar:=h.fr.var i y h1
         rw [hcs] at hvar
         have e:Rel g w (.ptr o off) (a.tmps.getD y undef):=ValOK.rel hvar
         simp only [Rel] at e
         obtain ⟨_,_,arr,T,hh,_,hl,h1c,_⟩:=h.st.obj _ _ hst
         obtain ⟨u,hu,hval⟩:=a7z (c:=c) h2 h3 (hl.drop off) (a2A hh cs.length off) (fun u hu=>h1c u (List.mem_of_mem_drop hu)) hx
         refine ⟨u,?_,hval.mono (Ext.refl _ _) fun b hb=>hb.elim,h4⟩
         simp only [e.2,asAddr,Sem.run_bind,Sem.run_pure,Result.andThen_ok]
         exact hu
       · cases hx
     · cases hx
   · cases hok
  obtain ⟨u,hu,hval,hrest⟩:=one
  obtain ⟨us,hus,hlen,hall⟩:=a8y h hrest hxs
  refine ⟨u::us,?_,by simp [hlen],fun j y v hy hv=>?_⟩
  · rw [List.mapM_cons]
    simp only [Sem.run_bind,hu,hus,Result.andThen_ok,Sem.run_pure]
  · cases j with
    | zero=>simp at hy hv; subst hy; subst hv; exact hval
    | succ j=>exact hall j y v (by simpa using hy) (by simpa using hv)
 | [],_::_,_,hok,_=>by simp [S7] at hok
 | r::_,[],_,hok,_=>by cases r <;> simp [S7] at hok

def c1W:List Value→Value
 | [v]=>v
 | us=>.tuple us.toArray

theorem a4b {P:Program} {fn:Func} {tmps:Array Value} {us:List Value} {w:World}
 (h:(fn.results.toList.mapM fun (r:ResultVar)=>(match r with|.tmp t=>pure (tmps.getD t undef)|.cell x t=>do loadVar t (← asAddr (tmps.getD x undef)):Sem Value)).run P w=.ok us w) :
 (results fn tmps).run P w=.ok (c1W us) w:=by
 unfold results
 rw [Array.mapM_eq_mapM_toList]
 simp only [map_eq_pure_bind,bind_assoc,pure_bind,Sem.run_bind]
 erw [h]
 simp only [Result.andThen_ok,Sem.run_pure]
 match us with
 | []=>rfl
 | [v]=>rfl
 | u::v::us=>simp [c1W]

theorem a7s {P:Program} {gt:List (Nat×List AV)} {slots bxs:List Nat} {fn:Func} {af:AFn} {g:Gh} {w:World} {args:List AV} {vs:List Value} {st:St} (o2:a1D slots=true) (o3:slots.all (fun s=>Nat.blt s fn.ntmps)=true) (o4:slots.take af.np=List.range af.np)
 (o5:af.np≤slots.length) (o6:af.nv=slots.length) (hlen:args.length=af.np) (hweak:∀ x∈args,x.weak=x) (hst:SRel g w st) (hgl:Globs gt g w) (hrel:RelL g w args vs) :
 Fx ⟨P,slots,bxs,fn.ntmps,gt,fun b=>w.heap.size≤b∨g.sr b≠none⟩∧S ⟨P,slots,bxs,fn.ntmps,gt,fun b=>w.heap.size≤b∨g.sr b≠none⟩ g w (fun _=>none) (fun _=>0) ⟨args++List.replicate (af.nv - af.np) .undef,fun _=>.undef,st⟩ { tmps:=vs.toArray++Array.replicate (fn.ntmps - vs.toArray.size) undef,defers:=[] }:=by
 let A:Nat→Prop:=fun b=>w.heap.size≤b∨g.sr b≠none
 let c:Cx:=⟨P,slots,bxs,fn.ntmps,gt,A⟩
 have hlt:∀ s∈slots,s < fn.ntmps:=fun s hs=>by
  have:=List.all_eq_true.1 o3 s hs
  simpa using this
 have fx:Fx c:=⟨a3U o2,hlt⟩
 have hvl:vs.length=af.np:=by rw [← hrel.length]; exact hlen
 have hnp:af.np≤fn.ntmps:=by
  rcases Nat.eq_zero_or_pos af.np with h0|h0
  · omega
  · have hm:af.np - 1∈slots:=by
     have:af.np - 1∈slots.take af.np:=by rw [o4]; simp; omega
     exact List.mem_of_mem_take this
    have:=hlt _ hm
    omega
 have hslot:∀ i s,slots[i]?=some s→i < af.np→s=i:=fun i s hs hi=>by
  have h1:(slots.take af.np)[i]?=some s:=by rw [List.getElem?_take,if_pos hi]; exact hs
  rw [o4] at h1
  simp [hi] at h1
  exact h1.symm
 let tm:Array Value:=vs.toArray++Array.replicate (fn.ntmps - vs.toArray.size) undef
 have hS:S c g w (fun _=>none) (fun _=>0) ⟨args++List.replicate (af.nv - af.np) .undef,fun _=>.undef,st⟩ { tmps:=tm,defers:=[] }:=by
  refine ⟨⟨by simp [tm,c]; omega,by simp [c,hlen,o6]; omega,fun i s hs=>?_,fun s _=>ValOK.undef,fun b p hb=>(by cases hb),fun i cs hi=>?_⟩,hst,hgl,fun b hb=>.inl hb,fun b p hb=>.inr (by rw [hb]; simp)⟩
  · rcases Nat.lt_or_ge i af.np with hi|hi
    · have hs':=hslot i s hs hi
      subst hs'
      have ha:s < args.length:=by omega
      have hv:s < vs.length:=by omega
      obtain ⟨v,hv1,hv2⟩:=hrel.get (List.getElem?_eq_getElem ha)
      have e1:(args++List.replicate (af.nv - af.np) AV.undef).getD s .undef=args[s]:=by
       rw [List.getD_eq_getElem?_getD,List.getElem?_append_left ha,List.getElem?_eq_getElem ha]; rfl
      have e2:tm.getD s undef=v:=by
       simp only [tm,Array.getD_eq_getD_getElem?]
       rw [Array.getElem?_append_left (by simpa using hv)]
       simp [hv1]
      rw [e1,e2]
      have hw:=hweak args[s] (List.getElem_mem ha)
      have hval:ValOK g w (fun b=>(fun _=>none:Nat→Option Pl) b=some (.var s)) args[s].weak v:=ValOK.of_weak hv2
      rw [hw] at hval
      revert hval
      cases args[s] <;> intro hval <;> first|exact hval|exact hval.rel.elim
    · have e1:(args++List.replicate (af.nv - af.np) AV.undef).getD i .undef=.undef:=by
       rw [List.getD_eq_getElem?_getD,List.getElem?_append_right (by omega)]
       cases hq:(List.replicate (af.nv - af.np) AV.undef)[i - args.length]? with
       | none=>rfl
       | some x=>rw [List.eq_of_mem_replicate (List.mem_of_getElem? hq)]; rfl
      rw [e1]
      exact VarOK.undef
  · exfalso
    rcases Nat.lt_or_ge i args.length with hi'|hi'
    · obtain ⟨v,hv1,hv2⟩:=hrel.get (List.getElem?_eq_getElem hi')
      rw [List.getD_eq_getElem?_getD,List.getElem?_append_left hi',List.getElem?_eq_getElem hi'] at hi
      simp only [Option.getD_some] at hi
      rw [hi] at hv2
      exact hv2
    · rw [List.getD_eq_getElem?_getD,List.getElem?_append_right hi'] at hi
      cases hq:(List.replicate (af.nv - af.np) AV.undef)[i - args.length]? with
      | none=>rw [hq] at hi; cases hi
      | some x=>rw [hq,List.eq_of_mem_replicate (List.mem_of_getElem? hq)] at hi; cases hi
 exact ⟨fx,hS⟩
theorem b3P {P:Program} {gt:List (Nat×List AV)} {slots bxs:List Nat} {fn:Func} {af:AFn} {g g':Gh} {w w':World} {pr':Nat→Option Pl} {bx':Nat→Nat} {τ':Nat→AV} {fr':List AV} {st1 st':St} {a':Act} {res:AV}
 (hS':S ⟨P,slots,bxs,fn.ntmps,gt,fun b=>w.heap.size≤b∨g.sr b≠none⟩ g' w' pr' bx' ⟨fr',τ',st1⟩ a') (ht:Tr (fun b=>w.heap.size≤b∨g.sr b≠none) g w g' w') (o8:S7 ⟨P,slots,bxs,fn.ntmps,gt,fun b=>w.heap.size≤b∨g.sr b≠none⟩ fn.results.toList af.results=true)
 (h:(match B8 af.results fr' st1 with|some [v]=>some (v,st1)|some vs=>some (.tuple vs,st1)|none=>none)=some (res,st')):∃ v,(results fn a'.tmps).run P w'=.ok v w'∧CallPost g w st' res (.returned v) w':=by
 let c:Cx:=⟨P,slots,bxs,fn.ntmps,gt,fun b=>w.heap.size≤b∨g.sr b≠none⟩
 have hgo:∀ vs',B8 af.results fr' st1=some vs'→some ((match vs' with|[v]=>v|vs'=>AV.tuple vs'),st1)=some (res,st')→∃ v,(results fn a'.tmps).run P w'=.ok v w'∧CallPost g w st' res (.returned v) w':=by
  intro vs' hg hres
  simp only [Option.some.injEq,Prod.mk.injEq] at hres
  obtain ⟨rfl,rfl⟩:=hres
  obtain ⟨us,hus,hul,hall⟩:=a8y (c:=c) hS' o8 hg
  refine ⟨_,a4b hus,_,g',rfl,hS'.st,⟨ht.ext,ht.size,ht.env,fun b hb hs _=>ht.keep b hb hs fun hA=>?_⟩,?_⟩
  · rcases hA with hA|hA
    · omega
    · exact hA hs
  · match vs',us,hul,hall with
    | [],[],_,_=>exact ValOK.mk' (by simp only [Rel]; exact ⟨#[],rfl,by simp [RelL]⟩) (by simp) (by simp)
    | [x],[u],_,hall =>
     refine (hall 0 x u rfl rfl).mono (Ext.refl _ _) fun b hb=>⟨?_,rfl,fun _ x=>x⟩
     obtain ⟨p,hp⟩:=hb
     obtain ⟨q1,q2,q3⟩:=hS'.fr.prv b p hp
     exact ⟨q1,q2,q3⟩
    | x::y::xs,u::v::us,hul,hall =>
     refine ValOK.mk' ?_ (by simp) (by simp)
     simp only [Rel]
     exact ⟨_,rfl,RelL.of_get (by simpa using hul.symm) fun i x u hx hu=>(hall i x u hx hu).rel⟩
 split at h
 · rename_i v hg
   exact hgo [v] hg h
 · rename_i vs' hne hg
   refine hgo vs' hg ?_
   rw [← h]
   match vs',hne with
   | [],_=>rfl
   | [v],hne=>exact absurd rfl (hne v)
   | _::_::_,_=>rfl
 · cases h
theorem b1S {P:Program} {gt:List (Nat×List AV)} {slots bxs:List Nat} {fn:Func} {af:AFn} {g:Gh} {w:World} {args:List AV} {vs:List Value} {st st':St} {res:AV} {call:b6} {n:Nat} (hm:P.follows .mixedOrders=true) (hc:F3 P gt call)
 (hok:∀ A,a0R P gt slots bxs fn af A=true) (h:af.run call n args st=some (res,st')) (hweak:∀ x∈args,x.weak=x) (hst:SRel g w st) (hgl:Globs gt g w) (hrel:RelL g w args vs) :
 ∃ body,fn.body=some body∧body.wp P (bodyPost P fn (CallPost g w st' res)) { tmps:=vs.toArray++Array.replicate (fn.ntmps - vs.toArray.size) undef,defers:=[] } w:=by
 have hok:=hok fun b=>w.heap.size≤b∨g.sr b≠none
 simp only [a0R,Bool.and_eq_true,Option.isNone_iff_eq_none,beq_iff_eq,Nat.beq_eq] at hok
 obtain ⟨⟨⟨⟨⟨⟨⟨o1,o2⟩,o3⟩,o4⟩,o5⟩,o6⟩,o7⟩,o8⟩:=hok
 have o5:=Nat.le_of_ble_eq_true o5
 split at o7
 case h_2=>cases o7
 rename_i body hbody
 unfold AFn.run at h
 split at h
 case isFalse=>cases h
 rename_i hlen
 split at h
 · cases h
 · rename_i ex fr' st1 hnex hexec
   obtain ⟨fx,hS⟩:=a7s (bxs:=bxs) o2 o3 o4 o5 o6 hlen hweak hst hgl hrel
   refine ⟨body,hbody,?_⟩
   refine m4 _ _ o7 fx hm hc hS hexec fun a' w' g' pr' bx' τ' hd hS' ht=>?_
   have hbp:bodyPost P fn (CallPost g w st' res) .ret a' w':=⟨hd,b3P hS' ht o8 h⟩
   cases ex with
   | normal=>exact hbp
   | ret=>exact hbp
   | exit id=>exact (hnex id rfl).elim
 · cases h

theorem b7I {P:Program} {gt:List (Nat×List AV)} {tbl:Nat→Option AFn} (hP:ProgOK P gt tbl):∀ n,F3 P gt (l3 tbl n):=by
 intro n
 induction n with
 | zero=>intro f args st res st' h; simp [l3] at h
 | succ n ih =>
  intro f args st res st' h hweak
  simp only [l3] at h
  cases htbl:tbl f with
  | none=>simp [htbl] at h
  | some af =>
   simp only [htbl] at h
   obtain ⟨hen,hfn⟩:=hP.fn f af htbl
   refine ⟨hen,fun g w vs hst hgl hrel=>?_⟩
   rcases hfn with ⟨slots,bxs,fn,hf,hok⟩|⟨e,he,hext⟩
   case inr =>
    simp only [he] at h
    exact hext args st res st' h hweak g w vs hst hgl hrel
   have he:af.ext=none:=by
    have:=hok fun _=>True
    simp only [a0R,Bool.and_eq_true,Option.isNone_iff_eq_none] at this
    exact this.1.1.1.1.1.1.1
   simp only [he] at h
   obtain ⟨body,hb,hwp⟩:=b1S hP.mixed ih hok h hweak hst hgl hrel
   exact calls_of_wp hf hb hwp
end
end Go.Cb
/-
 THE ABSTRACT MACHINE, part 29: slices.Clone.
-/
set_option maxRecDepth 4000
set_option linter.unusedSimpArgs false
set_option linter.unusedVariables false
namespace Go.Cb
open Classical

section
variable {c:Cx} {g:Gh} {w:World} {pr:Nat→Option Pl} {bx:Nat→Nat} {σ:Sig} {a:Act} {o:Oper}

theorem c1y (fx:Fx c) (h:S c g w pr bx σ a) {t e:TypeId} {i:TypeInfo} {d:Dst} (ho:o.op=.buildSlice t 0 #[]) (hu:c.P.underlying t=some (.slice e)) (hi:c.P.info? e=some i) (hd:m3 c o.dst d=true)
 {next:Act→World→Prop} {Q:Exit→Act→World→Prop} (hnext:Post c g w a (d.put (.list true []) σ) next):o.wp c.P a w next Q:=by
 have hrun:(execOp a.eval o).run c.P w=.ok (.value (.slice (some (ad w.heap.size 0)) 0 0)) (w.alloc (.cells #[] e)):=by
  have e0:(Array.map (fun _:Nat=>(default:Value)) (Array.range 0))=#[]:=by apply Array.ext'; simp
  simp [execOp,ho,Instr.buildSlice,run_underlying hu,sizeOf,typeInfo,hi,Instr.fill,newRow,e0]
 unfold Oper.wp
 rw [hrun]
 refine hnext _ _ g pr bx (m6 _ _ _) (M1 fx (h.alloc _ _) hd (mine:=No) (r:=.list true []) ?_ fun _ x=>x.elim) (Tr.alloc _ h.st.cli _)
 refine (show ValOK g _ No (.list true []) _ from ⟨?_,fun _ _=>.inl ⟨_,_,rfl⟩,fun _ e=>(by cases e)⟩)
 simp only [Rel]
 exact ⟨_,0,0,rfl,rfl,Nat.le_refl _,fun _=>rfl,fun h=>absurd rfl h⟩

theorem c1t (fx:Fx c) (h:S c g w pr bx σ a) {t t' e:TypeId} {x:Operand} {d:Dst} {ad0:Option Addr} {n cap:Nat} (ho:o.op=.binOp .eql t x (.const (.slice none 0 0)) t') (hu:c.P.underlying t=some (.slice e))
 (hx:a.eval x=.slice ad0 n cap) (hd:m3 c o.dst d=true) {next:Act→World→Prop} {Q:Exit→Act→World→Prop} (hnext:Post c g w a (d.put (.bool ad0.isNone) σ) next):o.wp c.P a w next Q:=by
 have hrun:(execOp a.eval o).run c.P w=.ok (.value (.bool ad0.isNone)) w:=by
  have hg:∀ v:Value,(eqGuard .eql t x (.const (.slice none 0 0)) (.slice ad0 n cap) (.slice none 0 0)).run c.P w=.ok () w:=fun _=>rfl
  have hy:a.eval (.const (.slice none 0 0))=.slice none 0 0:=rfl
  have heq:(Op.equal t (.slice ad0 n cap) (.slice none 0 0)).run c.P w=.ok ad0.isNone w:=by
   rw [K0,Op.equalIn,Sem.run_bind,run_underlying hu,Result.andThen_ok]
   cases ad0 <;> rfl
  simp only [execOp,ho,hx,hy,hg (.bool true),binOp,Sem.run_bind,heq,Result.andThen_ok,Sem.run_pure]
 exact b0p fx h hd (r:=.bool ad0.isNone) hrun (show ValOK g w No (.bool ad0.isNone) (.bool ad0.isNone) from ValOK.mk' (by simp [Rel]) (by simp) (by simp)) hnext

def a7x (P:Program) (t sz bytes:Nat):Bool:=match P.underlying t with
 | some (.slice e)=>match P.info? e with
  | some ie=>ie.size == sz && ie.bytes == bytes && decide (0 < bytes) && (match ie.zero with|some z=>z.cells.size == sz|none=>false)
  | none=>false
 | _=>false

structure CloneShape (P:Program) (fn:Func) (t sz bytes:Nat) where
 i0:Nat
 i1:Nat
 i2:Nat
 i3:Nat
 o0:Oper
 o1:Oper
 o2:Oper
 o3:Oper
 o4:Oper
 o5:Oper
 o6:Oper
 o7:Oper
 ty:TypeId
 body:fn.body=some (.seq (.region i0 #[o0] false) (.seq (.seq (.region i1 #[o1,o2] false) (.cond (.tmp 4) (.seq (.region i2 #[o3] false) .ret) .skip)) (.seq (.region i3 #[o4,o5,o6,o7] false) .ret)))
 nt:fn.ntmps=8
 res:fn.results=#[.tmp 2]
 d0:o0.dst=some 2∧o0.op=.assign (.const (.slice none 0 0))∧o0.guard=none
 d1:o1.dst=some 3∧o1.op=.move (.tmp 0)∧o1.guard=none
 d2:o2.dst=some 4∧o2.op=.binOp .eql t (.tmp 3) (.const (.slice none 0 0)) ty∧o2.guard=none
 d3:o3.dst=some 2∧o3.op=.assign (.const (.slice none 0 0))∧o3.guard=none
 d4:o4.dst=some 5∧o4.op=.buildSlice t 0 #[]∧o4.guard=none
 d5:o5.dst=some 6∧o5.op=.move (.tmp 0)∧o5.guard=none
 d6:o6.dst=some 7∧o6.op=.call { callee:=.builtin .append,args:=#[.tmp 5,.tmp 6],argTypes:=#[t,t] }∧o6.guard=none
 d7:o7.dst=some 2∧o7.op=.assign (.tmp 7)∧o7.guard=none
 tb:a7x P t sz bytes=true

theorem a9H {P:Program} {t sz bytes:Nat} (h:a7x P t sz bytes=true):∃ e ie z,P.underlying t=some (.slice e)∧P.info? e=some ie∧ie.zero=some z∧ie.size=sz∧ie.bytes=bytes∧z.cells.size=sz∧0 < bytes:=by
 unfold a7x at h
 split at h
 case h_2=>cases h
 rename_i e hu
 split at h
 case h_2=>cases h
 rename_i ie hi
 simp only [Bool.and_eq_true,beq_iff_eq,decide_eq_true_eq] at h
 obtain ⟨⟨⟨h1,h2⟩,h3⟩,h4⟩:=h
 split at h4
 case h_2=>cases h4
 rename_i z hz
 exact ⟨e,ie,z,hu,hi,hz,h1,h2,by simpa using h4,h3⟩

theorem a2d {P:Program} {gt:List (Nat×List AV)} {f t sz bytes:Nat} {fn:Func} (hf:P.funcs[f]?=some fn) (C:CloneShape P fn t sz bytes):C5 P gt f (N1 sz bytes):=by
 intro args st res st' h hweak g w vs hst _ hrel
 obtain ⟨e,ie,z,tu,ti,tz,tsz,tby,tzs,tb1⟩:=a9H C.tb
 unfold N1 at h
 split at h
 case h_2=>cases h
 rename_i own xs
 split at h
 case isFalse=>cases h
 rename_i hcond
 simp only [Bool.and_eq_true,decide_eq_true_eq] at hcond
 obtain ⟨hrows,hbytes⟩:=hcond
 simp only [Option.some.injEq,Prod.mk.injEq] at h
 obtain ⟨rfl,rfl⟩:=h
 simp only [RelL] at hrel
 obtain ⟨v,_,rfl,hv,rfl⟩:=hrel
 have hvs:=hv
 simp only [Rel] at hvs
 obtain ⟨ad0,n,cap,rfl,rfl,hcap,hnil,hne⟩:=hvs
 let A:Nat→Prop:=fun b=>w.heap.size≤b∨g.sr b≠none
 let c:Cx:=⟨P,[0,2],[],8,[],A⟩
 have fx:Fx c:=⟨show ([0,2]:List Nat).Nodup by decide,show ∀ s∈([0,2]:List Nat),s < 8 by decide⟩
 have hown:own=false:=by
  have:=hweak (.list own xs) (by simp)
  simpa [AV.weak] using this.symm
 subst hown
 refine calls_of_wp hf C.body ?_
 have hS:S c g w (fun _=>none) (fun _=>0) ⟨[.list false xs,.undef],fun _=>.undef,st⟩ { tmps:=#[Value.slice ad0 xs.length cap]++Array.replicate (fn.ntmps - 1) undef,defers:=[] }:=by
  refine ⟨⟨by simp [c,C.nt],rfl,fun i s hs=>?_,fun s _=>ValOK.undef,fun b p hb=>(by cases hb),fun i cs hi=>?_⟩,hst,fun e he=>(by cases he),fun b hb=>.inl hb,fun b p hb=>.inr (by rw [hb]; simp)⟩
  · match i,hs with
    | 0,hs =>
     simp only [c,List.getElem?_cons_zero,Option.some.injEq] at hs
     subst hs
     have hval:ValOK g w (fun b=>(fun _=>none:Nat→Option Pl) b=some (.var 0)) (AV.list false xs).weak (.slice ad0 xs.length cap):=ValOK.of_weak hv
     have e0:(#[Value.slice ad0 xs.length cap]++Array.replicate (fn.ntmps - 1) undef).getD 0 undef=.slice ad0 xs.length cap:=by rw [C.nt]; rfl
     show VarOK g w (fun _=>none) (fun _=>0) 0 (.list false xs) ((#[Value.slice ad0 xs.length cap]++Array.replicate (fn.ntmps - 1) undef).getD 0 undef)
     rw [e0]
     exact hval
    | 1,hs=>exact VarOK.undef
    | i+2,hs=>simp [c] at hs
  · match i,hi with
    | 0,hi=>simp at hi
    | 1,hi=>simp at hi
    | i+2,hi=>simp at hi
 -- the end
 have fin:∀ (x:AV) (a':Act) (w':World) (g':Gh) (pr':Nat→Option Pl) (bx':Nat→Nat) (τ':Nat→AV),a'.defers=[]→S c g' w' pr' bx' ⟨[x,.list true xs],τ',st⟩ a'→Tr c.A g w g' w' →
  bodyPost P fn (CallPost g w st (.list true xs)) .ret a' w':=by
  intro x a' w' g' pr' bx' τ' hd hS' ht
  refine ⟨hd,?_⟩
  obtain ⟨us,hus,hul,hall⟩:=a8y (c:=c) hS' (rs:=fn.results.toList) (ks:=[.vs 1]) (vs:=[.list true xs]) (by rw [C.res]; rfl) rfl
  refine ⟨_,a4b hus,_,g',rfl,hS'.st,⟨ht.ext,ht.size,ht.env,fun b hb hs _=>ht.keep b hb hs fun hA=>?_⟩,?_⟩
  · rcases hA with hA|hA
    · omega
    · exact hA hs
  · match us,hul,hall with
    | [u],_,hall =>
     refine (hall 0 (.list true xs) u rfl rfl).mono (Ext.refl _ _) fun b hb=>⟨?_,rfl,fun _ x=>x⟩
     obtain ⟨p,hp⟩:=hb
     obtain ⟨q1,q2,q3⟩:=hS'.fr.prv b p hp
     exact ⟨q1,q2,q3⟩
 refine wp_seq (wp_region ?_)
 show wpOps P #[C.o0] _ [0] _ _
 rw [wpOps_cons]
 refine P2 rfl C.d0.2.2 (a3E (c:=c) fx hS (.inr C.d0.2.1) (p:=.c (.list true [])) (d:=.v 1) rfl (by rw [C.d0.1]; rfl) fun a1 w1 g1 pr1 bx1 hd1 hS1 ht1=>?_)
 show (Code.seq _ _).wp P _ a1 w1
 refine wp_seq (wp_seq (wp_region ?_))
 show wpOps P #[C.o1,C.o2] _ [0,1] _ _
 rw [wpOps_cons]
 refine P2 rfl C.d1.2.2 (a3E (c:=c) fx hS1 (.inl C.d1.2.1) (p:=.v 0) (d:=.t 3) rfl (by rw [C.d1.1]; rfl) fun a2 w2 g2 pr2 bx2 hd2 hS2 ht2=>?_)
 rw [wpOps_cons]
 have hA2:=H4 hS2 (x:=.tmp 3) (p:=.t 3) rfl
 have hr2:Rel g2 w2 (.list false xs) (a2.eval (.tmp 3)):=ValOK.rel hA2
 have hr2':=hr2
 simp only [Rel] at hr2'
 obtain ⟨ad2,n2,cap2,hev2,hn2,hcap2,hnil2,hne2⟩:=hr2'
 refine P2 rfl C.d2.2.2 (c1t (c:=c) fx hS2 C.d2.2.1 tu hev2 (d:=.t 4) (by rw [C.d2.1]; rfl) fun a3 w3 g3 pr3 bx3 hd3 hS3 ht3=>?_)
 show (Code.cond _ _ _).wp P _ a3 w3
 have ht03:=(ht1.trans ht2).trans ht3
 have hd03:a3.defers=[]:=hd3.trans (hd2.trans hd1)
 have hb:=a1N hS3 (x:=.tmp 4) (y:=.t 4) rfl (b:=ad2.isNone) rfl
 refine wp_cond hb ?_
 cases ad2 with
 | none =>
  have hx0:xs=[]:=by
   have:=hnil2 rfl
   exact List.eq_nil_of_length_eq_zero (by omega)
  refine wp_seq (wp_region ?_)
  show wpOps P #[C.o3] _ [0] _ _
  rw [wpOps_cons]
  refine P2 rfl C.d3.2.2 (a3E (c:=c) fx hS3 (.inr C.d3.2.1) (p:=.c (.list true [])) (d:=.v 1) rfl (by rw [C.d3.1]; rfl) fun a4 w4 g4 pr4 bx4 hd4 hS4 ht4=>?_)
  show Code.ret.wp P _ a4 w4
  refine wp_ret ?_
  show bodyPost P fn _ .ret a4 w4
  subst hx0
  exact fin _ a4 w4 g4 pr4 bx4 _ (hd4.trans hd03) hS4 (ht03.trans ht4)
 | some ad3 =>
  refine wp_skip ?_
  show (Code.seq _ _).wp P _ a3 w3
  refine wp_seq (wp_region ?_)
  show wpOps P #[C.o4,C.o5,C.o6,C.o7] _ [0,1,2,3] _ _
  rw [wpOps_cons]
  refine P2 rfl C.d4.2.2 (c1y (c:=c) fx hS3 C.d4.2.1 tu ti (d:=.t 5) (by rw [C.d4.1]; rfl) fun a4 w4 g4 pr4 bx4 hd4 hS4 ht4=>?_)
  rw [wpOps_cons]
  refine P2 rfl C.d5.2.2 (a3E (c:=c) fx hS4 (.inl C.d5.2.1) (p:=.v 0) (d:=.t 6) rfl (by rw [C.d5.1]; rfl) fun a5 w5 g5 pr5 bx5 hd5 hS5 ht5=>?_)
  rw [wpOps_cons]
  refine P2 rfl C.d6.2.2 (b3h (c:=c) fx hS5 C.d6.2.1 rfl tu ti tz tsz tby tzs tb1 (p0:=.ts 5) (p1:=.t 6) (d:=.t 7) rfl rfl (by rw [C.d6.1]; rfl) (by rw [C.d6.1]; rfl) (xs:=[]) (ys:=xs) (own:=false) rfl rfl rfl hrows (by simpa using hbytes) fun a6 w6 g6 pr6 bx6 hd6 hS6 ht6=>?_)
  rw [wpOps_cons]
  refine P2 rfl C.d7.2.2 (a3E (c:=c) fx hS6 (.inr C.d7.2.1) (p:=.ts 7) (d:=.v 1) rfl (by rw [C.d7.1]; rfl) fun a7 w7 g7 pr7 bx7 hd7 hS7 ht7=>?_)
  show Code.ret.wp P _ a7 w7
  refine wp_ret ?_
  show bodyPost P fn _ .ret a7 w7
  exact fin _ a7 w7 g7 pr7 bx7 _ (hd7.trans (hd6.trans (hd5.trans (hd4.trans hd03)))) hS7 ((((ht03.trans ht4).trans ht5).trans ht6).trans ht7)
end
end Go.Cb
/-
 THE ABSTRACT MACHINE, part 49: rows that are objects of their own: a copy, one row more, one row less: answers of their own.
-/
set_option maxRecDepth 4000
set_option linter.unusedVariables false
namespace Go.Cb
open Classical

def R4 (sz bytes:Nat):List AV→St→Option (AV×St)
 | [.nils],st=>some (.nils,st)
 | [.sl o f n s],st=>match st[o]? with
  | some (.cells cs)=>if s=sz∧f+n*sz≤cs.length∧n*bytes≤70368744177664 then some (.sl st.length 0 n sz,st++[.cells (((cs.drop f).take (n*sz)).map AV.weak1)]) else none
  | _=>none
 | _,_=>none
def G4 (sz i:Nat) (cs row:List AV):List AV:=(cs.take (i*sz)++row++cs.drop (i*sz)).map AV.weak1
def J1 (sz bytes:Nat):List AV→St→Option (AV×St)
 | [.nils,.int .i64 i,.list _ [row]],st=>if i=0∧row.length=sz then some (.sl st.length 0 1 sz,st++[.cells (G4 sz 0 [] row)]) else none
 | [.sl o 0 n s,.int .i64 i,.list _ [row]],st=>match st[o]? with
  | some (.cells cs)=>if s=sz∧0≤i∧i≤n∧cs.length=n*sz∧row.length=sz∧(n+1)*bytes≤70368744177664 then some (.sl st.length 0 (n+1) sz,st.set o .dead++[.cells (G4 sz i.toNat cs row)]) else none
  | _=>none
 | _,_=>none
def W5 (sz i:Nat) (cs:List AV):List AV:=(cs.take (i*sz)++cs.drop ((i+1)*sz)).map AV.weak1
def Y1 (sz bytes:Nat):List AV→St→Option (AV×St)
 | [.sl o 0 n s,.int .i64 i,.int .i64 j],st=>match st[o]? with
  | some (.cells cs)=>if s=sz∧0≤i∧i < n∧j=i+1∧cs.length=n*sz∧n*bytes≤70368744177664 then some (.sl st.length 0 (n - 1) sz,st.set o .dead++[.cells (W5 sz i.toNat cs)]) else none
  | _=>none
 | _,_=>none
end Go.Cb
/-
 THE ABSTRACT MACHINE, part 30: from an abstract answer to the model's call.
-/
set_option maxRecDepth 4000
set_option linter.unusedVariables false
namespace Go.Cb
open Classical

def gh0 (W:World):Gh:={ n:=0,m:=fun _=>0,cl:=fun b _=>b < W.heap.size,sr:=fun _=>none,cp:=fun _=>0 }

theorem b7T (W:World):SRel (gh0 W) W []:=⟨rfl,fun o ob h=>by simp at h,fun b p h=>(by cases h),fun b f h=>h⟩

structure Kept (W W':World):Prop where
 kept:W.keptBut W' (fun _=>False)
 fz:∀ a:Addr,a.block < W.heap.size→W'.frozen? a=W.frozen? a
 size:W.heap.size≤W'.heap.size
 old:∀ b,b < W.heap.size→W'.heap[b]?=W.heap[b]?

theorem C6 {P:Program} {gt:List (Nat×List AV)} {tbl:Nat→Option AFn} (hP:ProgOK P gt tbl) {n f:Nat} {args:List AV} {b:Bool} {st':St} (h:l3 tbl n f args []=some (.bool b,st')) (hw:∀ x∈args,x.weak=x)
 {W:World} {vs:List Value} (hg:Globs gt (gh0 W) W) (hr:RelL (gh0 W) W args vs) (hv:vf f=f:=by rfl):Calls P f vs.toArray W (fun e W'=>e=.returned (.bool b)∧Kept W W'):=by
 rw [← hv]
 refine ((b7I hP n f args [] _ _ h hw).2 (gh0 W) W vs (b7T W) hg hr).mono fun e W' he=>?_
 obtain ⟨v,g',rfl,_,ht,hv⟩:=he
 have hv:=hv.rel
 simp only [Rel] at hv
 subst hv
 have hold:∀ b,b < W.heap.size→W'.heap[b]?=W.heap[b]?:=fun b hb=>(ht.keep b hb rfl fun x=>x).1.1
 refine ⟨rfl,⟨ht.env.os,ht.env.out,fun i hi=>?_⟩,fun a ha=>by unfold World.frozen?; rw [hold a.block ha],ht.size,hold⟩
 rw [hold i hi]
 cases hq:W.heap[i]? with
 | none=>simp
 | some o=>cases o <;> simp
end Go.Cb
/-
 THE ABSTRACT MACHINE, part 28: running told as a chain, for reckoning with unknowns.
-/
set_option maxRecDepth 4000
set_option linter.unusedSimpArgs false
set_option linter.unusedVariables false
namespace Go.Cb
open Classical

theorem b5 {α:Sort _} {a b:α} (h:a=b):a=b:=by
 cases h
 rfl

def obind {α β:Type} (x:Option α) (f:α→Option β):Option β:=match x with
 | some a=>f a
 | none=>none
theorem o9 {α β:Type} (a:α) (f:α→Option β):obind (some a) f=f a:=b5 rfl
theorem p6 {α β:Type} {x x':Option α} {f:α→Option β} (h:x=x'):obind x f=obind x' f:=by rw [h]

def p1 (x:Option (AV×AV×St)):Option AV:=match x with
 | some (r,_,_)=>some r
 | none=>none
theorem c0t (r b:AV) (st:St):p1 (some (r,b,st))=some r:=b5 rfl
def p2 (x:Option (AV×AV×St)):Option (AV×St):=match x with
 | some (r,_,st)=>some (r,st)
 | none=>none
theorem a3o (r b:AV) (st:St):p2 (some (r,b,st))=some (r,st):=b5 rfl

def gv (x:AV) (want:Bool) (e:Option AV):Option AV:=match x with
 | .bool b=>if b == want then e else some (.tuple [])
 | .tuple []=>some (.tuple [])
 | _=>none
def gv2 (x:AV) (want:Bool) (st:St) (e:Option (AV×St)):Option (AV×St):=match x with
 | .bool b=>if b == want then e else some (.tuple [],st)
 | .tuple []=>some (.tuple [],st)
 | _=>none
theorem a9M (want:Bool) (e:Option AV):gv (.tuple []) want e=some (.tuple []):=b5 rfl

theorem c45 (e:Option AV):gv (.bool true) true e=e:=b5 rfl
theorem c5Y (e:Option AV):gv (.bool true) false e=some (.tuple []):=b5 rfl
theorem c5G (e:Option AV):gv (.bool false) false e=e:=b5 rfl
theorem c5a (e:Option AV):gv (.bool false) true e=some (.tuple []):=b5 rfl
theorem c05 (st:St) (e:Option (AV×St)):gv2 (.bool true) true st e=e:=b5 rfl
theorem c30 (st:St) (e:Option (AV×St)):gv2 (.bool true) false st e=some (.tuple [],st):=b5 rfl
theorem c2z (st:St) (e:Option (AV×St)):gv2 (.bool false) false st e=e:=b5 rfl
theorem c1C (st:St) (e:Option (AV×St)):gv2 (.bool false) true st e=some (.tuple [],st):=b5 rfl
theorem b5U (want:Bool) (st:St) (e:Option (AV×St)):gv2 (.tuple []) want st e=some (.tuple [],st):=b5 rfl
theorem t8 {x:AV} {want:Bool} {st:St} {e:Option (AV×St)} {x':AV} (h:x=x'):gv2 x want st e=gv2 x' want st e:=by rw [h]

def d8 (xs:List Opd):Bool:=xs.any Opd.steals

theorem S6:∀ {xs:List Opd} {σ:Sig},d8 xs=false→b7 xs σ=σ
 | [],_,_=>rfl
 | x::xs,σ,h=>by
  simp only [d8,List.any_cons,Bool.or_eq_false_iff] at h
  have e:x.spend σ=σ:=by cases x <;> simp_all [Opd.spend,Opd.steals]
  rw [b7,e]
  exact S6 (xs:=xs) h.2

def goK (call:b6) {α:Type} (o:AOper) (σ:Sig) (k:Sig→Option α):Option α :=
 match o.kind.setSt || o.kind.alters || d8 o.args with
 | false=>obind (p1 (sem o.kind call (o.args.map (·.read σ)) (boxOf' o.box σ) σ.st)) fun r=>k (o.dst.put r σ)
 | true=>match o.kind.alters || d8 o.args with
  | false=>obind (p2 (sem o.kind call (o.args.map (·.read σ)) (boxOf' o.box σ) σ.st)) fun r=>k (o.dst.put r.1 { σ with st:=r.2 })
  | true=>obind (sem o.kind call (o.args.map (·.read σ)) (boxOf' o.box σ) σ.st) fun r =>
   let σ:=b7 o.args σ
   match o.box with
   | some i=>k (o.dst.put r.1 { σ with fr:=σ.fr.set i r.2.1,st:=r.2.2 })
   | none=>k (o.dst.put r.1 { σ with st:=r.2.2 })
where boxOf' (b:Option Nat) (σ:Sig):AV:=match b with|some i=>σ.fr.getD i .undef|none=>.undef

def a3n (call:b6) {α:Type} (o:AOper) (σ:Sig) (k:Sig→Option α):Option α :=
 match o.guard with
 | none=>goK call o σ k
 | some (x,want)=>match o.kind.setSt || o.kind.alters || d8 o.args with
  | false=>obind (gv (x.read σ) want (p1 (sem o.kind call (o.args.map (·.read σ)) (goK.boxOf' o.box σ) σ.st))) fun r=>k (o.dst.put r σ)
  | true=>match o.kind.alters || d8 o.args with
   | false=>obind (gv2 (x.read σ) want σ.st (p2 (sem o.kind call (o.args.map (·.read σ)) (goK.boxOf' o.box σ) σ.st))) fun r=>k (o.dst.put r.1 { σ with st:=r.2 })
   | true=>match x.read σ with
    | .bool b=>if b == want then goK call o σ k else k (o.dst.put (.tuple []) σ)
    | .tuple []=>k (o.dst.put (.tuple []) σ)
    | _=>none

def a5G (call:b6) {α:Type}:List AOper→Sig→(Sig→Option α)→Option α
 | [],σ,k=>k σ
 | o::os,σ,k=>a3n call o σ fun σ=>a5G call os σ k

theorem a2U (fr:List AV) (i:Nat):fr.set i (fr.getD i .undef)=fr:=by
 apply List.ext_getElem?
 intro j
 rw [List.getElem?_set]
 by_cases e:i=j
 · subst e
   rw [if_pos rfl]
   split
   · rename_i h; simp [h]
   · rename_i h; rw [List.getElem?_eq_none (by omega)]
 · rw [if_neg e]

theorem a5b {call:b6} {α:Type} {o:AOper} {σ:Sig} {k:Sig→Option α}:goK call o σ k=obind (C2 call o σ) k:=by
 have hb:goK.boxOf' o.box σ=(match o.box with|some i=>σ.fr.getD i .undef|none=>.undef):=rfl
 unfold goK
 rw [M2,hb]
 split
 · rename_i hp
   simp only [Bool.or_eq_false_iff] at hp
   obtain ⟨⟨h1,h2⟩,h3⟩:=hp
   cases hs:sem o.kind call (o.args.map (·.read σ)) (match o.box with|some i=>σ.fr.getD i .undef|none=>.undef) σ.st with
   | none=>rfl
   | some x =>
    obtain ⟨r,b',st'⟩:=x
    have e1:=a1w h1 hs
    have e2:=a1L h2 hs
    subst e1
    simp only [p1,o9,S6 h3]
    cases hbx:o.box with
    | none=>rfl
    | some i =>
     simp only [hbx] at e2
     rw [e2]
     simp only [a2U,o9]
 · rename_i hp
   split
   · rename_i hq
     simp only [Bool.or_eq_false_iff] at hq
     obtain ⟨h2,h3⟩:=hq
     cases hs:sem o.kind call (o.args.map (·.read σ)) (match o.box with|some i=>σ.fr.getD i .undef|none=>.undef) σ.st with
     | none=>rfl
     | some x =>
      obtain ⟨r,b',st'⟩:=x
      have e2:=a1L h2 hs
      simp only [p2,o9,S6 h3]
      cases hbx:o.box with
      | none=>rfl
      | some i =>
       simp only [hbx] at e2
       rw [e2]
       simp only [a2U,o9]
   · cases hs:sem o.kind call (o.args.map (·.read σ)) (match o.box with|some i=>σ.fr.getD i .undef|none=>.undef) σ.st with
     | none=>rfl
     | some x =>
      obtain ⟨r,b',st'⟩:=x
      simp only [o9]
      cases hbx:o.box with
      | none=>rfl
      | some i=>rfl

theorem b84 {α:Type} {x:AV} {want:Bool} {e:Option AV} {f:AV→Option α}:obind (gv x want e) f =
 (match x with|.bool b=>if b == want then obind e f else f (.tuple [])|.tuple []=>f (.tuple [])|_=>none):=by
 unfold gv
 split
 · split <;> rfl
 · rfl
 · rfl

theorem b58 {α:Type} {x:AV} {want:Bool} {st:St} {e:Option (AV×St)} {f:AV×St→Option α}:obind (gv2 x want st e) f =
 (match x with|.bool b=>if b == want then obind e f else f (.tuple [],st)|.tuple []=>f (.tuple [],st)|_=>none):=by
 unfold gv2
 split
 · split <;> rfl
 · rfl
 · rfl

theorem a1V {call:b6} {α:Type} {o:AOper} {σ:Sig} {k:Sig→Option α}:a3n call o σ k=obind (e8 call o σ) k:=by
 unfold a3n e8
 cases hg:o.guard with
 | none=>exact a5b
 | some xw =>
  obtain ⟨x,want⟩:=xw
  simp only
  split
  · rename_i hp
    have hgo:obind (p1 (sem o.kind call (o.args.map (·.read σ)) (goK.boxOf' o.box σ) σ.st)) (fun r=>k (o.dst.put r σ))=obind (C2 call o σ) k:=by
     have:=a5b (call:=call) (o:=o) (σ:=σ) (k:=k)
     unfold goK at this
     rw [hp] at this
     exact this
    rw [b84]
    cases hx:x.read σ <;> try rfl
    · dsimp only
      split
      · exact hgo
      · rfl
    · rename_i vs
      cases vs <;> rfl
  · rename_i hp
    split
    · rename_i hq
      have hgo:obind (p2 (sem o.kind call (o.args.map (·.read σ)) (goK.boxOf' o.box σ) σ.st)) (fun r=>k (o.dst.put r.1 { σ with st:=r.2 }))=obind (C2 call o σ) k:=by
       have:=a5b (call:=call) (o:=o) (σ:=σ) (k:=k)
       unfold goK at this
       rw [hp,hq] at this
       exact this
      rw [b58]
      cases hx:x.read σ <;> try rfl
      · dsimp only
        split
        · exact hgo
        · rfl
      · rename_i vs
        cases vs <;> rfl
    · cases hx:x.read σ <;> try rfl
      · dsimp only
        split
        · exact a5b
        · rfl
      · rename_i vs
        cases vs <;> rfl

theorem X0 {call:b6} {α:Type} {k:Sig→Option α}:∀ {ops:List AOper} {σ:Sig},a5G call ops σ k=obind (g9 call ops σ) k
 | [],σ=>rfl
 | o::os,σ=>by
  simp only [a5G,g9,a1V]
  cases hs:e8 call o σ with
  | none=>rfl
  | some σ1=>exact X0

def br (c:AV) (a b:Option Out):Option Out:=match c with
 | .bool true=>a
 | .bool false=>b
 | _=>none
theorem b7f (call:b6) (n:Nat) (kill:List Nat) (ps:List AOper) (fr:List AV) (st:St) :
 b9 call n (.reg kill ps) fr st=a5G call ps ⟨e7 kill fr,fun _=>.undef,st⟩ fun σ=>some (.normal,σ.fr,σ.st):=by
 rw [X0]
 simp only [b9,fL_eq]
 cases g9 call ps ⟨e7 kill fr,fun _=>.undef,st⟩ <;> rfl
theorem a2W (call:b6) (n:Nat) (kill:List Nat) (ps:List AOper) (c:Opd) (a b:ACode) (fr:List AV) (st:St) :
 b9 call n (.test kill ps c a b) fr st=a5G call ps ⟨e7 kill fr,fun _=>.undef,st⟩ fun σ=>br (c.read σ) (b9 call n a σ.fr σ.st) (b9 call n b σ.fr σ.st):=by
 rw [X0]
 simp only [b9,fL_eq]
 cases g9 call ps ⟨e7 kill fr,fun _=>.undef,st⟩ with
 | none=>rfl
 | some σ =>
  simp only [o9]
  generalize c.read σ=y
  cases y <;> rfl

def b7W (i:Nat) (x:AV):AV:=match x with
 | .box _=>.loc i 0
 | _=>.undef

def seqK (x:Option Out) (f:List AV→St→Option Out):Option Out:=match x with
 | some (.normal,fr,st)=>f fr st
 | r=>r
theorem a3X (fr:List AV) (st:St) (f:List AV→St→Option Out):seqK (some (.normal,fr,st)) f=f fr st:=b5 rfl
theorem b39 (id:Nat) (fr:List AV) (st:St) (f:List AV→St→Option Out):seqK (some (.exit id,fr,st)) f=some (.exit id,fr,st):=b5 rfl
theorem b5V (fr:List AV) (st:St) (f:List AV→St→Option Out):seqK (some (.ret,fr,st)) f=some (.ret,fr,st):=b5 rfl
theorem r8 {x x':Option Out} {f:List AV→St→Option Out} (h:x=x'):seqK x f=seqK x' f:=by rw [h]
theorem exec_seqK (call:b6) (n:Nat) (a b:ACode) (fr:List AV) (st:St):b9 call n (.seq a b) fr st=seqK (b9 call n a fr st) (b9 call n b):=by
 simp only [b9,seqK]
 split <;> rename_i h <;> simp only [h]

def finK (rs:List ResK) (x:Option Out):Option (AV×St):=match x with
 | some (.exit _,_,_)=>none
 | some (_,fr,st)=>match B8 rs fr st with
  | some [v]=>some (v,st)
  | some vs=>some (.tuple vs,st)
  | none=>none
 | none=>none
theorem a0Y (fn:AFn) (call:b6) (n:Nat) (args:List AV) (st:St) (h:args.length=fn.np) :
 fn.run call n args st=finK fn.results (b9 call n fn.code (args++List.replicate (fn.nv - fn.np) .undef) st):=by
 unfold AFn.run finK
 rw [if_pos h]
 cases b9 call n fn.code (args++List.replicate (fn.nv - fn.np) .undef) st with
 | none=>rfl
 | some x =>
  obtain ⟨e,fr,st'⟩:=x
  cases e <;> dsimp only <;> cases B8 fn.results fr st' with
  | none=>rfl
  | some vs =>
   match vs with
   | []=>rfl
   | [v]=>rfl
   | _::_::_=>rfl
theorem b6t (call:b6) (n:Nat) (fr:List AV) (st:St):b9 call n .ret fr st=some (.ret,fr,st):=by simp only [b9]
theorem b4n (call:b6) (n id:Nat) (fr:List AV) (st:St):b9 call n (.exit id) fr st=some (.exit id,fr,st):=by simp only [b9]
theorem b4K (call:b6) (n:Nat) (fr:List AV) (st:St):b9 call n .skip fr st=some (.normal,fr,st):=by simp only [b9]
end Go.Cb
/-
 THE ABSTRACT MACHINE, part 31: more fuel does no harm.
-/
set_option maxRecDepth 4000
set_option linter.unusedSimpArgs false
set_option linter.unusedVariables false
namespace Go.Cb
open Classical

def Z3 (c c':b6):Prop:=∀ f as st r,c f as st=some r→c' f as st=some r

theorem c36 {c c':b6} (h:Z3 c c') {k:Kind} {as:List AV} {b:AV} {st:St} {r:AV×AV×St} (hs:sem k c as b st=some r):sem k c' as b st=some r:=by
 cases k
 case call f =>
  simp only [sem,q9] at hs ⊢
  split at hs
  · rename_i hp
    rw [if_pos hp]
    obtain ⟨x,hx,rfl⟩:=Option.map_eq_some_iff.1 hs
    rw [h _ _ _ _ hx]
    rfl
  · cases hs
 case callA f m =>
  simp only [sem,z6] at hs ⊢
  cases hc:q9 f c (as.take m) b st with
  | none=>rw [hc] at hs; cases hs
  | some x =>
   rw [hc] at hs
   have:q9 f c' (as.take m) b st=some x:=by
    unfold q9 at hc ⊢
    split at hc
    · rename_i hp
      rw [if_pos hp]
      obtain ⟨y,hy,rfl⟩:=Option.map_eq_some_iff.1 hc
      rw [h _ _ _ _ hy]
      rfl
    · cases hc
   rw [this]
   exact hs
 case callV =>
  simp only [sem] at hs ⊢
  unfold C8 at hs ⊢
  split at hs
  · split at hs
    · rename_i hp
      simp only [if_pos hp]
      obtain ⟨x,hx,rfl⟩:=Option.map_eq_some_iff.1 hs
      rw [h _ _ _ _ hx]
      rfl
    · cases hs
  · cases hs
 all_goals exact hs

theorem b0C {c c':b6} (h:Z3 c c') {o:AOper} {σ σ':Sig} (hs:C2 c o σ=some σ'):C2 c' o σ=some σ':=by
 obtain ⟨r,b',st',h1,rfl⟩:=k9 hs
 exact a1K (c36 h h1)
theorem b3c {c c':b6} (h:Z3 c c') {o:AOper} {σ σ':Sig} (hs:e8 c o σ=some σ'):e8 c' o σ=some σ':=by
 unfold e8 at hs ⊢
 split at hs
 · exact b0C h hs
 · split at hs
   · split at hs
     · rename_i hc; rw [if_pos hc]; exact b0C h hs
     · rename_i hc; rw [if_neg hc]; exact hs
   · exact hs
   · cases hs
theorem a2E {c c':b6} (h:Z3 c c'):∀ {os:List AOper} {σ σ':Sig},g9 c os σ=some σ'→g9 c' os σ=some σ'
 | [],_,_,hs=>hs
 | o::os,σ,σ',hs=>by
  simp only [g9] at hs ⊢
  cases hq:e8 c o σ with
  | none=>simp [hq] at hs
  | some σ1 =>
   simp only [hq] at hs
   simp only [b3c h hq]
   exact a2E h hs
theorem a3B {body body':List AV→St→Option Out} (h:∀ fr st r,body fr st=some r→body' fr st=some r):∀ {n m:Nat} {fr:List AV} {st:St} {r:Out},n≤m→F0 body n fr st=some r→F0 body' m fr st=some r
 | 0,_,_,_,_,_,hs=>by simp [F0] at hs
 | n+1,0,_,_,_,hle,_=>by omega
 | n+1,m+1,fr,st,r,hle,hs=>by
  simp only [F0] at hs ⊢
  cases hq:body fr st with
  | none=>simp [hq] at hs
  | some o =>
   rw [hq] at hs
   rw [h _ _ _ hq]
   obtain ⟨e,fr1,st1⟩:=o
   cases e with
   | normal=>exact a3B h (by omega) hs
   | exit id=>exact hs
   | ret=>exact hs
theorem D2 {c c':b6} (h:Z3 c c') {n m:Nat} (hle:n≤m):∀ {x:ACode} {fr:List AV} {st:St} {r:Out},b9 c n x fr st=some r→b9 c' m x fr st=some r
 | .skip,_,_,_,hs=>hs
 | .exit _,_,_,_,hs=>hs
 | .ret,_,_,_,hs=>hs
 | .reg kill ops,fr,st,r,hs=>by
  simp only [b9] at hs ⊢
  cases hq:g9 c ops ⟨e7 kill fr,fun _=>.undef,st⟩ with
  | none=>simp [hq] at hs
  | some σ=>rw [hq] at hs; rw [a2E h hq]; exact hs
 | .test kill ops x a b,fr,st,r,hs=>by
  rw [a2W] at hs ⊢
  rw [X0] at hs ⊢
  cases hq:g9 c ops ⟨e7 kill fr,fun _=>.undef,st⟩ with
  | none=>rw [hq] at hs; cases hs
  | some σ =>
   rw [hq] at hs
   rw [a2E h hq]
   rw [o9] at hs ⊢
   unfold br at hs ⊢
   split at hs
   · exact D2 h hle hs
   · exact D2 h hle hs
   · cases hs
 | .either kill a b,fr,st,r,hs=>by
  simp only [b9] at hs ⊢
  obtain ⟨oa,ob,ea,eb,ka,kb⟩:=a0n hs
  rw [D2 h hle ea,D2 h hle eb,a5j (ka.trans kb.symm),ka]
 | .seq a b,fr,st,r,hs=>by
  rw [exec_seqK] at hs ⊢
  cases hq:b9 c n a fr st with
  | none=>rw [hq] at hs; cases hs
  | some o =>
   rw [hq] at hs
   rw [D2 h hle hq]
   obtain ⟨e,fr1,st1⟩:=o
   cases e with
   | normal=>exact D2 h hle hs
   | exit id=>exact hs
   | ret=>exact hs
 | .blk id a,fr,st,r,hs=>by
  simp only [b9] at hs ⊢
  cases hq:b9 c n a fr st with
  | none=>rw [hq] at hs; cases hs
  | some o=>rw [hq] at hs; rw [D2 h hle hq]; exact hs
 | .loop a,fr,st,r,hs=>by
  simp only [b9] at hs ⊢
  exact a3B (fun _ _ _ hb=>D2 h hle hb) hle hs
theorem b4v {c c':b6} (h:Z3 c c') {n m:Nat} (hle:n≤m) {fn:AFn} {args:List AV} {st:St} {r:AV×St} (hs:fn.run c n args st=some r):fn.run c' m args st=some r:=by
 have hl:args.length=fn.np:=by
  unfold AFn.run at hs
  split at hs
  · assumption
  · cases hs
 rw [a0Y _ _ _ _ _ hl] at hs ⊢
 cases hq:b9 c n fn.code (args++List.replicate (fn.nv - fn.np) .undef) st with
 | none=>rw [hq] at hs; cases hs
 | some o=>rw [hq] at hs; rw [D2 h hle hq]; exact hs
theorem P7 {tbl:Nat→Option AFn}:∀ {n m:Nat},n≤m→Z3 (l3 tbl n) (l3 tbl m)
 | 0,_,_,_,_,_,_,hs=>by simp [l3] at hs
 | n+1,0,hle,_,_,_,_,_=>by omega
 | n+1,m+1,hle,f,as,st,r,hs=>by
  simp only [l3] at hs ⊢
  cases htb:tbl f with
  | none=>simp [htb] at hs
  | some fn =>
   simp only [htb] at hs ⊢
   cases he:fn.ext with
   | some e=>simp only [he] at hs ⊢; exact hs
   | none =>
    simp only [he] at hs ⊢
    exact b4v (P7 (by omega)) (by omega) hs

def Ev (tbl:Nat→Option AFn) (f:Nat) (as:List AV) (st:St) (r:AV) (st':St):Prop:=∃ n,l3 tbl n f as st=some (r,st')
theorem Ev.ge {tbl:Nat→Option AFn} {f:Nat} {as:List AV} {st:St} {r:AV} {st':St} (h:Ev tbl f as st r st'):∃ n0,∀ n,n0≤n→l3 tbl n f as st=some (r,st') :=
 let ⟨n,hn⟩:=h; ⟨n,fun m hm=>P7 hm _ _ _ _ hn⟩
end Go.Cb
/-
 THE ABSTRACT MACHINE, part 32: rules for what code comes to, with enough fuel.
-/
set_option maxRecDepth 4000
set_option linter.unusedVariables false
namespace Go.Cb
open Classical

section
variable {tbl:Nat→Option AFn}

def XC (tbl:Nat→Option AFn) (x:ACode) (fr:List AV) (st:St) (out:Out):Prop:=∃ n,b9 (l3 tbl n) n x fr st=some out
theorem XC.ge {x:ACode} {fr:List AV} {st:St} {out:Out} (h:XC tbl x fr st out):∃ n0,∀ n,n0≤n→b9 (l3 tbl n) n x fr st=some out :=
 let ⟨n,hn⟩:=h; ⟨n,fun m hm=>D2 (P7 hm) hm hn⟩

def LX (tbl:Nat→Option AFn) (x:ACode) (fr:List AV) (st:St) (out:Out):Prop:=∃ n k,F0 (b9 (l3 tbl n) n x) k fr st=some out

theorem LX.done {x:ACode} {fr:List AV} {st:St} {e:Ex} {fr':List AV} {st':St} (h:XC tbl x fr st (e,fr',st')) (he:e≠.normal):LX tbl x fr st (e,fr',st'):=by
 obtain ⟨n,hn⟩:=h
 refine ⟨n,1,?_⟩
 simp only [F0,hn]
 cases e with
 | normal=>exact absurd rfl he
 | exit id=>rfl
 | ret=>rfl
theorem LX.step {x:ACode} {fr fr1:List AV} {st st1:St} {out:Out} (h:XC tbl x fr st (.normal,fr1,st1)) (h':LX tbl x fr1 st1 out):LX tbl x fr st out:=by
 obtain ⟨n,hn⟩:=h
 obtain ⟨m,k,hm⟩:=h'
 refine ⟨max n m,k+1,?_⟩
 have h1:=D2 (P7 (tbl:=tbl) (Nat.le_max_left n m)) (Nat.le_max_left n m) hn
 simp only [F0,h1]
 exact a3B (fun _ _ _ hb=>D2 (P7 (Nat.le_max_right n m)) (Nat.le_max_right n m) hb) (Nat.le_refl k) hm
theorem XC.loop {x:ACode} {fr:List AV} {st:St} {out:Out} (h:LX tbl x fr st out):XC tbl (.loop x) fr st out:=by
 obtain ⟨n,k,h⟩:=h
 refine ⟨max n k,?_⟩
 simp only [b9]
 exact a3B (fun _ _ _ hb=>D2 (P7 (Nat.le_max_left n k)) (Nat.le_max_left n k) hb) (Nat.le_max_right n k) h
theorem XC.seq {a b:ACode} {fr fr1:List AV} {st st1:St} {out:Out} (h:XC tbl a fr st (.normal,fr1,st1)) (h':XC tbl b fr1 st1 out):XC tbl (.seq a b) fr st out:=by
 obtain ⟨n,hn⟩:=h
 obtain ⟨m,hm⟩:=h'
 refine ⟨max n m,?_⟩
 rw [exec_seqK,D2 (P7 (Nat.le_max_left n m)) (Nat.le_max_left n m) hn,a3X]
 exact D2 (P7 (Nat.le_max_right n m)) (Nat.le_max_right n m) hm
theorem XC.blk {id:Nat} {a:ACode} {fr fr1:List AV} {st st1:St} {e:Ex} (h:XC tbl a fr st (e,fr1,st1)):XC tbl (.blk id a) fr st (if e=.exit id then .normal else e,fr1,st1):=by
 obtain ⟨n,hn⟩:=h
 refine ⟨n,?_⟩
 simp only [b9,hn]
 cases e with
 | normal=>rfl
 | exit id' =>
  by_cases hid:id'=id
  · subst hid; simp
  · simp [hid]
 | ret=>rfl
theorem XC.skip {fr:List AV} {st:St}:XC tbl .skip fr st (.normal,fr,st):=⟨0,rfl⟩
theorem XC.exit {id:Nat} {fr:List AV} {st:St}:XC tbl (.exit id) fr st (.exit id,fr,st):=⟨0,rfl⟩
theorem XC.ret {fr:List AV} {st:St}:XC tbl .ret fr st (.ret,fr,st):=⟨0,rfl⟩

theorem XC.of {x:ACode} {fr:List AV} {st:St} {out:Out} (h:∃ n0,∀ n,n0≤n→b9 (l3 tbl n) n x fr st=some out):XC tbl x fr st out :=
 let ⟨n,hn⟩:=h; ⟨n,hn n (Nat.le_refl n)⟩
theorem XC.goes {x a:ACode} {fr fr1:List AV} {st st1:St} {out:Out} (h:∃ n0,∀ n,n0≤n→b9 (l3 tbl n) n x fr st=b9 (l3 tbl n) n a fr1 st1) (h':XC tbl a fr1 st1 out):XC tbl x fr st out:=by
 obtain ⟨n,hn⟩:=h
 obtain ⟨m,hm⟩:=h'.ge
 exact ⟨max n m,by rw [hn _ (Nat.le_max_left n m)]; exact hm _ (Nat.le_max_right n m)⟩

theorem Ev.of_body {f:Nat} {fn:AFn} {as:List AV} {st:St} {e:Ex} {fr':List AV} {st':St} {r:AV×St} (htb:tbl f=some fn) (he:fn.ext=none) (hl:as.length=fn.np)
 (h:XC tbl fn.code (as++List.replicate (fn.nv - fn.np) .undef) st (e,fr',st')) (hr:finK fn.results (some (e,fr',st'))=some r):Ev tbl f as st r.1 r.2:=by
 obtain ⟨n,hn⟩:=h
 refine ⟨n+1,?_⟩
 simp only [l3,htb,he]
 rw [a0Y _ _ _ _ _ hl,hn,hr]
theorem Ev.of_ext {f:Nat} {fn:AFn} {as:List AV} {st:St} {e:List AV→St→Option (AV×St)} {r:AV×St} (htb:tbl f=some fn) (he:fn.ext=some e) (h:e as st=some r):Ev tbl f as st r.1 r.2 :=
 ⟨1,by simp only [l3,htb,he]; exact h⟩
end
end Go.Cb
/-
 THE ABSTRACT MACHINE, part 42: the operations told so that the kernel reckons them quickly, at any kind of answer (printed out of parts 38 and 39).
-/
set_option maxRecDepth 4000
set_option linter.unusedVariables false
set_option linter.unusedSimpArgs false
namespace Go.Cb.G
open Go Go.Cb
variable {ρ:Type}
/-! taking values apart -/
section
noncomputable def onI (x:AV) (e:(Option ρ)) (k:IntKind→Int→(Option ρ)):(Option ρ):=AV.rec (motive_1:=fun _=>(Option ρ)) (motive_2:=fun _=>Unit) (motive_3:=fun _=>Unit)
 e (fun _=>e) (fun t n=>k t n) (fun _=>e) (fun _ _ _=>e) (fun _ _=>e) e (fun _ _=>e) (fun _ _=>e) (fun _ _=>e) (fun _=>e) e (fun _ _ _ _ _=>e) e (fun _ _=>e) (fun _ _=>e) (fun _ _ _=>e) e (fun _ _ _ _=>e) (fun _ _=>e) e
 () (fun _ _ _ _=>()) () (fun _ _ _ _=>()) x
noncomputable def b7L (x:AV) (e:(Option ρ)) (k:IntKind→Int→(Option ρ)) (l:List Nat→(Option ρ)):(Option ρ):=AV.rec (motive_1:=fun _=>(Option ρ)) (motive_2:=fun _=>Unit) (motive_3:=fun _=>Unit)
 e (fun _=>e) (fun t n=>k t n) (fun s=>l s) (fun _ _ _=>e) (fun _ _=>e) e (fun _ _=>e) (fun _ _=>e) (fun _ _=>e) (fun _=>e) e (fun _ _ _ _ _=>e) e (fun _ _=>e) (fun _ _=>e) (fun _ _ _=>e) e (fun _ _ _ _=>e) (fun _ _=>e) e
 () (fun _ _ _ _=>()) () (fun _ _ _ _=>()) x
noncomputable def onS (x:AV) (e:(Option ρ)) (k:List Nat→(Option ρ)):(Option ρ):=AV.rec (motive_1:=fun _=>(Option ρ)) (motive_2:=fun _=>Unit) (motive_3:=fun _=>Unit)
 e (fun _=>e) (fun t n=>e) (fun s=>k s) (fun _ _ _=>e) (fun _ _=>e) e (fun _ _=>e) (fun _ _=>e) (fun _ _=>e) (fun _=>e) e (fun _ _ _ _ _=>e) e (fun _ _=>e) (fun _ _=>e) (fun _ _ _=>e) e (fun _ _ _ _=>e) (fun _ _=>e) e
 () (fun _ _ _ _=>()) () (fun _ _ _ _=>()) x
noncomputable def onB (x:AV) (e:(Option ρ)) (k:Bool→(Option ρ)):(Option ρ):=AV.rec (motive_1:=fun _=>(Option ρ)) (motive_2:=fun _=>Unit) (motive_3:=fun _=>Unit)
 e (fun b=>k b) (fun t n=>e) (fun s=>e) (fun _ _ _=>e) (fun _ _=>e) e (fun _ _=>e) (fun _ _=>e) (fun _ _=>e) (fun _=>e) e (fun _ _ _ _ _=>e) e (fun _ _=>e) (fun _ _=>e) (fun _ _ _=>e) e (fun _ _ _ _=>e) (fun _ _=>e) e
 () (fun _ _ _ _=>()) () (fun _ _ _ _=>()) x
noncomputable def c1f (x:AV) (e:(Option ρ)) (k:Bool→(Option ρ)) (t:List AV→(Option ρ)):(Option ρ):=AV.rec (motive_1:=fun _=>(Option ρ)) (motive_2:=fun _=>Unit) (motive_3:=fun _=>Unit)
 e (fun b=>k b) (fun t n=>e) (fun s=>e) (fun _ _ _=>e) (fun _ _=>e) e (fun _ _=>e) (fun _ _=>e) (fun _ _=>e) (fun _=>e) e (fun _ _ _ _ _=>e) e (fun _ _=>e) (fun vs _=>t vs) (fun _ _ _=>e) e (fun _ _ _ _=>e) (fun _ _=>e) e
 () (fun _ _ _ _=>()) () (fun _ _ _ _=>()) x
noncomputable def onL (x:AV) (e:(Option ρ)) (k:List (List AV)→(Option ρ)):(Option ρ):=AV.rec (motive_1:=fun _=>(Option ρ)) (motive_2:=fun _=>Unit) (motive_3:=fun _=>Unit)
 e (fun b=>e) (fun t n=>e) (fun s=>e) (fun _ xs _=>k xs) (fun _ _=>e) e (fun _ _=>e) (fun _ _=>e) (fun _ _=>e) (fun _=>e) e (fun _ _ _ _ _=>e) e (fun _ _=>e) (fun _ _=>e) (fun _ _ _=>e) e (fun _ _ _ _=>e) (fun _ _=>e) e
 () (fun _ _ _ _=>()) () (fun _ _ _ _=>()) x
noncomputable def onP (x:AV) (e:(Option ρ)) (k:Nat→Nat→(Option ρ)):(Option ρ):=AV.rec (motive_1:=fun _=>(Option ρ)) (motive_2:=fun _=>Unit) (motive_3:=fun _=>Unit)
 e (fun b=>e) (fun t n=>e) (fun s=>e) (fun _ xs _=>e) (fun o f=>k o f) e (fun _ _=>e) (fun _ _=>e) (fun _ _=>e) (fun _=>e) e (fun _ _ _ _ _=>e) e (fun _ _=>e) (fun _ _=>e) (fun _ _ _=>e) e (fun _ _ _ _=>e) (fun _ _=>e) e
 () (fun _ _ _ _=>()) () (fun _ _ _ _=>()) x
noncomputable def a6B (x:AV) (e:(Option ρ)) (k:Nat→Nat→(Option ρ)) (l:List AV→(Option ρ)) (m:Nat→Nat→(Option ρ)):(Option ρ):=AV.rec (motive_1:=fun _=>(Option ρ)) (motive_2:=fun _=>Unit) (motive_3:=fun _=>Unit)
 e (fun b=>e) (fun t n=>e) (fun s=>e) (fun _ xs _=>e) (fun o f=>k o f) e (fun cs _=>l cs) (fun i f=>m i f) (fun _ _=>e) (fun _=>e) e (fun _ _ _ _ _=>e) e (fun _ _=>e) (fun _ _=>e) (fun _ _ _=>e) e (fun _ _ _ _=>e) (fun _ _=>e) e
 () (fun _ _ _ _=>()) () (fun _ _ _ _=>()) x
noncomputable def onR (x:AV) (e:(Option ρ)) (l:List AV→(Option ρ)):(Option ρ):=AV.rec (motive_1:=fun _=>(Option ρ)) (motive_2:=fun _=>Unit) (motive_3:=fun _=>Unit)
 e (fun b=>e) (fun t n=>e) (fun s=>e) (fun _ xs _=>e) (fun o f=>e) e (fun cs _=>l cs) (fun _ _=>e) (fun _ _=>e) (fun _=>e) e (fun _ _ _ _ _=>e) e (fun _ _=>e) (fun _ _=>e) (fun _ _ _=>e) e (fun _ _ _ _=>e) (fun _ _=>e) e
 () (fun _ _ _ _=>()) () (fun _ _ _ _=>()) x
noncomputable def b0Q (x:AV) (e:(Option ρ)) (l:List AV→(Option ρ)):(Option ρ):=AV.rec (motive_1:=fun _=>(Option ρ)) (motive_2:=fun _=>Unit) (motive_3:=fun _=>Unit)
 e (fun b=>e) (fun t n=>e) (fun s=>e) (fun _ xs _=>e) (fun o f=>e) e (fun cs _=>e) (fun _ _=>e) (fun cs _=>l cs) (fun _=>e) e (fun _ _ _ _ _=>e) e (fun _ _=>e) (fun _ _=>e) (fun _ _ _=>e) e (fun _ _ _ _=>e) (fun _ _=>e) e
 () (fun _ _ _ _=>()) () (fun _ _ _ _=>()) x
noncomputable def b7E (x:AV) (e:(Option ρ)) (l:Nat→Nat→(Option ρ)):(Option ρ):=AV.rec (motive_1:=fun _=>(Option ρ)) (motive_2:=fun _=>Unit) (motive_3:=fun _=>Unit)
 e (fun b=>e) (fun t n=>e) (fun s=>e) (fun _ xs _=>e) (fun o f=>e) e (fun cs _=>e) (fun i f=>l i f) (fun cs _=>e) (fun _=>e) e (fun _ _ _ _ _=>e) e (fun _ _=>e) (fun _ _=>e) (fun _ _ _=>e) e (fun _ _ _ _=>e) (fun _ _=>e) e
 () (fun _ _ _ _=>()) () (fun _ _ _ _=>()) x

theorem a0b (x:AV) (e:(Option ρ)) (k:IntKind→Int→(Option ρ)):onI x e k=match x with|.int t n=>k t n|_=>e:=by cases x <;> rfl
theorem a9Q (x:AV) (e:(Option ρ)) (k:IntKind→Int→(Option ρ)) (l:List Nat→(Option ρ)):b7L x e k l=match x with|.int t n=>k t n|.str s=>l s|_=>e:=by cases x <;> rfl
theorem a2q (x:AV) (e:(Option ρ)) (k:List Nat→(Option ρ)):onS x e k=match x with|.str s=>k s|_=>e:=by cases x <;> rfl
theorem a7V (x:AV) (e:(Option ρ)) (k:Bool→(Option ρ)):onB x e k=match x with|.bool b=>k b|_=>e:=by cases x <;> rfl
theorem b95 (x:AV) (e:(Option ρ)) (k:Bool→(Option ρ)) (t:List AV→(Option ρ)):c1f x e k t=match x with|.bool b=>k b|.tuple vs=>t vs|_=>e:=by cases x <;> rfl
theorem a8g (x:AV) (e:(Option ρ)) (k:List (List AV)→(Option ρ)):onL x e k=match x with|.list _ xs=>k xs|_=>e:=by cases x <;> rfl
theorem a7X (x:AV) (e:(Option ρ)) (k:Nat→Nat→(Option ρ)):onP x e k=match x with|.ptr o f=>k o f|_=>e:=by cases x <;> rfl
theorem a4j (x:AV) (e:(Option ρ)) (k:Nat→Nat→(Option ρ)) (l:List AV→(Option ρ)) (m:Nat→Nat→(Option ρ)):a6B x e k l m=match x with|.ptr o f=>k o f|.ro cs=>l cs|.loc i f=>m i f|_=>e:=by cases x <;> rfl
theorem c3W (x:AV) (e:(Option ρ)) (l:List AV→(Option ρ)):onR x e l=match x with|.ro cs=>l cs|_=>e:=by cases x <;> rfl
theorem a5F (x:AV) (e:(Option ρ)) (l:List AV→(Option ρ)):b0Q x e l=match x with|.box cs=>l cs|_=>e:=by cases x <;> rfl
theorem b0l (x:AV) (e:(Option ρ)) (l:Nat→Nat→(Option ρ)):b7E x e l=match x with|.loc i f=>l i f|_=>e:=by cases x <;> rfl
end

noncomputable def kIx (k:IntKind):Nat:=IntKind.rec (motive:=fun _=>Nat) 0 1 2 3 4 5 6 7 k
noncomputable def cB (b:Bool) (x y:(Option ρ)):(Option ρ):=Bool.rec (motive:=fun _=>(Option ρ)) y x b
theorem P4 (b:Bool) (x y:(Option ρ)):cB b x y=if b=true then x else y:=by cases b <;> rfl
theorem a2y (a b:IntKind):Nat.beq (kIx a) (kIx b)=decide (a=b):=by cases a <;> cases b <;> rfl
noncomputable def bo (b:Bool) (k:AV→(Option ρ)):(Option ρ):=cB b (k (.bool true)) (k (.bool false))
theorem a4N (b:Bool) (k:AV→(Option ρ)):bo b k=k (.bool b):=by cases b <;> rfl
noncomputable def a1Y (n:Nat) (k:Nat→(Option ρ)):(Option ρ):=Nat.rec (motive:=fun _=>(Option ρ)) (k 0) (fun m _=>k (Nat.succ m)) n
theorem X7 (n:Nat) (k:Nat→(Option ρ)):a1Y n k=k n:=by cases n <;> rfl
noncomputable def nn (a b:Int) (e:(Option ρ)) (k:Nat→Nat→(Option ρ)):(Option ρ):=Int.rec (motive:=fun _=>(Option ρ)) (fun a=>Int.rec (motive:=fun _=>(Option ρ)) (fun b=>k a b) (fun _=>e) b) (fun _=>e) a
theorem a3D (a b:Int) (e:(Option ρ)) (k:Nat→Nat→(Option ρ)):nn a b e k=match a,b with|.ofNat a,.ofNat b=>k a b|_,_=>e:=by cases a <;> cases b <;> rfl
noncomputable def eqF (x:List Nat):List Nat→Bool:=List.rec (motive:=fun _=>List Nat→Bool) (fun y=>List.rec (motive:=fun _=>Bool) true (fun _ _ _=>false) y)
 (fun a _ ih y=>List.rec (motive:=fun _=>Bool) false (fun b t _=>Bool.rec (motive:=fun _=>Bool) false (ih t) (Nat.beq a b)) y) x
theorem a8A:∀ x y:List Nat,eqF x y=eqN x y
 | [],[]=>rfl
 | [],_::_=>rfl
 | _::_,[]=>rfl
 | a::x,b::y=>by
  have ih:=a8A x y
  show (Bool.rec (motive:=fun _=>Bool) false (eqF x y) (Nat.beq a b))=(Nat.beq a b && eqN x y)
  rw [ih]
  cases Nat.beq a b <;> rfl
noncomputable def a2Q {β:Type} (l:List β) (e:(Option ρ)) (k:β→(Option ρ)):Nat→(Option ρ):=List.rec (motive:=fun _=>Nat→(Option ρ)) (fun _=>e) (fun a _ ih i=>Nat.rec (motive:=fun _=>(Option ρ)) (k a) (fun j _=>ih j) i) l
theorem a1J {β:Type}:∀ (l:List β) (e:(Option ρ)) (k:β→(Option ρ)) (i:Nat),a2Q l e k i=match l[i]? with|some a=>k a|none=>e
 | [],e,k,i=>by cases i <;> rfl
 | a::l,e,k,0=>rfl
 | a::l,e,k,i+1=>by
  have:=a1J l e k i
  show a2Q l e k i=_
  rw [this]
  simp
noncomputable def I4 {β:Type} (l:List β):Nat:=List.rec (motive:=fun _=>Nat) 0 (fun _ _ n=>Nat.add n 1) l
theorem F5 {β:Type}:∀ l:List β,I4 l=l.length
 | []=>rfl
 | a::l=>by
  show Nat.add (I4 l) 1=_
  rw [F5 l]
  rfl
noncomputable def a4Y (n:Nat):List AV→List AV:=Nat.rec (motive:=fun _=>List AV→List AV) (fun l=>l) (fun _ ih l=>List.rec (motive:=fun _=>List AV) [] (fun _ t _=>ih t) l) n
theorem Y3:∀ (n:Nat) (l:List AV),a4Y n l=l.drop n
 | 0,l=>rfl
 | n+1,[]=>rfl
 | n+1,a::l=>Y3 n l
noncomputable def a6D {β:Type} (i:Nat) (l:List β):List β:=Nat.rec (motive:=fun _=>List β) l (fun _ ih=>List.rec (motive:=fun _=>List β) [] (fun _ t _=>t) ih) i
theorem a4s {β:Type}:∀ (i:Nat) (l:List β),a6D i l=l.drop i
 | 0,l=>rfl
 | i+1,l=>by
  have:=a4s i l
  show List.rec (motive:=fun _=>List β) [] (fun _ t _=>t) (a6D i l)=_
  rw [this,show l.drop (i+1)=(l.drop i).drop 1 by rw [List.drop_drop]]
  cases l.drop i <;> rfl
noncomputable def atO {β:Type} (l:List β) (e:(Option ρ)) (k:β→(Option ρ)) (i:Nat):(Option ρ):=List.rec (motive:=fun _=>(Option ρ)) e (fun a _ _=>k a) (a6D i l)
theorem b26 {β:Type} (l:List β) (e:(Option ρ)) (k:β→(Option ρ)) (i:Nat):atO l e k i=match l[i]? with|some a=>k a|none=>e:=by
 unfold atO
 rw [a4s]
 have h:l[i]?=(l.drop i)[0]?:=by simp
 rw [h]
 cases l.drop i <;> rfl
noncomputable def a6z {β:Type} (n:Nat) (l:List β) (k:List β→(Option ρ)):(Option ρ):=Nat.rec (motive:=fun _=>List β→(List β→(Option ρ))→(Option ρ)) (fun _ k=>k []) (fun _ ih l k=>List.rec (motive:=fun _=>(Option ρ)) (k []) (fun a t _=>ih t fun r=>k (a::r)) l) n l k
theorem a2m {β:Type}:∀ (n:Nat) (l:List β) (k:List β→(Option ρ)),a6z n l k=k (l.take n)
 | 0,l,k=>by show k []=_; rw [List.take_zero]
 | n+1,[],k=>rfl
 | n+1,a::l,k=>a2m n l fun r=>k (a::r)
noncomputable def a4m {β:Type} (l r:List β) (k:List β→(Option ρ)):(Option ρ):=List.rec (motive:=fun _=>(List β→(Option ρ))→(Option ρ)) (fun k=>k r) (fun a _ ih k=>ih fun t=>k (a::t)) l k
theorem a3G {β:Type} (r:List β):∀ (l:List β) (k:List β→(Option ρ)),a4m l r k=k (l++r)
 | [],k=>rfl
 | a::l,k=>a3G r l fun t=>k (a::t)
noncomputable def b7X (l:List AV) (e:(Option ρ)) (k:AV→(Option ρ)):(Option ρ):=List.rec (motive:=fun _=>(Option ρ)) e (fun a _ _=>k a) l
theorem b7S (l:List AV) (e:(Option ρ)) (k:AV→(Option ρ)):b7X l e k=match l with|a::_=>k a|[]=>e:=by cases l <;> rfl

noncomputable def w1K (x:AV) (k:AV→(Option ρ)):(Option ρ):=AV.rec (motive_1:=fun _=>(Option ρ)) (motive_2:=fun _=>Unit) (motive_3:=fun _=>Unit)
 (k .undef) (fun b=>k (.bool b)) (fun t n=>k (.int t n)) (fun s=>k (.str s)) (fun _ xs _=>k (.list false xs)) (fun o f=>k (.ptr o f)) (k .nilp) (fun cs _=>k (.ro cs)) (fun i f=>k (.loc i f)) (fun cs _=>k (.box cs)) (fun o=>k (.map o)) (k .nilm) (fun f a c _ _=>k (.func f a c)) (k .nilf) (fun cs _=>k (.agg cs)) (fun vs _=>k (.tuple vs)) (fun t v _=>k (.iface t v)) (k .nili) (fun o f n s=>k (.sl o f n s)) (fun xs _=>k (.fresh xs)) (k .nils)
 () (fun _ _ _ _=>()) () (fun _ _ _ _=>()) x
theorem b3a (x:AV) (k:AV→(Option ρ)):w1K x k=k x.weak1:=by cases x <;> rfl
noncomputable def b5h (l:List AV) (k:List AV→(Option ρ)):(Option ρ):=List.rec (motive:=fun _=>(List AV→(Option ρ))→(Option ρ)) (fun k=>k []) (fun a _ ih k=>w1K a fun w=>ih fun r=>k (w::r)) l k
theorem b0h:∀ (l:List AV) (k:List AV→(Option ρ)),b5h l k=k (l.map AV.weak1)
 | [],k=>rfl
 | a::l,k=>by
  show w1K a (fun w=>b5h l fun r=>k (w::r))=_
  rw [b3a,b0h l]
  rfl

noncomputable def a4L {β:Type} (l:List β) (e:(Option ρ)) (k:List β→(Option ρ)):(Option ρ):=List.rec (motive:=fun _=>(Option ρ)) e (fun _ l _=>List.rec (motive:=fun _=>(Option ρ)) e (fun _ l _=>List.rec (motive:=fun _=>(Option ρ)) e (fun _ l _=>List.rec (motive:=fun _=>(Option ρ)) e (fun _ l _=>List.rec (motive:=fun _=>(Option ρ)) e (fun _ l _=>List.rec (motive:=fun _=>(Option ρ)) e (fun _ l _=>List.rec (motive:=fun _=>(Option ρ)) e (fun _ l _=>List.rec (motive:=fun _=>(Option ρ)) e (fun _ l _=>k l) l) l) l) l) l) l) l) l
theorem b7r {β:Type} (l:List β) (e:(Option ρ)) (k:List β→(Option ρ)):a4L l e k=if 8≤l.length then k (l.drop 8) else e:=by
 match l with
 | []=>rfl
 | [_]=>rfl
 | [_,_]=>rfl
 | [_,_,_]=>rfl
 | [_,_,_,_]=>rfl
 | [_,_,_,_,_]=>rfl
 | [_,_,_,_,_,_]=>rfl
 | [_,_,_,_,_,_,_]=>rfl
 | _::_::_::_::_::_::_::_::t=>rw [if_pos (by simp)]; rfl
noncomputable def b0T {β:Type} (l:List β) (e:(Option ρ)) (k:β→(Option ρ)) (i:Nat):(Option ρ):=Nat.rec (motive:=fun _=>List β→(Option ρ)) (fun l=>a2Q l e k (Nat.mod i 8)) (fun _ ih l=>a4L l e ih) (Nat.div i 8) l
theorem b0c {β:Type} (e:(Option ρ)) (k:β→(Option ρ)) (r:Nat):∀ (q:Nat) (l:List β),Nat.rec (motive:=fun _=>List β→(Option ρ)) (fun l=>a2Q l e k r) (fun _ ih l=>a4L l e ih) q l=a2Q l e k (8*q+r)
 | 0,l=>by show a2Q l e k r=_; rw [Nat.mul_zero,Nat.zero_add]
 | q+1,l=>by
  show a4L l e (fun l=>Nat.rec (motive:=fun _=>List β→(Option ρ)) (fun l=>a2Q l e k r) (fun _ ih l=>a4L l e ih) q l)=_
  rw [b7r,b0c e k r q (l.drop 8),a1J,a1J]
  split
  · rw [List.getElem?_drop,show 8+(8*q+r)=8*(q+1)+r by omega]
  · rw [List.getElem?_eq_none (by omega)]
theorem a5v {β:Type} (l:List β) (e:(Option ρ)) (k:β→(Option ρ)) (i:Nat):b0T l e k i=match l[i]? with|some a=>k a|none=>e:=by
 unfold b0T
 rw [b0c e k (Nat.mod i 8) (Nat.div i 8) l,a1J,show 8*Nat.div i 8+Nat.mod i 8=i from Nat.div_add_mod i 8]
noncomputable def a2k {β:Type} (l:List β) (e:(Option ρ)) (ih:List β→(List β→(Option ρ))→(Option ρ)) (k:List β→(Option ρ)):(Option ρ):=List.rec (motive:=fun _=>(Option ρ)) e (fun a0 l _=>List.rec (motive:=fun _=>(Option ρ)) e (fun a1 l _=>List.rec (motive:=fun _=>(Option ρ)) e (fun a2 l _=>List.rec (motive:=fun _=>(Option ρ)) e (fun a3 l _=>List.rec (motive:=fun _=>(Option ρ)) e (fun a4 l _=>List.rec (motive:=fun _=>(Option ρ)) e (fun a5 l _=>List.rec (motive:=fun _=>(Option ρ)) e (fun a6 l _=>List.rec (motive:=fun _=>(Option ρ)) e (fun a7 l _=>ih l (fun r=>k (a0::a1::a2::a3::a4::a5::a6::a7::r))) l) l) l) l) l) l) l) l
theorem b0k {β:Type} (l:List β) (e:(Option ρ)) (ih:List β→(List β→(Option ρ))→(Option ρ)) (k:List β→(Option ρ)):a2k l e ih k=if 8≤l.length then ih (l.drop 8) (fun r=>k (l.take 8++r)) else e:=by
 match l with
 | []=>rfl
 | [_]=>rfl
 | [_,_]=>rfl
 | [_,_,_]=>rfl
 | [_,_,_,_]=>rfl
 | [_,_,_,_,_]=>rfl
 | [_,_,_,_,_,_]=>rfl
 | [_,_,_,_,_,_,_]=>rfl
 | _::_::_::_::_::_::_::_::t=>rw [if_pos (by simp)]; rfl
/-! the operations -/
section
variable (c:b6) (b:AV) (s:St) (f:AV→(Option ρ))
noncomputable def b5z (x y:AV):(Option ρ):=b7L x none (fun t m=>onI y none fun u n=>cB (Nat.beq (kIx t) (kIx u)) (nn m n (bo (eqI m n) f) fun a b=>bo (Nat.beq a b) f) none) (fun l=>onS y none fun r=>bo (eqF l r) f)
noncomputable def b7d (x y:AV):(Option ρ):=b7L x none (fun t m=>onI y none fun u n=>cB (Nat.beq (kIx t) (kIx u)) (nn m n (bo (!eqI m n) f) fun a b=>cB (Nat.beq a b) (f (.bool false)) (f (.bool true))) none) (fun l=>onS y none fun r=>cB (eqF l r) (f (.bool false)) (f (.bool true)))
noncomputable def a1s (op:BinOp) (g:Nat→Nat→Bool) (x y:AV):(Option ρ):=onI x (obind (p1 (sem (.bin op) c [x,y] b s)) f) (fun t m=>onI y none fun u n=>cB (Nat.beq (kIx t) (kIx u)) (nn m n (obind (p1 (sem (.bin op) c [.int t m,.int u n] b s)) f) fun a b=>bo (g a b) f) none)
noncomputable def b6B (x y:AV):(Option ρ):=onI x (obind (p1 (sem (.bin .add) c [x,y] b s)) f) (fun t m=>onI y none fun u n=>cB (Nat.beq (kIx t) (kIx u)) (nn m n (obind (p1 (sem (.bin .add) c [.int t m,.int u n] b s)) f)
 fun i j=>a1Y (Nat.add i j) fun r=>cB (Nat.blt r 128) (f (.int t (.ofNat r))) (cB (Nat.beq (kIx t) 3) (cB (Nat.blt r 9223372036854775808) (f (.int t (.ofNat r))) (obind (p1 (sem (.bin .add) c [.int t m,.int u n] b s)) f)) (obind (p1 (sem (.bin .add) c [.int t m,.int u n] b s)) f))) none)
noncomputable def b6Y (x y:AV):(Option ρ):=onI x (obind (p1 (sem (.bin .sub) c [x,y] b s)) f) (fun t m=>onI y none fun u n=>cB (Nat.beq (kIx t) (kIx u)) (nn m n (obind (p1 (sem (.bin .sub) c [.int t m,.int u n] b s)) f)
 fun i j=>cB (Nat.ble j i) (a1Y (Nat.sub i j) fun r=>cB (Nat.blt r 128) (f (.int t (.ofNat r))) (cB (Nat.beq (kIx t) 3) (cB (Nat.blt r 9223372036854775808) (f (.int t (.ofNat r))) (obind (p1 (sem (.bin .sub) c [.int t m,.int u n] b s)) f)) (obind (p1 (sem (.bin .sub) c [.int t m,.int u n] b s)) f))) (obind (p1 (sem (.bin .sub) c [.int t m,.int u n] b s)) f)) none)
noncomputable def b5P (x:AV):(Option ρ):=onB x none fun y=>cB y (f (.bool false)) (f (.bool true))
noncomputable def a7o (x:AV):(Option ρ):=cB x.plain (f x) none
noncomputable def b2x (x y z:AV):(Option ρ):=onB x none fun v=>cB v (a7o f y) (a7o f z)
noncomputable def b6T (x:AV):(Option ρ):=a6B x (obind (p1 (sem .nilchk c [x] b s)) f) (fun o i=>f (.ptr o i)) (fun cs=>f (.ro cs)) (fun i j=>f (.loc i j))
noncomputable def b5S (d:Nat) (x:AV):(Option ρ):=a6B x none (fun o i=>a1Y (Nat.add i d) fun i=>f (.ptr o i)) (fun cs=>f (.ro (a4Y d cs))) (fun o i=>a1Y (Nat.add i d) fun i=>f (.loc o i))
noncomputable def a3t (ag:Bool) (n:Nat) (cs:List AV):(Option ρ):=cB ag (cB (Nat.ble n (I4 cs)) (a6z n cs fun r=>b5h r fun r=>f (.agg r)) none) (b7X cs none fun x=>w1K x f)
noncomputable def a7Z (x:Obj) (k:List AV→(Option ρ)):(Option ρ):=Obj.rec (motive:=fun _=>(Option ρ)) k (fun _=>none) none x
noncomputable def a1T (ag:Bool) (n:Nat) (x:AV):(Option ρ):=onP x none fun o i=>b0T s none (fun ob=>a7Z ob fun cs=>a3t f ag n (a4Y i cs)) o
noncomputable def a4X (ag:Bool) (n:Nat) (x:AV):(Option ρ):=onR x none fun cs=>a3t f ag n cs
noncomputable def b1Y (i:Nat) (ag:Bool) (n:Nat) (x:AV):(Option ρ):=b7E x none fun j off=>b0Q b none fun cs=>cB (Nat.beq i j) (a3t f ag n (a4Y off cs)) none
noncomputable def b1L (x:AV):(Option ρ):=onS x none fun l=>a1Y (I4 l) fun n=>f (.int .i64 (.ofNat n))
noncomputable def b2u (x:AV):(Option ρ):=onL x (obind (p1 (sem .lenL c [x] b s)) f) fun l=>a1Y (I4 l) fun n=>f (.int .i64 (.ofNat n))
noncomputable def b7m (x y:AV):(Option ρ):=onS x none fun l=>onI y none fun _ n=>Int.rec (motive:=fun _=>(Option ρ)) (fun i=>atO l none (fun m=>f (.int .u8 (.ofNat m))) i) (fun _=>none) n
noncomputable def b6f (sz:Nat) (x y:AV):(Option ρ):=onL x (obind (p1 (sem (.iad sz) c [x,y] b s)) f) fun l=>onI y none fun _ n=>Int.rec (motive:=fun _=>(Option ρ)) (fun i=>atO l none (fun r=>cB (Nat.beq (I4 r) sz) (f (.ro r)) none) i) (fun _=>none) n
end

section
variable (c:b6) (b:AV) (s:St) (f:AV→(Option ρ))
theorem b8X (x y:AV):b5z f x y=obind (p1 (sem (.bin .eql) c [x,y] b s)) f:=by
 simp only [b5z,a9Q,a0b,a2q,P4,a4N,a3D,a8A,a2y,sem,v6]
 cases x <;> cases y <;> try rfl
 · rename_i t m u n
   by_cases h:t=u
   · subst h
     cases m <;> cases n <;> simp [i7,p1,obind,eqI]
   · simp [i7,h,p1,obind]
theorem b8a (x y:AV):b7d f x y=obind (p1 (sem (.bin .neq) c [x,y] b s)) f:=by
 simp only [b7d,a9Q,a0b,a2q,P4,a4N,a3D,a8A,a2y,sem,v6]
 cases x <;> cases y <;> try rfl
 · rename_i t m u n
   by_cases h:t=u
   · subst h
     cases m <;> cases n <;> simp [i7,p1,obind,eqI]
     rename_i m n
     by_cases h:m=n
     · subst h; simp
     · have e:Nat.beq m n=false:=Bool.eq_false_iff.mpr (fun q=>h (Nat.eq_of_beq_eq_true q))
       simp [e,h]
   · simp [i7,h,p1,obind]
 · rename_i l r
   simp only [i7,Option.map_some,p1,obind]
   cases eqN l r <;> rfl
theorem b6Z {op:BinOp} (ho:op=.lss∨op=.leq∨op=.gtr∨op=.geq) (t:IntKind) (m:Int) (y:AV) (hy:∀ u n,y≠.int u n):i7 op (.int t m) y=none:=by
 cases y <;> first|(exfalso; exact hy _ _ rfl)|(rcases ho with rfl|rfl|rfl|rfl <;> rfl)
theorem c2R {op:BinOp} (ho:op=.lss∨op=.leq∨op=.gtr∨op=.geq) {t u:IntKind} (h:t≠u) (m n:Int):i7 op (.int t m) (.int u n)=none:=by
 rcases ho with rfl|rfl|rfl|rfl <;> simp [i7,h]
theorem a3s (op:BinOp) (g:Nat→Nat→Bool) (ho:op=.lss∨op=.leq∨op=.gtr∨op=.geq) (hg:∀ (t:IntKind) (i j:Nat),i7 op (.int t (.ofNat i)) (.int t (.ofNat j))=some (.bool (g i j))) (x y:AV):a1s c b s f op g x y=obind (p1 (sem (.bin op) c [x,y] b s)) f:=by
 simp only [a1s,a0b,P4,a4N,a3D,a2y]
 cases x <;> try rfl
 rename_i t m
 cases y
 case int u n =>
  simp only
  by_cases h:t=u
  · subst h
    simp only [decide_true,if_true]
    cases m <;> cases n <;> try rfl
    rename_i i j
    simp only [sem,v6,hg,Option.map_some,p1,obind]
  · simp only [h,decide_false,Bool.false_eq_true,if_false,sem,v6,c2R ho h,Option.map_none,p1,obind]
 all_goals (simp only [sem,v6]; rw [b6Z ho _ _ _ (by simp)]; rfl)
theorem a4K (t:IntKind) {r:Nat} (h:r < 128):l4 t (Int.ofNat r)=Int.ofNat r:=by
 rw [D7]
 cases t <;> simp [IntKind.wrap,IntKind.signed,IntKind.bits] <;> omega
theorem a5O {r:Nat} (h:r < 9223372036854775808):l4 .i64 (Int.ofNat r)=Int.ofNat r:=by
 simp only [l4]
 rw [if_pos (by simpa using h)]
theorem b7Y (t:IntKind):Nat.beq (kIx t) 3=true→t=.i64:=by cases t <;> decide
theorem a5k {op:BinOp} (ho:op=.add∨op=.sub) (t:IntKind) (m:Int) (y:AV) (hy:∀ u n,y≠.int u n):i7 op (.int t m) y=none:=by
 cases y <;> first|(exfalso; exact hy _ _ rfl)|(rcases ho with rfl|rfl <;> rfl)
theorem c0a (x y:AV):b6B c b s f x y=obind (p1 (sem (.bin .add) c [x,y] b s)) f:=by
 simp only [b6B,a0b,P4,a4N,a3D,a2y,X7]
 cases x <;> try rfl
 rename_i t m
 cases y
 case int u n =>
  simp only
  by_cases h:t=u
  · subst h
    simp only [decide_true,if_true]
    cases m <;> cases n <;> try rfl
    rename_i i j
    dsimp only
    have e:∀ r,Nat.add i j=r→l4 t (Int.ofNat r)=Int.ofNat r→f (.int t (.ofNat r))=obind (p1 (sem (.bin .add) c [.int t (.ofNat i),.int t (.ofNat j)] b s)) f:=fun r hr hw=>by
     subst hr
     simp only [sem,v6,i7,if_true,a5t,hw,Option.map_some,p1,obind]
    split
    · rename_i hl
      exact e _ rfl (a4K t (by simpa using hl))
    · split
      · rename_i hk
        have:=b7Y t hk
        subst this
        split
        · rename_i hl
          exact e _ rfl (a5O (by simpa using hl))
        · rfl
      · rfl
  · simp only [h,decide_false,Bool.false_eq_true,if_false,sem,v6,i7,Option.map_none,p1,obind]
 all_goals (simp only [sem,v6]; rw [a5k (.inl rfl) _ _ _ (by simp)]; rfl)
theorem c0O (x y:AV):b6Y c b s f x y=obind (p1 (sem (.bin .sub) c [x,y] b s)) f:=by
 simp only [b6Y,a0b,P4,a4N,a3D,a2y,X7]
 cases x <;> try rfl
 rename_i t m
 cases y
 case int u n =>
  simp only
  by_cases h:t=u
  · subst h
    simp only [decide_true,if_true]
    cases m <;> cases n <;> try rfl
    rename_i i j
    dsimp only
    split
    · rename_i hle
      have e:∀ r,Nat.sub i j=r→l4 t (Int.ofNat r)=Int.ofNat r→f (.int t (.ofNat r))=obind (p1 (sem (.bin .sub) c [.int t (.ofNat i),.int t (.ofNat j)] b s)) f:=fun r hr hw=>by
       subst hr
       simp only [sem,v6,i7,if_true,W4,hle,hw,Option.map_some,p1,obind]
      split
      · rename_i hl
        exact e _ rfl (a4K t (by simpa using hl))
      · split
        · rename_i hk
          have:=b7Y t hk
          subst this
          split
          · rename_i hl
            exact e _ rfl (a5O (by simpa using hl))
          · rfl
        · rfl
    · rfl
  · simp only [h,decide_false,Bool.false_eq_true,if_false,sem,v6,i7,Option.map_none,p1,obind]
 all_goals (simp only [sem,v6]; rw [a5k (.inr rfl) _ _ _ (by simp)]; rfl)
theorem b8x (x:AV):b5P f x=obind (p1 (sem (.un .not) c [x] b s)) f:=by
 simp only [b5P,a7V,P4,sem]
 cases x <;> try rfl
 rename_i y; cases y <;> rfl
theorem b5r (x y z:AV):b2x f x y z=obind (p1 (sem .pick c [x,y,z] b s)) f:=by
 simp only [b2x,a7o,a7V,P4,sem]
 cases x <;> try rfl
 rename_i v
 cases v
 · simp only [w8,Bool.false_eq_true,if_false]; split <;> rfl
 · simp only [w8,if_true]; split <;> rfl
theorem b8m (x:AV):b6T c b s f x=obind (p1 (sem .nilchk c [x] b s)) f:=by
 simp only [b6T,a4j]
 cases x <;> rfl
theorem b9Q (d:Nat) (x:AV):b5S f d x=obind (p1 (sem (.fad d) c [x] b s)) f:=by
 simp only [b5S,a4j,X7,Y3]
 cases x <;> rfl
theorem a0X (ag:Bool) (n:Nat) (cs:List AV):a3t f ag n cs=match d9 ag n cs with|some v=>f v|none=>none:=by
 simp only [a3t,P4,b7S,F5,a2m,b0h,b3a]
 cases ag
 · cases cs <;> rfl
 · simp only [d9,if_true]
   by_cases h:n≤cs.length
   · have e:Nat.ble n cs.length=true:=by simpa using h
     simp only [e,h,if_true]
   · have e:Nat.ble n cs.length=false:=Bool.eq_false_iff.mpr (fun q=>h (Nat.le_of_ble_eq_true q))
     simp only [e,h,Bool.false_eq_true,if_false]
theorem a2t (x:Obj) (k:List AV→(Option ρ)):a7Z x k=match x with|.cells cs=>k cs|_=>none:=by cases x <;> rfl
theorem a8v {x:Option AV}:obind (p1 (x.map fun v=>(v,b,s))) f=match x with|some v=>f v|none=>none:=by cases x <;> rfl
theorem a6M (ag:Bool) (n:Nat) (x:AV):a1T s f ag n x=obind (p1 (sem (.ldSt ag n) c [x] b s)) f:=by
 simp only [a1T,a7X,a5v,a2t,a0X,Y3]
 cases x <;> try rfl
 rename_i o i
 simp only [sem,w9]
 cases s[o]? with
 | none=>rfl
 | some ob=>cases ob <;> first|rfl|exact (a8v b s f).symm
theorem a6V (ag:Bool) (n:Nat) (x:AV):a4X f ag n x=obind (p1 (sem (.ldRo ag n) c [x] b s)) f:=by
 simp only [a4X,c3W,a0X]
 cases x <;> try rfl
 exact (a8v b s f).symm
theorem b6o (i:Nat) (ag:Bool) (n:Nat) (x:AV):b1Y b f i ag n x=obind (p1 (sem (.ldLc i ag n) c [x] b s)) f:=by
 simp only [b1Y,b0l,a5F,a0X,Y3,P4]
 cases x <;> try rfl
 rename_i j off
 cases b <;> try rfl
 rename_i cs
 simp only [sem,F8]
 by_cases h:i=j
 · simp only [h,Nat.beq_refl,if_true]
   exact (a8v _ s f).symm
 · have:Nat.beq i j=false:=Bool.eq_false_iff.mpr (fun q=>h (Nat.eq_of_beq_eq_true q))
   simp only [this,h,Bool.false_eq_true,if_false]
   rfl
theorem b5j (x:AV):b1L f x=obind (p1 (sem .lenS c [x] b s)) f:=by
 simp only [b1L,a2q,X7,F5]
 cases x <;> rfl
theorem b5k (x:AV):b2u c b s f x=obind (p1 (sem .lenL c [x] b s)) f:=by
 simp only [b2u,a8g,X7,F5]
 cases x <;> rfl
theorem c0y (x y:AV):b7m f x y=obind (p1 (sem .idxS c [x,y] b s)) f:=by
 simp only [b7m,a2q,a0b,b26]
 cases x <;> try rfl
 cases y <;> try rfl
 rename_i l k n
 simp only [sem,H2]
 cases n with
 | ofNat i =>
  have e:(Int.ofNat i).toNat=i:=rfl
  simp only [Int.ofNat_eq_natCast,Int.natCast_nonneg,if_true,Int.toNat_natCast]
  cases l[i]? <;> rfl
 | negSucc i=>rfl
theorem b8W (sz:Nat) (x y:AV):b6f c b s f sz x y=obind (p1 (sem (.iad sz) c [x,y] b s)) f:=by
 simp only [b6f,a8g,a0b,b26,P4,F5]
 cases x <;> try rfl
 cases y <;> try rfl
 rename_i w l k n
 simp only [sem,H8]
 cases n with
 | ofNat i =>
  simp only [Int.ofNat_eq_natCast,Int.natCast_nonneg,if_true,Int.toNat_natCast]
  cases l[i]? with
  | none=>rfl
  | some r =>
   by_cases h:r.length=sz
   · have:Nat.beq r.length sz=true:=by rw [h]; exact Nat.beq_refl sz
     simp only [this,if_true,if_pos h]
     rfl
   · have:Nat.beq r.length sz=false:=Bool.eq_false_iff.mpr (fun q=>h (Nat.eq_of_beq_eq_true q))
     simp only [this,h,Bool.false_eq_true,if_false]
     rfl
 | negSucc i=>rfl
end
noncomputable def qSb (x:AV) (k:AV→AV→(Option ρ)):(Option ρ):=AV.rec (motive_1:=fun _=>(Option ρ)) (motive_2:=fun _=>Unit) (motive_3:=fun _=>Unit)
 (k .undef .undef)
 (fun b=>k (.bool b) (.bool b))
 (fun t n=>k (.int t n) (.int t n))
 (fun s=>k (.str s) (.str s))
 (fun o xs _=>k (.list o xs) (.list false xs))
 (fun o f=>k (.ptr o f) (.ptr o f))
 (k .nilp .nilp)
 (fun cs _=>k (.ro cs) (.ro cs))
 (fun i f=>k (.loc i f) (.loc i f))
 (fun cs _=>k .undef .undef)
 (fun o=>k (.map o) (.map o))
 (k .nilm .nilm)
 (fun f a c _ _=>k (.func f a c) (.func f a c))
 (k .nilf .nilf)
 (fun cs _=>k (.agg cs) (.agg (cs.map AV.weak1)))
 (fun vs _=>k (.tuple vs) (.tuple vs))
 (fun t v _=>k (.iface t v) (.iface t v))
 (k .nili .nili)
 (fun o f n s=>k (.sl o f n s) (.sl o f n s))
 (fun xs _=>k (.fresh xs) (.fresh xs))
 (k .nils .nils)
 () (fun _ _ _ _=>()) () (fun _ _ _ _=>()) x
noncomputable def qSv (x:AV) (k:AV→AV→(Option ρ)):(Option ρ):=AV.rec (motive_1:=fun _=>(Option ρ)) (motive_2:=fun _=>Unit) (motive_3:=fun _=>Unit)
 (k .undef .undef)
 (fun b=>k (.bool b) (.bool b))
 (fun t n=>k (.int t n) (.int t n))
 (fun s=>k (.str s) (.str s))
 (fun o xs _=>k (.list o xs) (.list false xs))
 (fun o f=>k (.ptr o f) (.ptr o f))
 (k .nilp .nilp)
 (fun cs _=>k (.ro cs) (.ro cs))
 (fun i f=>k .undef .undef)
 (fun cs _=>k .undef .undef)
 (fun o=>k (.map o) (.map o))
 (k .nilm .nilm)
 (fun f a c _ _=>k (.func f a c) (.func f a c))
 (k .nilf .nilf)
 (fun cs _=>k (.agg cs) (.agg (cs.map AV.weak1)))
 (fun vs _=>k (.tuple vs) (.tuple vs))
 (fun t v _=>k (.iface t v) (.iface t v))
 (k .nili .nili)
 (fun o f n s=>k (.sl o f n s) (.sl o f n s))
 (fun xs _=>k (.fresh xs) (.fresh xs))
 (k .nils .nils)
 () (fun _ _ _ _=>()) () (fun _ _ _ _=>()) x
noncomputable def qWk (x:AV) (k:AV→(Option ρ)):(Option ρ):=AV.rec (motive_1:=fun _=>(Option ρ)) (motive_2:=fun _=>Unit) (motive_3:=fun _=>Unit)
 (k .undef)
 (fun b=>k (.bool b))
 (fun t n=>k (.int t n))
 (fun s=>k (.str s))
 (fun o xs _=>k (.list false xs))
 (fun o f=>k (.ptr o f))
 (k .nilp)
 (fun cs _=>k (.ro cs))
 (fun i f=>k (.loc i f))
 (fun cs _=>k (.box cs))
 (fun o=>k (.map o))
 (k .nilm)
 (fun f a c _ _=>k (.func f a c))
 (k .nilf)
 (fun cs _=>k (.agg (cs.map AV.weak1)))
 (fun vs _=>k (.tuple vs))
 (fun t v _=>k (.iface t v))
 (k .nili)
 (fun o f n s=>k (.sl o f n s))
 (fun xs _=>k (.fresh xs))
 (k .nils)
 () (fun _ _ _ _=>()) () (fun _ _ _ _=>()) x
theorem b4E (x:AV) (k:AV→AV→(Option ρ)):qSb x k=k (AV.stripB x) (AV.weak (AV.stripB x)):=by cases x <;> rfl
theorem c2C (x:AV) (k:AV→AV→(Option ρ)):qSv x k=k (AV.strip x) (AV.weak (AV.strip x)):=by cases x <;> rfl
theorem a0F (x:AV) (k:AV→(Option ρ)):qWk x k=k (AV.weak x):=by cases x <;> rfl
noncomputable def onT (x:AV) (k:List AV→(Option ρ)):(Option ρ):=AV.rec (motive_1:=fun _=>(Option ρ)) (motive_2:=fun _=>Unit) (motive_3:=fun _=>Unit)
 (none)
 (fun b=>none)
 (fun t n=>none)
 (fun s=>none)
 (fun o xs _=>none)
 (fun o f=>none)
 (none)
 (fun cs _=>none)
 (fun i f=>none)
 (fun cs _=>none)
 (fun o=>none)
 (none)
 (fun f a c _ _=>none)
 (none)
 (fun cs _=>none)
 (fun vs _=>k vs)
 (fun t v _=>none)
 (none)
 (fun o f n s=>none)
 (fun xs _=>none)
 (none)
 () (fun _ _ _ _=>()) () (fun _ _ _ _=>()) x
theorem c1J (x:AV) (k:List AV→(Option ρ)):onT x k=match x with|.tuple vs=>k vs|_=>none:=by cases x <;> rfl
noncomputable def c4b (x:AV) (e:(Option ρ)) (k:Bool→List (List AV)→(Option ρ)):(Option ρ):=AV.rec (motive_1:=fun _=>(Option ρ)) (motive_2:=fun _=>Unit) (motive_3:=fun _=>Unit)
 (e)
 (fun b=>e)
 (fun t n=>e)
 (fun s=>e)
 (fun o xs _=>k o xs)
 (fun o f=>e)
 (e)
 (fun cs _=>e)
 (fun i f=>e)
 (fun cs _=>e)
 (fun o=>e)
 (e)
 (fun f a c _ _=>e)
 (e)
 (fun cs _=>e)
 (fun vs _=>e)
 (fun t v _=>e)
 (e)
 (fun o f n s=>e)
 (fun xs _=>e)
 (e)
 () (fun _ _ _ _=>()) () (fun _ _ _ _=>()) x
theorem c0B (x:AV) (e:(Option ρ)) (k:Bool→List (List AV)→(Option ρ)):c4b x e k=match x with|.list o xs=>k o xs|_=>e:=by cases x <;> rfl
noncomputable def onU (x:AV) (k:(Option ρ)):(Option ρ):=AV.rec (motive_1:=fun _=>(Option ρ)) (motive_2:=fun _=>Unit) (motive_3:=fun _=>Unit)
 (k)
 (fun b=>none)
 (fun t n=>none)
 (fun s=>none)
 (fun o xs _=>none)
 (fun o f=>none)
 (none)
 (fun cs _=>none)
 (fun i f=>none)
 (fun cs _=>none)
 (fun o=>none)
 (none)
 (fun f a c _ _=>none)
 (none)
 (fun cs _=>none)
 (fun vs _=>none)
 (fun t v _=>none)
 (none)
 (fun o f n s=>none)
 (fun xs _=>none)
 (none)
 () (fun _ _ _ _=>()) () (fun _ _ _ _=>()) x
theorem c06 (x:AV) (k:(Option ρ)):onU x k=match x with|.undef=>k|_=>none:=by cases x <;> rfl
noncomputable def onC (x:AV) (k:List AV→(Option ρ)):(Option ρ):=AV.rec (motive_1:=fun _=>(Option ρ)) (motive_2:=fun _=>Unit) (motive_3:=fun _=>Unit)
 (k [.undef])
 (fun b=>k [(.bool b)])
 (fun t n=>k [(.int t n)])
 (fun s=>k [(.str s)])
 (fun o xs _=>k [(.list o xs)])
 (fun o f=>k [(.ptr o f)])
 (k [.nilp])
 (fun cs _=>k [(.ro cs)])
 (fun i f=>k [(.loc i f)])
 (fun cs _=>k [(.box cs)])
 (fun o=>k [(.map o)])
 (k [.nilm])
 (fun f a c _ _=>k [(.func f a c)])
 (k [.nilf])
 (fun cs _=>k cs)
 (fun vs _=>k [(.tuple vs)])
 (fun t v _=>k [(.iface t v)])
 (k [.nili])
 (fun o f n s=>k [(.sl o f n s)])
 (fun xs _=>k [(.fresh xs)])
 (k [.nils])
 () (fun _ _ _ _=>()) () (fun _ _ _ _=>()) x
theorem b4I (x:AV) (k:List AV→(Option ρ)):onC x k=k x.cells:=by cases x <;> rfl
noncomputable def plB (x:AV) (k:(Option ρ)):(Option ρ):=AV.rec (motive_1:=fun _=>(Option ρ)) (motive_2:=fun _=>Unit) (motive_3:=fun _=>Unit)
 (none)
 (fun b=>k)
 (fun t n=>k)
 (fun s=>k)
 (fun o xs _=>k)
 (fun o f=>k)
 (k)
 (fun cs _=>k)
 (fun i f=>none)
 (fun cs _=>none)
 (fun o=>k)
 (k)
 (fun f a c _ _=>k)
 (k)
 (fun cs _=>k)
 (fun vs _=>none)
 (fun t v _=>k)
 (k)
 (fun o f n s=>k)
 (fun xs _=>none)
 (k)
 () (fun _ _ _ _=>()) () (fun _ _ _ _=>()) x
theorem a4F (x:AV) (k:(Option ρ)):plB x k=if x.plain then k else none:=by cases x <;> rfl
noncomputable def b6R (f:AV→(Option ρ)) (d:Nat) (x:AV):(Option ρ):=onT x fun vs=>a2Q vs none (fun v=>qWk v f) d
theorem c0T (c:b6) (b:AV) (s:St) (f:AV→(Option ρ)) (d:Nat) (x:AV):b6R f d x=obind (p1 (sem (.ext d) c [x] b s)) f:=by
 simp only [b6R,c1J,a1J,a0F]
 cases x <;> try rfl
 rename_i vs
 simp only [sem,M3]
 cases vs[d]? <;> rfl
noncomputable def a4S (xs:List AV) (k:List AV→(Option ρ)):(Option ρ):=List.rec (motive:=fun _=>(List AV→(Option ρ))→(Option ρ)) (fun k=>k []) (fun a _ ih k=>plB a (qWk a fun w=>ih fun ws=>k (w::ws))) xs k
theorem a2K:∀ (xs:List AV) (k:List AV→(Option ρ)),a4S xs k=if p5 xs then k (xs.map AV.weak) else none
 | [],k=>rfl
 | a::xs,k=>by
  show plB a (qWk a fun w=>a4S xs fun ws=>k (w::ws))=_
  rw [a4F,a0F,a2K xs]
  simp only [p5,Bool.and_eq_true,List.map_cons]
  by_cases h1:a.plain=true <;> by_cases h2:p5 xs=true <;> simp [h1,h2]
noncomputable def b7c (x:Option (AV×St)) (k:AV→St→(Option ρ)):(Option ρ):=Option.rec (motive:=fun _=>(Option ρ)) none (fun p=>Prod.rec (motive:=fun _=>(Option ρ)) (fun v s=>k v s) p) x
theorem a9S (x:Option (AV×St)) (k:AV→St→(Option ρ)):b7c x k=match x with|some (v,s)=>k v s|none=>none:=by cases x <;> rfl
noncomputable def b6J (c:b6) (b:AV) (s:St) (f:AV→(Option ρ)) (x y z:AV):(Option ρ):=onS x none fun l=>onI z none fun _ m=>onI y (obind (p1 (sem (.slS true true) c [x,y,z] b s)) f) fun _ i=>nn i m (obind (p1 (sem (.slS true true) c [x,y,z] b s)) f) fun i m =>
 cB (Nat.ble m (I4 l)) (cB (Nat.ble i m) (a6z (Nat.sub m i) (a6D i l) fun r=>f (.str r)) none) none
theorem b8o (c:b6) (b:AV) (s:St) (f:AV→(Option ρ)) (x y z:AV):b6J c b s f x y z=obind (p1 (sem (.slS true true) c [x,y,z] b s)) f:=by
 simp only [b6J,a2q,a0b,a3D,P4,a2m,a4s,F5]
 cases x <;> try rfl
 cases z <;> try rfl
 cases y <;> try rfl
 rename_i l _ m _ i
 cases i <;> cases m <;> try rfl
 rename_i i m
 simp only [sem,L7,q7,G5,Int.ofNat_eq_natCast,Int.natCast_nonneg,true_and,Int.toNat_natCast,Int.ofNat_le,Nat.ble_eq]
 by_cases h1:m≤l.length
 · simp only [h1,if_true]
   by_cases h2:i≤m
   · simp only [h2,if_true,Option.map_some,p1,obind]
     rw [List.drop_take]
     rfl
   · simp only [h2,if_false]
     rfl
 · simp only [h1,if_false]
   rfl
noncomputable def b0L (sz:Nat) (l:List (List AV)):Bool:=List.rec (motive:=fun _=>Bool) true (fun r _ _=>Nat.beq (I4 r) sz) l
theorem b50 (sz:Nat) (l:List (List AV)):b0L sz l=g8 sz l:=by
 cases l with
 | nil=>rfl
 | cons r l =>
  show Nat.beq (I4 r) sz=(r.length == sz)
  rw [F5,Bool.eq_iff_iff]
  simp
noncomputable def b7j (b:AV) (s:St) (f:AV×AV×St→(Option ρ)) (d e:Nat) (x y:AV):(Option ρ):=c4b x none fun o xs=>onL y none fun ys=>cB o (cB (b0L d xs) (cB (b0L d ys) (cB (Nat.ble (Nat.mul (Nat.add (I4 xs) (I4 ys)) e) 140737488355328) (a4m xs ys fun r=>f (.list true r,b,s)) none) none) none) none
theorem b8J (c:b6) (b:AV) (s:St) (f:AV×AV×St→(Option ρ)) (d e:Nat) (x y:AV):b7j b s f d e x y=obind (sem (.app d e) c [x,y] b s) f:=by
 simp only [b7j,c0B,a8g,P4,b50,F5,a3G]
 cases x <;> try rfl
 rename_i o xs
 cases y <;> try (cases o <;> rfl)
 rename_i o2 ys
 cases o <;> try rfl
 simp only [sem,O5,if_true]
 have e1:(Nat.ble (Nat.mul (Nat.add xs.length ys.length) e) 140737488355328)=decide ((xs.length+ys.length)*e≤2 ^ 47):=by
  rw [Bool.eq_iff_iff]
  simp
 rw [e1]
 cases g8 d xs <;> cases g8 d ys <;> try rfl
 simp only [Bool.true_and,if_true]
 split <;> rfl
noncomputable def a7B (b:AV) (s:St) (f:AV×AV×St→(Option ρ)) (d:List AV):(Option ρ):=onU b (f (.undef,.box d,s))
theorem b4N (c:b6) (b:AV) (s:St) (f:AV×AV×St→(Option ρ)) (d:List AV):a7B b s f d=obind (sem (.alloc d) c [] b s) f:=by
 simp only [a7B,c06]
 cases b <;> rfl
noncomputable def b1g (cs:List AV) (off:Nat) (new:List AV) (k:List AV→(Option ρ)):(Option ρ):=a6z off cs fun a=>a4m new (a4Y (Nat.add off (I4 new)) cs) fun t=>a4m a t k
theorem b0n (cs:List AV) (off:Nat) (new:List AV) (k:List AV→(Option ρ)):b1g cs off new k=k (j9 cs off new):=by
 simp only [b1g,a2m,a3G,Y3,F5,j9,List.append_assoc]
 rfl
noncomputable def b0S (b:AV) (s:St) (f:AV×AV×St→(Option ρ)) (i d:Nat) (x y:AV):(Option ρ):=b7E x none fun j off=>b0Q b none fun cs=>cB (Nat.beq i j) (plB y (onC y fun new=>cB (Nat.beq (I4 new) d) (cB (Nat.ble (Nat.add off d) (I4 cs)) (b1g cs off new fun r=>f (.tuple [],.box r,s)) none) none)) none
theorem b75 (a b:Nat):(Nat.beq a b=true)=(a=b):=by simp
theorem b7U (a b:Nat):(Nat.ble a b=true)=(a≤b):=by simp
theorem b7k (c:b6) (b:AV) (s:St) (f:AV×AV×St→(Option ρ)) (i d:Nat) (x y:AV):b0S b s f i d x y=obind (sem (.stLc i d) c [x,y] b s) f:=by
 simp only [b0S,b0l,a5F,P4,a4F,b4I,F5,b0n,b75,b7U]
 cases x <;> try rfl
 rename_i j off
 cases b <;> try rfl
 rename_i cs
 simp only [sem,I9]
 by_cases h1:i=j <;> by_cases h2:y.plain=true <;> by_cases h3:y.cells.length=d <;> by_cases h4:off+d≤cs.length <;> simp [h1,h2,h3,h4,obind]
noncomputable def a8r {β:Type} (l:List β) (i:Nat) (x:β) (k:List β→(Option ρ)):(Option ρ):=List.rec (motive:=fun _=>Nat→(List β→(Option ρ))→(Option ρ)) (fun _ k=>k []) (fun a t ih i k=>Nat.rec (motive:=fun _=>(Option ρ)) (k (x::t)) (fun j _=>ih j fun r=>k (a::r)) i) l i k
theorem b0g {β:Type} (x:β):∀ (l:List β) (i:Nat) (k:List β→(Option ρ)),a8r l i x k=k (l.set i x)
 | [],_,_=>rfl
 | a::l,0,k=>rfl
 | a::l,i+1,k=>b0g x l i fun r=>k (a::r)
noncomputable def b5B {β:Type} (l:List β) (i:Nat) (x:β) (k:List β→(Option ρ)):(Option ρ):=Nat.rec (motive:=fun _=>List β→(List β→(Option ρ))→(Option ρ)) (fun l k=>a8r l (Nat.mod i 8) x k) (fun _ ih l k=>a2k l (k l) ih k) (Nat.div i 8) l k
theorem a9R {β:Type} (x:β) (r:Nat):∀ (q:Nat) (l:List β) (k:List β→(Option ρ)),Nat.rec (motive:=fun _=>List β→(List β→(Option ρ))→(Option ρ)) (fun l k=>a8r l r x k) (fun _ ih l k=>a2k l (k l) ih k) q l k=k (l.set (8*q+r) x)
 | 0,l,k=>by show a8r l r x k=_; rw [b0g,Nat.mul_zero,Nat.zero_add]
 | q+1,l,k=>by
  show a2k l (k l) (fun l k=>Nat.rec (motive:=fun _=>List β→(List β→(Option ρ))→(Option ρ)) (fun l k=>a8r l r x k) (fun _ ih l k=>a2k l (k l) ih k) q l k) k=_
  rw [b0k]
  split
  · rename_i h
    rw [a9R x r q (l.drop 8)]
    congr 1
    rw [show 8*(q+1)+r=8+(8*q+r) by omega]
    conv=>rhs; rw [← List.take_append_drop 8 l]
    rw [List.set_append_right _ _ (by rw [List.length_take]; omega),List.length_take,Nat.min_eq_left h,Nat.add_sub_cancel_left]
  · rename_i h
    rw [List.set_eq_of_length_le (by omega)]
theorem b9Z {β:Type} (x:β) (l:List β) (i:Nat) (k:List β→(Option ρ)):b5B l i x k=k (l.set i x):=by
 unfold b5B
 rw [a9R x (Nat.mod i 8) (Nat.div i 8) l k,show 8*Nat.div i 8+Nat.mod i 8=i from Nat.div_add_mod i 8]
noncomputable def b1m (s:St) (f:AV×St→(Option ρ)) (d:Nat) (x y:AV):(Option ρ):=onP x none fun o off=>b0T s none (fun ob=>a7Z ob fun cs=>plB y (onC y fun new=>cB (Nat.beq (I4 new) d) (cB (Nat.ble (Nat.add off d) (I4 cs)) (b1g cs off new fun r=>b5B s o (.cells r) fun s=>f (.tuple [],s)) none) none)) o
theorem b7v (c:b6) (b:AV) (s:St) (f:AV×St→(Option ρ)) (d:Nat) (x y:AV):b1m s f d x y=obind (p2 (sem (.stSt d) c [x,y] b s)) f:=by
 simp only [b1m,a7X,a5v,a2t,P4,a4F,b4I,F5,b0n,b9Z,b75,b7U]
 cases x <;> try rfl
 rename_i o off
 simp only [sem,B9,fL_eq]
 cases s[o]? with
 | none=>rfl
 | some ob =>
  cases ob <;> try rfl
  rename_i cs
  by_cases h2:y.plain=true <;> by_cases h3:y.cells.length=d <;> by_cases h4:off+d≤cs.length <;> simp [h2,h3,h4,obind,p2]
noncomputable def bW (v w:Bool) (x y:(Option ρ)):(Option ρ):=Bool.rec (motive:=fun _=>(Option ρ)) (Bool.rec (motive:=fun _=>(Option ρ)) x y w) (Bool.rec (motive:=fun _=>(Option ρ)) y x w) v
theorem c48 (v w:Bool) (x y:(Option ρ)):bW v w x y=if v == w then x else y:=by cases v <;> cases w <;> rfl
theorem nb (i j:Nat):(!Nat.blt j i)=Nat.ble i j:=by
 have h1:(Nat.blt j i=true) ↔ j < i:=by simp
 have h2:(Nat.ble i j=true) ↔ i≤j:=by simp
 cases hb:Nat.blt j i <;> cases hc:Nat.ble i j <;> simp only [hb,hc,true_iff,false_iff,Bool.false_eq_true] at h1 h2 <;> first|rfl|omega
theorem c3g (c:b6) (b:AV) (s:St) (f:AV→(Option ρ)) (x y:AV):a1s c b s f .lss Nat.blt x y=obind (p1 (sem (.bin .lss) c [x,y] b s)) f:=a3s c b s f .lss _ (by simp) (fun t i j=>by simp [i7,ltI]) x y
theorem c1g (c:b6) (b:AV) (s:St) (f:AV→(Option ρ)) (x y:AV):a1s c b s f .leq Nat.ble x y=obind (p1 (sem (.bin .leq) c [x,y] b s)) f:=a3s c b s f .leq _ (by simp) (fun t i j=>by simp only [i7,if_true,Int.ofNat_eq_natCast]; rw [show ∀ a b:Nat,ltI (a:Int) (b:Int)=Nat.blt a b from fun _ _=>rfl,nb]) x y
theorem c2S (c:b6) (b:AV) (s:St) (f:AV→(Option ρ)) (x y:AV):a1s c b s f .gtr (fun i j=>Nat.blt j i) x y=obind (p1 (sem (.bin .gtr) c [x,y] b s)) f:=a3s c b s f .gtr _ (by simp) (fun t i j=>by simp [i7,ltI]) x y
theorem c3O (c:b6) (b:AV) (s:St) (f:AV→(Option ρ)) (x y:AV):a1s c b s f .geq (fun i j=>Nat.ble j i) x y=obind (p1 (sem (.bin .geq) c [x,y] b s)) f:=a3s c b s f .geq _ (by simp) (fun t i j=>by simp only [i7,if_true,Int.ofNat_eq_natCast]; rw [show ∀ a b:Nat,ltI (a:Int) (b:Int)=Nat.blt a b from fun _ _=>rfl,nb]) x y

end Go.Cb.G
/-
 THE ABSTRACT MACHINE, part 43: frames of eight times eight, whose places are found at once.
-/
set_option maxRecDepth 4000
set_option linter.unusedVariables false
namespace Go.Cb.G
open Go Go.Cb
inductive W8 (α:Type) where
 | mk (x0 x1 x2 x3 x4 x5 x6 x7:α)
abbrev Fr:=W8 (W8 AV)
def pk8 {α:Type} (i:Nat) (w:W8 α):α:=match w with
 | .mk x0 x1 x2 x3 x4 x5 x6 x7=>match i with
  | 0=>x0
  | 1=>x1
  | 2=>x2
  | 3=>x3
  | 4=>x4
  | 5=>x5
  | 6=>x6
  | _=>x7
def st8 {α:Type} (i:Nat) (x:α) (w:W8 α):W8 α:=match w with
 | .mk x0 x1 x2 x3 x4 x5 x6 x7=>match i with
  | 0=>.mk x x1 x2 x3 x4 x5 x6 x7
  | 1=>.mk x0 x x2 x3 x4 x5 x6 x7
  | 2=>.mk x0 x1 x x3 x4 x5 x6 x7
  | 3=>.mk x0 x1 x2 x x4 x5 x6 x7
  | 4=>.mk x0 x1 x2 x3 x x5 x6 x7
  | 5=>.mk x0 x1 x2 x3 x4 x x6 x7
  | 6=>.mk x0 x1 x2 x3 x4 x5 x x7
  | _=>.mk x0 x1 x2 x3 x4 x5 x6 x
theorem lt8 {i:Nat} (h:i < 8):i=0∨i=1∨i=2∨i=3∨i=4∨i=5∨i=6∨i=7:=by omega
theorem b5a {α:Type} {i j:Nat} (hi:i < 8) (hj:j < 8) (x:α) (w:W8 α):pk8 j (st8 i x w)=if j=i then x else pk8 j w:=by
 cases w
 rcases lt8 hi with rfl|rfl|rfl|rfl|rfl|rfl|rfl|rfl <;> rcases lt8 hj with rfl|rfl|rfl|rfl|rfl|rfl|rfl|rfl <;> rfl
def S3 (i:Nat) (fr:Fr):AV:=pk8 (i % 8) (pk8 (i / 8) fr)
def a1g (i:Nat) (x:AV) (fr:Fr):Fr:=st8 (i / 8) (st8 (i % 8) x (pk8 (i / 8) fr)) fr
theorem b80 {i j:Nat} (hi:i < 64) (hj:j < 64) (x:AV) (fr:Fr):S3 j (a1g i x fr)=if j=i then x else S3 j fr:=by
 unfold S3 a1g
 rw [b5a (by omega) (by omega)]
 by_cases h:j / 8=i / 8
 · rw [if_pos h,b5a (by omega) (by omega),← h]
   by_cases h2:j % 8=i % 8
   · rw [if_pos h2,if_pos (by omega)]
   · rw [if_neg h2,if_neg (by omega)]
 · rw [if_neg h,if_neg (by intro e; exact h (by rw [e]))]
def toL (nv:Nat) (fr:Fr):List AV:=(List.range nv).map fun i=>S3 i fr
theorem b9F (nv:Nat) (fr:Fr):(toL nv fr).length=nv:=by simp [toL]
theorem L8 {i nv:Nat} (h:i < nv) (fr:Fr):(toL nv fr).getD i .undef=S3 i fr:=by simp [toL,List.getD,h]
theorem a1B {i nv:Nat} (h:i < nv) (hn:nv≤64) (x:AV) (fr:Fr):(toL nv fr).set i x=toL nv (a1g i x fr):=by
 apply List.ext_getElem
 · simp [toL]
 · intro j h1 h2
   have hj:j < nv:=by simpa [toL] using h1
   rw [List.getElem_set]
   simp only [toL,List.getElem_map,List.getElem_range]
   rw [b80 (by omega) (by omega)]
   by_cases e:i=j
   · rw [if_pos e,if_pos e.symm]
   · rw [if_neg e,if_neg (fun q=>e q.symm)]
theorem a3Z {i nv:Nat} (h:¬ i < nv) (x:AV) (fr:Fr):(toL nv fr).set i x=toL nv fr:=List.set_eq_of_length_le (by rw [b9F]; omega)

noncomputable def a8D {α β:Type} (i:Nat) (e:β) (Q:α→β) (x0 x1 x2 x3 x4 x5 x6 x7:α):β :=
 Nat.rec (motive:=fun _=>β) (Q x0) (fun i _=>Nat.rec (motive:=fun _=>β) (Q x1) (fun i _=>Nat.rec (motive:=fun _=>β) (Q x2) (fun i _=>Nat.rec (motive:=fun _=>β) (Q x3) (fun i _=>Nat.rec (motive:=fun _=>β) (Q x4) (fun i _=>Nat.rec (motive:=fun _=>β) (Q x5) (fun i _=>Nat.rec (motive:=fun _=>β) (Q x6) (fun i _=>Nat.rec (motive:=fun _=>β) (Q x7) (fun i _=>e) i) i) i) i) i) i) i) i
theorem a1b {α β:Type} {G:β→Prop} {i:Nat} {e:β} {Q:α→β} {x0 x1 x2 x3 x4 x5 x6 x7:α} (he:G e) (h0:i=0→G (Q x0)) (h1:i=1→G (Q x1)) (h2:i=2→G (Q x2)) (h3:i=3→G (Q x3)) (h4:i=4→G (Q x4)) (h5:i=5→G (Q x5)) (h6:i=6→G (Q x6)) (h7:i=7→G (Q x7)):G (a8D i e Q x0 x1 x2 x3 x4 x5 x6 x7):=by
 match i,h0,h1,h2,h3,h4,h5,h6,h7 with
 | 0,h,_,_,_,_,_,_,_=>exact h rfl
 | 1,_,h,_,_,_,_,_,_=>exact h rfl
 | 2,_,_,h,_,_,_,_,_=>exact h rfl
 | 3,_,_,_,h,_,_,_,_=>exact h rfl
 | 4,_,_,_,_,h,_,_,_=>exact h rfl
 | 5,_,_,_,_,_,h,_,_=>exact h rfl
 | 6,_,_,_,_,_,_,h,_=>exact h rfl
 | 7,_,_,_,_,_,_,_,h=>exact h rfl
 | _+8,_,_,_,_,_,_,_,_=>exact he
abbrev Gt (ρ:Type):=Fr→(AV→Option ρ)→Option ρ
abbrev Wr (ρ:Type):=AV→Fr→(Fr→Option ρ)→Option ρ
section
variable {ρ β:Type}
noncomputable def a1u (i:Nat) (e:β) (Q:Gt ρ→β):β:=a8D (i / 8) e (fun o:Fr→(W8 AV→Option ρ)→Option ρ=>a8D (i % 8) e (fun n:W8 AV→(AV→Option ρ)→Option ρ=>Q fun fr k=>o fr fun w=>n w k)
 (fun w k=>W8.rec (motive:=fun _=>Option ρ) (fun x0 x1 x2 x3 x4 x5 x6 x7=>k x0) w)
 (fun w k=>W8.rec (motive:=fun _=>Option ρ) (fun x0 x1 x2 x3 x4 x5 x6 x7=>k x1) w)
 (fun w k=>W8.rec (motive:=fun _=>Option ρ) (fun x0 x1 x2 x3 x4 x5 x6 x7=>k x2) w)
 (fun w k=>W8.rec (motive:=fun _=>Option ρ) (fun x0 x1 x2 x3 x4 x5 x6 x7=>k x3) w)
 (fun w k=>W8.rec (motive:=fun _=>Option ρ) (fun x0 x1 x2 x3 x4 x5 x6 x7=>k x4) w)
 (fun w k=>W8.rec (motive:=fun _=>Option ρ) (fun x0 x1 x2 x3 x4 x5 x6 x7=>k x5) w)
 (fun w k=>W8.rec (motive:=fun _=>Option ρ) (fun x0 x1 x2 x3 x4 x5 x6 x7=>k x6) w)
 (fun w k=>W8.rec (motive:=fun _=>Option ρ) (fun x0 x1 x2 x3 x4 x5 x6 x7=>k x7) w))
 (fun w k=>W8.rec (motive:=fun _=>Option ρ) (fun x0 x1 x2 x3 x4 x5 x6 x7=>k x0) w)
 (fun w k=>W8.rec (motive:=fun _=>Option ρ) (fun x0 x1 x2 x3 x4 x5 x6 x7=>k x1) w)
 (fun w k=>W8.rec (motive:=fun _=>Option ρ) (fun x0 x1 x2 x3 x4 x5 x6 x7=>k x2) w)
 (fun w k=>W8.rec (motive:=fun _=>Option ρ) (fun x0 x1 x2 x3 x4 x5 x6 x7=>k x3) w)
 (fun w k=>W8.rec (motive:=fun _=>Option ρ) (fun x0 x1 x2 x3 x4 x5 x6 x7=>k x4) w)
 (fun w k=>W8.rec (motive:=fun _=>Option ρ) (fun x0 x1 x2 x3 x4 x5 x6 x7=>k x5) w)
 (fun w k=>W8.rec (motive:=fun _=>Option ρ) (fun x0 x1 x2 x3 x4 x5 x6 x7=>k x6) w)
 (fun w k=>W8.rec (motive:=fun _=>Option ρ) (fun x0 x1 x2 x3 x4 x5 x6 x7=>k x7) w)
theorem J6 {G:β→Prop} {i:Nat} {e:β} {Q:Gt ρ→β} (hi:i < 64) (he:G e) (h:∀ g:Gt ρ,(∀ fr k,g fr k=k (S3 i fr))→G (Q g)):G (a1u i e Q):=by
 refine a1b he ?_ ?_ ?_ ?_ ?_ ?_ ?_ ?_ <;> intro h1 <;> refine a1b he ?_ ?_ ?_ ?_ ?_ ?_ ?_ ?_ <;> intro h2 <;> refine h _ (fun fr k=>?_) <;> unfold S3 <;> rw [h1,h2] <;> cases fr with
  | mk w0 w1 w2 w3 w4 w5 w6 w7=>first|(cases w0; rfl)|(cases w1; rfl)|(cases w2; rfl)|(cases w3; rfl)|(cases w4; rfl)|(cases w5; rfl)|(cases w6; rfl)|(cases w7; rfl)
noncomputable def a5x (i:Nat) (e:β) (Q:Wr ρ→β):β:=a8D (i / 8) e (fun o:Fr→(W8 AV→(W8 AV→Option ρ)→Option ρ)→(Fr→Option ρ)→Option ρ=>a8D (i % 8) e (fun n:AV→W8 AV→(W8 AV→Option ρ)→Option ρ=>Q fun x fr k=>o fr (n x) k)
 (fun y w k=>W8.rec (motive:=fun _=>Option ρ) (fun x0 x1 x2 x3 x4 x5 x6 x7=>k (.mk y x1 x2 x3 x4 x5 x6 x7)) w)
 (fun y w k=>W8.rec (motive:=fun _=>Option ρ) (fun x0 x1 x2 x3 x4 x5 x6 x7=>k (.mk x0 y x2 x3 x4 x5 x6 x7)) w)
 (fun y w k=>W8.rec (motive:=fun _=>Option ρ) (fun x0 x1 x2 x3 x4 x5 x6 x7=>k (.mk x0 x1 y x3 x4 x5 x6 x7)) w)
 (fun y w k=>W8.rec (motive:=fun _=>Option ρ) (fun x0 x1 x2 x3 x4 x5 x6 x7=>k (.mk x0 x1 x2 y x4 x5 x6 x7)) w)
 (fun y w k=>W8.rec (motive:=fun _=>Option ρ) (fun x0 x1 x2 x3 x4 x5 x6 x7=>k (.mk x0 x1 x2 x3 y x5 x6 x7)) w)
 (fun y w k=>W8.rec (motive:=fun _=>Option ρ) (fun x0 x1 x2 x3 x4 x5 x6 x7=>k (.mk x0 x1 x2 x3 x4 y x6 x7)) w)
 (fun y w k=>W8.rec (motive:=fun _=>Option ρ) (fun x0 x1 x2 x3 x4 x5 x6 x7=>k (.mk x0 x1 x2 x3 x4 x5 y x7)) w)
 (fun y w k=>W8.rec (motive:=fun _=>Option ρ) (fun x0 x1 x2 x3 x4 x5 x6 x7=>k (.mk x0 x1 x2 x3 x4 x5 x6 y)) w))
 (fun w u k=>W8.rec (motive:=fun _=>Option ρ) (fun x0 x1 x2 x3 x4 x5 x6 x7=>u x0 fun y=>k (.mk y x1 x2 x3 x4 x5 x6 x7)) w)
 (fun w u k=>W8.rec (motive:=fun _=>Option ρ) (fun x0 x1 x2 x3 x4 x5 x6 x7=>u x1 fun y=>k (.mk x0 y x2 x3 x4 x5 x6 x7)) w)
 (fun w u k=>W8.rec (motive:=fun _=>Option ρ) (fun x0 x1 x2 x3 x4 x5 x6 x7=>u x2 fun y=>k (.mk x0 x1 y x3 x4 x5 x6 x7)) w)
 (fun w u k=>W8.rec (motive:=fun _=>Option ρ) (fun x0 x1 x2 x3 x4 x5 x6 x7=>u x3 fun y=>k (.mk x0 x1 x2 y x4 x5 x6 x7)) w)
 (fun w u k=>W8.rec (motive:=fun _=>Option ρ) (fun x0 x1 x2 x3 x4 x5 x6 x7=>u x4 fun y=>k (.mk x0 x1 x2 x3 y x5 x6 x7)) w)
 (fun w u k=>W8.rec (motive:=fun _=>Option ρ) (fun x0 x1 x2 x3 x4 x5 x6 x7=>u x5 fun y=>k (.mk x0 x1 x2 x3 x4 y x6 x7)) w)
 (fun w u k=>W8.rec (motive:=fun _=>Option ρ) (fun x0 x1 x2 x3 x4 x5 x6 x7=>u x6 fun y=>k (.mk x0 x1 x2 x3 x4 x5 y x7)) w)
 (fun w u k=>W8.rec (motive:=fun _=>Option ρ) (fun x0 x1 x2 x3 x4 x5 x6 x7=>u x7 fun y=>k (.mk x0 x1 x2 x3 x4 x5 x6 y)) w)
theorem a09 {G:β→Prop} {i:Nat} {e:β} {Q:Wr ρ→β} (hi:i < 64) (he:G e) (h:∀ g:Wr ρ,(∀ x fr k,g x fr k=k (a1g i x fr))→G (Q g)):G (a5x i e Q):=by
 refine a1b he ?_ ?_ ?_ ?_ ?_ ?_ ?_ ?_ <;> intro h1 <;> refine a1b he ?_ ?_ ?_ ?_ ?_ ?_ ?_ ?_ <;> intro h2 <;> refine h _ (fun x fr k=>?_) <;> unfold a1g <;> rw [h1,h2] <;> cases fr with
  | mk w0 w1 w2 w3 w4 w5 w6 w7=>first|(cases w0; rfl)|(cases w1; rfl)|(cases w2; rfl)|(cases w3; rfl)|(cases w4; rfl)|(cases w5; rfl)|(cases w6; rfl)|(cases w7; rfl)
noncomputable def b1z (i:Nat) (Q:(List AV→(AV→Option ρ)→Option ρ)→β):β:=Nat.rec (motive:=fun _=>((List AV→(AV→Option ρ)→Option ρ)→β)→β)
 (fun Q=>Q fun l k=>List.rec (motive:=fun _=>Option ρ) none (fun a _ _=>k a) l)
 (fun _ ih Q=>ih fun r=>Q fun l k=>List.rec (motive:=fun _=>Option ρ) none (fun _ t _=>r t k) l) i Q
theorem Z4 {G:β→Prop}:∀ (i:Nat) {Q:(List AV→(AV→Option ρ)→Option ρ)→β},(∀ r:List AV→(AV→Option ρ)→Option ρ,(∀ l k,r l k=match l[i]? with|some a=>k a|none=>none)→G (Q r))→G (b1z i Q)
 | 0,Q,h=>h _ fun l k=>by cases l <;> rfl
 | i+1,Q,h=>Z4 i fun r hr=>h _ fun l k=>by
  cases l with
  | nil=>rfl
  | cons a t=>show r t k=_; rw [hr]; simp
end
abbrev U:AV:=.undef
def u8:W8 AV:=.mk U U U U U U U U
noncomputable def b6D {ρ:Type} (l:List AV) (k:W8 AV→Option ρ):Option ρ:=List.rec (motive:=fun _=>Option ρ) (k (.mk U U U U U U U U)) (fun y0 l _=>List.rec (motive:=fun _=>Option ρ) (k (.mk y0 U U U U U U U)) (fun y1 l _=>List.rec (motive:=fun _=>Option ρ) (k (.mk y0 y1 U U U U U U)) (fun y2 l _=>List.rec (motive:=fun _=>Option ρ) (k (.mk y0 y1 y2 U U U U U)) (fun y3 l _=>List.rec (motive:=fun _=>Option ρ) (k (.mk y0 y1 y2 y3 U U U U)) (fun y4 l _=>List.rec (motive:=fun _=>Option ρ) (k (.mk y0 y1 y2 y3 y4 U U U)) (fun y5 l _=>List.rec (motive:=fun _=>Option ρ) (k (.mk y0 y1 y2 y3 y4 y5 U U)) (fun y6 l _=>List.rec (motive:=fun _=>Option ρ) (k (.mk y0 y1 y2 y3 y4 y5 y6 U)) (fun y7 l _=>List.rec (motive:=fun _=>Option ρ) (k (.mk y0 y1 y2 y3 y4 y5 y6 y7)) (fun _ _ _=>none) l) l) l) l) l) l) l) l) l
theorem c4Y (i:Nat):pk8 i u8=U:=by
 show (match i with|0=>U|1=>U|2=>U|3=>U|4=>U|5=>U|6=>U|_=>U)=U
 split <;> rfl
theorem c0s {ρ:Type} {l:List AV} {k:W8 AV→Option ρ} {r:ρ} (h:b6D l k=some r):∃ w:W8 AV,k w=some r∧l.length≤8∧∀ i,i < 8→pk8 i w=l.getD i .undef:=by
 match l,h with
 | [],h=>exact ⟨_,h,by simp,fun i hi=>by rcases lt8 hi with rfl|rfl|rfl|rfl|rfl|rfl|rfl|rfl <;> rfl⟩
 | [y0],h=>exact ⟨_,h,by simp,fun i hi=>by rcases lt8 hi with rfl|rfl|rfl|rfl|rfl|rfl|rfl|rfl <;> rfl⟩
 | [y0,y1],h=>exact ⟨_,h,by simp,fun i hi=>by rcases lt8 hi with rfl|rfl|rfl|rfl|rfl|rfl|rfl|rfl <;> rfl⟩
 | [y0,y1,y2],h=>exact ⟨_,h,by simp,fun i hi=>by rcases lt8 hi with rfl|rfl|rfl|rfl|rfl|rfl|rfl|rfl <;> rfl⟩
 | [y0,y1,y2,y3],h=>exact ⟨_,h,by simp,fun i hi=>by rcases lt8 hi with rfl|rfl|rfl|rfl|rfl|rfl|rfl|rfl <;> rfl⟩
 | [y0,y1,y2,y3,y4],h=>exact ⟨_,h,by simp,fun i hi=>by rcases lt8 hi with rfl|rfl|rfl|rfl|rfl|rfl|rfl|rfl <;> rfl⟩
 | [y0,y1,y2,y3,y4,y5],h=>exact ⟨_,h,by simp,fun i hi=>by rcases lt8 hi with rfl|rfl|rfl|rfl|rfl|rfl|rfl|rfl <;> rfl⟩
 | [y0,y1,y2,y3,y4,y5,y6],h=>exact ⟨_,h,by simp,fun i hi=>by rcases lt8 hi with rfl|rfl|rfl|rfl|rfl|rfl|rfl|rfl <;> rfl⟩
 | [y0,y1,y2,y3,y4,y5,y6,y7],h=>exact ⟨_,h,by simp,fun i hi=>by rcases lt8 hi with rfl|rfl|rfl|rfl|rfl|rfl|rfl|rfl <;> rfl⟩
 | _::_::_::_::_::_::_::_::_::_,h=>cases h
def fr0 (w:W8 AV):Fr:=.mk w u8 u8 u8 u8 u8 u8 u8
theorem c2W {w:W8 AV} {l:List AV} {np nv:Nat} (hw:∀ i,i < 8→pk8 i w=l.getD i .undef) (hl:l.length=np) (h8:l.length≤8) (hnp:np≤nv) (hn:nv≤64):toL nv (fr0 w)=l++List.replicate (nv - np) .undef:=by
 apply List.ext_getElem
 · simp [toL,hl]; omega
 · intro j h1 h2
   have hj:j < nv:=by simpa [toL] using h1
   have hg:S3 j (fr0 w)=l.getD j .undef:=by
    unfold S3
    rcases Nat.lt_or_ge j 8 with h|h
    · rw [show j / 8=0 by omega,show j % 8=j by omega]
      exact hw j h
    · have:pk8 (j / 8) (fr0 w)=u8:=by
       rcases lt8 (show j / 8 < 8 by omega) with e|e|e|e|e|e|e|e <;> rw [e] <;> first|(exfalso; omega)|rfl
      rw [this,c4Y,List.getD_eq_getElem?_getD,List.getElem?_eq_none (by omega)]
      rfl
   simp only [toL,List.getElem_map,List.getElem_range,hg]
   rw [List.getElem_append]
   split
   · rename_i h; simp [List.getD,h]
   · rename_i h; rw [List.getD_eq_getElem?_getD,List.getElem?_eq_none (by omega)]; simp
end Go.Cb.G
/-
 THE ABSTRACT MACHINE, part 44: operations, made ready once, run over fast frames.
-/
set_option maxRecDepth 4000
set_option linter.unusedVariables false
namespace Go.Cb.G
open Go Go.Cb
abbrev RO:=Option (AV×Fr×St)
abbrev Rd:=List AV→Fr→(AV→RO)→RO
inductive Src where
 | w (l:Nat)|s (l:Nat)|d (l:Nat)|k (a:AV)|q (a:AV)
abbrev Scope:=List (Nat×Src)
noncomputable def F6 (s:Nat) (sc:Scope):Option Src:=List.rec (motive:=fun _=>Option Src) none (fun p _ ih=>Prod.rec (motive:=fun _=>Option Src) (fun t x=>Bool.rec (motive:=fun _=>Option Src) ih (some x) (Nat.beq t s)) p) sc
theorem a1A (s t:Nat) (x:Src) (sc:Scope):F6 s ((t,x)::sc)=if t=s then some x else F6 s sc:=by
 show Bool.rec (motive:=fun _=>Option Src) (F6 s sc) (some x) (Nat.beq t s)=_
 by_cases h:t=s
 · rw [if_pos h,show Nat.beq t s=true by simpa using h]
 · rw [if_neg h,show Nat.beq t s=false from Bool.eq_false_iff.2 fun q=>h (Nat.eq_of_beq_eq_true q)]
def lv (env:List AV) (l:Nat):Option AV:=env.reverse[l]?
theorem d0Q {env:List AV} {l:Nat} {a:AV} (x:AV) (h:lv env l=some a):lv (x::env) l=some a:=by
 unfold lv at *
 rw [List.reverse_cons,List.getElem?_append_left (by
  rcases Nat.lt_or_ge l env.reverse.length with q|q
  · exact q
  · rw [List.getElem?_eq_none q] at h; cases h)]
 exact h
theorem b37 (x:AV) (env:List AV):lv (x::env) env.length=some x:=by
 unfold lv
 rw [List.reverse_cons,List.getElem?_append_right (by simp)]
 simp
theorem a6E {env:List AV} {l d:Nat} {a:AV} (hd:env.length=d) (h:lv env l=some a):env[d - 1 - l]?=some a:=by
 unfold lv at h
 have hl:l < env.length:=by
  rcases Nat.lt_or_ge l env.reverse.length with q|q
  · simpa using q
  · rw [List.getElem?_eq_none q] at h; cases h
 rw [List.getElem?_reverse hl,hd] at h
 exact h
def SrcOK (env:List AV) (v:AV):Src→Prop
 | .w l=>∃ a,lv env l=some a∧v.weak=a
 | .s l=>∃ a,lv env l=some a∧v=a
 | .d l=>∃ a,lv env l=some a∧v.weak=a.weak
 | .k a=>v=a
 | .q a=>v.weak=a
theorem SrcOK.push {env:List AV} {v:AV} {x:Src} (y:AV) (h:SrcOK env v x):SrcOK (y::env) v x:=by
 cases x <;> simp only [SrcOK] at*<;> first|exact h|(obtain ⟨a,h1,h2⟩:=h; exact ⟨a,d0Q y h1,h2⟩)
structure Ag (nv dep:Nat) (sc:Scope) (env:List AV) (fr:Fr) (σ:Sig):Prop where
 f:σ.fr=toL nv fr
 d:env.length=dep
 nb:∀ s,(σ.τ s).stripB=σ.τ s
 t:∀ s x,F6 s sc=some x→SrcOK env (σ.τ s) x

noncomputable def c5B (x:AV) (y z:RO):RO:=AV.rec (motive_1:=fun _=>RO) (motive_2:=fun _=>Unit) (motive_3:=fun _=>Unit)
 z (fun _=>z) (fun _ _=>z) (fun _=>z) (fun _ _ _=>z) (fun _ _=>z) z (fun _ _=>z) (fun _ _=>z) (fun _ _=>y) (fun _=>z) z (fun _ _ _ _ _=>z) z (fun _ _=>z) (fun _ _=>z) (fun _ _ _=>z) z (fun _ _ _ _=>z) (fun _ _=>z) z
 () (fun _ _ _ _=>()) () (fun _ _ _ _=>()) x
noncomputable def b6u (i:Nat) (x:AV) (k:AV→RO):RO:=c5B x (k (.loc i 0)) (k .undef)
theorem b9O (i:Nat) (x:AV) (k:AV→RO):b6u i x k=k (match x with|.box _=>.loc i 0|_=>.undef):=by cases x <;> rfl

section
variable {β:Type}
noncomputable def rdK (nv dep:Nat) (sc:Scope) (x:Opd) (e:β) (Q:Rd→β):β :=
 match x with
 | .t s=>match F6 s sc with
  | some (.w l)=>b1z (dep - 1 - l) fun r=>Q fun env _ k=>r env k
  | some (.s l)|some (.d l)=>b1z (dep - 1 - l) fun r=>Q fun env _ k=>r env fun x=>qWk x k
  | some (.k a)=>Q fun _ _ k=>k a.weak
  | some (.q a)=>Q fun _ _ k=>k a
  | none=>e
 | .ts s=>match F6 s sc with
  | some (.s l)=>b1z (dep - 1 - l) fun r=>Q fun env _ k=>r env k
  | some (.k a)=>Q fun _ _ k=>k a
  | _=>e
 | .v i=>match Nat.blt i nv with
  | true=>a1u i e fun g=>Q fun _ fr k=>g fr fun x=>qWk x k
  | false=>e
 | .vs i=>match Nat.blt i nv with
  | true=>a1u i e fun g=>Q fun _ fr k=>g fr k
  | false=>e
 | .l i=>match Nat.blt i nv with
  | true=>a1u i e fun g=>Q fun _ fr k=>g fr fun x=>b6u i x k
  | false=>e
 | .c a=>Q fun _ _ k=>k a
def c3L (nv dep:Nat) (sc:Scope) (x:Opd) (r:Rd):Prop:=∀ env fr σ,Ag nv dep sc env fr σ→∀ k,r env fr k=k (x.read σ)
theorem P5 {i n:Nat} (h:Nat.blt i n=true):i < n:=by simpa using h
theorem a4q {G:β→Prop} {nv dep:Nat} {sc:Scope} {x:Opd} {e:β} {Q:Rd→β} (hn:nv≤64) (he:G e) (h:∀ r,c3L nv dep sc x r→G (Q r)):G (rdK nv dep sc x e Q):=by
 unfold rdK
 cases x with
 | t s =>
  dsimp only
  cases hs:F6 s sc with
  | none=>exact he
  | some y =>
   cases y with
   | w l =>
    refine Z4 _ fun r hr=>h _ fun env fr σ ha k=>?_
    obtain ⟨a,h1,h2⟩:=ha.t _ _ hs
    show r env k=_
    rw [hr,a6E ha.d h1,← h2]; rfl
   | s l =>
    refine Z4 _ fun r hr=>h _ fun env fr σ ha k=>?_
    obtain ⟨a,h1,h2⟩:=ha.t _ _ hs
    show r env _=_
    rw [hr,a6E ha.d h1]
    show qWk a k=_
    rw [a0F,← h2]; rfl
   | d l =>
    refine Z4 _ fun r hr=>h _ fun env fr σ ha k=>?_
    obtain ⟨a,h1,h2⟩:=ha.t _ _ hs
    show r env _=_
    rw [hr,a6E ha.d h1]
    show qWk a k=_
    rw [a0F,← h2]; rfl
   | k a =>
    refine h _ fun env fr σ ha k=>?_
    have:=ha.t _ _ hs
    show k a.weak=k (σ.τ s).weak
    rw [show σ.τ s=a from this]
   | q a =>
    refine h _ fun env fr σ ha k=>?_
    have:=ha.t _ _ hs
    show k a=k (σ.τ s).weak
    rw [show (σ.τ s).weak=a from this]
 | ts s =>
  dsimp only
  cases hs:F6 s sc with
  | none=>exact he
  | some y =>
   cases y with
   | s l =>
    refine Z4 _ fun r hr=>h _ fun env fr σ ha k=>?_
    obtain ⟨a,h1,h2⟩:=ha.t _ _ hs
    show r env k=_
    rw [hr,a6E ha.d h1,← h2]; rfl
   | k a =>
    refine h _ fun env fr σ ha k=>?_
    have:=ha.t _ _ hs
    show k a=k (σ.τ s)
    rw [show σ.τ s=a from this]
   | _=>exact he
 | v i =>
  dsimp only
  cases hb:Nat.blt i nv with
  | false=>exact he
  | true =>
   have hi:=P5 hb
   refine J6 (by omega) he fun g hg=>h _ fun env fr σ ha k=>?_
   show g fr (fun x=>qWk x k)=k (σ.fr.getD i .undef).weak
   rw [hg,a0F,ha.f,L8 hi]
 | vs i =>
  dsimp only
  cases hb:Nat.blt i nv with
  | false=>exact he
  | true =>
   have hi:=P5 hb
   refine J6 (by omega) he fun g hg=>h _ fun env fr σ ha k=>?_
   show g fr k=k (σ.fr.getD i .undef)
   rw [hg,ha.f,L8 hi]
 | l i =>
  dsimp only
  cases hb:Nat.blt i nv with
  | false=>exact he
  | true =>
   have hi:=P5 hb
   refine J6 (by omega) he fun g hg=>h _ fun env fr σ ha k=>?_
   show g fr (fun x=>b6u i x k)=_
   rw [hg,b9O]
   show _=k (match σ.fr.getD i .undef with|.box _=>.loc i 0|_=>.undef)
   rw [ha.f,L8 hi]
 | c a=>exact h _ fun _ _ _ _ _=>rfl

def rdL (nv dep:Nat) (sc:Scope) (rd:Opd→β→(Rd→β)→β):List Opd→β→(List Rd→β)→β
 | [],_,Q=>Q []
 | x::xs,e,Q=>rd x e fun r=>rdL nv dep sc rd xs e fun rs=>Q (r::rs)
def a6w (nv dep:Nat) (sc:Scope):List Opd→List Rd→Prop
 | [],[]=>True
 | x::xs,r::rs=>c3L nv dep sc x r∧a6w nv dep sc xs rs
 | _,_=>False
theorem a6Q {G:β→Prop} {nv dep:Nat} {sc:Scope} (hn:nv≤64):∀ {xs:List Opd} {e:β} {Q:List Rd→β},G e→(∀ rs,a6w nv dep sc xs rs→G (Q rs))→G (rdL nv dep sc (fun x e Q=>rdK nv dep sc x e Q) xs e Q)
 | [],e,Q,he,h=>h [] trivial
 | x::xs,e,Q,he,h=>by
  unfold rdL
  exact a4q hn he fun r hr=>a6Q hn he fun rs hrs=>h _ ⟨hr,hrs⟩
end
def a1k:List Rd→List AV→Fr→(List AV→RO)→RO
 | [],_,_,k=>k []
 | r::rs,env,fr,k=>r env fr fun x=>a1k rs env fr fun xs=>k (x::xs)
theorem a0L {nv dep:Nat} {sc:Scope} {env:List AV} {fr:Fr} {σ:Sig} (ha:Ag nv dep sc env fr σ):∀ {xs:List Opd} {rs:List Rd} {k:List AV→RO},a6w nv dep sc xs rs→a1k rs env fr k=k (xs.map (·.read σ))
 | [],[],k,_=>rfl
 | x::xs,r::rs,k,h=>by
  show r env fr _=_
  rw [h.1 env fr σ ha,a0L ha h.2]
  rfl
 | [],_::_,_,h=>h.elim
 | _::_,[],_,h=>h.elim
section
variable {β:Type}
abbrev RdA:=List AV→Fr→(List AV→RO)→RO
noncomputable def b2H (rs:List Rd) (Q:RdA→β):β:=List.rec (motive:=fun _=>(RdA→β)→β) (fun Q=>Q fun _ _ k=>k []) (fun r _ ih Q=>ih fun ra=>Q fun env fr k=>r env fr fun x=>ra env fr fun xs=>k (x::xs)) rs Q
theorem a04 {G:β→Prop}:∀ {rs:List Rd} {Q:RdA→β},(∀ ra:RdA,(∀ env fr k,ra env fr k=a1k rs env fr k)→G (Q ra))→G (b2H rs Q)
 | [],Q,h=>h _ fun _ _ _=>rfl
 | r::rs,Q,h=>a04 (rs:=rs) fun ra hra=>h _ fun env fr k=>by
  show r env fr _=r env fr _
  congr
  funext x
  exact hra _ _ _

/-! kinds -/
abbrev KF:=b6→List AV→Fr→AV→St→(AV→AV→St→RO)→RO
def b56 (kd:Kind) (rs:List Rd) (kf:KF):Prop:=∀ c env fr b s K,kf c env fr b s K=a1k rs env fr fun as=>obind (sem kd c as b s) fun p=>K p.1 p.2.1 p.2.2
theorem p9 {kd:Kind} (h1:kd.setSt=false) (h2:kd.alters=false) (c:b6) (as:List AV) (b:AV) (s:St) (K:AV→AV→St→RO):obind (p1 (sem kd c as b s)) (fun r=>K r b s)=obind (sem kd c as b s) fun p=>K p.1 p.2.1 p.2.2:=by
 cases hs:sem kd c as b s with
 | none=>rfl
 | some p =>
  obtain ⟨r,b',s'⟩:=p
  have e1:=a1w h1 hs
  have e2:=a1L h2 hs
  subst e1 e2
  rfl
theorem a1Z {kd:Kind} (h2:kd.alters=false) (c:b6) (as:List AV) (b:AV) (s:St) (K:AV→AV→St→RO):obind (p2 (sem kd c as b s)) (fun r=>K r.1 b r.2)=obind (sem kd c as b s) fun p=>K p.1 p.2.1 p.2.2:=by
 cases hs:sem kd c as b s with
 | none=>rfl
 | some p =>
  obtain ⟨r,b',s'⟩:=p
  have e2:=a1L h2 hs
  subst e2
  rfl
noncomputable def a8m (c:b6) (s:St) (K:AV→St→RO) (i:Nat) (xs:List AV):RO:=a4S xs fun ws=>b7c (c i ws s) fun v s=>K v s
noncomputable def b2m (c:b6) (b:AV) (s:St) (f:AV→RO) (g:Bool) (d:Nat) (x:AV):RO:=a6B x (obind (p1 (sem (.ldAn g d) c [x] b s)) f) (fun o i=>a1T s f g d (.ptr o i)) (fun cs=>a4X f g d (.ro cs)) (fun _ _=>obind (p1 (sem (.ldAn g d) c [x] b s)) f)
theorem b6L (c:b6) (b:AV) (s:St) (f:AV→RO) (g:Bool) (d:Nat) (x:AV):b2m c b s f g d x=obind (p1 (sem (.ldAn g d) c [x] b s)) f:=by
 unfold b2m
 rw [a4j]
 cases x <;> try rfl
 · rename_i o i
   show a1T s f g d (.ptr o i)=_
   rw [a6M c b s]; rfl
 · rename_i cs
   show a4X f g d (.ro cs)=_
   rw [a6V c b s]; rfl
noncomputable def b6j {β:Type} (l:List β) (x:β) (k:List β→RO):RO:=Nat.rec (motive:=fun _=>List β→(List β→RO)→RO) (fun l k=>a4m l [x] k) (fun _ ih l k=>a2k l (k (l++[x])) ih k) (Nat.div (I4 l) 8) l k
theorem b0r {β:Type} (x:β):∀ (q:Nat) (l:List β) (k:List β→RO),Nat.rec (motive:=fun _=>List β→(List β→RO)→RO) (fun l k=>a4m l [x] k) (fun _ ih l k=>a2k l (k (l++[x])) ih k) q l k=k (l++[x])
 | 0,l,k=>a3G [x] l k
 | q+1,l,k=>by
  show a2k l (k (l++[x])) (fun l k=>Nat.rec (motive:=fun _=>List β→(List β→RO)→RO) (fun l k=>a4m l [x] k) (fun _ ih l k=>a2k l (k (l++[x])) ih k) q l k) k=_
  rw [b0k]
  split
  · rw [b0r x q (l.drop 8),← List.append_assoc,List.take_append_drop]
  · rfl
theorem a9Z {β:Type} (l:List β) (x:β) (k:List β→RO):b6j l x k=k (l++[x]):=b0r x _ l k
noncomputable def b1i (s:St) (f:AV×St→RO) (x:AV):RO:=plB x (fL x.cellsW fun cs=>a1Y (I4 s) fun n=>b6j s (.cells cs) fun s'=>f (.ptr n 0,s'))
theorem b6n (c:b6) (b:AV) (s:St) (f:AV×St→RO) (x:AV):b1i s f x=obind (p2 (sem .boxO c [x] b s)) f:=by
 simp only [b1i,a4F,fL_eq,X7,F5,a9Z,sem,I5]
 by_cases h:x.plain=true <;> simp [h,obind,p2]
noncomputable def a3A (s:St) (f:AV×St→RO) (z:List AV):RO:=a1Y (I4 s) fun n=>b6j s (.cells z) fun s'=>f (.ptr n 0,s')
theorem b2O (c:b6) (b:AV) (s:St) (f:AV×St→RO) (z:List AV):a3A s f z=obind (p2 (sem (.allocO z) c [] b s)) f:=by
 simp only [a3A,X7,F5,a9Z,sem,D5]
 rfl
noncomputable def a6P (c:b6) (s:St) (K:AV→St→RO) (as:List AV):RO:=match as with
 | .func f a cs::xs=>a4S xs fun _=>b7c (c f ((a++xs++cs).map AV.weak) s) fun v s=>K v s
 | _=>none
noncomputable def b7O (kd:Kind) (ra:RdA) (Q:KF→β):β:=match kd.alters with
 | true=>Q fun c env fr b s K=>ra env fr fun as=>obind (sem kd c as b s) fun p=>a1m p.1 fun r=>a1m p.2.1 fun b=>fL p.2.2 fun s=>K r b s
 | false=>match kd.setSt with
  | true=>Q fun c env fr b s K=>ra env fr fun as=>obind (p2 (sem kd c as b s)) fun p=>a1m p.1 fun r=>fL p.2 fun s=>K r b s
  | false=>Q fun c env fr b s K=>ra env fr fun as=>obind (p1 (sem kd c as b s)) fun x=>a1m x fun r=>K r b s
noncomputable def b1X (kd:Kind) (rs:List Rd) (Q:KF→β):β :=
 match kd,rs with
 | .mv,[x]=>Q fun c env fr b s K=>x env fr fun x=>K x b s
 | .bin .eql,[x,y]=>Q fun c env fr b s K=>x env fr fun x=>y env fr fun y=>b5z (fun r=>K r b s) x y
 | .bin .neq,[x,y]=>Q fun c env fr b s K=>x env fr fun x=>y env fr fun y=>b7d (fun r=>K r b s) x y
 | .bin .lss,[x,y]=>Q fun c env fr b s K=>x env fr fun x=>y env fr fun y=>a1s c b s (fun r=>K r b s) .lss Nat.blt x y
 | .bin .leq,[x,y]=>Q fun c env fr b s K=>x env fr fun x=>y env fr fun y=>a1s c b s (fun r=>K r b s) .leq Nat.ble x y
 | .bin .gtr,[x,y]=>Q fun c env fr b s K=>x env fr fun x=>y env fr fun y=>a1s c b s (fun r=>K r b s) .gtr (fun i j=>Nat.blt j i) x y
 | .bin .geq,[x,y]=>Q fun c env fr b s K=>x env fr fun x=>y env fr fun y=>a1s c b s (fun r=>K r b s) .geq (fun i j=>Nat.ble j i) x y
 | .bin .add,[x,y]=>Q fun c env fr b s K=>x env fr fun x=>y env fr fun y=>b6B c b s (fun r=>K r b s) x y
 | .bin .sub,[x,y]=>Q fun c env fr b s K=>x env fr fun x=>y env fr fun y=>b6Y c b s (fun r=>K r b s) x y
 | .un .not,[x]=>Q fun c env fr b s K=>x env fr fun x=>b5P (fun r=>K r b s) x
 | .nilchk,[x]=>Q fun c env fr b s K=>x env fr fun x=>b6T c b s (fun r=>K r b s) x
 | .lenS,[x]=>Q fun c env fr b s K=>x env fr fun x=>b1L (fun r=>K r b s) x
 | .lenL,[x]=>Q fun c env fr b s K=>x env fr fun x=>b2u c b s (fun r=>K r b s) x
 | .idxS,[x,y]=>Q fun c env fr b s K=>x env fr fun x=>y env fr fun y=>b7m (fun r=>K r b s) x y
 | .pick,[x,y,z]=>Q fun c env fr b s K=>x env fr fun x=>y env fr fun y=>z env fr fun z=>b2x (fun r=>K r b s) x y z
 | .fad d,[x]=>Q fun c env fr b s K=>x env fr fun x=>b5S (fun r=>K r b s) d x
 | .iad d,[x,y]=>Q fun c env fr b s K=>x env fr fun x=>y env fr fun y=>b6f c b s (fun r=>K r b s) d x y
 | .ldSt g d,[x]=>Q fun c env fr b s K=>x env fr fun x=>a1T s (fun r=>K r b s) g d x
 | .ldRo g d,[x]=>Q fun c env fr b s K=>x env fr fun x=>a4X (fun r=>K r b s) g d x
 | .ldAn g d,[x]=>Q fun c env fr b s K=>x env fr fun x=>b2m c b s (fun r=>K r b s) g d x
 | .ldLc i g d,[x]=>Q fun c env fr b s K=>x env fr fun x=>b1Y b (fun r=>K r b s) i g d x
 | .ext d,[x]=>Q fun c env fr b s K=>x env fr fun x=>b6R (fun r=>K r b s) d x
 | .slS true true,[x,y,z]=>Q fun c env fr b s K=>x env fr fun x=>y env fr fun y=>z env fr fun z=>b6J c b s (fun r=>K r b s) x y z
 | .app d e,[x,y]=>Q fun c env fr b s K=>x env fr fun x=>y env fr fun y=>b7j b s (fun p=>K p.1 p.2.1 p.2.2) d e x y
 | .alloc d,[]=>Q fun c env fr b s K=>a7B b s (fun p=>K p.1 p.2.1 p.2.2) d
 | .stLc i d,[x,y]=>Q fun c env fr b s K=>x env fr fun x=>y env fr fun y=>b0S b s (fun p=>K p.1 p.2.1 p.2.2) i d x y
 | .stSt d,[x,y]=>Q fun c env fr b s K=>x env fr fun x=>y env fr fun y=>b1m s (fun p=>K p.1 b p.2) d x y
 | .boxO,[x]=>Q fun c env fr b s K=>x env fr fun x=>b1i s (fun p=>K p.1 b p.2) x
 | .allocO z,[]=>Q fun c env fr b s K=>a3A s (fun p=>K p.1 b p.2) z
 | .callV,rs=>b2H rs fun ra=>Q fun c env fr b s K=>ra env fr fun as=>a6P c s (fun v s=>K v b s) as
 | .call f,rs=>b2H rs fun ra=>Q fun c env fr b s K=>ra env fr fun as=>a8m c s (fun v s=>K v b s) f as
 | kd,rs=>b2H rs fun ra=>b7O kd ra Q
theorem b4R {G:β→Prop} {kd:Kind} {rs:List Rd} {ra:RdA} {Q:KF→β} (hra:∀ env fr k,ra env fr k=a1k rs env fr k) (h:∀ kf,b56 kd rs kf→G (Q kf)):G (b7O kd ra Q):=by
 unfold b7O
 cases h2:kd.alters with
 | true=>exact h _ fun c env fr b s K=>by rw [hra]; simp only [fNew_eq,fL_eq]
 | false =>
  cases h1:kd.setSt with
  | true =>
   refine h _ fun c env fr b s K=>?_
   rw [hra]; simp only [fNew_eq,fL_eq]
   congr; funext as
   exact a1Z h2 c as b s K
  | false =>
   refine h _ fun c env fr b s K=>?_
   rw [hra]; simp only [fNew_eq]
   congr; funext as
   exact p9 h1 h2 c as b s K
theorem Q2 (x:Rd) (env:List AV) (fr:Fr) (k:List AV→RO):a1k [x] env fr k=x env fr fun x=>k [x]:=rfl
theorem M6 (x y:Rd) (env:List AV) (fr:Fr) (k:List AV→RO):a1k [x,y] env fr k=x env fr fun x=>y env fr fun y=>k [x,y]:=rfl
theorem b41 (x y z:Rd) (env:List AV) (fr:Fr) (k:List AV→RO):a1k [x,y,z] env fr k=x env fr fun x=>y env fr fun y=>z env fr fun z=>k [x,y,z]:=rfl
theorem b2Q {G:β→Prop} {kd:Kind} {rs:List Rd} {Q:KF→β} (h:∀ kf,b56 kd rs kf→G (Q kf)):G (b1X kd rs Q):=by
 unfold b1X
 split
 · exact h _ fun c env fr b s K=>rfl
 · exact h _ fun c env fr b s K=>by rw [M6]; congr; funext x; congr; funext y; rw [b8X c b s]; exact p9 rfl rfl ..
 · exact h _ fun c env fr b s K=>by rw [M6]; congr; funext x; congr; funext y; rw [b8a c b s]; exact p9 rfl rfl ..
 · exact h _ fun c env fr b s K=>by rw [M6]; congr; funext x; congr; funext y; rw [c3g c b s]; exact p9 rfl rfl ..
 · exact h _ fun c env fr b s K=>by rw [M6]; congr; funext x; congr; funext y; rw [c1g c b s]; exact p9 rfl rfl ..
 · exact h _ fun c env fr b s K=>by rw [M6]; congr; funext x; congr; funext y; rw [c2S c b s]; exact p9 rfl rfl ..
 · exact h _ fun c env fr b s K=>by rw [M6]; congr; funext x; congr; funext y; rw [c3O c b s]; exact p9 rfl rfl ..
 · exact h _ fun c env fr b s K=>by rw [M6]; congr; funext x; congr; funext y; rw [c0a c b s]; exact p9 rfl rfl ..
 · exact h _ fun c env fr b s K=>by rw [M6]; congr; funext x; congr; funext y; rw [c0O c b s]; exact p9 rfl rfl ..
 · exact h _ fun c env fr b s K=>by rw [Q2]; congr; funext x; rw [b8x c b s]; exact p9 rfl rfl ..
 · exact h _ fun c env fr b s K=>by rw [Q2]; congr; funext x; rw [b8m c b s]; exact p9 rfl rfl ..
 · exact h _ fun c env fr b s K=>by rw [Q2]; congr; funext x; rw [b5j c b s]; exact p9 rfl rfl ..
 · exact h _ fun c env fr b s K=>by rw [Q2]; congr; funext x; rw [b5k c b s]; exact p9 rfl rfl ..
 · exact h _ fun c env fr b s K=>by rw [M6]; congr; funext x; congr; funext y; rw [c0y c b s]; exact p9 rfl rfl ..
 · exact h _ fun c env fr b s K=>by rw [b41]; congr; funext x; congr; funext y; congr; funext z; rw [b5r c b s]; exact p9 rfl rfl ..
 · exact h _ fun c env fr b s K=>by rw [Q2]; congr; funext x; rw [b9Q c b s]; exact p9 rfl rfl ..
 · exact h _ fun c env fr b s K=>by rw [M6]; congr; funext x; congr; funext y; rw [b8W c b s]; exact p9 rfl rfl ..
 · exact h _ fun c env fr b s K=>by rw [Q2]; congr; funext x; rw [a6M c b s]; exact p9 rfl rfl ..
 · exact h _ fun c env fr b s K=>by rw [Q2]; congr; funext x; rw [a6V c b s]; exact p9 rfl rfl ..
 · exact h _ fun c env fr b s K=>by rw [Q2]; congr; funext x; rw [b6L c b s]; exact p9 rfl rfl ..
 · exact h _ fun c env fr b s K=>by rw [Q2]; congr; funext x; rw [b6o c b s]; exact p9 rfl rfl ..
 · exact h _ fun c env fr b s K=>by rw [Q2]; congr; funext x; rw [c0T c b s]; exact p9 rfl rfl ..
 · exact h _ fun c env fr b s K=>by rw [b41]; congr; funext x; congr; funext y; congr; funext z; rw [b8o c b s]; exact p9 rfl rfl ..
 · exact h _ fun c env fr b s K=>by rw [M6]; congr; funext x; congr; funext y; exact b8J c b s ..
 · exact h _ fun c env fr b s K=>b4N c b s ..
 · exact h _ fun c env fr b s K=>by rw [M6]; congr; funext x; congr; funext y; exact b7k c b s ..
 · exact h _ fun c env fr b s K=>by rw [M6]; congr; funext x; congr; funext y; rw [b7v c b s]; exact a1Z rfl ..
 · exact h _ fun c env fr b s K=>by rw [Q2]; congr; funext x; rw [b6n c b s]; exact a1Z rfl ..
 · exact h _ fun c env fr b s K=>by show a3A s (fun p=>K p.1 b p.2) _=_; rw [b2O c b s]; exact a1Z rfl ..
 · refine a04 fun ra hra=>h _ fun c env fr b s K=>?_
   rw [hra]
   congr; funext as
   show a6P c s (fun v s=>K v b s) as=_
   unfold a6P
   simp only [sem,C8]
   split
   · rename_i f a cs xs
     rw [a2K]
     dsimp only
     split
     · rw [a9S]
       cases c f ((a++xs++cs).map AV.weak) s <;> rfl
     · rfl
   · rename_i hno
     split
     · rename_i f a cs xs
       exact absurd rfl (hno f a cs xs)
     · rfl
 · refine a04 fun ra hra=>h _ fun c env fr b s K=>?_
   rw [hra]
   congr; funext as
   show a8m c s (fun v s=>K v b s) _ as=_
   unfold a8m
   rw [a2K]
   simp only [sem,q9]
   split
   · rw [a9S]
     cases c _ (as.map AV.weak) s <;> rfl
   · rfl
 · exact a04 fun ra hra=>b4R hra h
end
end Go.Cb.G
/-
 THE ABSTRACT MACHINE, part 45: regions, made ready once.
-/
set_option maxRecDepth 4000
set_option linter.unusedVariables false
namespace Go.Cb.G
open Go Go.Cb
inductive Clo where
 | mk (f:b6→List AV→Fr→St→RO)
noncomputable def Clo.run (x:Clo):b6→List AV→Fr→St→RO:=Clo.rec (motive:=fun _=>b6→List AV→Fr→St→RO) (fun f=>f) x
noncomputable def a0a:Clo:=.mk fun _ _ _ _=>none
abbrev OpF:=b6→List AV→Fr→St→(List AV→Fr→St→RO)→RO
abbrev CF:=b6→List AV→Fr→St→(AV→Fr→St→RO)→RO
section
variable {β:Type}
noncomputable def a2F:List Opd→Scope→Scope
 | [],sc=>sc
 | .ts s::xs,sc=>a2F xs (match F6 s sc with
  | some (.s l)=>(s,.d l)::sc
  | some (.k a)=>(s,.q a.weak)::sc
  | _=>sc)
 | _::xs,sc=>a2F xs sc
noncomputable def a1G (nv:Nat):List Opd→β→((Fr→(Fr→RO)→RO)→β)→β
 | [],_,Q=>Q fun fr k=>k fr
 | .vs i::xs,e,Q=>match Nat.blt i nv with
  | true=>a1u i e fun g=>a5x i e fun p=>a1G nv xs e fun r=>Q fun fr k=>g fr fun x=>qWk x fun x=>p x fr fun fr=>r fr k
  | false=>e
 | _::xs,e,Q=>a1G nv xs e Q
def b1t:List Opd→Bool
 | []=>false
 | .vs _::_=>true
 | _::xs=>b1t xs
noncomputable def b1o (nv:Nat) (kd:Kind) (args:List Opd) (box:Option Nat) (kf:KF) (e:β) (Q:CF→β):β :=
 match b1t args,box with
 | false,none=>Q fun c env fr st K=>kf c env fr .undef st fun r _ s=>K r fr s
 | true,none=>a1G nv args e fun sp=>Q fun c env fr st K=>kf c env fr .undef st fun r _ s=>sp fr fun fr=>K r fr s
 | vs,some i=>match Nat.blt i nv with
  | false=>e
  | true=>a1u i e fun g=>match kd.alters || vs with
   | false=>Q fun c env fr st K=>g fr fun b=>kf c env fr b st fun r _ s=>K r fr s
   | true=>a1G nv args e fun sp=>a5x i e fun p=>Q fun c env fr st K=>g fr fun b=>kf c env fr b st fun r b s=>sp fr fun fr=>p b fr fun fr=>K r fr s
abbrev PF:=AV→List AV→Fr→St→(List AV→Fr→St→RO)→RO
def b5F (x:Nat):List Nat→Bool
 | []=>false
 | y::ys=>Nat.beq x y || b5F x ys
noncomputable def b7J (nv dep:Nat) (tss:List Nat) (d:Dst) (sc:Scope) (e:β) (Q:PF→Nat→Scope→β):β :=
 match d with
 | .t s=>match b5F s tss with
  | true=>Q (fun r env fr s k=>qSb r fun v _=>k (v::env) fr s) (dep+1) ((s,.s dep)::sc)
  | false=>Q (fun r env fr s k=>qSb r fun _ w=>k (w::env) fr s) (dep+1) ((s,.w dep)::sc)
 | .v i=>match Nat.blt i nv with
  | true=>a5x i e fun p=>Q (fun r env fr s k=>qSv r fun v _=>p v fr fun fr=>k env fr s) dep sc
  | false=>e
 | _=>Q (fun r env fr s k=>k env fr s) dep sc
noncomputable def qGd (q:AV) (w:Bool) (x y:RO):RO:=c1f q none (fun v=>bW v w x y) (fun vs=>List.rec (motive:=fun _=>RO) y (fun _ _ _=>none) vs)
theorem c1i (q:AV) (w:Bool) (x y:RO):qGd q w x y=match q with|.bool b=>if b == w then x else y|.tuple []=>y|_=>none:=by
 simp only [qGd,b95,c48]
 cases q <;> try rfl
 rename_i vs; cases vs <;> rfl
def a5q (o:AOper):Option (Nat×Opd):=match o with
 | ⟨.t s,.mv,[.t s'],none,none⟩=>some (s,.t s')
 | ⟨.t s,.mv,[.c a],none,none⟩=>some (s,.c a)
 | _=>none
noncomputable def opK (nv dep:Nat) (sc:Scope) (tss:List Nat) (o:AOper) (e:β) (Q0:Scope→β) (Q:OpF→Nat→Scope→β):β :=
 match a5q o with
 | some (s,.t s')=>match F6 s' sc with
  | some (.w l)=>Q0 ((s,.w l)::sc)
  | some (.s l)|some (.d l)=>Q0 ((s,.d l)::sc)
  | some (.k a)=>Q0 ((s,.q a.weak)::sc)
  | some (.q a)=>Q0 ((s,.q a)::sc)
  | none=>e
 | some (s,.c a)=>Q0 ((s,.k a.stripB)::sc)
 | _=>rdL nv dep sc (fun x e Q=>rdK nv dep sc x e Q) o.args e fun rs=>b1X o.kind rs fun kf=>b1o nv o.kind o.args o.box kf e fun cf =>
  b7J nv dep tss o.dst (a2F o.args sc) e fun pf dep' sc'=>match o.guard with
   | none=>Q (fun c env fr st k=>cf c env fr st fun r fr s=>pf r env fr s k) dep' sc'
   | some (x,w)=>rdK nv dep sc x e fun g=>Q (fun c env fr st k=>g env fr fun q=>qGd q w (cf c env fr st fun r fr s=>pf r env fr s k) (pf (.tuple []) env fr st k)) dep' sc'

/-! what is true of them -/
theorem b0e {v:AV} (h:v.stripB=v):v.weak.stripB=v.weak:=by cases v <;> first|rfl|cases h
theorem a3V (v:AV):v.stripB.stripB=v.stripB:=by cases v <;> rfl
theorem a0B (τ:Nat→AV) (s:Nat) (a:AV) (j:Nat):p8 τ s a j=if j=s then a else τ j:=by
 unfold p8
 by_cases h:j=s
 · subst h; simp
 · rw [if_neg h]; simp [h]
theorem I2 {nv:Nat} (hn:nv≤64):∀ (xs:List Opd) {G:β→Prop} {e:β} {Q:(Fr→(Fr→RO)→RO)→β},G e →
 (∀ sp:Fr→(Fr→RO)→RO,(∀ fr σ,σ.fr=toL nv fr→∃ fr',(∀ k,sp fr k=k fr')∧(b7 xs σ).fr=toL nv fr')→G (Q sp))→G (a1G nv xs e Q)
 | [],G,e,Q,he,h=>h _ fun fr σ hf=>⟨fr,fun _=>rfl,hf⟩
 | x::xs,G,e,Q,he,h=>by
  cases x with
  | vs i =>
   unfold a1G
   cases hb:Nat.blt i nv with
   | false=>exact he
   | true =>
    have hi:=P5 hb
    refine J6 (by omega) he fun g hg=>a09 (by omega) he fun p hp=>I2 hn xs he fun sp hsp=>h _ fun fr σ hf=>?_
    obtain ⟨fr',h1,h2⟩:=hsp (a1g i (S3 i fr).weak fr) (Opd.spend (.vs i) σ) (by
     show σ.fr.set i (σ.fr.getD i .undef).weak=_
     rw [hf,L8 hi,a1B hi hn])
    refine ⟨fr',fun k=>?_,h2⟩
    show g fr (fun x=>qWk x fun x=>p x fr fun fr=>sp fr k)=_
    rw [hg,a0F,hp,h1]
  | ts s=>exact I2 hn xs he fun sp hsp=>h sp fun fr σ hf=>hsp fr (Opd.spend (.ts s) σ) hf
  | t s=>exact I2 hn xs he fun sp hsp=>h sp fun fr σ hf=>hsp fr σ hf
  | v s=>exact I2 hn xs he fun sp hsp=>h sp fun fr σ hf=>hsp fr σ hf
  | l s=>exact I2 hn xs he fun sp hsp=>h sp fun fr σ hf=>hsp fr σ hf
  | c s=>exact I2 hn xs he fun sp hsp=>h sp fun fr σ hf=>hsp fr σ hf
def a2w (sc:Scope) (env:List AV) (τ:Nat→AV):Prop:=∀ s x,F6 s sc=some x→SrcOK env (τ s) x
theorem H1 {env:List AV}:∀ {xs:List Opd} {sc:Scope} {σ:Sig},a2w sc env σ.τ→(∀ s,(σ.τ s).stripB=σ.τ s) →
 a2w (a2F xs sc) env σ.τ∧a2w (a2F xs sc) env (b7 xs σ).τ∧(∀ s,((b7 xs σ).τ s).stripB=(b7 xs σ).τ s)∧(b7 xs σ).st=σ.st
 | [],sc,σ,h,hb=>⟨h,h,hb,rfl⟩
 | x::xs,sc,σ,h,hb=>by
  cases x with
  | ts s =>
   have hw:∀ (v:AV),v=σ.τ s∨v=(σ.τ s).weak→∀ y,F6 s (match F6 s sc with|some (.s l)=>(s,.d l)::sc|some (.k a)=>(s,.q a.weak)::sc|_=>sc)=some y→SrcOK env v y:=by
    intro v hv y hy
    have hw':v.weak=(σ.τ s).weak:=by rcases hv with rfl|rfl; rfl; exact D4 _
    cases hs:F6 s sc with
    | none=>rw [hs] at hy; dsimp only at hy; rw [hs] at hy; cases hy
    | some z =>
     have hz:=h _ _ hs
     rw [hs] at hy
     cases z with
     | s l =>
      dsimp only at hy
      rw [a1A,if_pos rfl] at hy
      cases hy
      obtain ⟨a,h1,h2⟩:=hz
      exact ⟨a,h1,by rw [hw',h2]⟩
     | k a =>
      dsimp only at hy
      rw [a1A,if_pos rfl] at hy
      cases hy
      show v.weak=a.weak
      rw [hw',show σ.τ s=a from hz]
     | w l =>
      dsimp only at hy
      rw [hs] at hy
      cases hy
      obtain ⟨a,h1,h2⟩:=hz
      exact ⟨a,h1,by rw [hw',h2]⟩
     | d l =>
      dsimp only at hy
      rw [hs] at hy
      cases hy
      obtain ⟨a,h1,h2⟩:=hz
      exact ⟨a,h1,by rw [hw',h2]⟩
     | q a =>
      dsimp only at hy
      rw [hs] at hy
      cases hy
      show v.weak=a
      rw [hw']
      exact hz
   have ho:∀ t,t≠s→∀ y,F6 t (match F6 s sc with|some (.s l)=>(s,.d l)::sc|some (.k a)=>(s,.q a.weak)::sc|_=>sc)=some y→F6 t sc=some y:=by
    intro t ht y hy
    cases hs:F6 s sc with
    | none=>rw [hs] at hy; exact hy
    | some z =>
     rw [hs] at hy
     cases z <;> dsimp only at hy <;> first|exact hy|(rw [a1A,if_neg (fun q=>ht q.symm)] at hy; exact hy)
   have h1:a2w (match F6 s sc with|some (.s l)=>(s,.d l)::sc|some (.k a)=>(s,.q a.weak)::sc|_=>sc) env σ.τ:=fun t y hy=>by
    by_cases e:t=s
    · subst e; exact hw _ (.inl rfl) y hy
    · exact h _ _ (ho t e y hy)
   have h2:a2w (match F6 s sc with|some (.s l)=>(s,.d l)::sc|some (.k a)=>(s,.q a.weak)::sc|_=>sc) env (Opd.spend (.ts s) σ).τ:=fun t y hy=>by
    show SrcOK env (p8 σ.τ s (σ.τ s).weak t) y
    rw [a0B]
    by_cases e:t=s
    · subst e; rw [if_pos rfl]; exact hw _ (.inr rfl) y hy
    · rw [if_neg e]; exact h _ _ (ho t e y hy)
   have hb2:∀ t,((Opd.spend (.ts s) σ).τ t).stripB=(Opd.spend (.ts s) σ).τ t:=fun t=>by
    show (p8 σ.τ s (σ.τ s).weak t).stripB=p8 σ.τ s (σ.τ s).weak t
    rw [a0B]
    split
    · exact b0e (hb s)
    · exact hb t
   have a:=H1 (xs:=xs) h1 hb
   have b:=H1 (xs:=xs) h2 hb2
   exact ⟨a.1,b.2.1,b.2.2.1,b.2.2.2⟩
  | vs i =>
   have a:=H1 (xs:=xs) h hb
   have b:=H1 (xs:=xs) (σ:=Opd.spend (.vs i) σ) h hb
   exact ⟨a.1,b.2.1,b.2.2.1,b.2.2.2⟩
  | t s=>exact H1 (xs:=xs) h hb
  | v s=>exact H1 (xs:=xs) h hb
  | l s=>exact H1 (xs:=xs) h hb
  | c s=>exact H1 (xs:=xs) h hb
theorem a8q {xs:List Opd} (h:b1t xs=false):∀ σ:Sig,(b7 xs σ).fr=σ.fr:=by
 induction xs with
 | nil=>intro σ; rfl
 | cons x xs ih=>intro σ; cases x <;> first|exact ih h _|cases h

def c73 (nv dep:Nat) (sc:Scope) (o:AOper) (cf:CF):Prop:=∀ c env fr st σ,Ag nv dep sc env fr σ→σ.st=st→∀ (K:AV→Fr→St→RO) out,cf c env fr st K=some out →
 ∃ r b st' fr',sem o.kind c (o.args.map (·.read σ)) (match o.box with|some i=>σ.fr.getD i .undef|none=>.undef) st=some (r,b,st')∧K r fr' st'=some out ∧
  (match o.box with|some i=>(b7 o.args σ).fr.set i b|none=>(b7 o.args σ).fr)=toL nv fr'
theorem a3q {α γ:Type} {x:Option α} {f:α→Option γ} {r:γ} (h:obind x f=some r):∃ a,x=some a∧f a=some r:=by
 cases x with
 | none=>cases h
 | some a=>exact ⟨a,rfl,h⟩
theorem b2t {G:β→Prop} {nv dep:Nat} {sc:Scope} {o:AOper} {rs:List Rd} {kf:KF} {e:β} {Q:CF→β} (hn:nv≤64) (hrs:a6w nv dep sc o.args rs) (hkf:b56 o.kind rs kf) (he:G e) (h:∀ cf,c73 nv dep sc o cf→G (Q cf)) :
 G (b1o nv o.kind o.args o.box kf e Q):=by
 unfold b1o
 split
 · rename_i hv hb
   refine h _ fun c env fr st σ ha hst K out hout=>?_
   rw [hkf,a0L ha hrs] at hout
   obtain ⟨⟨r,b,st'⟩,h1,h2⟩:=a3q hout
   exact ⟨r,b,st',fr,by rw [hb]; exact h1,h2,by rw [hb]; dsimp only; rw [a8q hv,ha.f]⟩
 · rename_i hv hb
   refine I2 hn o.args he fun sp hsp=>h _ fun c env fr st σ ha hst K out hout=>?_
   rw [hkf,a0L ha hrs] at hout
   obtain ⟨⟨r,b,st'⟩,h1,h2⟩:=a3q hout
   obtain ⟨fr',h3,h4⟩:=hsp fr σ ha.f
   dsimp only at h2
   rw [h3] at h2
   exact ⟨r,b,st',fr',by rw [hb]; exact h1,h2,by rw [hb]; exact h4⟩
 · rename_i i hb
   cases hbi:Nat.blt i nv with
   | false=>exact he
   | true =>
    have hi:=P5 hbi
    refine J6 (by omega) he fun g hg=>?_
    split
    · rename_i hal
      simp only [Bool.or_eq_false_iff] at hal
      refine h _ fun c env fr st σ ha hst K out hout=>?_
      rw [hg,hkf,a0L ha hrs] at hout
      obtain ⟨⟨r,b,st'⟩,h1,h2⟩:=a3q hout
      refine ⟨r,b,st',fr,by rw [hb]; dsimp only; rw [ha.f,L8 hi]; exact h1,h2,?_⟩
      rw [hb]
      have:=a1L hal.1 h1
      subst this
      dsimp only
      rw [a8q hal.2,ha.f,← L8 hi fr]
      exact a2U _ _
    · refine I2 hn o.args he fun sp hsp=>a09 (by omega) he fun p hp=>h _ fun c env fr st σ ha hst K out hout=>?_
      rw [hg,hkf,a0L ha hrs] at hout
      obtain ⟨⟨r,b,st'⟩,h1,h2⟩:=a3q hout
      obtain ⟨fr',h3,h4⟩:=hsp fr σ ha.f
      dsimp only at h2
      rw [h3,hp] at h2
      refine ⟨r,b,st',_,by rw [hb]; dsimp only; rw [ha.f,L8 hi]; exact h1,h2,?_⟩
      rw [hb]
      dsimp only
      rw [h4,a1B hi hn]

def c8x (nv dep:Nat) (o:AOper) (sc:Scope) (pf:PF) (dep':Nat) (sc':Scope):Prop:=∀ r env fr s (k:List AV→Fr→St→RO) out,pf r env fr s k=some out→∀ σ:Sig,σ.fr=toL nv fr→env.length=dep→(∀ t,(σ.τ t).stripB=σ.τ t)→a2w sc env σ.τ→σ.st=s →
 ∃ env' fr',k env' fr' s=some out∧Ag nv dep' sc' env' fr' (o.dst.put r σ)∧(o.dst.put r σ).st=s
theorem b4X {G:β→Prop} {nv dep:Nat} {tss:List Nat} {o:AOper} {sc:Scope} {e:β} {Q:PF→Nat→Scope→β} (hn:nv≤64) (he:G e) (h:∀ pf dep' sc',c8x nv dep o sc pf dep' sc'→G (Q pf dep' sc')):G (b7J nv dep tss o.dst sc e Q):=by
 unfold b7J
 cases hd:o.dst with
 | t s =>
  dsimp only
  have nb':∀ (σ:Sig) (r:AV),(∀ t,(σ.τ t).stripB=σ.τ t)→∀ t,(p8 σ.τ s r.stripB t).stripB=p8 σ.τ s r.stripB t:=fun σ r hb t=>by
   rw [a0B]; split
   · exact a3V r
   · exact hb t
  have sc1:∀ (σ:Sig) (r:AV) (env:List AV) (y:Src) (v:AV),env.length=dep→a2w sc env σ.τ→SrcOK (v::env) r.stripB y→a2w ((s,y)::sc) (v::env) (p8 σ.τ s r.stripB):=fun σ r env y v hl hsc hy t x hx=>by
   rw [a1A] at hx
   rw [a0B]
   split at hx
   · rename_i e; cases hx; rw [if_pos e.symm]; exact hy
   · rename_i e; rw [if_neg (fun q=>e q.symm)]; exact (hsc _ _ hx).push v
  cases b5F s tss with
  | true =>
   refine h _ _ _ fun r env fr s' k out hout σ hf hl hb hsc hst=>?_
   rw [b4E] at hout
   refine ⟨_,_,hout,?_,by rw [hd]; exact hst⟩
   rw [hd]
   exact ⟨hf,by simp [hl],nb' σ r hb,sc1 σ r env _ _ hl hsc ⟨_,by rw [← hl]; exact b37 _ _,rfl⟩⟩
  | false =>
   refine h _ _ _ fun r env fr s' k out hout σ hf hl hb hsc hst=>?_
   rw [b4E] at hout
   refine ⟨_,_,hout,?_,by rw [hd]; exact hst⟩
   rw [hd]
   exact ⟨hf,by simp [hl],nb' σ r hb,sc1 σ r env _ _ hl hsc ⟨_,by rw [← hl]; exact b37 _ _,rfl⟩⟩
 | v i =>
  dsimp only
  cases hbi:Nat.blt i nv with
  | false=>exact he
  | true =>
   have hi:=P5 hbi
   refine a09 (by omega) he fun p hp=>h _ _ _ fun r env fr s' k out hout σ hf hl hb hsc hst=>?_
   rw [c2C,hp] at hout
   refine ⟨_,_,hout,?_,by rw [hd]; exact hst⟩
   rw [hd]
   exact ⟨by show σ.fr.set i r.strip=_; rw [hf,a1B hi hn],hl,hb,hsc⟩
 | none =>
  refine h _ _ _ fun r env fr s' k out hout σ hf hl hb hsc hst=>?_
  refine ⟨_,_,hout,?_,by rw [hd]; exact hst⟩
  rw [hd]
  exact ⟨hf,hl,hb,hsc⟩
 | bx =>
  refine h _ _ _ fun r env fr s' k out hout σ hf hl hb hsc hst=>?_
  refine ⟨_,_,hout,?_,by rw [hd]; exact hst⟩
  rw [hd]
  exact ⟨hf,hl,hb,hsc⟩

def c7n (nv dep:Nat) (sc:Scope) (o:AOper) (opf:OpF) (dep':Nat) (sc':Scope):Prop:=∀ c env fr st σ,Ag nv dep sc env fr σ→σ.st=st→∀ (k:List AV→Fr→St→RO) out,opf c env fr st k=some out →
 ∃ σ' env' fr',e8 c o σ=some σ'∧Ag nv dep' sc' env' fr' σ'∧k env' fr' σ'.st=some out
def c4h (nv dep:Nat) (sc:Scope) (o:AOper) (sc':Scope):Prop:=∀ c env fr σ,Ag nv dep sc env fr σ→∃ σ',e8 c o σ=some σ'∧Ag nv dep sc' env fr σ'∧σ'.st=σ.st
theorem a6i {nv dep:Nat} {sc:Scope} {env:List AV} {fr:Fr} {σ:Sig} (ha:Ag nv dep sc env fr σ) (s:Nat) (v:AV) (y:Src) (hy:SrcOK env v.stripB y):Ag nv dep ((s,y)::sc) env fr ({ σ with τ:=p8 σ.τ s v.stripB }) :=
 ⟨ha.f,ha.d,fun t=>by
  show (p8 σ.τ s v.stripB t).stripB=p8 σ.τ s v.stripB t
  rw [a0B]; split
  · exact a3V v
  · exact ha.nb t,fun t x hx=>by
  show SrcOK env (p8 σ.τ s v.stripB t) x
  rw [a1A] at hx
  rw [a0B]
  split at hx
  · rename_i e; cases hx; rw [if_pos e.symm]; exact hy
  · rename_i e; rw [if_neg (fun q=>e q.symm)]; exact ha.t _ _ hx⟩
theorem a5f (c:b6) (s:Nat) (x:Opd) (hx:x.steals=false) (σ:Sig):e8 c ⟨.t s,.mv,[x],none,none⟩ σ=some { σ with τ:=p8 σ.τ s (x.read σ).stripB }:=by
 have e:b7 [x] σ=σ:=S6 (by simp [d8,hx])
 show C2 c _ σ=_
 rw [M2]
 show some (Dst.put (.t s) (x.read σ) { b7 [x] σ with st:=σ.st })=_
 rw [e]
 rfl
theorem b57 {G:β→Prop} {nv dep:Nat} {sc:Scope} {tss:List Nat} {o:AOper} {e:β} {Q0:Scope→β} {Q:OpF→Nat→Scope→β} (hn:nv≤64) (he:G e) (h0:∀ sc',c4h nv dep sc o sc'→G (Q0 sc'))
 (h:∀ opf dep' sc',c7n nv dep sc o opf dep' sc'→G (Q opf dep' sc')):G (opK nv dep sc tss o e Q0 Q):=by
 unfold opK
 split
 · rename_i s s' hal
   have ho:o=⟨.t s,.mv,[.t s'],none,none⟩:=by
    unfold a5q at hal
    split at hal <;> first|(cases hal; rfl)|cases hal
   subst ho
   have go:∀ y,(∀ env fr σ,Ag nv dep sc env fr σ→SrcOK env (σ.τ s').weak y)→c4h nv dep sc ⟨.t s,.mv,[.t s'],none,none⟩ ((s,y)::sc):=fun y hy c env fr σ ha=>by
    refine ⟨_,a5f c s (.t s') rfl σ,a6i ha s _ y ?_,rfl⟩
    show SrcOK env ((σ.τ s').weak).stripB y
    rw [b0e (ha.nb s')]
    exact hy env fr σ ha
   split
   · rename_i l hs
     exact h0 _ (go _ fun env fr σ ha=>by obtain ⟨a,h1,h2⟩:=ha.t _ _ hs; exact ⟨a,h1,by rw [D4,h2]⟩)
   · rename_i l hs
     exact h0 _ (go _ fun env fr σ ha=>by obtain ⟨a,h1,h2⟩:=ha.t _ _ hs; exact ⟨a,h1,by rw [D4,h2]⟩)
   · rename_i l hs
     exact h0 _ (go _ fun env fr σ ha=>by obtain ⟨a,h1,h2⟩:=ha.t _ _ hs; exact ⟨a,h1,by rw [D4,h2]⟩)
   · rename_i a hs
     exact h0 _ (go _ fun env fr σ ha=>by
      have:=ha.t _ _ hs
      show (σ.τ s').weak.weak=a.weak
      rw [D4,show σ.τ s'=a from this])
   · rename_i a hs
     exact h0 _ (go _ fun env fr σ ha=>by
      have:=ha.t _ _ hs
      show (σ.τ s').weak.weak=a
      rw [D4]
      exact this)
   · exact he
 · rename_i s a hal
   have ho:o=⟨.t s,.mv,[.c a],none,none⟩:=by
    unfold a5q at hal
    split at hal <;> first|(cases hal; rfl)|cases hal
   subst ho
   exact h0 _ fun c env fr σ ha=>⟨_,a5f c s (.c a) rfl σ,a6i ha s _ _ rfl,rfl⟩
 · refine a6Q hn he fun rs hrs=>b2Q fun kf hkf=>b2t hn hrs hkf he fun cf hcf=>b4X hn he fun pf dep' sc' hpf=>?_
   have body:∀ c env fr st σ,Ag nv dep sc env fr σ→σ.st=st→∀ (k:List AV→Fr→St→RO) out,(cf c env fr st fun r fr s=>pf r env fr s k)=some out →
    ∃ σ' env' fr',C2 c o σ=some σ'∧Ag nv dep' sc' env' fr' σ'∧k env' fr' σ'.st=some out:=fun c env fr st σ ha hst k out hout=>by
    obtain ⟨r,b,st',fr',h1,h2,h3⟩:=hcf c env fr st σ ha hst _ out hout
    obtain ⟨e1,e2,e3,e4⟩:=H1 (xs:=o.args) (σ:=σ) ha.t ha.nb
    let σ1:Sig:=match o.box with
     | some i=>{ b7 o.args σ with fr:=(b7 o.args σ).fr.set i b,st:=st' }
     | none=>{ b7 o.args σ with st:=st' }
    have hfr:σ1.fr=toL nv fr':=by
     rw [← h3]; simp only [σ1]; cases o.box <;> rfl
    have hτ:σ1.τ=(b7 o.args σ).τ:=by simp only [σ1]; cases o.box <;> rfl
    have hs1:σ1.st=st':=by simp only [σ1]; cases o.box <;> rfl
    obtain ⟨env2,fr2,g1,g2,g3⟩:=hpf r env fr' st' k out h2 σ1 hfr ha.d (by rw [hτ]; exact e3) (by rw [hτ]; exact e2) hs1
    refine ⟨_,env2,fr2,?_,g2,by rw [g3]; exact g1⟩
    rw [M2,hst]
    simp only [σ1]
    cases hb:o.box <;> rw [hb] at h1 <;> dsimp only at h1 ⊢ <;> rw [h1]
   split
   · rename_i hg
     refine h _ _ _ fun c env fr st σ ha hst k out hout=>?_
     unfold e8
     rw [hg]
     exact body c env fr st σ ha hst k out hout
   · rename_i x w hg
     refine a4q hn he fun g hgr=>h _ _ _ fun c env fr st σ ha hst k out hout=>?_
     rw [hgr env fr σ ha,c1i] at hout
     unfold e8
     rw [hg]
     dsimp only
     have skip:pf (.tuple []) env fr st k=some out→∃ σ' env' fr',some (o.dst.put (.tuple []) σ)=some σ'∧Ag nv dep' sc' env' fr' σ'∧k env' fr' σ'.st=some out:=fun hout=>by
      obtain ⟨env2,fr2,g1,g2,g3⟩:=hpf _ env fr st k out hout σ ha.f ha.d ha.nb (H1 (xs:=o.args) (σ:=σ) ha.t ha.nb).1 hst
      exact ⟨_,env2,fr2,rfl,g2,by rw [g3]; exact g1⟩
     cases hx:x.read σ <;> rw [hx] at hout <;> (try dsimp only at hout ⊢) <;> try cases hout
     · rename_i b
       split at hout
       · rename_i hbw; rw [if_pos hbw]; exact body c env fr st σ ha hst k out hout
       · rename_i hbw; rw [if_neg hbw]; exact skip hout
     · rename_i vs
       cases vs with
       | nil=>exact skip hout
       | cons=>cases hout
end

noncomputable def a3F (nv:Nat) (tss:List Nat) (cond:Opd) (ops:List AOper):Nat→Scope→Clo:=List.rec (motive:=fun _=>Nat→Scope→Clo)
 (fun dep sc=>rdK nv dep sc cond a0a fun r=>.mk fun c env fr st=>r env fr fun x=>some (x,fr,st))
 (fun o _ ih dep sc=>opK nv dep sc tss o a0a (fun sc'=>ih dep sc') fun opf dep' sc'=>.mk fun c env fr st=>opf c env fr st fun env fr st=>(ih dep' sc').run c env fr st) ops
def a3k (nv dep:Nat) (sc:Scope) (cond:Opd) (ops:List AOper) (x:Clo):Prop:=∀ c env fr st σ v fr' st',Ag nv dep sc env fr σ→σ.st=st→x.run c env fr st=some (v,fr',st') →
 ∃ σ',g9 c ops σ=some σ'∧σ'.fr=toL nv fr'∧σ'.st=st'∧cond.read σ'=v
theorem a7W {nv dep:Nat} {sc:Scope} {cond:Opd} {ops:List AOper}:a3k nv dep sc cond ops a0a:=fun c env fr st σ v fr' st' ha hst h=>by cases (show (none:RO)=some _ from h)
theorem a2c {nv:Nat} (hn:nv≤64) {tss:List Nat} {cond:Opd}:∀ (ops:List AOper) (dep:Nat) (sc:Scope),a3k nv dep sc cond ops (a3F nv tss cond ops dep sc)
 | [],dep,sc=>by
  show a3k nv dep sc cond [] (rdK nv dep sc cond a0a fun r=>.mk fun c env fr st=>r env fr fun x=>some (x,fr,st))
  refine a4q (G:=a3k nv dep sc cond []) hn a7W fun r hr c env fr st σ v fr' st' ha hst h=>?_
  have h:r env fr (fun x=>some (x,fr,st))=some (v,fr',st'):=h
  rw [hr env fr σ ha] at h
  cases h
  exact ⟨σ,rfl,ha.f,hst,rfl⟩
 | o::ops,dep,sc=>by
  show a3k nv dep sc cond (o::ops) (opK nv dep sc tss o a0a (fun sc'=>a3F nv tss cond ops dep sc') fun opf dep' sc'=>.mk fun c env fr st=>opf c env fr st fun env fr st=>(a3F nv tss cond ops dep' sc').run c env fr st)
  refine b57 (G:=a3k nv dep sc cond (o::ops)) hn a7W (fun sc' hal c env fr st σ v fr' st' ha hst h=>?_) fun opf dep' sc' ho c env fr st σ v fr' st' ha hst h=>?_
  · obtain ⟨σ1,h1,h2,h3⟩:=hal c env fr σ ha
    obtain ⟨σ2,g1,g2⟩:=a2c hn ops dep sc' c env fr st σ1 v fr' st' h2 (h3.trans hst) h
    exact ⟨σ2,by rw [g9,h1]; exact g1,g2⟩
  · obtain ⟨σ1,env1,fr1,h1,h2,h3⟩:=ho c env fr st σ ha hst _ _ h
    obtain ⟨σ2,g1,g2⟩:=a2c hn ops dep' sc' c env1 fr1 σ1.st σ1 v fr' st' h2 rfl h3
    exact ⟨σ2,by rw [g9,h1]; exact g1,g2⟩
end Go.Cb.G
/-
 THE ABSTRACT MACHINE, part 46: code and functions, made ready once; what they answer is the machine's answer.
-/
set_option maxRecDepth 4000
set_option linter.unusedVariables false
namespace Go.Cb.G
open Go Go.Cb
/-! regions -/
noncomputable def a6y (nv:Nat) (kill:List Nat) (Q:(Fr→(Fr→RO)→RO)→Clo):Clo:=List.rec (motive:=fun _=>((Fr→(Fr→RO)→RO)→Clo)→Clo) (fun Q=>Q fun fr k=>k fr)
 (fun i _ ih Q=>Bool.rec (motive:=fun _=>Clo) (ih Q) (a5x i a0a fun p=>ih fun r=>Q fun fr k=>p .undef fr fun fr=>r fr k) (Nat.blt i nv)) kill Q
def tsL:List Opd→List Nat
 | []=>[]
 | .ts s::xs=>s::tsL xs
 | _::xs=>tsL xs
def b1A:List AOper→List Nat
 | []=>[]
 | o::os=>match tsL o.args with
  | []=>b1A os
  | l=>l++b1A os
noncomputable def a4W (nv:Nat) (kill:List Nat) (ops:List AOper) (cond:Opd):Clo :=
 a6y nv kill fun kf=>.mk fun c _ fr st=>kf fr fun fr=>(a3F nv (tsL [cond]++b1A ops) cond ops 0 []).run c [] fr st
theorem a2e {G:Clo→Prop} {nv:Nat} (hn:nv≤64) (hs:G a0a):∀ {kill:List Nat} {Q:(Fr→(Fr→RO)→RO)→Clo},(∀ r:Fr→(Fr→RO)→RO,(∀ fr,∃ fr',(∀ k,r fr k=k fr')∧e7 kill (toL nv fr)=toL nv fr')→G (Q r))→G (a6y nv kill Q)
 | [],Q,h=>h _ fun fr=>⟨fr,fun _=>rfl,rfl⟩
 | i::is,Q,h=>by
  show G (Bool.rec (motive:=fun _=>Clo) (a6y nv is Q) (a5x i a0a fun p=>a6y nv is fun r=>Q fun fr k=>p .undef fr fun fr=>r fr k) (Nat.blt i nv))
  cases hb:Nat.blt i nv with
  | false =>
   have hi:¬ i < nv:=fun q=>by rw [show Nat.blt i nv=true by simpa using q] at hb; cases hb
   exact a2e hn hs (kill:=is) fun r hr=>h r fun fr=>by
    obtain ⟨fr',h1,h2⟩:=hr fr
    exact ⟨fr',h1,by rw [e7,a3Z hi]; exact h2⟩
  | true =>
   have hi:=P5 hb
   exact a09 (by omega) hs fun p hp=>a2e hn hs (kill:=is) fun r hr=>h _ fun fr=>by
    obtain ⟨fr',h1,h2⟩:=hr (a1g i .undef fr)
    exact ⟨fr',fun k=>by show p .undef fr _=_; rw [hp,h1],by rw [e7,a1B hi hn]; exact h2⟩
def a9X (nv:Nat) (kill:List Nat) (ops:List AOper) (cond:Opd) (x:Clo):Prop:=∀ c env fr st v fr' st',x.run c env fr st=some (v,fr',st') →
 ∃ σ',g9 c ops ⟨e7 kill (toL nv fr),fun _=>.undef,st⟩=some σ'∧σ'.fr=toL nv fr'∧σ'.st=st'∧cond.read σ'=v
theorem a7g {nv:Nat} (hn:nv≤64) {kill:List Nat} {ops:List AOper} {cond:Opd}:a9X nv kill ops cond (a4W nv kill ops cond):=by
 refine a2e (G:=a9X nv kill ops cond) hn (fun c env fr st v fr' st' h=>by cases (show (none:RO)=some _ from h)) fun r hr c env fr st v fr' st' h=>?_
 obtain ⟨fr1,h1,h2⟩:=hr fr
 have h:r fr _=_:=h
 rw [h1] at h
 exact a2c hn ops 0 [] c [] fr1 st ⟨e7 kill (toL nv fr),fun _=>.undef,st⟩ v fr' st' ⟨h2,rfl,fun _=>rfl,fun s x hx=>by cases (show (none:Option Src)=some x from hx)⟩ rfl h

/-! code -/
abbrev CO:=Option (Ex×Fr×St)
inductive CloC where
 | mk (f:b6→Nat→Fr→St→CO)
noncomputable def CloC.run (x:CloC):b6→Nat→Fr→St→CO:=CloC.rec (motive:=fun _=>b6→Nat→Fr→St→CO) (fun f=>f) x
section
variable {ρ:Type}
noncomputable def a6I (x:RO) (k:AV→Fr→St→Option ρ):Option ρ:=Option.rec (motive:=fun _=>Option ρ) none (fun p=>Prod.rec (motive:=fun _=>Option ρ) (fun v q=>Prod.rec (motive:=fun _=>Option ρ) (fun fr st=>k v fr st) q) p) x
noncomputable def a0S (x:CO) (k:Ex→Fr→St→Option ρ):Option ρ:=Option.rec (motive:=fun _=>Option ρ) none (fun p=>Prod.rec (motive:=fun _=>Option ρ) (fun v q=>Prod.rec (motive:=fun _=>Option ρ) (fun fr st=>k v fr st) q) p) x
noncomputable def a1d (e:Ex) (n:Option ρ) (x:Nat→Option ρ) (r:Option ρ):Option ρ:=Ex.rec (motive:=fun _=>Option ρ) n x r e
theorem a6e {x:RO} {k:AV→Fr→St→Option ρ} {r:ρ} (h:a6I x k=some r):∃ v fr st,x=some (v,fr,st)∧k v fr st=some r:=by
 cases x with
 | none=>cases h
 | some p=>obtain ⟨v,fr,st⟩:=p; exact ⟨v,fr,st,rfl,h⟩
theorem U7 {x:CO} {k:Ex→Fr→St→Option ρ} {r:ρ} (h:a0S x k=some r):∃ v fr st,x=some (v,fr,st)∧k v fr st=some r:=by
 cases x with
 | none=>cases h
 | some p=>obtain ⟨v,fr,st⟩:=p; exact ⟨v,fr,st,rfl,h⟩
end
noncomputable def b2o (b:b6→Nat→Fr→St→CO) (c:b6) (n m:Nat):Fr→St→CO:=Nat.rec (motive:=fun _=>Fr→St→CO) (fun _ _=>none) (fun _ ih fr st=>a0S (b c n fr st) fun e fr st=>a1d e (ih fr st) (fun i=>some (.exit i,fr,st)) (some (.ret,fr,st))) m
def a5e (nv:Nat):List Nat→Fr→Fr
 | [],fr=>fr
 | i::is,fr=>a5e nv is (if i < nv then a1g i .undef fr else fr)
theorem a2J {nv:Nat} (hn:nv≤64):∀ {is:List Nat} {fr:Fr},e7 is (toL nv fr)=toL nv (a5e nv is fr)
 | [],fr=>rfl
 | i::is,fr=>by
  rw [e7,a5e]
  split
  · rename_i h; rw [a1B h hn]; exact a2J hn
  · rename_i h; rw [a3Z h]; exact a2J hn
noncomputable def b4k (nv:Nat) (kill:List Nat) (x y:CO):CO:=a0S x fun e fr st=>a0S y fun e' fr' st' =>
 if a6F (G0 kill (e,toL nv fr,st)) (G0 kill (e',toL nv fr',st')) then some (e,a5e nv kill fr,st) else none
noncomputable def W2 (nv:Nat) (x:ACode):CloC:=ACode.rec (motive:=fun _=>CloC)
 (.mk fun _ _ fr st=>some (.normal,fr,st))
 (fun kill ops=>.mk fun c _ fr st=>a6I ((a4W nv kill ops (.c .undef)).run c [] fr st) fun _ fr st=>some (.normal,fr,st))
 (fun kill ops x _ _ a b=>.mk fun c n fr st=>a6I ((a4W nv kill ops x).run c [] fr st) fun v fr st=>onB v none fun y=>Bool.rec (motive:=fun _=>CO) (b.run c n fr st) (a.run c n fr st) y)
 (fun _ _ a b=>.mk fun c n fr st=>a0S (a.run c n fr st) fun e fr st=>a1d e (b.run c n fr st) (fun i=>some (.exit i,fr,st)) (some (.ret,fr,st)))
 (fun id _ a=>.mk fun c n fr st=>a0S (a.run c n fr st) fun e fr st=>a1d e (some (.normal,fr,st)) (fun i=>Bool.rec (motive:=fun _=>CO) (some (.exit i,fr,st)) (some (.normal,fr,st)) (Nat.beq i id)) (some (.ret,fr,st)))
 (fun _ a=>.mk fun c n fr st=>b2o (fun c n fr st=>a.run c n fr st) c n n fr st)
 (fun kill _ _ a b=>.mk fun c n fr st=>b4k nv kill (a.run c n fr st) (b.run c n fr st))
 (fun id=>.mk fun _ _ fr st=>some (.exit id,fr,st))
 (.mk fun _ _ fr st=>some (.ret,fr,st)) x
def b9m (nv:Nat) (x:ACode) (y:CloC):Prop:=∀ c n fr st e fr' st',y.run c n fr st=some (e,fr',st')→b9 c n x (toL nv fr) st=some (e,toL nv fr',st')
theorem a8z {nv:Nat} {a:ACode} {b:b6→Nat→Fr→St→CO} {c:b6} {n:Nat} (h:∀ fr st e fr' st',b c n fr st=some (e,fr',st')→b9 c n a (toL nv fr) st=some (e,toL nv fr',st')):∀ (m:Nat) (fr:Fr) (st:St) (e:Ex) (fr':Fr) (st':St),b2o b c n m fr st=some (e,fr',st')→F0 (b9 c n a) m (toL nv fr) st=some (e,toL nv fr',st')
 | 0,fr,st,e,fr',st',hs=>by cases (show (none:CO)=some _ from hs)
 | m+1,fr,st,e,fr',st',hs=>by
  obtain ⟨e1,fr1,st1,h1,h2⟩:=U7 (show a0S (b c n fr st) (fun e fr st=>a1d e (b2o b c n m fr st) (fun i=>some (.exit i,fr,st)) (some (.ret,fr,st)))=some (e,fr',st') from hs)
  rw [F0,h _ _ _ _ _ h1]
  cases e1 with
  | normal=>exact a8z h m fr1 st1 e fr' st' h2
  | exit i=>cases (show some (Ex.exit i,fr1,st1)=some (e,fr',st') from h2); rfl
  | ret=>cases (show some (Ex.ret,fr1,st1)=some (e,fr',st') from h2); rfl
theorem N4 {nv:Nat} (hn:nv≤64):∀ x:ACode,b9m nv x (W2 nv x)
 | .skip,c,n,fr,st,e,fr',st',h=>by cases (show some (Ex.normal,fr,st)=some (e,fr',st') from h); rfl
 | .ret,c,n,fr,st,e,fr',st',h=>by cases (show some (Ex.ret,fr,st)=some (e,fr',st') from h); rfl
 | .exit id,c,n,fr,st,e,fr',st',h=>by cases (show some (Ex.exit id,fr,st)=some (e,fr',st') from h); rfl
 | .reg kill ops,c,n,fr,st,e,fr',st',h=>by
  obtain ⟨v,fr1,st1,h1,h2⟩:=a6e (show a6I ((a4W nv kill ops (.c .undef)).run c [] fr st) (fun _ fr st=>some (Ex.normal,fr,st))=some (e,fr',st') from h)
  cases h2
  obtain ⟨σ,g1,g2,g3,g4⟩:=a7g hn _ _ _ _ _ _ _ h1
  rw [b9,g1]
  simp only [fL_eq,g2,g3]
 | .test kill ops x a b,c,n,fr,st,e,fr',st',h=>by
  obtain ⟨v,fr1,st1,h1,h2⟩:=a6e (show a6I ((a4W nv kill ops x).run c [] fr st) (fun v fr st=>onB v none fun y=>Bool.rec (motive:=fun _=>CO) ((W2 nv b).run c n fr st) ((W2 nv a).run c n fr st) y)=some (e,fr',st') from h)
  obtain ⟨σ,g1,g2,g3,g4⟩:=a7g hn _ _ _ _ _ _ _ h1
  rw [a7V] at h2
  rw [b9,g1]
  dsimp only
  rw [g4]
  cases v <;> try (cases h2; done)
  rename_i y
  cases y
  · simp only [fL_eq,g2,g3]; exact N4 hn b _ _ _ _ _ _ _ h2
  · simp only [fL_eq,g2,g3]; exact N4 hn a _ _ _ _ _ _ _ h2
 | .seq a b,c,n,fr,st,e,fr',st',h=>by
  obtain ⟨e1,fr1,st1,h1,h2⟩:=U7 (show a0S ((W2 nv a).run c n fr st) (fun e fr st=>a1d e ((W2 nv b).run c n fr st) (fun i=>some (.exit i,fr,st)) (some (.ret,fr,st)))=some (e,fr',st') from h)
  rw [b9,N4 hn a _ _ _ _ _ _ _ h1]
  cases e1 with
  | normal=>exact N4 hn b _ _ _ _ _ _ _ h2
  | exit i=>cases (show some (Ex.exit i,fr1,st1)=some (e,fr',st') from h2); rfl
  | ret=>cases (show some (Ex.ret,fr1,st1)=some (e,fr',st') from h2); rfl
 | .blk id a,c,n,fr,st,e,fr',st',h=>by
  obtain ⟨e1,fr1,st1,h1,h2⟩:=U7 (show a0S ((W2 nv a).run c n fr st) (fun e fr st=>a1d e (some (.normal,fr,st)) (fun i=>Bool.rec (motive:=fun _=>CO) (some (.exit i,fr,st)) (some (.normal,fr,st)) (Nat.beq i id)) (some (.ret,fr,st)))=some (e,fr',st') from h)
  rw [b9,N4 hn a _ _ _ _ _ _ _ h1]
  cases e1 with
  | normal=>cases (show some (Ex.normal,fr1,st1)=some (e,fr',st') from h2); rfl
  | exit i =>
   have h2:Bool.rec (motive:=fun _=>CO) (some (.exit i,fr1,st1)) (some (.normal,fr1,st1)) (Nat.beq i id)=some (e,fr',st'):=h2
   dsimp only
   cases hb:Nat.beq i id with
   | true=>rw [hb] at h2; cases h2; rw [if_pos (Nat.eq_of_beq_eq_true hb)]
   | false=>rw [hb] at h2; cases h2; rw [if_neg (Nat.ne_of_beq_eq_false hb)]
  | ret=>cases (show some (Ex.ret,fr1,st1)=some (e,fr',st') from h2); rfl
 | .loop a,c,n,fr,st,e,fr',st',h=>by
  rw [b9]
  exact a8z (b:=fun c n fr st=>(W2 nv a).run c n fr st) (fun fr st e fr' st' h=>N4 hn a _ _ _ _ _ _ _ h) n fr st e fr' st' h
 | .either kill a b,c,n,fr,st,e,fr',st',h=>by
  have h:b4k nv kill ((W2 nv a).run c n fr st) ((W2 nv b).run c n fr st)=some (e,fr',st'):=h
  obtain ⟨e1,fr1,st1,h1,h2⟩:=U7 h
  obtain ⟨e2,fr2,st2,h3,h4⟩:=U7 h2
  rw [b9,N4 hn a _ _ _ _ _ _ _ h1,N4 hn b _ _ _ _ _ _ _ h3]
  unfold a3u
  split at h4
  · rename_i hq
    cases h4
    dsimp only
    rw [if_pos hq]
    show some (_,e7 kill (toL nv fr1),_)=_
    rw [a2J hn]
  · cases h4

/-! functions -/
inductive FnC where
 | mk (f:b6→Nat→List AV→St→Option (AV×St))
noncomputable def FnC.run (x:FnC):b6→Nat→List AV→St→Option (AV×St):=FnC.rec (motive:=fun _=>b6→Nat→List AV→St→Option (AV×St)) (fun f=>f) x
noncomputable def M4:FnC:=.mk fun _ _ _ _=>none
noncomputable def b7a (nv:Nat) (r:ResK) (Q:(Fr→St→(AV→Option (AV×St))→Option (AV×St))→FnC):FnC :=
 match r with
 | .v i=>match Nat.blt i nv with
  | true=>a1u i M4 fun g=>Q fun fr _ k=>g fr fun x=>qWk x k
  | false=>M4
 | .vs i=>match Nat.blt i nv with
  | true=>a1u i M4 fun g=>Q fun fr _ k=>g fr k
  | false=>M4
 | .bx i agg n=>match Nat.blt i nv with
  | true=>a1u i M4 fun g=>Q fun fr st k=>g fr fun x=>b0Q x none fun cs=>a3t k agg n cs
  | false=>M4
 | .po i agg n=>match Nat.blt i nv with
  | true=>a1u i M4 fun g=>Q fun fr st k=>g fr fun x=>a1T st k agg n x
  | false=>M4
theorem b4q {G:FnC→Prop} {nv:Nat} (hn:nv≤64) (hs:G M4) {r:ResK} {Q:(Fr→St→(AV→Option (AV×St))→Option (AV×St))→FnC} (h:∀ g:Fr→St→(AV→Option (AV×St))→Option (AV×St),(∀ fr st k out,g fr st k=some out→∃ v,r.get (toL nv fr) st=some v∧k v=some out)→G (Q g)):G (b7a nv r Q):=by
 unfold b7a
 cases r with
 | v i =>
  dsimp only
  cases hb:Nat.blt i nv with
  | false=>exact hs
  | true =>
   have hi:=P5 hb
   refine J6 (by omega) hs fun g hg=>h _ fun fr st k out ho=>?_
   rw [hg,a0F] at ho
   exact ⟨_,by rw [ResK.get,L8 hi],ho⟩
 | vs i =>
  dsimp only
  cases hb:Nat.blt i nv with
  | false=>exact hs
  | true =>
   have hi:=P5 hb
   refine J6 (by omega) hs fun g hg=>h _ fun fr st k out ho=>?_
   rw [hg] at ho
   exact ⟨_,by rw [ResK.get,L8 hi],ho⟩
 | bx i agg n =>
  dsimp only
  cases hb:Nat.blt i nv with
  | false=>exact hs
  | true =>
   have hi:=P5 hb
   refine J6 (by omega) hs fun g hg=>h _ fun fr st k out ho=>?_
   rw [hg,a5F] at ho
   rw [ResK.get,L8 hi]
   cases hx:S3 i fr <;> rw [hx] at ho <;> try (cases ho; done)
   rename_i cs
   dsimp only at ho ⊢
   rw [a0X] at ho
   cases ht:d9 agg n cs with
   | none=>rw [ht] at ho; cases ho
   | some v=>rw [ht] at ho; exact ⟨v,rfl,ho⟩
 | po i agg n =>
  dsimp only
  cases hb:Nat.blt i nv with
  | false=>exact hs
  | true =>
   have hi:=P5 hb
   refine J6 (by omega) hs fun g hg=>h _ fun fr st k out ho=>?_
   rw [hg] at ho
   rw [ResK.get,L8 hi]
   simp only [a1T,a7X,a5v,a2t,a0X,Y3] at ho
   cases hx:S3 i fr <;> rw [hx] at ho <;> try (cases ho; done)
   rename_i o off
   dsimp only at ho ⊢
   cases hq:st[o]? with
   | none=>rw [hq] at ho; cases ho
   | some ob =>
    rw [hq] at ho
    cases ob with
    | cells cs =>
     dsimp only at ho ⊢
     cases ht:d9 agg n (cs.drop off) with
     | none=>rw [ht] at ho; cases ho
     | some v=>rw [ht] at ho; exact ⟨v,rfl,ho⟩
    | map _=>cases ho
    | dead=>cases ho
noncomputable def b1G (nv:Nat):List ResK→((Fr→St→(List AV→Option (AV×St))→Option (AV×St))→FnC)→FnC
 | [],Q=>Q fun _ _ k=>k []
 | r::rs,Q=>b7a nv r fun g=>b1G nv rs fun gs=>Q fun fr st k=>g fr st fun v=>gs fr st fun vs=>k (v::vs)
theorem a5U {G:FnC→Prop} {nv:Nat} (hn:nv≤64) (hs:G M4):∀ {rs:List ResK} {Q:(Fr→St→(List AV→Option (AV×St))→Option (AV×St))→FnC},(∀ g:Fr→St→(List AV→Option (AV×St))→Option (AV×St),(∀ fr st k out,g fr st k=some out→∃ vs,B8 rs (toL nv fr) st=some vs∧k vs=some out)→G (Q g))→G (b1G nv rs Q)
 | [],Q,h=>h _ fun fr st k out ho=>⟨[],rfl,ho⟩
 | r::rs,Q,h=>by
  unfold b1G
  exact b4q hn hs fun g hg=>a5U hn hs fun gs hgs=>h _ fun fr st k out ho=>by
   obtain ⟨v,h1,h2⟩:=hg fr st _ _ ho
   obtain ⟨vs,h3,h4⟩:=hgs fr st _ _ h2
   exact ⟨v::vs,by rw [B8,h1,h3],h4⟩
noncomputable def a5K (vs:List AV) (st:St):Option (AV×St):=List.rec (motive:=fun _=>Option (AV×St)) (some (.tuple [],st)) (fun v ws _=>List.rec (motive:=fun _=>Option (AV×St)) (some (v,st)) (fun _ _ _=>some (.tuple vs,st)) ws) vs
noncomputable def b16 (fn:AFn):FnC:=match Nat.ble fn.nv 64 && Nat.ble fn.np fn.nv with
 | true=>b1G fn.nv fn.results fun g=>.mk fun c n as st=>Bool.rec (motive:=fun _=>Option (AV×St)) none (b6D as fun w=>a0S ((W2 fn.nv fn.code).run c n (fr0 w) st) fun e fr st=>a1d e (g fr st fun vs=>a5K vs st) (fun _=>none) (g fr st fun vs=>a5K vs st)) (Nat.beq (I4 as) fn.np)
 | false=>M4
noncomputable def fnC (x:Option AFn):FnC:=match x with
 | none=>M4
 | some fn=>match fn.ext with
  | some e=>.mk fun _ _ as st=>e as st
  | none=>b16 fn
theorem b9E {vs:List AV} {st:St}:a5K vs st=(match (some vs:Option (List AV)) with|some [v]=>some (v,st)|some vs=>some (.tuple vs,st)|none=>none):=by
 match vs with
 | []=>rfl
 | [_]=>rfl
 | _::_::_=>rfl
def b3E (fn:AFn) (x:FnC):Prop:=∀ c n as st out,x.run c n as st=some out→fn.run c n as st=some out
theorem b7u (fn:AFn):b3E fn (b16 fn):=by
 have hs:b3E fn M4:=fun c n as st out h=>by cases (show (none:Option (AV×St))=some _ from h)
 unfold b16
 cases hb:Nat.ble fn.nv 64 && Nat.ble fn.np fn.nv with
 | false=>exact hs
 | true =>
  simp only [Bool.and_eq_true,Nat.ble_eq] at hb
  refine a5U hb.1 hs fun g hg c n as st out h=>?_
  have h:Bool.rec (motive:=fun _=>Option (AV×St)) none (b6D as fun w=>a0S ((W2 fn.nv fn.code).run c n (fr0 w) st) fun e fr st=>a1d e (g fr st fun vs=>a5K vs st) (fun _=>none) (g fr st fun vs=>a5K vs st)) (Nat.beq (I4 as) fn.np)=some out:=h
  cases hl:Nat.beq (I4 as) fn.np with
  | false=>rw [hl] at h; cases h
  | true =>
   rw [hl] at h
   have hl:=Nat.eq_of_beq_eq_true hl
   rw [F5] at hl
   obtain ⟨w,h1,h2,h3⟩:=c0s h
   obtain ⟨e,fr',st',h4,h5⟩:=U7 h1
   have h6:=N4 hb.1 fn.code _ _ _ _ _ _ _ h4
   rw [c2W h3 hl h2 hb.2 hb.1] at h6
   unfold AFn.run
   rw [if_pos hl,h6]
   have fin:(g fr' st' fun vs=>a5K vs st')=some out→(match B8 fn.results (toL fn.nv fr') st' with|some [v]=>some (v,st')|some vs=>some (.tuple vs,st')|none=>none)=some out:=fun h=>by
    obtain ⟨vs,h7,h8⟩:=hg fr' st' _ _ h
    rw [h7,← h8,b9E]
   cases e with
   | normal=>exact fin h5
   | exit i=>cases (show (none:Option (AV×St))=some _ from h5)
   | ret=>exact fin h5

noncomputable def callG (tbl:Nat→Option AFn) (n:Nat):b6:=Nat.rec (motive:=fun _=>b6) (fun _ _ _=>none) (fun n ih f as st=>(fnC (tbl f)).run ih n as st) n
theorem a4g {tbl:Nat→Option AFn}:∀ n,Z3 (callG tbl n) (l3 tbl n)
 | 0,f,as,st,r,h=>by cases (show (none:Option (AV×St))=some _ from h)
 | n+1,f,as,st,r,h=>by
  have h:(fnC (tbl f)).run (callG tbl n) n as st=some r:=h
  unfold l3
  cases ht:tbl f with
  | none=>rw [ht] at h; cases (show (none:Option (AV×St))=some _ from h)
  | some fn =>
   rw [ht] at h
   unfold fnC at h
   dsimp only at h ⊢
   cases he:fn.ext with
   | some e=>rw [he] at h; exact h
   | none =>
    rw [he] at h
    exact b4v (a4g n) (Nat.le_refl _) (b7u fn _ _ _ _ _ h)
theorem a6J {tbl:Nat→Option AFn} {k f:Nat} {as:List AV} {st:St} {r:AV} {st':St} (h:callG tbl k f as st=some (r,st')):Ev tbl f as st r st':=⟨k,a4g k _ _ _ _ h⟩
end Go.Cb.G
/-
 THE ABSTRACT MACHINE, part 47: a law's own code, step by step, over calls of which the answers are known.
-/
set_option maxRecDepth 4000
set_option linter.unusedVariables false
namespace Go.Cb.G
open Go Go.Cb
def N:b6:=fun _ _ _=>none
def sp (kill:List Nat) (ops:List AOper) (i:Nat) (fr:List AV) (st:St):Option (Sig×AOper×List AOper):=match g9 N (ops.take i) ⟨e7 kill fr,fun _=>.undef,st⟩,ops.drop i with
 | some σ,o::os=>some (σ,o,os)
 | _,_=>none
def after (kill:List Nat) (ops:List AOper) (i:Nat) (x:Opd) (fr:List AV) (st:St) (r:AV) (st1:St):Option (AV×List AV×St):=match sp kill ops i fr st with
 | some (σ,o,os)=>match g9 N os (o.dst.put r { b7 o.args σ with st:=st1 }) with
  | some σ=>some (x.read σ,σ.fr,σ.st)
  | none=>none
 | none=>none
section
variable {tbl:Nat→Option AFn}
theorem c84 {code:ACode} {k:Nat} {fr:List AV} {st:St} {out:Out} (h:b9 (callG tbl k) k code fr st=some out):XC tbl code fr st out:=⟨k,D2 (a4g k) (Nat.le_refl _) h⟩
def fin (rs:List ResK) (o:Option Out):Option (AV×St):=match o with
 | some (.exit _,_,_)=>none
 | some (_,fr,st)=>match B8 rs fr st with
  | some [v]=>some (v,st)
  | some vs=>some (.tuple vs,st)
  | none=>none
 | none=>none
def c6Q (x:Option (AV×St)):Option AV:=match x with
 | some (v,_)=>some v
 | none=>none
def FX (tbl:Nat→Option AFn) (rs:List ResK) (code:ACode) (fr:List AV) (st:St) (v:AV):Prop:=∃ out st',XC tbl code fr st out∧fin rs (some out)=some (v,st')
theorem FX.seq {rs:List ResK} {a b:ACode} {fr fr1:List AV} {st st1:St} {v:AV} (h:XC tbl a fr st (.normal,fr1,st1)) (h':FX tbl rs b fr1 st1 v):FX tbl rs (.seq a b) fr st v:=by
 obtain ⟨⟨e,fr',st'⟩,s,h1,h2⟩:=h'
 exact ⟨_,s,XC.seq h h1,h2⟩
theorem FX.G {rs:List ResK} {code:ACode} {k:Nat} {fr:List AV} {st:St} {v:AV} (h:c6Q (fin rs (b9 (callG tbl k) k code fr st))=some v):FX tbl rs code fr st v:=by
 cases hz:b9 (callG tbl k) k code fr st with
 | none=>rw [hz] at h; cases h
 | some o =>
  rw [hz] at h
  cases hf:fin rs (some o) with
  | none=>rw [hf] at h; cases h
  | some p =>
   obtain ⟨w,s⟩:=p
   rw [hf] at h
   cases (show some w=some v from h)
   exact ⟨o,s,c84 hz,hf⟩
theorem FX.run {rs:List ResK} {code:ACode} {fr:List AV} {st:St} {v:AV} {f:Nat} {fn:AFn} {as:List AV} (htb:tbl f=some fn) (he:fn.ext=none) (hl:as.length=fn.np) (hr:fn.results=rs) (hc:fn.code=code)
 (hfr:as++List.replicate (fn.nv - fn.np) .undef=fr) (h:FX tbl rs code fr st v):∃ n st',l3 tbl n f as st=some (v,st'):=by
 obtain ⟨⟨e,fr',st1⟩,s,⟨n,h1⟩,h2⟩:=h
 refine ⟨n+1,s,?_⟩
 unfold l3
 rw [htb]
 dsimp only
 rw [he]
 dsimp only
 unfold AFn.run
 rw [if_pos hl,hc,hfr,h1,hr]
 cases e with
 | exit i=>cases h2
 | normal=>exact h2
 | ret=>exact h2
end
end Go.Cb.G
/-
 THE ABSTRACT MACHINE, part 56: functions with deferred calls. Such a call stands in the machine's code behind a block whose label stands for return.
-/
set_option maxRecDepth 4000
set_option linter.unusedSimpArgs false
set_option linter.unusedVariables false
namespace Go.Cb
open Classical

/-! labels that stand for return -/
def a0u:ACode→Bool
 | .ret=>false
 | .seq a b|.test _ _ _ a b|.either _ a b=>a0u a && a0u b
 | .blk _ a|.loop a=>a0u a
 | _=>true
def Y6 (e:Nat):ACode→Bool
 | .seq a b|.test _ _ _ a b=>Y6 e a && Y6 e b
 | .blk id a=>!Nat.beq id e && Y6 e a
 | .loop a=>Y6 e a
 | .either ..=>false
 | _=>true
def J2 (e:Nat):ACode→ACode
 | .exit id=>if Nat.beq id e then .ret else .exit id
 | .seq a b=>.seq (J2 e a) (J2 e b)
 | .test k o c a b=>.test k o c (J2 e a) (J2 e b)
 | .blk id a=>.blk id (J2 e a)
 | .loop a=>.loop (J2 e a)
 | y=>y
def R6 (e:Nat):Ex→Ex
 | .exit id=>if Nat.beq id e then .ret else .exit id
 | x=>x
theorem a4T {b:List AV→St→Option Out} (h:∀ fr st out,b fr st=some out→out.1≠.ret):∀ (n:Nat) (fr:List AV) (st:St) (out:Out),F0 b n fr st=some out→out.1≠.ret
 | 0,_,_,_,he=>by cases he
 | n+1,fr,st,out,he=>by
  rw [F0] at he
  split at he
  · exact a4T h n _ _ _ he
  · exact h _ _ _ he
theorem G6 {call:b6} {n:Nat}:∀ (y:ACode) (fr:List AV) (st:St) (out:Out),a0u y=true→b9 call n y fr st=some out→out.1≠.ret
 | .skip,fr,st,out,_,he=>by simp only [b9,Option.some.injEq] at he; subst he; simp
 | .exit id,fr,st,out,_,he=>by simp only [b9,Option.some.injEq] at he; subst he; simp
 | .ret,_,_,_,h,_=>by cases h
 | .reg kill ops,fr,st,out,_,he=>by
  simp only [b9] at he
  split at he
  · simp only [fL_eq,Option.some.injEq] at he; subst he; simp
  · cases he
 | .test kill ops c a b,fr,st,out,h,he=>by
  simp only [a0u,Bool.and_eq_true] at h
  simp only [b9,fL_eq] at he
  split at he
  · split at he
    · exact G6 a _ _ _ h.1 he
    · exact G6 b _ _ _ h.2 he
    · cases he
  · cases he
 | .seq a b,fr,st,out,h,he=>by
  simp only [a0u,Bool.and_eq_true] at h
  rcases G1 he with ⟨fr1,st1,_,e2⟩|⟨e1,_⟩
  · exact G6 b _ _ _ h.2 e2
  · exact G6 a _ _ _ h.1 e1
 | .blk id a,fr,st,out,h,he=>by
  simp only [b9] at he
  split at he
  · simp only [Option.some.injEq] at he
    subst he
    dsimp only
    split <;> simp
  · exact G6 a _ _ _ h he
 | .loop a,fr,st,out,h,he=>by
  simp only [b9] at he
  exact a4T (fun fr st out hh=>G6 a fr st out h hh) _ _ _ _ he
 | .either kill a b,fr,st,out,h,he=>by
  simp only [a0u,Bool.and_eq_true] at h
  simp only [b9] at he
  obtain ⟨oa,ob,ea,eb,ka,kb⟩:=a0n he
  subst ka
  exact fun hr=>G6 a fr st oa h.1 ea hr
theorem a4H {e:Nat} {b b':List AV→St→Option Out} (h:∀ fr st out,b fr st=some out→b' fr st=some (R6 e out.1,out.2)):∀ (n:Nat) (fr:List AV) (st:St) (out:Out),F0 b n fr st=some out→F0 b' n fr st=some (R6 e out.1,out.2)
 | 0,_,_,_,he=>by cases he
 | n+1,fr,st,out,he=>by
  rw [F0] at he
  rw [F0]
  split at he
  · rename_i fr1 st1 hb
    rw [h _ _ _ hb]
    exact a4H h n _ _ _ he
  · rename_i hb
    rw [h _ _ _ he]
    obtain ⟨x,fr1,st1⟩:=out
    cases x with
    | normal=>exact absurd he (hb _ _)
    | ret=>rfl
    | exit id =>
     dsimp only [R6]
     by_cases hq:Nat.beq id e=true
     · simp only [hq,if_true]
     · simp only [hq,if_false,Bool.false_eq_true]
theorem E4 {e:Nat} {call:b6} {n:Nat}:∀ (y:ACode) (fr:List AV) (st:St) (out:Out),Y6 e y=true→b9 call n y fr st=some out→b9 call n (J2 e y) fr st=some (R6 e out.1,out.2)
 | .skip,fr,st,out,_,he=>by simp only [b9,Option.some.injEq] at he; subst he; rfl
 | .ret,fr,st,out,_,he=>by simp only [b9,Option.some.injEq] at he; subst he; rfl
 | .exit id,fr,st,out,_,he=>by
  simp only [b9,Option.some.injEq] at he
  subst he
  simp only [J2,R6]
  split <;> simp [b9]
 | .reg kill ops,fr,st,out,_,he=>by
  rw [J2,he]
  simp only [b9] at he
  split at he
  · simp only [fL_eq,Option.some.injEq] at he; subst he; rfl
  · cases he
  all_goals simp
 | .test kill ops c a b,fr,st,out,h,he=>by
  simp only [Y6,Bool.and_eq_true] at h
  simp only [b9,fL_eq] at he
  simp only [J2,b9,fL_eq]
  split at he
  · split at he
    · exact E4 a _ _ _ h.1 he
    · exact E4 b _ _ _ h.2 he
    · cases he
  · cases he
 | .seq a b,fr,st,out,h,he=>by
  simp only [Y6,Bool.and_eq_true] at h
  rw [J2,b9]
  rcases G1 he with ⟨fr1,st1,e1,e2⟩|⟨e1,hn⟩
  · rw [E4 a _ _ _ h.1 e1]
    exact E4 b _ _ _ h.2 e2
  · rw [E4 a _ _ _ h.1 e1]
    obtain ⟨x,fr1,st1⟩:=out
    cases x with
    | normal=>exact absurd rfl hn
    | ret=>rfl
    | exit id =>
     dsimp only [R6]
     by_cases hq:Nat.beq id e=true
     · simp only [hq,if_true]
     · simp only [hq,if_false,Bool.false_eq_true]
 | .blk id a,fr,st,out,h,he=>by
  simp only [Y6,Bool.and_eq_true,Bool.not_eq_true'] at h
  simp only [b9] at he
  rw [J2,b9]
  split at he
  · rename_i id' fr1 st1 h1
    simp only [Option.some.injEq] at he
    subst he
    rw [E4 a _ _ _ h.2 h1]
    dsimp only [R6]
    by_cases hq:Nat.beq id' e=true
    · have e1:id'=e:=Nat.eq_of_beq_eq_true hq
      have e2:id'≠id:=fun q=>by rw [← q,hq] at h; cases h.1
      simp only [hq,if_true,e2,if_false]
    · simp only [hq,if_false,Bool.false_eq_true]
      by_cases e2:id'=id
      · simp only [e2,if_true]
      · simp only [e2,if_false,hq,Bool.false_eq_true]
  · rename_i hne
    rw [E4 a _ _ _ h.2 he]
    obtain ⟨x,fr1,st1⟩:=out
    cases x with
    | normal=>rfl
    | ret=>rfl
    | exit id'=>exact absurd he (hne _ _ _)
 | .loop a,fr,st,out,h,he=>by
  simp only [b9] at he
  rw [J2,b9]
  exact a4H (fun fr st out hh=>E4 a fr st out h hh) _ _ _ _ he
 | .either ..,_,_,_,h,_=>by cases h

/-! variables that code leaves as they are -/
def X6 (i:Nat) (o:AOper):Bool:=(match o.dst with|.v j=>!Nat.beq i j|_=>true) && (match o.box with|some j=>!Nat.beq i j|none=>true) && o.args.all (fun x=>match x with|.vs j=>!Nat.beq i j|_=>true)
def Z2 (i:Nat):ACode→Bool
 | .reg kill ops=>!kill.contains i && ops.all (X6 i)
 | .test kill ops _ a b=>!kill.contains i && ops.all (X6 i) && Z2 i a && Z2 i b
 | .seq a b=>Z2 i a && Z2 i b
 | .blk _ a|.loop a=>Z2 i a
 | .either ..=>false
 | _=>true
theorem a0Z {i:Nat}:∀ (kill:List Nat) (fr:List AV),i ∉ kill→(e7 kill fr).getD i .undef=fr.getD i .undef
 | [],_,_=>rfl
 | k::ks,fr,h=>by
  rw [e7,a0Z ks _ fun hm=>h (List.mem_cons_of_mem _ hm)]
  have hk:k≠i:=fun e=>h (by simp [e])
  simp only [List.getD_eq_getElem?_getD,List.getElem?_set_ne hk]
theorem a2h {i:Nat} {d:Dst} {r:AV} {σ:Sig} (h:(match d with|.v j=>!Nat.beq i j|_=>true)=true):(d.put r σ).fr.getD i .undef=σ.fr.getD i .undef:=by
 cases d with
 | none=>rfl
 | bx=>rfl
 | t s=>rfl
 | v j =>
  have hj:j≠i:=fun e=>by subst e; simp at h
  show (σ.fr.set j r.strip).getD i .undef=_
  simp only [List.getD_eq_getElem?_getD,List.getElem?_set_ne hj]
theorem a1W {i:Nat}:∀ (as:List Opd) (σ:Sig),as.all (fun x=>match x with|.vs j=>!Nat.beq i j|_=>true)=true→(b7 as σ).fr.getD i .undef=σ.fr.getD i .undef
 | [],_,_=>rfl
 | x::xs,σ,h=>by
  rw [List.all_cons,Bool.and_eq_true] at h
  rw [b7,a1W xs _ h.2]
  cases x <;> try rfl
  rename_i j
  have hj:j≠i:=fun e=>by subst e; simp at h
  show (σ.fr.set j _).getD i .undef=_
  simp only [List.getD_eq_getElem?_getD,List.getElem?_set_ne hj]
theorem a5Y {i:Nat} {call:b6} {o:AOper} {σ σ':Sig} (h:X6 i o=true) (hs:C2 call o σ=some σ'):σ'.fr.getD i .undef=σ.fr.getD i .undef:=by
 simp only [X6,Bool.and_eq_true] at h
 obtain ⟨⟨h1,h2⟩,h3⟩:=h
 rw [M2] at hs
 split at hs
 · rename_i r bx st hsem
   split at hs
   · rename_i j hb
     simp only [Option.some.injEq] at hs
     subst hs
     rw [a2h h1]
     rw [hb] at h2
     have hj:j≠i:=fun e=>by subst e; simp at h2
     simp only [List.getD_eq_getElem?_getD,List.getElem?_set_ne hj]
     simpa only [List.getD_eq_getElem?_getD] using a1W o.args σ h3
   · simp only [Option.some.injEq] at hs
     subst hs
     rw [a2h h1]
     exact a1W o.args σ h3
 · cases hs
theorem a8R {i:Nat} {call:b6} {o:AOper} {σ σ':Sig} (h:X6 i o=true) (hs:e8 call o σ=some σ'):σ'.fr.getD i .undef=σ.fr.getD i .undef:=by
 have h1:(match o.dst with|.v j=>!Nat.beq i j|_=>true)=true:=by
  simp only [X6,Bool.and_eq_true] at h
  exact h.1.1
 unfold e8 at hs
 split at hs
 · exact a5Y h hs
 · split at hs
   · split at hs
     · exact a5Y h hs
     · simp only [Option.some.injEq] at hs; subst hs; exact a2h h1
   · simp only [Option.some.injEq] at hs; subst hs; exact a2h h1
   · cases hs
theorem a1r {i:Nat} {call:b6}:∀ (ops:List AOper) (σ σ':Sig),ops.all (X6 i)=true→g9 call ops σ=some σ'→σ'.fr.getD i .undef=σ.fr.getD i .undef
 | [],σ,σ',_,hs=>by simp only [g9,Option.some.injEq] at hs; subst hs; rfl
 | o::os,σ,σ',h,hs=>by
  rw [List.all_cons,Bool.and_eq_true] at h
  simp only [g9] at hs
  split at hs
  · rename_i σ1 h1
    rw [a1r os _ _ h.2 hs,a8R h.1 h1]
  · cases hs
theorem a5S {i:Nat} {b:List AV→St→Option Out} (h:∀ fr st out,b fr st=some out→out.2.1.getD i .undef=fr.getD i .undef):∀ (n:Nat) (fr:List AV) (st:St) (out:Out),F0 b n fr st=some out→out.2.1.getD i .undef=fr.getD i .undef
 | 0,_,_,_,he=>by cases he
 | n+1,fr,st,out,he=>by
  rw [F0] at he
  split at he
  · rename_i fr1 st1 hb
    rw [a5S h n _ _ _ he]
    exact h _ _ _ hb
  · exact h _ _ _ he
theorem J4 {i:Nat} {call:b6} {n:Nat}:∀ (y:ACode) (fr:List AV) (st:St) (out:Out),Z2 i y=true→b9 call n y fr st=some out→out.2.1.getD i .undef=fr.getD i .undef
 | .skip,fr,st,out,_,he=>by simp only [b9,Option.some.injEq] at he; subst he; rfl
 | .ret,fr,st,out,_,he=>by simp only [b9,Option.some.injEq] at he; subst he; rfl
 | .exit id,fr,st,out,_,he=>by simp only [b9,Option.some.injEq] at he; subst he; rfl
 | .reg kill ops,fr,st,out,h,he=>by
  simp only [Z2,Bool.and_eq_true,Bool.not_eq_true'] at h
  simp only [b9] at he
  split at he
  · rename_i σ hσ
    simp only [fL_eq,Option.some.injEq] at he
    subst he
    rw [a1r ops _ _ h.2 hσ]
    exact a0Z kill fr (by simpa using h.1)
  · cases he
 | .test kill ops c a b,fr,st,out,h,he=>by
  simp only [Z2,Bool.and_eq_true,Bool.not_eq_true'] at h
  obtain ⟨⟨⟨h1,h2⟩,h3⟩,h4⟩:=h
  simp only [b9,fL_eq] at he
  split at he
  · rename_i σ hσ
    have e1:σ.fr.getD i .undef=fr.getD i .undef:=by
     rw [a1r ops _ _ h2 hσ]
     exact a0Z kill fr (by simpa using h1)
    split at he
    · rw [J4 a _ _ _ h3 he,e1]
    · rw [J4 b _ _ _ h4 he,e1]
    · cases he
  · cases he
 | .seq a b,fr,st,out,h,he=>by
  simp only [Z2,Bool.and_eq_true] at h
  rcases G1 he with ⟨fr1,st1,e1,e2⟩|⟨e1,_⟩
  · rw [J4 b _ _ _ h.2 e2]
    exact J4 a _ _ _ h.1 e1
  · exact J4 a _ _ _ h.1 e1
 | .blk id a,fr,st,out,h,he=>by
  simp only [b9] at he
  split at he
  · rename_i id' fr1 st1 h1
    simp only [Option.some.injEq] at he
    subst he
    exact J4 a fr st (Ex.exit id',fr1,st1) h h1
  · exact J4 a _ _ _ h he
 | .loop a,fr,st,out,h,he=>by
  simp only [b9] at he
  exact a5S (fun fr st out hh=>J4 a fr st out h hh) _ _ _ _ he
 | .either ..,_,_,_,h,_=>by cases h
end Go.Cb
