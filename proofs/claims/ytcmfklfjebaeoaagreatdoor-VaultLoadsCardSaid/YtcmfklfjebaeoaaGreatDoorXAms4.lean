import Derived.Test.YtcmfklfjebaeoaaGreatDoorXAms3
import Derived.Laws.CopyRow
import Derived.Laws.Externs
import Derived.Test.YtcmfklfjebaeoaaGreatDoorXAms1
import Derived.Test.YtcmfklfjebaeoaaGreatDoorXAms2
/-
 THE ABSTRACT MACHINE, part 57: a function's code with deferred calls is matched.
-/
set_option maxRecDepth 4000
set_option linter.unusedSimpArgs false
set_option linter.unusedVariables false
namespace Go.Cb
open Classical

def a0U (c:Cx):List Operand→List Opd→Bool
 | [],[]=>true
 | .tmp t::xs,.v i::ys=>c.slots[i]? == some t && !c.bxs.contains i && a0U c xs ys
 | _,_=>false
def a6C (c:Cx) (ops:List Oper) (q:AOper):Option Nat:=match q with
 | ⟨.none,.call f',ys,none,none⟩=>match ops.reverse with
  | ⟨none,.defer ⟨.value (.func f),args,_⟩,_,_,_,none⟩::l=>if f == f' && a0U c args.toList ys then some l.length else none
  | ⟨none,.defer ⟨.value (.tmp t),args,_⟩,_,_,_,none⟩::⟨some t',.makeFunc (.func f) first caps,_,_,_,none⟩::l =>
   if args.size == 0 && first.size == 0 && f == f' && t == t' && !c.slots.contains t && Nat.blt t c.nt && a0U c caps.toList ys then some l.length else none
  | _=>none
 | _=>none
def dfr0 (ops:List Oper):Option (Nat×Nat):=match ops.reverse with
 | ⟨none,.defer ⟨.value (.func f),args,_⟩,_,_,_,none⟩::l=>if args.size == 1 then some (l.length,f) else none
 | _=>none

section
variable {c:Cx} {g:Gh} {w:World} {pr:Nat→Option Pl} {bx:Nat→Nat} {σ σ':Sig} {a:Act} {call:b6} {ops:Array Oper} {Q:Exit→Act→World→Prop}

theorem a3r (fx:Fx c) (hc:F3 c.P c.gt call) {l:List Oper} {ps:List AOper} (hok:Q8 c ops l ps=true) (hl:∀ (i:Nat) o,l[i]?=some o→ops[i]?=some o) {rest:List Nat}:∀ (n k:Nat) (g:Gh) (w:World) (pr:Nat→Option Pl) (bx:Nat→Nat) (σ:Sig) (a:Act),k+n=ps.length →
 S c g w pr bx σ a→g9 call (ps.drop k) σ=some σ'→Post c g w a σ' (wpOps c.P ops Q rest)→wpOps c.P ops Q (List.range' k n++rest) a w
 | 0,k,g,w,pr,bx,σ,a,hk,h,hr,hnext=>by
  rw [List.drop_of_length_le (by omega)] at hr
  simp only [g9,Option.some.injEq] at hr
  subst hr
  exact hnext a w g pr bx rfl h (Tr.refl _ _ _)
 | n+1,k,g,w,pr,bx,σ,a,hk,h,hr,hnext=>by
  obtain ⟨_,hget⟩:=U4 hok
  rw [List.drop_eq_getElem_cons (by omega)] at hr
  simp only [g9] at hr
  obtain ⟨o,ho,h1,h2⟩:=hget k _ (List.getElem?_eq_getElem (show k < ps.length by omega))
  cases hs:e8 call (ps[k]'(by omega)) σ with
  | none=>simp [hs] at hr
  | some σ1 =>
   simp only [hs] at hr
   rw [List.range'_succ,List.cons_append,wpOps_cons]
   refine a3p fx hc h (hl _ _ ho) h1 h2 hs fun a1 w1 g1 pr1 bx1 hd1 hS1 ht1=>?_
   exact a3r fx hc hok hl n (k+1) g1 w1 pr1 bx1 σ1 a1 (by omega) hS1 hr (hnext.trans hd1 ht1)

theorem a4n (h:S c g w pr bx σ a):∀ {xs:List Operand} {ys:List Opd},a0U c xs ys=true→RelL g w ((ys.map (·.read σ)).map AV.weak) (xs.map a.eval)
 | [],[],_=>by simp [RelL]
 | x::xs,[],hv=>by cases x <;> simp [a0U] at hv
 | [],y::ys,hv=>by simp [a0U] at hv
 | x::xs,y::ys,hv=>by
  unfold a0U at hv
  split at hv
  · rename_i e1 e2; cases e1
  · rename_i t xs' i ys' e1 e2
    cases e1; cases e2
    simp only [Bool.and_eq_true,beq_iff_eq,Bool.not_eq_true'] at hv
    obtain ⟨⟨h1,h2⟩,h3⟩:=hv
    have hvar:=h.fr.var i t h1
    have hnb:∀ cs,σ.fr.getD i .undef≠.box cs:=fun cs hcs=>by
     have:=h.fr.bxs i cs hcs
     simp [this] at h2
    have hr:Rel g w (σ.fr.getD i .undef).weak (a.tmps.getD t undef):=ValOK.rel (ValOK.of_weak (mine:=No) (ValOK.rel (hvar.val hnb)))
    simp only [List.map_cons,RelL]
    exact ⟨_,_,rfl,by show Rel g w (σ.fr.getD i .undef).weak.weak _; rw [D4]; exact hr,a4n h h3⟩
  · cases hv

theorem a9P {ops:Array Oper} {o:Oper} {l:List Oper} (h:ops.toList.reverse=o::l):ops.size=l.length+1∧ops.toList.take l.length=l.reverse∧ops[l.length]?=some o:=by
 have e:ops.toList=l.reverse++[o]:=by
  have:=congrArg List.reverse h
  simpa using this
 refine ⟨by rw [← Array.length_toList,e]; simp,by rw [e]; simp,?_⟩
 rw [← Array.getElem?_toList,e,List.getElem?_append_right (by simp)]
 simp
theorem b66 {ops:Array Oper} {o p:Oper} {l:List Oper} (h:ops.toList.reverse=o::p::l):ops.size=l.length+2∧ops.toList.take l.length=l.reverse∧ops[l.length]?=some p∧ops[l.length+1]?=some o:=by
 have e:ops.toList=l.reverse++[p,o]:=by
  have:=congrArg List.reverse h
  simpa using this
 refine ⟨by rw [← Array.length_toList,e]; simp,by rw [e]; simp,?_,?_⟩
 · rw [← Array.getElem?_toList,e,List.getElem?_append_right (by simp)]
   simp
 · rw [← Array.getElem?_toList,e,List.getElem?_append_right (by simp)]
   simp

theorem b2A (fx:Fx c) (hc:F3 c.P c.gt call) {id:Nat} {q:AOper} {f:Nat} {ys:List Opd} (hq:q=⟨.none,.call f,ys,none,none⟩) {k:Nat} (hd:a6C c ops.toList q=some k) {kill:List Nat} {ps:List AOper} (hok:Q8 c ops (ops.toList.take k) ps=true)
 {fr:List AV} {τ:Nat→AV} {st:St} (h:S c g w pr bx ⟨fr,τ,st⟩ a) (hr:g9 call ps ⟨e7 kill fr,fun _=>.undef,st⟩=some σ)
 (hnext:∀ a1 w1 g1 pr1 bx1 (cap dargs:Array Value) (vs:List Value),vs.toArray=dargs++cap→RelL g1 w1 ((ys.map (·.read σ)).map AV.weak) vs→a1.defers={ target:=.fn (.func f) cap,args:=dargs }::a.defers →
  S c g1 w1 pr1 bx1 ⟨σ.fr,fun _=>.undef,σ.st⟩ a1→Tr c.A g w g1 w1→Q .normal a1 w1):(Code.region id ops false).wp c.P Q a w:=by
 subst hq
 have h0:=h.reset kill
 obtain ⟨hl,_⟩:=U4 hok
 refine wp_region ?_
 have hpre:∀ (i:Nat) o,(ops.toList.take k)[i]?=some o→ops[i]?=some o:=fun i o hi=>by
  rw [List.getElem?_take] at hi
  split at hi
  · rwa [Array.getElem?_toList] at hi
  · cases hi
 unfold a6C at hd
 dsimp only at hd
 split at hd
 · rename_i f' args at_ ty pos aft l hrev
   split at hd
   case isFalse=>cases hd
   rename_i hcond
   simp only [Bool.and_eq_true,beq_iff_eq] at hcond
   obtain ⟨rfl,hv⟩:=hcond
   simp only [Option.some.injEq] at hd
   subst hd
   obtain ⟨hsz,htake,hlast⟩:=a9P hrev
   have hpl:ps.length=l.length:=by rw [← hl,htake]; simp
   rw [List.range_eq_range',hsz,← List.range'_append_1,show 0+l.length=l.length by omega,List.range'_one,← hpl]
   refine a3r fx hc hok hpre ps.length 0 g w pr bx _ a (by omega) h0 (by simpa using hr) fun a1 w1 g1 pr1 bx1 hd1 hS1 ht1=>?_
   rw [wpOps_cons]
   refine P2 (by rw [hpl]; exact hlast) rfl ?_
   have hrel:=a4n hS1 hv
   have hrun:(execOp a1.eval ⟨none,.defer ⟨.value (.func f'),args,at_⟩,ty,pos,aft,none⟩).run c.P w1=.ok (.defer { target:=.fn (.func f') #[],args:=args.map a1.eval }) w1:=by
    simp [execOp,resolve,Deferred.ofValue,Act.eval]
   unfold Oper.wp
   rw [hrun,Oper.upon_defer]
   refine hnext { a1 with defers:=_::a1.defers } w1 g1 pr1 bx1 #[] (args.map a1.eval) (args.toList.map a1.eval) (Array.toList_inj.1 (by simp)) hrel (by simp only [hd1]) ?_ ht1
   exact ⟨(hS1.reset []).fr,hS1.st,hS1.gl,hS1.fresh,hS1.stA⟩
 · rename_i t args at_ ty pos aft t' f' first caps ty2 pos2 aft2 l hrev
   split at hd
   case isFalse=>cases hd
   rename_i hcond
   simp only [Bool.and_eq_true,beq_iff_eq,Bool.not_eq_true'] at hcond
   obtain ⟨⟨⟨⟨⟨⟨ea,ef⟩,rfl⟩,rfl⟩,hns⟩,hlt⟩,hv⟩:=hcond
   have ea:=Array.eq_empty_of_size_eq_zero ea
   have ef:=Array.eq_empty_of_size_eq_zero ef
   subst ea; subst ef
   simp only [Option.some.injEq] at hd
   subst hd
   obtain ⟨hsz,htake,hmk,hlast⟩:=b66 hrev
   have hpl:ps.length=l.length:=by rw [← hl,htake]; simp
   have hlt:t < c.nt:=by simpa using hlt
   have hns:t ∉ c.slots:=by simpa using hns
   rw [List.range_eq_range',hsz,← List.range'_append_1,show 0+l.length=l.length by omega,show List.range' l.length 2=[l.length,l.length+1] from rfl,← hpl]
   refine a3r fx hc hok hpre ps.length 0 g w pr bx _ a (by omega) h0 (by simpa using hr) fun a1 w1 g1 pr1 bx1 hd1 hS1 ht1=>?_
   rw [wpOps_cons]
   refine P2 (by rw [hpl]; exact hmk) rfl ?_
   have hrel:=a4n hS1 hv
   have hrun:(execOp a1.eval ⟨some t,.makeFunc (.func f') #[] caps,ty2,pos2,aft2,none⟩).run c.P w1=.ok (.value (.func (.func f') #[] (caps.map a1.eval))) w1:=by
    simp [execOp,Instr.makeFunc]
   unfold Oper.wp
   rw [hrun,Oper.upon_value,wpOps_cons]
   have hS2:=(hS1.reset []).put_undef hns hlt (.func (.func f') #[] (caps.map a1.eval))
   refine P2 (by rw [hpl]; exact hlast) rfl ?_
   have hev:(a1.put (some t) (.func (.func f') #[] (caps.map a1.eval))).eval (.tmp t)=.func (.func f') #[] (caps.map a1.eval):=by
    have:=hS1.fr.size
    simp only [Act.put,Act.eval]
    exact D6 (by rw [this]; exact hlt)
   have hrun2:(execOp (a1.put (some t) (.func (.func f') #[] (caps.map a1.eval))).eval ⟨none,.defer ⟨.value (.tmp t),#[],at_⟩,ty,pos,aft,none⟩).run c.P w1=.ok (.defer { target:=.fn (.func f') (caps.map a1.eval),args:=#[] }) w1:=by
    simp only [execOp,resolve,Sem.run_bind,hev]
    simp [Deferred.ofValue]
   unfold Oper.wp
   rw [hrun2,Oper.upon_defer]
   refine hnext { a1.put (some t) (.func (.func f') #[] (caps.map a1.eval)) with defers:=_::(a1.put (some t) (.func (.func f') #[] (caps.map a1.eval))).defers } w1 g1 pr1 bx1 (caps.map a1.eval) #[] (caps.toList.map a1.eval) (Array.toList_inj.1 (by simp)) hrel (by simp only [Act.put,hd1]) ?_ ht1
   exact ⟨hS2.fr,hS2.st,hS2.gl,hS2.fresh,hS2.stA⟩
 · cases hd

theorem a9j (fx:Fx c) (hc:F3 c.P c.gt call) {id:Nat} {f k:Nat} (hd:dfr0 ops.toList=some (k,f)) {kill:List Nat} {ps:List AOper} (hok:Q8 c ops (ops.toList.take k) ps=true)
 {fr:List AV} {τ:Nat→AV} {st:St} (h:S c g w pr bx ⟨fr,τ,st⟩ a) (hr:g9 call ps ⟨e7 kill fr,fun _=>.undef,st⟩=some σ)
 (hnext:∀ a1 w1 g1 pr1 bx1 (dargs:Array Value),dargs.size=1→a1.defers={ target:=.fn (.func f) #[],args:=dargs }::a.defers→S c g1 w1 pr1 bx1 ⟨σ.fr,fun _=>.undef,σ.st⟩ a1→Tr c.A g w g1 w1→Q .normal a1 w1):(Code.region id ops false).wp c.P Q a w:=by
 have h0:=h.reset kill
 obtain ⟨hl,_⟩:=U4 hok
 refine wp_region ?_
 have hpre:∀ (i:Nat) o,(ops.toList.take k)[i]?=some o→ops[i]?=some o:=fun i o hi=>by
  rw [List.getElem?_take] at hi
  split at hi
  · rwa [Array.getElem?_toList] at hi
  · cases hi
 unfold dfr0 at hd
 split at hd
 · rename_i f' args at_ ty pos aft l hrev
   split at hd
   case isFalse=>cases hd
   rename_i hsz1
   simp only [Option.some.injEq,Prod.mk.injEq] at hd
   obtain ⟨rfl,rfl⟩:=hd
   obtain ⟨hsz,htake,hlast⟩:=a9P hrev
   have hpl:ps.length=l.length:=by rw [← hl,htake]; simp
   rw [List.range_eq_range',hsz,← List.range'_append_1,show 0+l.length=l.length by omega,List.range'_one,← hpl]
   refine a3r fx hc hok hpre ps.length 0 g w pr bx _ a (by omega) h0 (by simpa using hr) fun a1 w1 g1 pr1 bx1 hd1 hS1 ht1=>?_
   rw [wpOps_cons]
   refine P2 (by rw [hpl]; exact hlast) rfl ?_
   have hrun:(execOp a1.eval ⟨none,.defer ⟨.value (.func f'),args,at_⟩,ty,pos,aft,none⟩).run c.P w1=.ok (.defer { target:=.fn (.func f') #[],args:=args.map a1.eval }) w1:=by
    simp [execOp,resolve,Deferred.ofValue,Act.eval]
   unfold Oper.wp
   rw [hrun,Oper.upon_defer]
   refine hnext { a1 with defers:=_::a1.defers } w1 g1 pr1 bx1 (args.map a1.eval) (by simpa using hsz1) (by simp only [hd1]) ?_ ht1
   exact ⟨(hS1.reset []).fr,hS1.st,hS1.gl,hS1.fresh,hS1.stA⟩
 · cases hd

/-! the calls that are deferred -/
def b2L (P:Program) (D0:List Nat):Prop:=∀ f∈D0,S1 P f=true∧∀ (args:Array Value) (w:World),args.size=1→CallsD P f args .returning w fun e u w'=>u=.returning∧w'=w∧∃ v,e=.returned v
def DOK (P:Program) (gt:List (Nat×List AV)) (D:List Nat) (call:b6):Prop :=
 ∀ (f:Nat) (args:List AV) (st:St) (res:AV) (st':St),f∈D→call f args st=some (res,st')→(∀ x∈args,x.weak=x) →
  S1 P f=true∧∀ (g:Gh) (w:World) (vs:List Value),SRel g w st→Globs gt g w→RelL g w args vs→CallsD P f vs.toArray .returning w (fun e u w'=>u=.returning∧CallPost g w st' res e w')

theorem S.called (h:S c g w pr bx σ a) {g':Gh} {w':World} {st':St} (hst:SRel g' w' st') (htr:Tr No g w g' w'):S c g' w' pr bx { σ with st:=st' } a :=
 ⟨h.fr.evolve htr,hst,h.gl.ext htr.ext,fun b hb=>h.fresh b (Nat.le_trans htr.size hb),fun b p hb=>by
  rcases Nat.lt_or_ge b w.heap.size with hlt|hge
  · cases hq:g.sr b with
    | some q=>exact h.stA b q hq
    | none=>have:=(htr.keep b hlt hq (fun x=>x)).2; rw [hb] at this; cases this
  · exact h.fresh b hge⟩
theorem S.dfrs (h:S c g w pr bx σ a) (ds:List Deferred):S c g w pr bx σ { a with defers:=ds }:=⟨h.fr,h.st,h.gl,h.fresh,h.stA⟩

def W9 (y:ACode):List Opd→Bool
 | []=>true
 | .v i::xs=>Z2 i y && W9 y xs
 | _=>false
def Y4 (c:Cx) (D D0:List Nat):Code→ACode→Bool
 | .seq (.region id ops d) rest,y=>match y with
  | .seq (.reg kill ps) (.seq (.blk e rest') .skip)=>match dfr0 ops.toList with
   | some (k,f)=>!d && Q8 c ops (ops.toList.take k) ps && D0.contains f && a0u rest' && Y6 e rest' && Y4 c D D0 rest (J2 e rest')
   | none=>n4 c (.seq (.region id ops d) rest) y
  | .seq (.reg kill ps) (.seq (.blk e rest') (.reg [] [q]))=>match a6C c ops.toList q with
   | some k=>!d && Q8 c ops (ops.toList.take k) ps && (match q.kind with|.call f=>D.contains f|_=>false) && W9 rest' q.args && a0u rest' && Y6 e rest' && Y4 c D D0 rest (J2 e rest')
   | none=>n4 c (.seq (.region id ops d) rest) y
  | .seq (.test kill ps z a' b') rest'=>match rest with
   | .seq (.cond x a b) rest2=>a2i c ops d kill ps && a1F c x z && n4 c a a' && n4 c b b' && Y4 c D D0 rest2 rest'
   | _=>n4 c (.seq (.region id ops d) rest) y
  | .seq a' b'=>n4 c (.region id ops d) a' && Y4 c D D0 rest b'
  | y=>n4 c (.seq (.region id ops d) rest) y
 | .seq a b,y=>match y with
  | .seq a' b'=>n4 c a a' && Y4 c D D0 b b'
  | y=>n4 c (.seq a b) y
 | x,y=>n4 c x y

theorem a5Z {σ1 σ2:Sig} {call:b6} {n:Nat} {y:ACode} {out:Out} (he:b9 call n y σ1.fr σ1.st=some out) (h2:σ2.fr=out.2.1):∀ {xs:List Opd},W9 y xs=true→xs.map (·.read σ2)=xs.map (·.read σ1)
 | [],_=>rfl
 | x::xs,h=>by
  cases x <;> simp only [W9,Bool.and_eq_true,Bool.false_eq_true] at h
  rename_i i
  rw [List.map_cons,List.map_cons,a5Z he h2 h.2]
  congr 1
  show (σ2.fr.getD i .undef).weak=(σ1.fr.getD i .undef).weak
  rw [h2,J4 y _ _ _ h.1 he]

def Left (c:Cx) (fn:Func) (R:Ending→World→Prop) (g:Gh) (w:World) (a:Act) (out:Out):Prop :=
 ∀ a' w' g' pr' bx' τ',a'.defers=a.defers→S c g' w' pr' bx' ⟨out.2.1,τ',out.2.2⟩ a'→Tr c.A g w g' w'→Leaves c.P fn a'.tmps R a.defers .returning w'

theorem Left.after {fn:Func} {R:Ending→World→Prop} {out:Out} (h:Left c fn R g w a out) (ho:out.1=.normal∨out.1=.ret):After c g w a out (bodyPostD c.P fn R):=fun a' w' g' pr' bx' τ' hd hS ht=>by
 have:=h a' w' g' pr' bx' τ' hd hS ht
 rw [← hd] at this
 rcases ho with ho|ho <;> rw [ho] <;> exact this
theorem Left.trans {fn:Func} {R:Ending→World→Prop} {out:Out} {a1:Act} {g1:Gh} {w1:World} (h:Left c fn R g w a out) (hd:a1.defers=a.defers) (ht:Tr c.A g w g1 w1):Left c fn R g1 w1 a1 out:=fun a' w' g' pr' bx' τ' hd' hS' ht'=>by
 rw [hd]
 exact h a' w' g' pr' bx' τ' (hd'.trans hd) hS' (ht.trans ht')

theorem b3V {D:List Nat} (hD:DOK c.P c.gt D call) {fn:Func} {R:Ending→World→Prop} {f:Nat} {as:List AV} {vs:List Value} {cap dargs:Array Value} {ds:List Deferred} {a2:Act} {τ2:Nat→AV} {fr2:List AV} {st2 st3:St} {v:AV} {g2:Gh} {w2:World} {pr2:Nat→Option Pl} {bx2:Nat→Nat}
 (hf:f∈D) (hvs:vs.toArray=dargs++cap) (hw:∀ x∈as,x.weak=x) (hcall:call f as st2=some (v,st3)) (hrel:RelL g2 w2 as vs) (hS:S c g2 w2 pr2 bx2 ⟨fr2,τ2,st2⟩ a2)
 (hfin:∀ g3 w3,S c g3 w3 pr2 bx2 ⟨fr2,τ2,st3⟩ a2→Tr c.A g2 w2 g3 w3→Leaves c.P fn a2.tmps R ds .returning w3) :
 Leaves c.P fn a2.tmps R ({ target:=.fn (.func f) cap,args:=dargs }::ds) .returning w2:=by
 obtain ⟨hen,hcd⟩:=hD f as st2 v st3 hf hcall hw
 refine leaves_cons (f:=f) (args:=vs.toArray) (by simp) ?_ ?_
 · simp only [invoke]
   rw [hvs]
   exact a1h hen _ _
 · refine (hcd g2 w2 vs hS.st hS.gl hrel).mono fun e u' w3 he=>?_
   obtain ⟨rfl,_,g3,rfl,hst,htr,_⟩:=he
   exact hfin g3 w3 (hS.called hst htr) (htr.wider fun _ x=>x.elim)

theorem b4i {n:Nat} (fx:Fx c) (hm:c.P.follows .mixedOrders=true) (hc:F3 c.P c.gt call) {D D0:List Nat} (hD:DOK c.P c.gt D call) (hD0:b2L c.P D0) {fn:Func} {R:Ending→World→Prop} (x:Code) (y:ACode) (h:Y4 c D D0 x y=true)
 {g:Gh} {w:World} {pr:Nat→Option Pl} {bx:Nat→Nat} {fr:List AV} {τ:Nat→AV} {st:St} {a:Act} {out:Out} (hS:S c g w pr bx ⟨fr,τ,st⟩ a) (he:b9 call n y fr st=some out) (ho:out.1=.normal∨out.1=.ret) (hL:Left c fn R g w a out):x.wp c.P (bodyPostD c.P fn R) a w:=by
 have plain:∀ (x:Code) (y:ACode),n4 c x y=true→b9 call n y fr st=some out→x.wp c.P (bodyPostD c.P fn R) a w :=
  fun x y hok he=>m4 x y hok fx hm hc hS he (hL.after ho)
 have go:∀ (q:Code),SizeOf.sizeOf q < SizeOf.sizeOf x→∀ (y:ACode),Y4 c D D0 q y=true→∀ {g:Gh} {w:World} {pr:Nat→Option Pl} {bx:Nat→Nat} {fr:List AV} {τ:Nat→AV} {st:St} {a:Act} {out:Out},S c g w pr bx ⟨fr,τ,st⟩ a→b9 call n y fr st=some out→(out.1=.normal∨out.1=.ret)→Left c fn R g w a out→q.wp c.P (bodyPostD c.P fn R) a w :=
  fun q hq y h _ _ _ _ _ _ _ _ _ hS he ho hL=>b4i fx hm hc hD hD0 q y h hS he ho hL
 have both:∀ (A q:Code) (a' b':ACode),SizeOf.sizeOf q < SizeOf.sizeOf x→n4 c A a'=true→Y4 c D D0 q b'=true→b9 call n (.seq a' b') fr st=some out→A.wp c.P (Exit.then (q.wp c.P (bodyPostD c.P fn R)) (bodyPostD c.P fn R)) a w:=by
  intro A q a' b' hsz h1 h2 he
  rcases G1 he with ⟨fr1,st1,e1,e2⟩|⟨e1,hn⟩
  · exact m4 A a' h1 fx hm hc hS e1 fun a1 w1 g1 pr1 bx1 τ1 hd1 hS1 ht1=>go q hsz b' h2 hS1 e2 ho (hL.trans hd1 ht1)
  · refine m4 A a' h1 fx hm hc hS e1 fun a1 w1 g1 pr1 bx1 τ1 hd1 hS1 ht1=>?_
    have:=hL.after ho a1 w1 g1 pr1 bx1 τ1 hd1 hS1 ht1
    revert this hn
    cases out.1 <;> simp [Ex.toExit,Exit.then]
 unfold Y4 at h
 split at h
 · -- a region ahead
   rename_i id ops d rest
   split at h
   · -- perhaps one that does nothing
     rename_i kill ps e rest'
     split at h
     · rename_i k f hk
       simp only [Bool.and_eq_true,Bool.not_eq_true'] at h
       obtain ⟨⟨⟨⟨⟨h1,h2⟩,h3⟩,h5⟩,h6⟩,h7⟩:=h
       subst h1
       have hf:f∈D0:=by simpa using h3
       rcases G1 he with ⟨fr1,st1,e1,e2⟩|⟨e1,hn⟩
       · simp only [b9] at e1
         cases hr:g9 call ps ⟨e7 kill fr,fun _=>.undef,st⟩ with
         | none=>simp [hr] at e1
         | some σ =>
          simp only [hr,fL_eq,Option.some.injEq,Prod.mk.injEq,true_and] at e1
          obtain ⟨rfl,rfl⟩:=e1
          have hrest:∃ ex fr2 st2,b9 call n rest' σ.fr σ.st=some (ex,fr2,st2)∧(ex=.normal∨ex=.exit e)∧out=(.normal,fr2,st2):=by
           rcases G1 e2 with ⟨fr2,st2,e3,e4⟩|⟨e3,hn⟩
           · simp only [b9,Option.some.injEq] at e4
             simp only [b9] at e3
             split at e3
             · rename_i id' fr4 st4 h9
               simp only [Option.some.injEq,Prod.mk.injEq] at e3
               obtain ⟨e5,rfl,rfl⟩:=e3
               have:id'=e:=by
                by_cases q:id'=e
                · exact q
                · rw [if_neg q] at e5; cases e5
               subst this
               exact ⟨_,_,_,h9,.inr rfl,e4.symm⟩
             · exact ⟨_,_,_,e3,.inl rfl,e4.symm⟩
           · exfalso
             simp only [b9] at e3
             split at e3
             · rename_i id' fr4 st4 h9
               simp only [Option.some.injEq] at e3
               subst e3
               dsimp only at ho hn
               split at hn
               · exact hn rfl
               · rename_i hne
                 rw [if_neg hne] at ho
                 rcases ho with ho|ho <;> cases ho
             · rcases ho with ho|ho
               · exact hn ho
               · exact G6 rest' _ _ _ h5 e3 ho
          obtain ⟨ex,fr2,st2,h9,hex,rfl⟩:=hrest
          have h10:=E4 rest' _ _ _ h6 h9
          have hex2:R6 e ex=.normal∨R6 e ex=.ret:=by
           rcases hex with rfl|rfl
           · exact .inl rfl
           · right; simp [R6]
          refine wp_seq (a9j fx hc hk h2 hS hr fun a1 w1 g1 pr1 bx1 dargs hz1 hd1 hS1 ht1=>?_)
          show rest.wp c.P (bodyPostD c.P fn R) a1 w1
          refine go rest (by simp; omega) (J2 e rest') h7 hS1 h10 hex2 fun a2 w2 g2 pr2 bx2 τ2 hd2 hS2 ht2=>?_
          rw [hd1]
          obtain ⟨hen,hcd⟩:=hD0 f hf
          refine leaves_cons (f:=f) (args:=dargs++#[]) (by simp) (by simp only [invoke]; exact a1h hen _ _) ?_
          refine (hcd _ w2 (by simpa using hz1)).mono fun e3 u' w3 he3=>?_
          obtain ⟨rfl,rfl,v,rfl⟩:=he3
          exact hL { a2 with defers:=a.defers } _ g2 pr2 bx2 τ2 rfl (hS2.dfrs _) (ht1.trans ht2)
       · exfalso
         simp only [b9] at e1
         split at e1
         · simp only [fL_eq,Option.some.injEq] at e1
           subst e1
           exact hn rfl
         · cases e1
     · exact plain _ _ h he
   · -- perhaps a deferred call
     rename_i kill ps e rest' q
     split at h
     · rename_i k hk
       simp only [Bool.and_eq_true,Bool.not_eq_true'] at h
       obtain ⟨⟨⟨⟨⟨⟨h1,h2⟩,h3⟩,h4⟩,h5⟩,h6⟩,h7⟩:=h
       subst h1
       obtain ⟨f,ys,rfl⟩:∃ f ys,q=⟨.none,.call f,ys,none,none⟩:=by
        unfold a6C at hk
        split at hk
        · exact ⟨_,_,rfl⟩
        · cases hk
       have hf:f∈D:=by simpa using h3
       rcases G1 he with ⟨fr1,st1,e1,e2⟩|⟨e1,hn⟩
       · simp only [b9] at e1
         cases hr:g9 call ps ⟨e7 kill fr,fun _=>.undef,st⟩ with
         | none=>simp [hr] at e1
         | some σ =>
          simp only [hr,fL_eq,Option.some.injEq,Prod.mk.injEq,true_and] at e1
          obtain ⟨rfl,rfl⟩:=e1
          -- how the rest ends
          have hrest:∃ ex fr2 st2 st3 v,b9 call n rest' σ.fr σ.st=some (ex,fr2,st2)∧(ex=.normal∨ex=.exit e)∧call f ((ys.map (·.read ⟨fr2,fun _=>.undef,st2⟩)).map AV.weak) st2=some (v,st3)∧out=(.normal,fr2,st3):=by
           have fin:∀ fr2 st2,b9 call n (.reg [] [⟨.none,.call f,ys,none,none⟩]) fr2 st2=some out→∃ st3 v,call f ((ys.map (·.read ⟨fr2,fun _=>.undef,st2⟩)).map AV.weak) st2=some (v,st3)∧∃ fr3,out=(.normal,fr3,st3)∧fr3=(b7 ys ⟨fr2,fun _=>.undef,st2⟩).fr:=by
            intro fr2 st2 he3
            simp only [b9,e7,g9,e8] at he3
            cases hg:C2 call ⟨.none,.call f,ys,none,none⟩ ⟨fr2,fun _=>.undef,st2⟩ with
            | none=>rw [hg] at he3; cases he3
            | some σ3 =>
             rw [hg] at he3
             simp only [fL_eq,Option.some.injEq] at he3
             obtain ⟨r,b',st3,hs,rfl⟩:=k9 hg
             simp only [sem,q9] at hs
             split at hs
             · cases hcl:call f ((ys.map (·.read ⟨fr2,fun _=>.undef,st2⟩)).map AV.weak) st2 with
               | none=>rw [hcl] at hs; cases hs
               | some z =>
                obtain ⟨v,s3⟩:=z
                rw [hcl] at hs
                simp only [Option.map_some,Option.some.injEq,Prod.mk.injEq] at hs
                obtain ⟨rfl,rfl,rfl⟩:=hs
                exact ⟨s3,v,rfl,_,he3.symm,rfl⟩
             · cases hs
           have keepv:∀ (xs:List Opd) (σ0:Sig),W9 rest' xs=true→b7 xs σ0=σ0:=by
            intro xs
            induction xs with
            | nil=>intro σ0 _; rfl
            | cons x xs ih =>
             intro σ0 hx
             cases x <;> simp only [W9,Bool.and_eq_true,Bool.false_eq_true] at hx
             exact ih _ hx.2
           rcases G1 e2 with ⟨fr2,st2,e3,e4⟩|⟨e3,hn⟩
           · simp only [b9] at e3
             obtain ⟨st3,v,hv,fr3,ho3,hf3⟩:=fin fr2 st2 e4
             rw [keepv ys _ h4] at hf3
             subst hf3
             split at e3
             · rename_i id' fr4 st4 h9
               simp only [Option.some.injEq,Prod.mk.injEq] at e3
               obtain ⟨e5,rfl,rfl⟩:=e3
               have:id'=e:=by
                by_cases q:id'=e
                · exact q
                · rw [if_neg q] at e5; cases e5
               subst this
               exact ⟨_,_,_,_,_,h9,.inr rfl,hv,ho3⟩
             · exact ⟨_,_,_,_,_,e3,.inl rfl,hv,ho3⟩
           · exfalso
             simp only [b9] at e3
             split at e3
             · rename_i id' fr4 st4 h9
               simp only [Option.some.injEq] at e3
               subst e3
               dsimp only at ho hn
               split at hn
               · exact hn rfl
               · rename_i hne
                 rw [if_neg hne] at ho
                 rcases ho with ho|ho <;> cases ho
             · rcases ho with ho|ho
               · exact hn ho
               · exact G6 rest' _ _ _ h5 e3 ho
          obtain ⟨ex,fr2,st2,st3,v,h9,hex,hcall,rfl⟩:=hrest
          have h10:=E4 rest' _ _ _ h6 h9
          have hex2:R6 e ex=.normal∨R6 e ex=.ret:=by
           rcases hex with rfl|rfl
           · exact .inl rfl
           · right; simp [R6]
          refine wp_seq (b2A fx hc rfl hk h2 hS hr fun a1 w1 g1 pr1 bx1 cap dargs vs hvs hrel hd1 hS1 ht1=>?_)
          show rest.wp c.P (bodyPostD c.P fn R) a1 w1
          refine go rest (by simp; omega) (J2 e rest') h7 hS1 h10 hex2 fun a2 w2 g2 pr2 bx2 τ2 hd2 hS2 ht2=>?_
          rw [hd1]
          have hk2:(ys.map (·.read ⟨fr2,fun _=>.undef,st2⟩))=ys.map (·.read σ):=a5Z (σ1:=σ) h9 rfl h4
          rw [hk2] at hcall
          refine b3V hD hf hvs (fun x hx=>?_) hcall (hrel.ext ht2.ext _ _) hS2 fun g3 w3 hS3 ht3=>?_
          · obtain ⟨z,_,rfl⟩:=List.mem_map.1 hx
            exact D4 z
          · have hfin:=hL { a2 with defers:=a.defers } w3 g3 pr2 bx2 τ2 rfl (hS3.dfrs _) ((ht1.trans ht2).trans ht3)
            exact hfin
       · exfalso
         simp only [b9] at e1
         split at e1
         · simp only [fL_eq,Option.some.injEq] at e1
           subst e1
           exact hn rfl
         · cases e1
     · exact plain _ _ h he
   · rename_i kill ps z a' b' rest'
     split at h
     · rename_i x A B rest2
       simp only [Bool.and_eq_true] at h
       obtain ⟨⟨⟨⟨h1,h2⟩,h3⟩,h4⟩,h5⟩:=h
       rcases G1 he with ⟨fr1,st1,e1,e2⟩|⟨e1,hn⟩
       · refine wp_seq (a2T (Q':=Exit.then (rest2.wp c.P (bodyPostD c.P fn R)) (bodyPostD c.P fn R)) h1 h2 (m4 _ _ h3) (m4 _ _ h4) fx hm hc hS e1 (fun a1 w1 g1 pr1 bx1 τ1 hd1 hS1 ht1=>?_) fun _ _ x=>wp_seq x)
         exact go rest2 (by simp; omega) rest' h5 hS1 e2 ho (hL.trans hd1 ht1)
       · refine wp_seq (a2T (Q':=Exit.then (rest2.wp c.P (bodyPostD c.P fn R)) (bodyPostD c.P fn R)) h1 h2 (m4 _ _ h3) (m4 _ _ h4) fx hm hc hS e1 (fun a1 w1 g1 pr1 bx1 τ1 hd1 hS1 ht1=>?_) fun _ _ x=>wp_seq x)
         have:=hL.after ho a1 w1 g1 pr1 bx1 τ1 hd1 hS1 ht1
         revert this hn
         cases out.1 <;> simp [Ex.toExit,Exit.then]
     · exact plain _ _ h he
   · rename_i a' b' _ _ _
     rw [Bool.and_eq_true] at h
     exact wp_seq (both _ rest a' b' (by simp; omega) h.1 h.2 he)
   · exact plain _ _ h he
 · rename_i p q _
   split at h
   · rename_i a' b'
     rw [Bool.and_eq_true] at h
     exact wp_seq (both p q a' b' (by simp; omega) h.1 h.2 he)
   · exact plain _ _ h he
 · exact plain _ _ h he
termination_by SizeOf.sizeOf x
decreasing_by all_goals assumption
end

/-! functions -/
def a0r (P:Program) (gt:List (Nat×List AV)) (D D0:List Nat) (slots bxs:List Nat) (fn:Func) (f:AFn) (A:Nat→Prop):Bool :=
 f.ext.isNone && a1D slots && slots.all (fun s=>Nat.blt s fn.ntmps) && slots.take f.np == List.range f.np && Nat.ble f.np slots.length && Nat.beq f.nv slots.length &&
  (match fn.body with|some x=>Y4 ⟨P,slots,bxs,fn.ntmps,gt,A⟩ D D0 x f.code|none=>false) && S7 ⟨P,slots,bxs,fn.ntmps,gt,A⟩ fn.results.toList f.results

structure ProgD (P:Program) (gt:List (Nat×List AV)) (D D0:List Nat) (tbl:Nat→Option AFn):Prop where
 mixed:P.follows .mixedOrders=true
 fn:∀ f af,tbl f=some af→S1 P (vf f)=true∧((∃ slots bxs fn,P.funcs[vf f]?=some fn∧∀ A,a0R P gt slots bxs fn af A=true)∨(∃ slots bxs fn,P.funcs[vf f]?=some fn∧∀ A,a0r P gt D D0 slots bxs fn af A=true)∨(∃ e,af.ext=some e∧C5 P gt (vf f) e))
 dfr:∀ f∈D,∀ af,tbl f=some af→vf f=f∧∃ slots bxs fn,P.funcs[f]?=some fn∧∀ A,a0R P gt slots bxs fn af A=true
 dfr0:b2L P D0

theorem c3x {P:Program} {gt:List (Nat×List AV)} {D D0:List Nat} {slots bxs:List Nat} {fn:Func} {af:AFn} {g:Gh} {w:World} {args:List AV} {vs:List Value} {st st':St} {res:AV} {call:b6} {n:Nat} (hm:P.follows .mixedOrders=true) (hc:F3 P gt call) (hD:DOK P gt D call) (hD0:b2L P D0)
 (hok:∀ A,a0r P gt D D0 slots bxs fn af A=true) (h:af.run call n args st=some (res,st')) (hweak:∀ x∈args,x.weak=x) (hst:SRel g w st) (hgl:Globs gt g w) (hrel:RelL g w args vs) :
 ∃ body,fn.body=some body∧body.wp P (bodyPostD P fn (CallPost g w st' res)) { tmps:=vs.toArray++Array.replicate (fn.ntmps - vs.toArray.size) undef,defers:=[] } w:=by
 have hok:=hok fun b=>w.heap.size≤b∨g.sr b≠none
 simp only [a0r,Bool.and_eq_true,Option.isNone_iff_eq_none,beq_iff_eq,Nat.beq_eq] at hok
 obtain ⟨⟨⟨⟨⟨⟨⟨o1,o2⟩,o3⟩,o4⟩,o5⟩,o6⟩,o7⟩,o8⟩:=hok
 have o5:=Nat.le_of_ble_eq_true o5
 split at o7
 case h_2=>cases o7
 rename_i body hbody
 unfold AFn.run at h
 split at h
 case isFalse=>cases h
 rename_i hlen
 split at h
 · cases h
 · rename_i ex fr' st1 hnex hexec
   obtain ⟨fx,hS⟩:=a7s (bxs:=bxs) o2 o3 o4 o5 o6 hlen hweak hst hgl hrel
   refine ⟨body,hbody,?_⟩
   refine b4i fx hm hc hD hD0 _ _ o7 hS hexec ?_ fun a' w' g' pr' bx' τ' hd hS' ht=>?_
   · cases ex with
     | normal=>exact .inl rfl
     | ret=>exact .inr rfl
     | exit id=>exact (hnex id rfl).elim
   · exact b3P hS' ht o8 h
 · cases h

theorem b4c {P:Program} {gt:List (Nat×List AV)} {D D0:List Nat} {tbl:Nat→Option AFn} (hP:ProgD P gt D D0 tbl):∀ n,F3 P gt (l3 tbl n)∧DOK P gt D (l3 tbl n):=by
 intro n
 induction n with
 | zero=>exact ⟨fun f args st res st' h=>by simp [l3] at h,fun f args st res st' _ h=>by simp [l3] at h⟩
 | succ n ih =>
  obtain ⟨ih,ihD⟩:=ih
  refine ⟨fun f args st res st' h hweak=>?_,fun f args st res st' hfD h hweak=>?_⟩
  · simp only [l3] at h
    cases htbl:tbl f with
    | none=>simp [htbl] at h
    | some af =>
     simp only [htbl] at h
     obtain ⟨hen,hfn⟩:=hP.fn f af htbl
     refine ⟨hen,fun g w vs hst hgl hrel=>?_⟩
     rcases hfn with ⟨slots,bxs,fn,hf,hok⟩|⟨slots,bxs,fn,hf,hok⟩|⟨e,he,hext⟩
     · have he:af.ext=none:=by
        have:=hok fun _=>True
        simp only [a0R,Bool.and_eq_true,Option.isNone_iff_eq_none] at this
        exact this.1.1.1.1.1.1.1
       simp only [he] at h
       obtain ⟨body,hb,hwp⟩:=b1S hP.mixed ih hok h hweak hst hgl hrel
       exact calls_of_wp hf hb hwp
     · have he:af.ext=none:=by
        have:=hok fun _=>True
        simp only [a0r,Bool.and_eq_true,Option.isNone_iff_eq_none] at this
        exact this.1.1.1.1.1.1.1
       simp only [he] at h
       obtain ⟨body,hb,hwp⟩:=c3x hP.mixed ih ihD hP.dfr0 hok h hweak hst hgl hrel
       exact calls_of_wp_defers hf hb hwp
     · simp only [he] at h
       exact hext args st res st' h hweak g w vs hst hgl hrel
  · simp only [l3] at h
    cases htbl:tbl f with
    | none=>simp [htbl] at h
    | some af =>
     simp only [htbl] at h
     obtain ⟨hvf,slots,bxs,fn,hf,hok⟩:=hP.dfr f hfD af htbl
     refine ⟨hvf ▸ (hP.fn f af htbl).1,fun g w vs hst hgl hrel=>?_⟩
     have he:af.ext=none:=by
      have:=hok fun _=>True
      simp only [a0R,Bool.and_eq_true,Option.isNone_iff_eq_none] at this
      exact this.1.1.1.1.1.1.1
     simp only [he] at h
     obtain ⟨body,hb,hwp⟩:=b1S hP.mixed ih hok h hweak hst hgl hrel
     exact (callsD_of_wp hf hb hwp).mono fun e u w' hh=>hh
end Go.Cb
/-
 THE ABSTRACT MACHINE, part 58: from an abstract answer to the model's call where functions defer calls; answers where there is more in the store.
-/
set_option maxRecDepth 4000
set_option linter.unusedVariables false
namespace Go.Cb
open Classical

theorem b8v {P:Program} {gt:List (Nat×List AV)} {D D0:List Nat} {tbl:Nat→Option AFn} (hP:ProgD P gt D D0 tbl) {n f:Nat} {args:List AV} {b:Bool} {st':St} (h:l3 tbl n f args []=some (.bool b,st')) (hw:∀ x∈args,x.weak=x)
 {W:World} {vs:List Value} (hg:Globs gt (gh0 W) W) (hr:RelL (gh0 W) W args vs) (hv:vf f=f:=by rfl):Calls P f vs.toArray W (fun e W'=>e=.returned (.bool b)∧Kept W W'):=by
 rw [← hv]
 refine (((b4c hP n).1 f args [] _ _ h hw).2 (gh0 W) W vs (b7T W) hg hr).mono fun e W' he=>?_
 obtain ⟨v,g',rfl,_,ht,hv⟩:=he
 have hv:=hv.rel
 simp only [Rel] at hv
 subst hv
 have hold:∀ b,b < W.heap.size→W'.heap[b]?=W.heap[b]?:=fun b hb=>(ht.keep b hb rfl fun x=>x).1.1
 refine ⟨rfl,⟨ht.env.os,ht.env.out,fun i hi=>?_⟩,fun a ha=>by unfold World.frozen?; rw [hold a.block ha],ht.size,hold⟩
 rw [hold i hi]
 cases hq:W.heap[i]? with
 | none=>simp
 | some o=>cases o <;> simp

end Go.Cb
/-
 THE ABSTRACT MACHINE, part 50: a copy of rows of several cells; two slices that lie apart; what a new object in the store comes to.
-/
set_option maxRecDepth 4000
set_option linter.unusedVariables false
set_option linter.unusedSimpArgs false
namespace Go.Cb
open Classical

theorem S4 {P:Program} (w:World) (dT sT ty elem:TypeId) (sz g o dLen dCap:Nat) (a:Addr) (sLen sCap:Nat) (cur:Array Value) (t:TypeId) (cs:List Value)
 (hu:P.underlying dT=some (.slice elem)) (hs:(P.info? elem).map (·.size)=some sz)
 (hg:w.heap[g]?=some (.cells cur t (0,0))) (hn:cs.length=Nat.min sLen dLen*sz)
 (hsrc:∀ j v,cs[j]?=some v→w.cell? (a.add j)=some v) (hfit:o+cs.length≤cur.size) (h1:∀ v∈cs,v.oneCell'=true) :
 (Builtin.copy_ #[dT,sT] ty #[.slice (some ⟨g,o,none⟩) dLen dCap,.slice (some a) sLen sCap]).run P w =
  .ok (goInt (Nat.min sLen dLen)) (w.setRow g (cur.toList.take o++cs++cur.toList.drop (o+cs.length)).toArray):=by
 have hl:=run_loadCells_list (P:=P) w a cs hsrc
 have hst:=run_storeCells_at P g o t cs 0 cur w hg (by simpa using hfit) h1
 cases hq:P.info? elem with
 | none=>simp [hq] at hs
 | some i =>
  have hi:i.size=sz:=by simpa [hq] using hs
  simp [Builtin.copy_,run_underlying hu,Builtin.lenOf,Builtin.firstCells,sizeOf,typeInfo,hq,hi,← hn,hl,hst]

theorem a3a {P:Program} (w:World) (tS tR e:TypeId) (ht:P.underlying tS=some (.slice e)) (size:Nat) (hz:∀ w,(Go.sizeOf e).run P w=.ok size w)
 (a b:Addr) (la ca lb cb:Nat) (hne:a.block≠b.block) {arrA arrB:Array Value} {TA TB:TypeId} {zA:Nat×Nat}
 (hA:w.heap[a.block]?=some (.cells arrA TA zA)) (hB:w.heap[b.block]?=some (.cells arrB TB (0,0))) (hkA:arrA.size≠0) (hkB:arrB.size≠0) :
 (Extern.SlicesOverlaps.overlaps #[tS,tS] #[tR] #[.slice (some a) la ca,.slice (some b) lb cb]).run P w=.ok (.bool false) w:=by
 have hnb:(a.block != b.block)=true:=by simpa using hne
 have hnb':(a.block == b.block)=false:=by simpa using hne
 have hsa:w.shape? a.block=some (TA,arrA.size):=by simp [World.shape?,hA]
 have hsb:w.shape? b.block=some (TB,arrB.size):=by simp [World.shape?,hB]
 have hfb:∀ x:Addr,x.block=b.block→w.frozen? x=false:=fun x hx=>by simp [World.frozen?,hx,hB]
 have hf1:=hfb b rfl
 have hf2:=hfb { block:=b.block,off:=arrB.size } rfl
 delta Extern.SlicesOverlaps.overlaps
 dsimp only
 delta Extern.SlicesOverlaps.overlaps.match_4
 dsimp only [Array.size,List.length]
 simp only [dif_pos,Nat.reduceAdd,Nat.zero_add]
 dsimp only [Array.getLit,getElem,Array.getInternal,List.get]
 by_cases h0:la=0∨lb=0∨size=0
 · simp [run_underlying ht,hz,h0]
 · cases hn:arrB.size with
   | zero=>exact absurd hn hkB
   | succ kB =>
    rw [hn] at hsb hf2
    cases hm:arrA.size with
    | zero=>exact absurd hm hkA
    | succ kA =>
    rw [hm] at hsa
    cases hfa:w.frozen? a with
    | true=>simp [run_underlying ht,hz,h0,hnb,hnb',frozen,noView,viewAt,mayBeOne,stringish,shape,Sem.run,hsa,hsb,hfa,hf1,hf2]
    | false =>
     cases hfe:w.frozen? { block:=a.block,off:=kA+1 } <;>
     simp [run_underlying ht,hz,h0,hnb,hnb',frozen,noView,viewAt,mayBeOne,stringish,shape,Sem.run,hsa,hsb,hfa,hf1,hf2,hfe]
end Go.Cb
/-
 THE ABSTRACT MACHINE, part 33: with enough fuel it comes to something of that sort.
-/
set_option maxRecDepth 4000
set_option linter.unusedVariables false
namespace Go.Cb
open Classical

def WC {α:Type} (c:Nat→Option α) (Q:α→Prop):Prop:=∃ n0 a,(∀ n,n0≤n→c n=some a)∧Q a
def EvQ (tbl:Nat→Option AFn) (f:Nat) (as:List AV) (st:St) (Q:AV→St→Prop):Prop:=∃ r st',Ev tbl f as st r st'∧Q r st'

theorem WC.ret {α:Type} {a:α} {Q:α→Prop} (h:Q a):WC (fun _=>some a) Q:=⟨0,a,fun _ _=>rfl,h⟩
theorem WC.mono {α:Type} {c:Nat→Option α} {P Q:α→Prop} (h:WC c P) (hq:∀ a,P a→Q a):WC c Q :=
 let ⟨n,a,ha,hp⟩:=h; ⟨n,a,ha,hq a hp⟩
theorem WC.obind {α β:Type} {c:Nat→Option α} {k:Nat→α→Option β} {P:α→Prop} {Q:β→Prop} (h:WC c P) (hk:∀ a,P a→WC (fun n=>k n a) Q):WC (fun n=>Go.Cb.obind (c n) (k n)) Q:=by
 obtain ⟨n,a,ha,hp⟩:=h
 obtain ⟨m,b,hb,hq⟩:=hk a hp
 refine ⟨max n m,b,fun j hj=>?_,hq⟩
 show Go.Cb.obind (c j) (k j)=some b
 rw [ha j (by omega),o9]
 exact hb j (Nat.le_trans (Nat.le_max_right n m) hj)
theorem EvQ.mono {tbl:Nat→Option AFn} {f:Nat} {as:List AV} {st:St} {P Q:AV→St→Prop} (h:EvQ tbl f as st P) (hq:∀ r st',P r st'→Q r st'):EvQ tbl f as st Q :=
 let ⟨r,st',he,hp⟩:=h; ⟨r,st',he,hq r st' hp⟩

section
variable {tbl:Nat→Option AFn}
theorem WC.call {β:Type} {f:Nat} {as as':List AV} {bx:AV} {st:St} {k:Nat→AV×St→Option β} {P:AV→St→Prop} {Q:β→Prop}
 (h:EvQ tbl f as' st P) (hp:p5 as=true) (hw:as.map AV.weak=as') (hk:∀ r st',P r st'→WC (fun n=>k n (r,st')) Q):WC (fun n=>Go.Cb.obind (p2 (q9 f (l3 tbl n) as bx st)) (k n)) Q:=by
 obtain ⟨r,st',he,hq⟩:=h
 obtain ⟨n0,h0⟩:=he.ge
 refine WC.obind (P:=fun x=>x=(r,st')) ⟨n0,(r,st'),fun n hn=>?_,rfl⟩ (fun a ha=>ha ▸ hk r st' hq)
 simp only [q9,hp,if_true,hw,h0 n hn,Option.map_some,a3o]
theorem WC.callV {β:Type} {f:Nat} {first caps as as':List AV} {bx:AV} {st:St} {k:Nat→AV×St→Option β} {P:AV→St→Prop} {Q:β→Prop}
 (h:EvQ tbl f as' st P) (hp:p5 as=true) (hw:(first++as++caps).map AV.weak=as') (hk:∀ r st',P r st'→WC (fun n=>k n (r,st')) Q):WC (fun n=>Go.Cb.obind (p2 (C8 (l3 tbl n) (.func f first caps::as) bx st)) (k n)) Q:=by
 obtain ⟨r,st',he,hq⟩:=h
 obtain ⟨n0,h0⟩:=he.ge
 refine WC.obind (P:=fun x=>x=(r,st')) ⟨n0,(r,st'),fun n hn=>?_,rfl⟩ (fun a ha=>ha ▸ hk r st' hq)
 simp only [C8,hp,if_true,hw,h0 n hn,Option.map_some,a3o]

def a0Q (id:Nat) (o:Out):Out:=match o with
 | (.exit id',fr,st)=>if id'=id then (.normal,fr,st) else (.exit id',fr,st)
 | o=>o
def blkK (id:Nat) (x:Option Out):Option Out:=match x with
 | some o=>some (a0Q id o)
 | none=>none
theorem a6f (id:Nat) (o:Out):blkK id (some o)=some (a0Q id o):=b5 rfl
theorem a6u (id:Nat) (fr:List AV) (st:St):a0Q id (.normal,fr,st)=(.normal,fr,st):=b5 rfl
theorem b14 (id:Nat) (fr:List AV) (st:St):a0Q id (.ret,fr,st)=(.ret,fr,st):=b5 rfl
theorem a8P (id id':Nat) (fr:List AV) (st:St):a0Q id (.exit id',fr,st)=if id'=id then (.normal,fr,st) else (.exit id',fr,st):=b5 rfl
theorem r9 {id:Nat} {x x':Option Out} (h:x=x'):blkK id x=blkK id x':=by rw [h]
theorem b4H (call:b6) (n id:Nat) (a:ACode) (fr:List AV) (st:St):b9 call n (.blk id a) fr st=blkK id (b9 call n a fr st):=by
 simp only [b9,blkK]
 cases b9 call n a fr st with
 | none=>rfl
 | some o =>
  obtain ⟨e,fr',st'⟩:=o
  cases e with
  | normal=>rfl
  | ret=>rfl
  | exit id'=>by_cases h:id'=id <;> simp [a0Q,h]
theorem WC.seqK {c:Nat→Option Out} {g:Nat→List AV→St→Option Out} {P Q:Out→Prop} (h:WC c P) (hk:∀ o,P o→WC (fun n=>Go.Cb.seqK (some o) (g n)) Q):WC (fun n=>Go.Cb.seqK (c n) (g n)) Q:=by
 obtain ⟨n,a,ha,hp⟩:=h
 obtain ⟨m,b,hb,hq⟩:=hk a hp
 exact ⟨max n m,b,fun j hj=>by dsimp only; rw [ha j (by omega)]; exact hb j (by omega),hq⟩
theorem WC.blkK {id:Nat} {c:Nat→Option Out} {Q:Out→Prop} (h:WC c (fun o=>Q (a0Q id o))):WC (fun n=>Go.Cb.blkK id (c n)) Q:=by
 obtain ⟨n,a,ha,hp⟩:=h
 exact ⟨n,_,fun j hj=>by dsimp only; rw [ha j hj,a6f],hp⟩
theorem WC.finK {rs:List ResK} {c:Nat→Option Out} {P:Out→Prop} {Q:AV×St→Prop} (h:WC c P) (hk:∀ o,P o→WC (fun n=>Go.Cb.finK rs (some o)) Q):WC (fun n=>Go.Cb.finK rs (c n)) Q:=by
 obtain ⟨n,a,ha,hp⟩:=h
 obtain ⟨m,b,hb,hq⟩:=hk a hp
 exact ⟨max n m,b,fun j hj=>by dsimp only; rw [ha j (by omega)]; exact hb j (by omega),hq⟩

theorem WC.of_xc {x:ACode} {fr:List AV} {st:St} {out:Out} {Q:Out→Prop} (h:XC tbl x fr st out) (hq:Q out):WC (fun n=>b9 (l3 tbl n) n x fr st) Q:=by
 obtain ⟨n,hn⟩:=h.ge
 exact ⟨n,out,hn,hq⟩
theorem WC.xc {x:ACode} {fr:List AV} {st:St} {Q:Out→Prop} (h:WC (fun n=>b9 (l3 tbl n) n x fr st) Q):∃ out,XC tbl x fr st out∧Q out:=by
 obtain ⟨n,a,ha,hq⟩:=h
 exact ⟨a,⟨n,ha n (Nat.le_refl n)⟩,hq⟩

theorem WC.loop {x:ACode} {Q:Out→Prop} (I:Nat→List AV→St→Prop) {m:Nat} {fr:List AV} {st:St} (h0:I m fr st)
 (hI:∀ m fr st,I m fr st→WC (fun n=>b9 (l3 tbl n) n x fr st) (fun o=>(∃ m' fr' st',o=(.normal,fr',st')∧m' < m∧I m' fr' st')∨(o.1≠.normal∧Q o))) :
 WC (fun n=>b9 (l3 tbl n) n (.loop x) fr st) Q:=by
 have key:∀ m fr st,I m fr st→∃ out,LX tbl x fr st out∧Q out:=by
  intro m
  induction m using Nat.strongRecOn with
  | ind m ih =>
   intro fr st h
   obtain ⟨out,hx,hc⟩:=(hI m fr st h).xc
   rcases hc with ⟨m',fr',st',rfl,hlt,hi⟩|⟨hne,hq⟩
   · obtain ⟨out,hl,hq⟩:=ih m' hlt fr' st' hi
     exact ⟨out,LX.step hx hl,hq⟩
   · obtain ⟨e,fr',st'⟩:=out
     exact ⟨_,LX.done hx hne,hq⟩
 obtain ⟨out,hl,hq⟩:=key m fr st h0
 exact WC.of_xc (XC.loop hl) hq

theorem EvQ.of_body {f:Nat} {fn:AFn} {as:List AV} {st:St} {Q:AV→St→Prop} (htb:tbl f=some fn) (he:fn.ext=none) (hl:as.length=fn.np)
 (h:WC (fun n=>Go.Cb.finK fn.results (b9 (l3 tbl n) n fn.code (as++List.replicate (fn.nv - fn.np) .undef) st)) (fun r=>Q r.1 r.2)):EvQ tbl f as st Q:=by
 obtain ⟨n,a,ha,hq⟩:=h
 refine ⟨a.1,a.2,⟨n+1,?_⟩,hq⟩
 simp only [l3,htb,he]
 rw [a0Y _ _ _ _ _ hl]
 exact ha n (Nat.le_refl n)
theorem EvQ.of_ext {f:Nat} {fn:AFn} {as:List AV} {st:St} {e:List AV→St→Option (AV×St)} {r:AV×St} {Q:AV→St→Prop} (htb:tbl f=some fn) (he:fn.ext=some e) (h:e as st=some r) (hq:Q r.1 r.2):EvQ tbl f as st Q :=
 ⟨_,_,Ev.of_ext htb he h,hq⟩
theorem EvQ.of_ev {f:Nat} {as:List AV} {st:St} {r:AV} {st':St} {Q:AV→St→Prop} (h:Ev tbl f as st r st') (hq:Q r st'):EvQ tbl f as st Q:=⟨r,st',h,hq⟩
end
end Go.Cb
/-
 THE ABSTRACT MACHINE, part 34: rules for loops within blocks, and for a body's end.
-/
set_option maxRecDepth 4000
set_option linter.unusedVariables false
namespace Go.Cb
open Classical
section
variable {tbl:Nat→Option AFn}

theorem WC.next {I:Nat→List AV→St→Prop} {m m':Nat} {fr':List AV} {st':St} {R:Out→Prop} (hm:m' < m) (hi:I m' fr' st') :
 WC (fun _=>some (Ex.normal,fr',st')) (fun o=>(∃ m' fr' st',o=(.normal,fr',st')∧m' < m∧I m' fr' st')∨(o.1≠.normal∧R o)):=WC.ret (Or.inl ⟨m',fr',st',rfl,hm,hi⟩)
theorem WC.leave {I:Nat→List AV→St→Prop} {m id:Nat} {fr':List AV} {st':St} {R:Out→Prop} (h:R (.exit id,fr',st')) :
 WC (fun _=>some (Ex.exit id,fr',st')) (fun o=>(∃ m' fr' st',o=(.normal,fr',st')∧m' < m∧I m' fr' st')∨(o.1≠.normal∧R o)):=WC.ret (Or.inr ⟨fun h=>by simp at h,h⟩)
theorem WC.leaveR {I:Nat→List AV→St→Prop} {m:Nat} {fr':List AV} {st':St} {R:Out→Prop} (h:R (.ret,fr',st')) :
 WC (fun _=>some (Ex.ret,fr',st')) (fun o=>(∃ m' fr' st',o=(.normal,fr',st')∧m' < m∧I m' fr' st')∨(o.1≠.normal∧R o)):=WC.ret (Or.inr ⟨fun h=>by simp at h,h⟩)

theorem EvQ.body {f:Nat} {fn:AFn} {as:List AV} {st:St} {Q:AV→St→Prop} (htb:tbl f=some fn) (he:fn.ext=none) (hl:as.length=fn.np)
 (h:WC (fun n=>b9 (l3 tbl n) n fn.code (as++List.replicate (fn.nv - fn.np) .undef) st) (fun o=>∃ r st',Go.Cb.finK fn.results (some o)=some (r,st')∧Q r st')):EvQ tbl f as st Q :=
 EvQ.of_body htb he hl (WC.finK h fun o ⟨r,st',hr,hq⟩=>⟨0,(r,st'),fun _ _=>hr,hq⟩)
end
end Go.Cb
/-
 THE ABSTRACT MACHINE, part 35: small laws on numbers and rows, for walks with unknowns.
-/
set_option maxRecDepth 4000
set_option linter.unusedVariables false
namespace Go.Cb
open Classical

theorem O1 {n:Int} (h1:-9223372036854775808≤n) (h2:n < 9223372036854775808):l4 .i64 n=n:=by
 rw [D7]
 simp only [IntKind.wrap,IntKind.signed,IntKind.bits,Bool.true_and]
 split
 · rename_i h; have h:=of_decide_eq_true h; omega
 · rename_i h; have h:¬ (n % 2 ^ 64 ≥ 2 ^ (64 - 1)):=fun x=>h (decide_eq_true x); omega
theorem K9 {i:Nat} (h:i+1 < 2 ^ 63):l4 .i64 (a5t (i:Int) 1)=((i+1:Nat):Int):=by
 rw [addI_eq,O1 (by omega) (by omega)]
 omega
theorem ltN (i j:Nat):ltI (i:Int) (j:Int)=decide (i < j):=by
 rw [ltI_eq]
 by_cases h:i < j
 · simp [h]
 · simp [h]
theorem d01 (i j:Nat):eqI (i:Int) (j:Int)=decide (i=j):=by
 rw [eqI_eq]
 by_cases h:i=j
 · simp [h]
 · simp [h]; omega
theorem U3 (b:Bool):b=true∨b=false:=by cases b <;> simp
theorem a0p {sz:Nat} {xs:List (List AV)} (h:∀ r∈xs,r.length=sz):g8 sz xs=true:=by
 cases xs with
 | nil=>rfl
 | cons r rs=>simp [g8,h r (by simp)]
end Go.Cb
/-
 THE ABSTRACT MACHINE, part 36: guarded values, reckoned without splitting; copies, form by form; tests as rules.
-/
set_option maxRecDepth 4000
set_option linter.unusedVariables false
namespace Go.Cb
open Classical

def gV (x:AV) (want:Bool) (v:AV):AV:=match x with
 | .bool b=>if b == want then v else .tuple []
 | _=>.tuple []
theorem c5s (v:AV):gV (.bool true) true v=v:=b5 rfl
theorem c5z (v:AV):gV (.bool false) false v=v:=b5 rfl
theorem c5T (v:AV):gV (.bool true) false v=.tuple []:=b5 rfl
theorem c56 (v:AV):gV (.bool false) true v=.tuple []:=b5 rfl
theorem b9j (want:Bool) (v:AV):gV (.tuple []) want v=.tuple []:=b5 rfl
theorem b0B (c want:Bool) (v:AV):gv (.bool c) want (some v)=some (gV (.bool c) want v):=by
 cases c <;> cases want <;> rfl
theorem a8C (x:AV) (w b want:Bool) (v:AV):gv (gV x w (.bool b)) want (some v)=some (gV (gV x w (.bool b)) want v):=by
 unfold gV
 cases x with
 | bool c=>cases c <;> cases w <;> cases b <;> cases want <;> rfl
 | _=>rfl
theorem s8 {x x':AV} {want:Bool} {e e':Option AV} (h1:x=x') (h2:x'=.bool want→e=e'):gv x want e=gv x' want e':=by
 subst h1
 unfold gv
 split
 · rename_i b
   by_cases hb:b=want
   · rw [h2 (by rw [hb])]
   · simp [hb]
 · rfl
 · rfl
theorem b85 (x:AV) (w:Bool) (v:AV):(gV x w v).weak=gV x w v.weak:=by
 unfold gV
 cases x with
 | bool c=>dsimp only; split <;> rfl
 | _=>rfl
theorem b7x (x:AV) (w:Bool) (v:AV):(gV x w v).strip=gV x w v.strip:=by
 unfold gV
 cases x with
 | bool c=>dsimp only; split <;> rfl
 | _=>rfl
theorem b3u (x:AV) (w:Bool) (v:AV):(gV x w v).stripB=gV x w v.stripB:=by
 unfold gV
 cases x with
 | bool c=>dsimp only; split <;> rfl
 | _=>rfl
theorem c2j (call:b6) (a b bx:AV) (st:St):p1 (w8 call [.bool true,a,b] bx st)=if a.plain then some a else none:=by
 unfold w8; dsimp only; by_cases h:a.plain=true <;> simp [h,p1]
theorem c0Z (call:b6) (a b bx:AV) (st:St):p1 (w8 call [.bool false,a,b] bx st)=if b.plain then some b else none:=by
 unfold w8; dsimp only; by_cases h:b.plain=true <;> simp [h,p1]
theorem b9t (call:b6) (c d:Bool) (bx:AV) (st:St):p1 (w8 call [.bool c,.bool true,gV (.bool c) false (.bool d)] bx st)=some (.bool (c || d)):=by
 cases c <;> rfl
theorem b6b (call:b6) (c d:Bool) (bx:AV) (st:St):p1 (w8 call [.bool c,gV (.bool c) true (.bool d),.bool false] bx st)=some (.bool (c && d)):=by
 cases c <;> rfl

theorem b46 (b:Bool):(AV.bool b).weak=.bool b:=b5 rfl
theorem b5p (k:IntKind) (n:Int):(AV.int k n).weak=.int k n:=b5 rfl
theorem b5f (s:List Nat):(AV.str s).weak=.str s:=b5 rfl
theorem b3B (o:Bool) (xs:List (List AV)):(AV.list o xs).weak=.list false xs:=b5 rfl
theorem b6s (o f:Nat):(AV.ptr o f).weak=.ptr o f:=b5 rfl
theorem b31:AV.nilp.weak=.nilp:=b5 rfl
theorem b3Q:AV.nils.weak=.nils:=b5 rfl
theorem b8I (cs:List AV):(AV.ro cs).weak=.ro cs:=b5 rfl
theorem b7i (i f:Nat):(AV.loc i f).weak=.loc i f:=b5 rfl
theorem b6e (o:Nat):(AV.map o).weak=.map o:=b5 rfl
theorem b3t:AV.nilm.weak=.nilm:=b5 rfl
theorem b4t (f:Nat) (a b:List AV):(AV.func f a b).weak=.func f a b:=b5 rfl
theorem b4Y:AV.nilf.weak=.nilf:=b5 rfl
theorem a0V (cs:List AV):(AV.agg cs).weak=.agg (cs.map AV.weak1):=b5 rfl
theorem b8E (o f n s:Nat):(AV.sl o f n s).weak=.sl o f n s:=b5 rfl
theorem b1s (t:Nat) (v:AV):(AV.iface t v).weak=.iface t v:=b5 rfl
theorem b4h:AV.nili.weak=.nili:=b5 rfl
theorem b1e (vs:List AV):(AV.tuple vs).weak=.tuple vs:=b5 rfl
theorem b09:AV.undef.weak=.undef:=b5 rfl
theorem b68 (cs:List AV):(AV.box cs).weak=.box cs:=b5 rfl
theorem b1c (b:Bool):(AV.bool b).weak1=.bool b:=b5 rfl
theorem b44 (k:IntKind) (n:Int):(AV.int k n).weak1=.int k n:=b5 rfl
theorem b32 (s:List Nat):(AV.str s).weak1=.str s:=b5 rfl
theorem b0P (o:Bool) (xs:List (List AV)):(AV.list o xs).weak1=.list false xs:=b5 rfl
theorem b5W (o f n s:Nat):(AV.sl o f n s).weak1=.sl o f n s:=b5 rfl
theorem b2z (f:Nat) (a b:List AV):(AV.func f a b).weak1=.func f a b:=b5 rfl
theorem b3d (o f:Nat):(AV.ptr o f).weak1=.ptr o f:=b5 rfl
theorem b1O:AV.nilp.weak1=.nilp:=b5 rfl
theorem b12:AV.nils.weak1=.nils:=b5 rfl
theorem Q4 (o:Nat):(AV.map o).weak1=.map o:=b5 rfl
theorem b1F:AV.nilm.weak1=.nilm:=b5 rfl
theorem b1U (b:Bool):(AV.bool b).strip=.bool b:=b5 rfl
theorem b3N (k:IntKind) (n:Int):(AV.int k n).strip=.int k n:=b5 rfl
theorem b3F (s:List Nat):(AV.str s).strip=.str s:=b5 rfl
theorem b0R (o:Bool) (xs:List (List AV)):(AV.list o xs).strip=.list o xs:=b5 rfl
theorem b3Z (o f:Nat):(AV.ptr o f).strip=.ptr o f:=b5 rfl
theorem b1P:AV.nilp.strip=.nilp:=b5 rfl
theorem b1C:AV.nils.strip=.nils:=b5 rfl
theorem b6i (cs:List AV):(AV.ro cs).strip=.ro cs:=b5 rfl
theorem b4r (i f:Nat):(AV.loc i f).strip=.undef:=b5 rfl
theorem b4T (o:Nat):(AV.map o).strip=.map o:=b5 rfl
theorem b0Z:AV.nilm.strip=.nilm:=b5 rfl
theorem b2c (f:Nat) (a b:List AV):(AV.func f a b).strip=.func f a b:=b5 rfl
theorem b2T:AV.nilf.strip=.nilf:=b5 rfl
theorem b3K (cs:List AV):(AV.agg cs).strip=.agg cs:=b5 rfl
theorem b5q (o f n s:Nat):(AV.sl o f n s).strip=.sl o f n s:=b5 rfl
theorem a8Y (vs:List AV):(AV.tuple vs).strip=.tuple vs:=b5 rfl
theorem a9C:AV.undef.strip=.undef:=b5 rfl
theorem a9i (b:Bool):(AV.bool b).stripB=.bool b:=b5 rfl
theorem b1k (k:IntKind) (n:Int):(AV.int k n).stripB=.int k n:=b5 rfl
theorem b13 (s:List Nat):(AV.str s).stripB=.str s:=b5 rfl
theorem a8W (o:Bool) (xs:List (List AV)):(AV.list o xs).stripB=.list o xs:=b5 rfl
theorem b2e (o f:Nat):(AV.ptr o f).stripB=.ptr o f:=b5 rfl
theorem a8Q:AV.nilp.stripB=.nilp:=b5 rfl
theorem a9G:AV.nils.stripB=.nils:=b5 rfl
theorem b4A (cs:List AV):(AV.ro cs).stripB=.ro cs:=b5 rfl
theorem b0O (i f:Nat):(AV.loc i f).stripB=.loc i f:=b5 rfl
theorem b01 (o:Nat):(AV.map o).stripB=.map o:=b5 rfl
theorem a9w:AV.nilm.stripB=.nilm:=b5 rfl
theorem a9F (f:Nat) (a b:List AV):(AV.func f a b).stripB=.func f a b:=b5 rfl
theorem a8V:AV.nilf.stripB=.nilf:=b5 rfl
theorem b1R (cs:List AV):(AV.agg cs).stripB=.agg cs:=b5 rfl
theorem b2M (xs:List (List AV)):(AV.fresh xs).weak=.fresh xs:=b5 rfl
theorem a9n (xs:List (List AV)):(AV.fresh xs).strip=.fresh xs:=b5 rfl
theorem a6O (xs:List (List AV)):(AV.fresh xs).stripB=.fresh xs:=b5 rfl
theorem b3O (o f n s:Nat):(AV.sl o f n s).stripB=.sl o f n s:=b5 rfl
theorem a7h (vs:List AV):(AV.tuple vs).stripB=.tuple vs:=b5 rfl
theorem a7b:AV.undef.stripB=.undef:=b5 rfl

/-! what comes behind, as constants that wait: nothing of it is reckoned ahead of its time -/
def c4a {α:Type} (K:α→Option Out) (g:List AV→St→Option Out) (a:α):Option Out:=Go.Cb.seqK (K a) g
def c3Q {α:Type} (id:Nat) (K:α→Option Out) (a:α):Option Out:=Go.Cb.blkK id (K a)
theorem c1B {α:Type} (K:α→Option Out) (g:List AV→St→Option Out) (a:α):c4a K g a=Go.Cb.seqK (K a) g:=b5 rfl
theorem c1r {α:Type} (id:Nat) (K:α→Option Out) (a:α):c3Q id K a=Go.Cb.blkK id (K a):=b5 rfl
theorem a9A {α:Type} (x:Option α) (f:α→Option Out) (g:List AV→St→Option Out):Go.Cb.seqK (Go.Cb.obind x f) g=Go.Cb.obind x (c4a f g):=by cases x <;> rfl
theorem a9d {α:Type} (id:Nat) (x:Option α) (f:α→Option Out):Go.Cb.blkK id (Go.Cb.obind x f)=Go.Cb.obind x (c3Q id f):=by cases x <;> rfl

def a2b (call:b6) (n:Nat) (a:ACode) (fr:List AV) (st:St) (_:Unit):Option Out:=b9 call n a fr st
def b5X (A:Unit→Option Out) (g:List AV→St→Option Out) (u:Unit):Option Out:=Go.Cb.seqK (A u) g
def b6C (id:Nat) (A:Unit→Option Out) (u:Unit):Option Out:=Go.Cb.blkK id (A u)
theorem c1I (call:b6) (n:Nat) (a:ACode) (fr:List AV) (st:St) (u:Unit):a2b call n a fr st u=b9 call n a fr st:=b5 rfl
theorem c29 (A:Unit→Option Out) (g:List AV→St→Option Out) (u:Unit):b5X A g u=Go.Cb.seqK (A u) g:=b5 rfl
theorem c1A (id:Nat) (A:Unit→Option Out) (u:Unit):b6C id A u=Go.Cb.blkK id (A u):=b5 rfl
def brT (c:AV) (A B:Unit→Option Out):Option Out:=match c with
 | .bool true=>A ()
 | .bool false=>B ()
 | _=>none
theorem b6x (A B:Unit→Option Out):brT (.bool true) A B=A ():=b5 rfl
theorem b3o (A B:Unit→Option Out):brT (.bool false) A B=B ():=b5 rfl
theorem u9 {c c':AV} {A B:Unit→Option Out} (h:c=c'):brT c A B=brT c' A B:=by rw [h]
theorem b7G (c:AV) (A B:Unit→Option Out) (g:List AV→St→Option Out):Go.Cb.seqK (brT c A B) g=brT c (b5X A g) (b5X B g):=by
 cases c <;> try rfl
 rename_i b; cases b <;> rfl
theorem b6w (id:Nat) (c:AV) (A B:Unit→Option Out):Go.Cb.blkK id (brT c A B)=brT c (b6C id A) (b6C id B):=by
 cases c <;> try rfl
 rename_i b; cases b <;> rfl
theorem c2T (call:b6) (n:Nat) (c:AV) (a b:ACode) (fr:List AV) (st:St):Go.Cb.br c (b9 call n a fr st) (b9 call n b fr st)=brT c (a2b call n a fr st) (a2b call n b fr st):=by
 cases c <;> try rfl
theorem b2r (call:b6) (n:Nat) (kill:List Nat) (ps:List AOper) (c:Opd) (a b:ACode) (fr:List AV) (st:St) :
 b9 call n (.test kill ps c a b) fr st=a5G call ps ⟨e7 kill fr,fun _=>.undef,st⟩ fun σ=>brT (c.read σ) (a2b call n a σ.fr σ.st) (a2b call n b σ.fr σ.st):=by
 rw [a2W]
 simp only [c2T]
def b1Z (call:b6) (n:Nat) (x:ACode) (fr:List AV) (st:St):Option Out:=b9 call n (.loop x) fr st
theorem b17 (call:b6) (n:Nat) (x:ACode) (fr:List AV) (st:St):b9 call n (.loop x) fr st=Go.Cb.obind (b1Z call n x fr st) some:=by
 unfold b1Z; cases b9 call n (.loop x) fr st <;> rfl

theorem WC.br {c:Bool} {A B:Nat→Unit→Option Out} {Q:Out→Prop} (ht:c=true→WC (fun n=>A n ()) Q) (hf:c=false→WC (fun n=>B n ()) Q):WC (fun n=>brT (.bool c) (A n) (B n)) Q:=by
 cases c with
 | true=>exact ht rfl
 | false=>exact hf rfl
theorem WC.loopR {tbl:Nat→Option AFn} {β:Type} {x:ACode} {K:Nat→Out→Option β} {Q:β→Prop} (I:Nat→List AV→St→Prop) {m:Nat} {fr:List AV} {st:St} (h0:I m fr st)
 (hI:∀ m fr st,I m fr st→WC (fun n=>b9 (l3 tbl n) n x fr st) (fun o=>(∃ m' fr' st',o=(.normal,fr',st')∧m' < m∧I m' fr' st')∨(o.1≠.normal∧WC (fun n=>K n o) Q))) :
 WC (fun n=>Go.Cb.obind (b1Z (l3 tbl n) n x fr st) (K n)) Q:=WC.obind (WC.loop I h0 hI) fun _ ho=>ho
theorem WC.g2 {β:Type} {c want:Bool} {st:St} {E:Nat→Option (AV×St)} {k:Nat→AV×St→Option β} {Q:β→Prop} (ht:c=want→WC (fun n=>Go.Cb.obind (E n) (k n)) Q) (hf:c=!want→WC (fun n=>k n (.tuple [],st)) Q) :
 WC (fun n=>Go.Cb.obind (gv2 (.bool c) want st (E n)) (k n)) Q:=by
 by_cases h:c=want
 · subst h
   have e:∀ n,gv2 (.bool c) c st (E n)=E n:=fun n=>by cases c <;> rfl
   simp only [e]
   exact ht rfl
 · have h':c=!want:=by cases c <;> cases want <;> simp_all
   have e:∀ n,gv2 (.bool c) want st (E n)=some (.tuple [],st):=fun n=>by subst h'; cases want <;> rfl
   simp only [e,o9]
   exact hf h'
end Go.Cb
/-
 THE ABSTRACT MACHINE, part 37: what operations come to, form by form; all of it under one name.
-/
set_option maxRecDepth 4000
set_option linter.unusedVariables false
set_option linter.unusedSimpArgs false
namespace Go.Cb
def W (a:AV):AV:=AV.weak (AV.stripB a)
def brE (c:AV) (call:b6) (n:Nat) (a b:ACode) (fr:List AV) (st:St):Option Out:=brT c (a2b call n a fr st) (a2b call n b fr st)
def m1 {β:Type} (a:AV) (f:AV→Option β):Option β:=obind (p1 (some (a,AV.undef,([]:St)))) f
def gm {β:Type} (x:AV) (w:Bool) (a:AV) (f:AV→Option β):Option β:=obind (gv x w (some a)) f
theorem B2 {β:Type} {a a':AV} {f:AV→Option β} (h:a=a'):m1 a f=m1 a' f:=by rw [h]
theorem B3 {β:Type} {x x' a a':AV} {w:Bool} {f:AV→Option β} (h1:x=x') (h2:x'=.bool w→a=a'):gm x w a f=gm x' w a' f:=by
 unfold gm
 rw [s8 (e:=some a) (e':=some a') h1 (fun h=>by rw [h2 h])]
end Go.Cb
namespace Go.Cb.R
open Go.Cb
theorem c6R (call:b6) (bx:AV) (st:St) (a:AV):Y9 call [a] bx st=some (a,bx,st):=b5 rfl
theorem b0U (call:b6) (bx:AV) (st:St) (o f:Nat):z7 call [.ptr o f] bx st=some (.ptr o f,bx,st):=b5 rfl
theorem b04 (call:b6) (bx:AV) (st:St) (o f:Nat):z7 call [.loc o f] bx st=some (.loc o f,bx,st):=b5 rfl
theorem b3D (call:b6) (bx:AV) (st:St) (cs:List AV):z7 call [.ro cs] bx st=some (.ro cs,bx,st):=b5 rfl
theorem a9z (call:b6) (bx:AV) (st:St) (f:Nat) (a b:List AV):z7 call [.func f a b] bx st=some (.func f a b,bx,st):=b5 rfl
theorem b9N (call:b6) (st:St) (zero:List AV):N5 zero call [] .undef st=some (.undef,.box zero,st):=b5 rfl
theorem c2P (call:b6) (st:St) (a:AV):P0 call [a] .undef st=if a.plain then some (.undef,.box a.cellsW,st) else none:=b5 rfl
theorem b5u (call:b6) (bx:AV) (st:St) (zero:List AV):D5 zero call [] bx st=some (.ptr st.length 0,bx,st++[.cells zero]):=b5 rfl
theorem c27 (call:b6) (bx:AV) (st:St) (a:AV):I5 call [a] bx st=if a.plain then some (.ptr st.length 0,bx,st++[.cells a.cellsW]) else none:=b5 rfl
theorem b8u (call:b6) (bx:AV) (st:St) (zero:List AV) (offs:List (Nat×Nat)) (as:List AV):I3 zero offs call as bx st=(s9 offs as zero).map fun cs=>(.agg cs,bx,st):=b5 rfl
theorem b7N (call:b6) (bx:AV) (st:St) (sz:Nat) (zero:List (List AV)) (at_:List Nat) (as:List AV):G7 sz zero at_ call as bx st=(r7 sz at_ as zero).map fun rs=>(.list true rs,bx,st):=b5 rfl
theorem c4j (call:b6) (st:St) (i off n:Nat) (agg:Bool) (cs:List AV):F8 i agg n call [.loc i off] (.box cs) st=(d9 agg n (cs.drop off)).map (fun v=>(v,.box cs,st)):=by unfold F8; simp only [if_true]
theorem c35 (call:b6) (bx:AV) (st:St) (o off n:Nat) (agg:Bool):w9 agg n call [.ptr o off] bx st=match st[o]? with|some (.cells cs)=>(d9 agg n (cs.drop off)).map (fun v=>(v,bx,st))|_=>none:=b5 rfl
theorem c37 (call:b6) (bx:AV) (st:St) (n:Nat) (agg:Bool) (cs:List AV):I8 agg n call [.ro cs] bx st=(d9 agg n cs).map (fun v=>(v,bx,st)):=b5 rfl
theorem c0P (call:b6) (bx:AV) (st:St) (n:Nat) (agg:Bool) (cs:List AV):C0 agg n call [.ro cs] bx st=(d9 agg n cs).map (fun v=>(v,bx,st)):=b5 rfl
theorem ldAn_ptr (call:b6) (bx:AV) (st:St) (o off n:Nat) (agg:Bool):C0 agg n call [.ptr o off] bx st=match st[o]? with|some (.cells cs)=>(d9 agg n (cs.drop off)).map (fun v=>(v,bx,st))|_=>none:=b5 rfl
theorem b9l (call:b6) (st:St) (i off:Nat) (cs:List AV):H7 i call [.loc i off] (.box cs) st=match cs[off]? with|some c=>some (c,.box (cs.set off c.weak1),st)|none=>none:=by unfold H7; simp only [if_true]; rfl
theorem b9v (call:b6) (bx:AV) (st:St) (o off:Nat):y8 call [.ptr o off] bx st=match st[o]? with|some (.cells cs)=>(match cs[off]? with|some c=>some (c,bx,st.set o (.cells (cs.set off c.weak1)))|none=>none)|_=>none:=b5 rfl
theorem c1N (call:b6) (st:St) (i n off:Nat) (x:AV) (cs:List AV):I9 i n call [.loc i off,x] (.box cs) st=if x.plain=true∧x.cells.length=n∧off+n≤cs.length then some (.tuple [],.box (j9 cs off x.cells),st) else none:=by unfold I9; simp only [true_and]
theorem c3Z (call:b6) (bx:AV) (st:St) (o off n:Nat) (x:AV):B9 n call [.ptr o off,x] bx st=match st[o]? with|some (.cells cs)=>(if x.plain=true∧x.cells.length=n∧off+n≤cs.length then some (.tuple [],bx,st.set o (.cells (j9 cs off x.cells))) else none)|_=>none:=by unfold B9; simp only [fL_eq]; rfl
theorem c0F (call:b6) (bx:AV) (st:St) (off o f:Nat):J8 off call [.ptr o f] bx st=some (.ptr o (f+off),bx,st):=b5 rfl
theorem b9G (call:b6) (bx:AV) (st:St) (off o f:Nat):J8 off call [.loc o f] bx st=some (.loc o (f+off),bx,st):=b5 rfl
theorem c3J (call:b6) (bx:AV) (st:St) (off:Nat) (cs:List AV):J8 off call [.ro cs] bx st=some (.ro (cs.drop off),bx,st):=b5 rfl
theorem c4L (call:b6) (bx:AV) (st:St) (off n:Nat) (agg:Bool) (cs:List AV):O4 off n agg call [.agg cs] bx st=if off+n≤cs.length then (d9 agg n (cs.drop off)).map (fun v=>(v,bx,st)) else none:=b5 rfl
theorem c5J (call:b6) (bx:AV) (st:St) (sz:Nat) (w:Bool) (xs:List (List AV)) (k:IntKind) (i:Int):H8 sz call [.list w xs,.int k i] bx st=if 0≤i then (match xs[i.toNat]? with|some r=>if r.length=sz then some (.ro r,bx,st) else none|none=>none) else none:=b5 rfl
theorem c1K (call:b6) (bx:AV) (st:St) (sz o f n s:Nat) (k:IntKind) (i:Int):H8 sz call [.sl o f n s,.int k i] bx st=if 0≤i∧i < (n:Int)∧s=sz then some (.ptr o (f+i.toNat*sz),bx,st) else none:=b5 rfl
theorem b36 (call:b6) (bx:AV) (st:St):C9 call [.nils] bx st=some (.int .i64 0,bx,st):=b5 rfl
theorem c0C (call:b6) (bx:AV) (st:St) (o f n s:Nat):C9 call [.sl o f n s] bx st=some (.int .i64 n,bx,st):=b5 rfl
theorem b4w (call:b6) (bx:AV) (st:St) (sz:Nat) (zero:List (List AV)) (at_:List Nat) (as:List AV):E5 sz zero at_ call as bx st=(m8 sz at_ as zero).map fun rs=>(.fresh rs,bx,st):=b5 rfl
theorem b3e (call:b6) (bx:AV) (st:St) (sz:Nat) (zero:List (List AV)) (at_:List Nat) (as:List AV):E7 sz zero at_ call as bx st=(m8 sz at_ as zero).map fun rs=>(.sl st.length 0 zero.length sz,bx,st++[.cells rs.flatten]):=b5 rfl
theorem c4o (call:b6) (bx:AV) (st:St) (k k':IntKind) (a b:Int):O8 call [.int k a,.int k' b] bx st=if k=k' then some (.int k (b2n a b),bx,st) else none:=b5 rfl
theorem c4d (call:b6) (bx:AV) (st:St) (neg:Bool) (k k':IntKind) (a b:Int) (s t:List Nat):P1 neg call [.agg [.int k a,.str s],.agg [.int k' b,.str t]] bx st=if k=k' then some (.bool (a4O neg a b s t),bx,st) else none:=b5 rfl
theorem a9r (sz:Nat) (rs:List (List AV)):m8 sz [] [] rs=some rs:=b5 rfl
theorem a9b (sz i:Nat) (is:List Nat) (p:AV) (ps:List AV) (rs:List (List AV)):m8 sz (i::is) (p::ps) rs=if p.plain=true∧p.cells.length=sz∧i < rs.length then m8 sz is ps (rs.set i (p.cells.map AV.cellW1)) else none:=b5 rfl
theorem b6X (call:b6) (bx:AV) (st:St) (sz bytes:Nat) (ys:List (List AV)) (gs:List AV):q8 sz bytes call (.list true []::.fresh ys::gs) bx st=if ys.isEmpty=false∧g8 sz ys=true∧ys.length*bytes≤2 ^ 47∧E9 none st.length gs=true then some (.sl st.length 0 ys.length sz,bx,st++[.cells ys.flatten]) else none:=b5 rfl
theorem b3q (call:b6) (bx:AV) (st:St) (sz bytes:Nat) (ys:List (List AV)) (gs:List AV):q8 sz bytes call (.nils::.fresh ys::gs) bx st=if ys.isEmpty=false∧g8 sz ys=true∧ys.length*bytes≤2 ^ 47∧E9 none st.length gs=true then some (.sl st.length 0 ys.length sz,bx,st++[.cells ys.flatten]) else none:=b5 rfl
theorem b8T (call:b6) (bx:AV) (st:St) (sz bytes o n s:Nat) (ys:List (List AV)) (gs:List AV):q8 sz bytes call (.sl o 0 n s::.fresh ys::gs) bx st=match st[o]? with|some (.cells xs)=>(if s=sz∧ys.isEmpty=false∧g8 sz ys=true∧xs.length=n*sz∧(n+ys.length)*bytes≤2 ^ 47∧E9 (some o) st.length gs=true then some (.sl st.length 0 (n+ys.length) sz,bx,st.set o .dead++[.cells (xs++ys.flatten)]) else none)|_=>none:=b5 rfl
theorem b8d (o:Option Nat) (n:Nat):E9 o n []=true:=b5 rfl
theorem b8S (o:Option Nat) (n p f:Nat) (gs:List AV):E9 o n (.ptr p f::gs)=(Nat.blt p n && (match o with|some o=>!Nat.beq p o|none=>true) && E9 o n gs):=b5 rfl
theorem c1M {α:Type}:([]:List (List α)).flatten=[]:=b5 rfl
theorem c3i {α:Type} (a:List α) (l:List (List α)):(a::l).flatten=a++l.flatten:=b5 rfl
theorem c54 (call:b6) (bx:AV) (st:St) (w:Bool) (xs:List (List AV)):O3 call [.list w xs] bx st=(z8 xs).map fun s=>(.str s,bx,st):=b5 rfl
theorem b3z:z8 []=some []:=b5 rfl
theorem b3k (n:Int) (rs:List (List AV)):z8 ([.int .u8 n]::rs)=if 0≤n∧n < 256 then (z8 rs).map (n.toNat::·) else none:=b5 rfl
theorem b9K (call:b6) (bx:AV) (st:St) (len sz:Nat) (cs:List AV) (k:IntKind) (i:Int):D3 len sz call [.ro cs,.int k i] bx st=if 0≤i∧i < (len:Int) then some (.ro (cs.drop (i.toNat*sz)),bx,st) else none:=b5 rfl
theorem b5L (call:b6) (bx:AV) (st:St) (len sz o f:Nat) (k:IntKind) (i:Int):D3 len sz call [.ptr o f,.int k i] bx st=if 0≤i∧i < (len:Int) then some (.ptr o (f+i.toNat*sz),bx,st) else none:=b5 rfl
theorem b5K (call:b6) (bx:AV) (st:St) (len sz o f:Nat) (k:IntKind) (i:Int):D3 len sz call [.loc o f,.int k i] bx st=if 0≤i∧i < (len:Int) then some (.loc o (f+i.toNat*sz),bx,st) else none:=b5 rfl
theorem c2A (call:b6) (bx:AV) (st:St) (s:List Nat) (k:IntKind) (i:Int):H2 call [.str s,.int k i] bx st=if 0≤i then (match s[i.toNat]? with|some b=>some (.int .u8 b,bx,st)|none=>none) else none:=b5 rfl
theorem c5S (call:b6) (bx:AV) (st:St) (lo hi:Bool) (s:List Nat) (r:List AV):L7 lo hi call (.str s::r) bx st=(q7 lo hi r s.length).map fun p=>(.str ((s.take p.2).drop p.1),bx,st):=b5 rfl
theorem c1e (call:b6) (bx:AV) (st:St) (sz:Nat) (lo hi:Bool) (o f n s:Nat) (r:List AV):J3 sz lo hi call (.sl o f n s::r) bx st=if s=sz then (slB lo hi r n).map fun p=>(.sl o (f+p.1*sz) (p.2 - p.1) s,bx,st) else none:=b5 rfl
theorem c57 (call:b6) (bx:AV) (st:St) (sz:Nat) (lo hi:Bool) (w:Bool) (xs:List (List AV)) (r:List AV):J3 sz lo hi call (.list w xs::r) bx st=if g8 sz xs then (q7 lo hi r xs.length).map fun p=>(.list false ((xs.take p.2).drop p.1),bx,st) else none:=b5 rfl
theorem b9w (call:b6) (bx:AV) (st:St) (kc:Nat) (z:List AV) (agg ok:Bool) (o p f:Nat) (k:AV):C7 kc z agg ok call [.map o,k,.ptr p f] bx st=match st[p]? with|some (.cells cs)=>(if G3 o cs=true then B7 kc z agg ok call [.map o,k] bx st else none)|_=>none:=by unfold C7; rfl
theorem b6G (o q:Nat) (cs:List AV):G3 o (.map q::cs)=(Nat.beq q o || G3 o cs):=b5 rfl
theorem c3h (call:b6) (bx:AV) (st:St) (k k':IntKind) (a b:Int):L6 call [.int k a,.int k' b] bx st=if k=k' then some (.int k (a5w a b),bx,st) else none:=b5 rfl
theorem c1E (call:b6) (bx:AV) (st:St) (len sz:Nat) (agg:Bool) (cs:List AV) (k:IntKind) (i:Int):L2 len sz agg call [.agg cs,.int k i] bx st=if 0≤i∧i < (len:Int)∧i.toNat*sz+sz≤cs.length then (d9 agg sz (cs.drop (i.toNat*sz))).map (·,bx,st) else none:=b5 rfl
theorem c0X (call:b6) (bx:AV) (st:St) (bytes:Nat) (xs:List (List AV)) (s:List Nat):O9 bytes call [.list true xs,.str s] bx st=if g8 1 xs && decide ((xs.length+s.length)*bytes≤2 ^ 47) then some (.list true (xs++s.map U1),bx,st) else none:=b5 rfl
theorem b4u (call:b6) (bx:AV) (st:St):J0 call [.nils] bx st=some (.tuple [],bx,st):=b5 rfl
theorem b98 (call:b6) (bx:AV) (st:St) (o f n s:Nat):J0 call [.sl o f n s] bx st=match st[o]? with|some (.cells cs)=>(if s=1∧f+n≤cs.length then some (.tuple [],bx,st.set o (.cells (j9 cs f (List.replicate n (.str []))))) else none)|_=>none:=by unfold J0; simp only [fL_eq]; rfl
theorem c6d (call:b6) (bx:AV) (st:St) (sz:Nat) (w:Bool) (xs:List (List AV)) (k:IntKind) (l:Int):R9 sz call [.list w xs,.int k l] bx st=if g8 sz xs=true∧0≤l∧l < xs.length then some (.list w (xs.drop l.toNat),bx,st) else none:=b5 rfl
theorem c5j (call:b6) (bx:AV) (st:St) (w:Bool) (xs:List (List AV)):Q5 call [.list w xs] bx st=some (.list true [],bx,st):=b5 rfl
theorem c5Z (call:b6) (bx:AV) (st:St) (len sz:Nat) (lo hi:Bool) (cs r:List AV):O2 len sz lo hi call (.ro cs::r) bx st=if cs.length=len*sz then (q7 lo hi r len).map fun p=>(.list false (((O0 sz len cs).take p.2).drop p.1),bx,st) else none:=b5 rfl
theorem c5b (call:b6) (bx:AV) (st:St) (op:BinOp) (a b:AV):v6 op call [a,b] bx st=(i7 op a b).map (fun v=>(v,bx,st)):=b5 rfl
theorem c1o (call:b6) (bx:AV) (st:St) (op:BinOp) (a b:AV):L3 op call [a,b] bx st=(a3l op a b).map (fun v=>(v,bx,st)):=b5 rfl
theorem c2E (call:b6) (bx:AV) (st:St) (op:BinOp) (a b:AV):H6 op call [a,b] bx st=(W3 op a b).map (fun v=>(v,bx,st)):=b5 rfl
theorem c3a (k:IntKind) (a b:Int):i7 .add (.int k a) (.int k b)=some (.int k (l4 k (a5t a b))):=by simp only [i7,if_true]
theorem c2V (k:IntKind) (a b:Int):i7 .sub (.int k a) (.int k b)=some (.int k (l4 k (W4 a b))):=by simp only [i7,if_true]
theorem c3T (k:IntKind) (a b:Int):i7 .mul (.int k a) (.int k b)=some (.int k (l4 k (a*b))):=by simp only [i7,if_true]
theorem c1H (k:IntKind) (a b:Int):i7 .quo (.int k a) (.int k b)=if b=0 then none else some (.int k (k.wrap (a.tdiv b))):=by simp only [i7,if_true]
theorem c1X (k:IntKind) (a b:Int):i7 .rem (.int k a) (.int k b)=if b=0 then none else some (.int k (a.tmod b)):=by simp only [i7,if_true]
theorem c4r (k:IntKind) (a b:Int):i7 .eql (.int k a) (.int k b)=some (.bool (eqI a b)):=by simp only [i7,if_true]
theorem c1c (k:IntKind) (a b:Int):i7 .neq (.int k a) (.int k b)=some (.bool !(eqI a b)):=by simp only [i7,if_true]
theorem c2J (k:IntKind) (a b:Int):i7 .lss (.int k a) (.int k b)=some (.bool (ltI a b)):=by simp only [i7,if_true]
theorem c1v (k:IntKind) (a b:Int):i7 .leq (.int k a) (.int k b)=some (.bool !(ltI b a)):=by simp only [i7,if_true]
theorem c4e (k:IntKind) (a b:Int):i7 .gtr (.int k a) (.int k b)=some (.bool (ltI b a)):=by simp only [i7,if_true]
theorem c3F (k:IntKind) (a b:Int):i7 .geq (.int k a) (.int k b)=some (.bool !(ltI a b)):=by simp only [i7,if_true]
theorem c4k (a b:List Nat):i7 .add (.str a) (.str b)=if a.length+b.length≤2 ^ 62 then some (.str (a++b)) else none:=b5 rfl
theorem c4m (a b:List Nat):i7 .eql (.str a) (.str b)=some (.bool (eqN a b)):=b5 rfl
theorem c1F (a b:List Nat):i7 .neq (.str a) (.str b)=some (.bool !(eqN a b)):=b5 rfl
theorem c3j (a b:List Nat):i7 .lss (.str a) (.str b)=some (.bool (l8 a b)):=b5 rfl
theorem c3A (a b:Bool):a3l .eql (.bool a) (.bool b)=some (.bool (a == b)):=b5 rfl
theorem c1S (a b:Bool):a3l .neq (.bool a) (.bool b)=some (.bool !(a == b)):=b5 rfl
theorem b8G (o f:Nat):W3 .eql (.ptr o f) .nilp=some (.bool false):=b5 rfl
theorem b97 (o f:Nat):W3 .eql .nilp (.ptr o f)=some (.bool false):=b5 rfl
theorem b99:W3 .eql .nilp .nilp=some (.bool true):=b5 rfl
theorem b9h (o f:Nat):W3 .neq (.ptr o f) .nilp=some (.bool true):=b5 rfl
theorem c0R (o f:Nat):W3 .neq .nilp (.ptr o f)=some (.bool true):=b5 rfl
theorem c0r:W3 .neq .nilp .nilp=some (.bool false):=b5 rfl
theorem c2t (call:b6) (bx:AV) (st:St) (b:Bool):S5 .not call [.bool b] bx st=some (.bool !b,bx,st):=b5 rfl
theorem c3D (call:b6) (bx:AV) (st:St) (k:IntKind) (n:Int):S5 .neg call [.int k n] bx st=some (.int k (l4 k (0 - n)),bx,st):=b5 rfl
theorem c39 (call:b6) (bx:AV) (st:St) (k k':IntKind) (n:Int):L4 k call [.int k' n] bx st=some (.int k (l4 k n),bx,st):=b5 rfl
theorem c4N (call:b6) (bx:AV) (st:St) (f n:Nat) (as:List AV):Q3 f n call as bx st=if p5 as then some (.func f ((as.map AV.weak).take n) ((as.map AV.weak).drop n),bx,st) else none:=b5 rfl
theorem c5c (call:b6) (bx:AV) (st:St):Q1 call [] bx st=some (.map st.length,bx,st++[.map []]):=b5 rfl
theorem c6c (call:b6) (bx:AV) (st:St) (i:Nat) (vs:List AV):M3 i call [.tuple vs] bx st=match vs[i]? with|some v=>some (v.weak,bx,st)|none=>none:=b5 rfl
theorem c33 (call:b6) (bx:AV) (st:St) (s:List Nat):N0 call [.str s] bx st=some (.int .i64 s.length,bx,st):=b5 rfl
theorem c2Y (call:b6) (bx:AV) (st:St) (w:Bool) (xs:List (List AV)):C9 call [.list w xs] bx st=some (.int .i64 xs.length,bx,st):=b5 rfl
theorem c58 (call:b6) (bx:AV) (st:St) (sz bytes:Nat) (w:Bool) (xs ys:List (List AV)):O5 sz bytes call [.list true xs,.list w ys] bx st=if g8 sz xs && g8 sz ys && decide ((xs.length+ys.length)*bytes≤2 ^ 47) then some (.list true (xs++ys),bx,st) else none:=b5 rfl
theorem b4D (n:Nat) (cs:List AV):d9 true n cs=if n≤cs.length then some (.agg ((cs.take n).map AV.weak1)) else none:=b5 rfl
theorem b4M (n:Nat) (c:AV) (cs:List AV):d9 false n (c::cs)=some c.weak1:=b5 rfl
theorem b1f (cs:List AV):s9 [] [] cs=some cs:=b5 rfl
theorem b2v (off n:Nat) (offs:List (Nat×Nat)) (p:AV) (ps cs:List AV):s9 ((off,n)::offs) (p::ps) cs=if p.plain=true∧p.cells.length=n∧off+n≤cs.length then s9 offs ps (j9 cs off p.cells) else none:=b5 rfl
theorem b1l (sz:Nat) (rs:List (List AV)):r7 sz [] [] rs=some rs:=b5 rfl
theorem b1D (sz i:Nat) (is:List Nat) (p:AV) (ps:List AV) (rs:List (List AV)):r7 sz (i::is) (p::ps) rs=if p.plain=true∧p.cells.length=sz∧i < rs.length then r7 sz is ps (rs.set i (p.cells.map AV.weak1)) else none:=b5 rfl
theorem b6K (cs:List AV) (off:Nat) (new:List AV):j9 cs off new=cs.take off++new++cs.drop (off+new.length):=b5 rfl
theorem b3s (n:Nat):q7 false false [] n=some (0,n):=b5 rfl
theorem b2V (l:AV) (n:Nat):q7 true false [l] n=(G5 l n).map fun l=>(l,n):=b5 rfl
theorem b4U (h:AV) (n:Nat):q7 false true [h] n=(G5 h n).map fun h=>(0,h):=b5 rfl
theorem b3b (l h:AV) (n:Nat):q7 true true [l,h] n=match G5 h n with|some h=>(G5 l h).map (fun l=>(l,h))|none=>none:=b5 rfl
theorem b8y (k:IntKind) (i:Int) (top:Nat):G5 (.int k i) top=if 0≤i∧i≤(top:Int) then some i.toNat else none:=b5 rfl
theorem b6k (sz:Nat):g8 sz []=true:=b5 rfl
theorem b62 (sz:Nat) (r:List AV) (rs:List (List AV)):g8 sz (r::rs)=(r.length == sz):=b5 rfl
theorem b9I (i:Nat) (cs:List AV):b7W i (.box cs)=.loc i 0:=b5 rfl
theorem b2b (b:Bool):AV.plain (.bool b)=true:=b5 rfl
theorem b1u (b:Bool):AV.cells (.bool b)=[.bool b]:=b5 rfl
theorem a8O (b:Bool):AV.cellW1 (.bool b)=.bool b:=b5 rfl
theorem a9e (b:Bool):AV.cellsW (.bool b)=[.bool b]:=b5 rfl
theorem b3w (k:IntKind) (n:Int):AV.plain (.int k n)=true:=b5 rfl
theorem b3l (k:IntKind) (n:Int):AV.cells (.int k n)=[.int k n]:=b5 rfl
theorem b2U (k:IntKind) (n:Int):AV.cellW1 (.int k n)=.int k n:=b5 rfl
theorem b03 (k:IntKind) (n:Int):AV.cellsW (.int k n)=[.int k n]:=b5 rfl
theorem b4F (s:List Nat):AV.plain (.str s)=true:=b5 rfl
theorem b4o (s:List Nat):AV.cells (.str s)=[.str s]:=b5 rfl
theorem b1h (s:List Nat):AV.cellW1 (.str s)=.str s:=b5 rfl
theorem b2g (s:List Nat):AV.cellsW (.str s)=[.str s]:=b5 rfl
theorem b1q (w:Bool) (xs:List (List AV)):AV.plain (.list w xs)=true:=b5 rfl
theorem b00 (w:Bool) (xs:List (List AV)):AV.cells (.list w xs)=[.list w xs]:=b5 rfl
theorem b21 (o f:Nat):AV.plain (.ptr o f)=true:=b5 rfl
theorem b4W (o f:Nat):AV.cells (.ptr o f)=[.ptr o f]:=b5 rfl
theorem b1r (o f:Nat):AV.cellW1 (.ptr o f)=.ptr o f:=b5 rfl
theorem b2C (o f:Nat):AV.cellsW (.ptr o f)=[.ptr o f]:=b5 rfl
theorem b1v :AV.plain (.nilp)=true:=b5 rfl
theorem b2J :AV.cells (.nilp)=[.nilp]:=b5 rfl
theorem a8T :AV.cellW1 (.nilp)=.nilp:=b5 rfl
theorem a9x :AV.cellsW (.nilp)=[.nilp]:=b5 rfl
theorem b6g (cs:List AV):AV.plain (.ro cs)=true:=b5 rfl
theorem b6Q (cs:List AV):AV.cells (.ro cs)=[.ro cs]:=b5 rfl
theorem b3W (cs:List AV):AV.cellW1 (.ro cs)=.ro cs:=b5 rfl
theorem b48 (cs:List AV):AV.cellsW (.ro cs)=[.ro cs]:=b5 rfl
theorem b3n (o:Nat):AV.plain (.map o)=true:=b5 rfl
theorem b2Y (o:Nat):AV.cells (.map o)=[.map o]:=b5 rfl
theorem b1I (o:Nat):AV.cellW1 (.map o)=.map o:=b5 rfl
theorem b1E (o:Nat):AV.cellsW (.map o)=[.map o]:=b5 rfl
theorem b0V :AV.plain (.nilm)=true:=b5 rfl
theorem b05 :AV.cells (.nilm)=[.nilm]:=b5 rfl
theorem a9t :AV.cellW1 (.nilm)=.nilm:=b5 rfl
theorem a9u :AV.cellsW (.nilm)=[.nilm]:=b5 rfl
theorem b1a (f:Nat) (a b:List AV):AV.plain (.func f a b)=true:=b5 rfl
theorem b15 (f:Nat) (a b:List AV):AV.cells (.func f a b)=[.func f a b]:=b5 rfl
theorem a9c (f:Nat) (a b:List AV):AV.cellW1 (.func f a b)=.func f a b:=b5 rfl
theorem a9l (f:Nat) (a b:List AV):AV.cellsW (.func f a b)=[.func f a b]:=b5 rfl
theorem b2S :AV.plain (.nilf)=true:=b5 rfl
theorem b1w :AV.cells (.nilf)=[.nilf]:=b5 rfl
theorem a9a :AV.cellW1 (.nilf)=.nilf:=b5 rfl
theorem a9o :AV.cellsW (.nilf)=[.nilf]:=b5 rfl
theorem b7t (o f n s:Nat):AV.plain (.sl o f n s)=true:=b5 rfl
theorem b5T (o f n s:Nat):AV.cells (.sl o f n s)=[.sl o f n s]:=b5 rfl
theorem b4y (o f n s:Nat):AV.cellW1 (.sl o f n s)=.sl o f n s:=b5 rfl
theorem b5b (o f n s:Nat):AV.cellsW (.sl o f n s)=[.sl o f n s]:=b5 rfl
theorem a9p (t:Nat) (v:AV):AV.plain (.iface t v)=true:=b5 rfl
theorem a9f (t:Nat) (v:AV):AV.cells (.iface t v)=[.iface t v]:=b5 rfl
theorem a7q (t:Nat) (v:AV):AV.cellW1 (.iface t v)=.iface t v:=b5 rfl
theorem a7k (t:Nat) (v:AV):AV.cellsW (.iface t v)=[.iface t v]:=b5 rfl
theorem b1M :AV.plain (.nili)=true:=b5 rfl
theorem b1J :AV.cells (.nili)=[.nili]:=b5 rfl
theorem a9m :AV.cellW1 (.nili)=.nili:=b5 rfl
theorem a8X :AV.cellsW (.nili)=[.nili]:=b5 rfl
theorem b2d :AV.plain (.nils)=true:=b5 rfl
theorem b1b :AV.cells (.nils)=[.nils]:=b5 rfl
theorem a9y :AV.cellW1 (.nils)=.nils:=b5 rfl
theorem a9h :AV.cellsW (.nils)=[.nils]:=b5 rfl
theorem a9q (w:Bool) (xs:List (List AV)):AV.cellW1 (.list w xs)=.list (w && xs.isEmpty) xs:=b5 rfl
theorem b3i (cs:List AV):AV.plain (.agg cs)=true:=b5 rfl
theorem b30 (cs:List AV):AV.cells (.agg cs)=cs:=b5 rfl
theorem b2i (cs:List AV):AV.cellsW (.agg cs)=cs:=b5 rfl
theorem a9B (w:Bool) (xs:List (List AV)):AV.cellsW (.list w xs)=[.list (w && xs.isEmpty) xs]:=b5 rfl
theorem b10:p5 []=true:=b5 rfl
theorem b02 (a:AV) (as:List AV):p5 (a::as)=(a.plain && p5 as):=b5 rfl
theorem c5L {α β:Type} (f:α→β):List.map f []=[]:=b5 rfl
theorem c4P {α β:Type} (f:α→β) (a:α) (l:List α):List.map f (a::l)=f a::l.map f:=b5 rfl
theorem c3o {α:Type} (l:List α):List.drop 0 l=l:=b5 rfl
theorem c1V {α:Type} (n:Nat) (a:α) (l:List α):List.drop (n+1) (a::l)=l.drop n:=b5 rfl
theorem c3f {α:Type} (n:Nat):List.drop n ([]:List α)=[]:=by cases n <;> rfl
theorem c1G {α:Type} (l:List α):List.take 0 l=[]:=b5 rfl
theorem c3M {α:Type} (n:Nat) (a:α) (l:List α):List.take (n+1) (a::l)=a::l.take n:=b5 rfl
theorem c2v {α:Type} (n:Nat):List.take n ([]:List α)=[]:=by cases n <;> rfl
theorem c5N {α:Type}:([]:List α).length=0:=b5 rfl
theorem c55 {α:Type} (a:α) (l:List α):(a::l).length=l.length+1:=b5 rfl
theorem c5P {α:Type} (a:α) (l m:List α):(a::l)++m=a::(l++m):=b5 rfl
theorem c4T {α:Type} (l:List α):[]++l=l:=b5 rfl
theorem c0W {α:Type} (l:List α):l++[]=l:=List.append_nil l
theorem c6v {α:Type} (a:α) (l:List α):(a::l)[0]?=some a:=b5 rfl
theorem c5y {α:Type} (n:Nat) (a:α) (l:List α):(a::l)[n+1]?=l[n]?:=b5 rfl
theorem c47 {α:Type} (a b:α) (l:List α):(a::l).set 0 b=b::l:=b5 rfl
theorem c4G {α:Type} (n:Nat) (a b:α) (l:List α):(a::l).set (n+1) b=a::l.set n b:=b5 rfl
theorem c6g {α:Type} (a:α):List.replicate 0 a=[]:=b5 rfl
theorem c5e {α:Type} (n:Nat) (a:α):List.replicate (n+1) a=a::List.replicate n a:=b5 rfl
theorem c2N {α β:Type} (f:α→β) (a:α):Option.map f (some a)=some (f a):=b5 rfl
theorem c28 {α β:Type} (f:α→β):Option.map f none=none:=b5 rfl
theorem c6y {α:Type}:([]:List α).isEmpty=true:=b5 rfl
theorem c6r {α:Type} (a:α) (l:List α):(a::l).isEmpty=false:=b5 rfl
theorem c4U {α:Type} (a b:α):(if True then a else b)=a:=if_pos trivial
theorem c5A {α:Type} (a b:α):(if False then a else b)=b:=if_neg (fun h=>h)
theorem c6t {α:Type} (a b:α):(if true=true then a else b)=a:=if_pos rfl
theorem c42 {α:Type} (a b:α):(if false=true then a else b)=b:=if_neg (fun h=>by cases h)
theorem c3P:(true=false)=False:=by simp
theorem c2B:(false=true)=False:=by simp
theorem c44:(!true)=false:=b5 rfl
theorem c5H:(!false)=true:=b5 rfl
theorem c41 (b:Bool):(true && b)=b:=b5 rfl
theorem c5X (b:Bool):(b && true)=b:=by cases b <;> rfl
theorem c5d (b:Bool):(false && b)=false:=b5 rfl
theorem c6G (b:Bool):(b && false)=false:=by cases b <;> rfl
theorem c9O (b:Bool):(true || b)=true:=b5 rfl
theorem c6P (b:Bool):(b || true)=true:=by cases b <;> rfl
theorem d0U (b:Bool):(false || b)=b:=b5 rfl
theorem c7M (b:Bool):(b || false)=b:=by cases b <;> rfl
theorem c4O (p:Prop):(p∧True)=p:=by simp
theorem c5i (p:Prop):(True∧p)=p:=by simp
theorem c49:decide True=true:=b5 rfl
theorem c5u:decide False=false:=b5 rfl
theorem eqs {α:Type} (a:α):(a=a)=True:=by simp
theorem nn (n:Nat):(0≤(n:Int))=True:=by simp
theorem tn (n:Nat):(n:Int).toNat=n:=Int.toNat_natCast n
theorem c1k (m n:Nat):((m:Int)≤(n:Int))=(m≤n):=by simp
theorem c1T (n:Nat):(n≤n)=True:=by simp
theorem d0O (i j:Nat):ltI (i:Int) (j:Int)=decide (i < j):=ltN i j
theorem c9z (i j:Nat):eqI (i:Int) (j:Int)=decide (i=j):=d01 i j
theorem c5f (c:AV) (call:b6) (n:Nat) (a b:ACode) (fr:List AV) (st:St):brE c call n a b fr st=brT c (a2b call n a fr st) (a2b call n b fr st):=b5 rfl
theorem c8G:(0 < (1:Nat))=True:=by simp
theorem c8s:(0 < (3:Nat))=True:=by simp
theorem c8D:(1 < (3:Nat))=True:=by simp
theorem c90:(2 < (3:Nat))=True:=by simp
theorem il0:(0≤(0:Int))=True:=by simp
theorem it0:(0:Int).toNat=0:=b5 rfl
theorem il1:(0≤(1:Int))=True:=by simp
theorem it1:(1:Int).toNat=1:=b5 rfl
theorem il2:(0≤(2:Int))=True:=by simp
theorem it2:(2:Int).toNat=2:=b5 rfl
theorem m41:4*1=(4:Nat):=b5 rfl
theorem W_e (a:AV):W a=AV.weak (AV.stripB a):=b5 rfl
theorem d0W {β:Type} (a:AV) (f:AV→Option β):m1 a f=f a:=b5 rfl
theorem b8t {β:Type} (c w:Bool) (a:AV) (f:AV→Option β):gm (.bool c) w a f=f (gV (.bool c) w a):=by unfold gm; rw [b0B,o9]
theorem b7H {β:Type} (x:AV) (w b want:Bool) (a:AV) (f:AV→Option β):gm (gV x w (.bool b)) want a f=f (gV (gV x w (.bool b)) want a):=by unfold gm; rw [a8C,o9]
theorem b9n {β:Type} (w:Bool) (a:AV) (f:AV→Option β):gm (.tuple []) w a f=f (.tuple []):=by unfold gm; rw [a9M,o9]
theorem c5l (n:Nat):0+n=n:=Nat.zero_add n
theorem c6e (n:Nat):n+0=n:=b5 rfl
theorem a5u (n:Nat):(n == n)=true:=by simp
end Go.Cb.R
namespace Go.Cb
open Go.Cb.R
set_option linter.defProp false in
def SS:=And.intro (And.intro @b9w @b6G) (And.intro (And.intro (And.intro (And.intro (And.intro (And.intro (And.intro (And.intro (@exec_seqK) (@b4H)) (And.intro (@b6t) (And.intro (@b4n) (@b4K)))) (And.intro (And.intro (@a3X) (And.intro (@b39) (@b5V))) (And.intro (@a6f) (And.intro (@a6u) (@b14))))) (And.intro (And.intro (And.intro (@a8P) (@c1B)) (And.intro (@c1r) (And.intro (@a9A) (@a9d)))) (And.intro (And.intro (@c1I) (And.intro (@c29) (@c1A))) (And.intro (@b6x) (And.intro (@b3o) (@b7G)))))) (And.intro (And.intro (And.intro (And.intro (@b6w) (@b17)) (And.intro (@c0t) (And.intro (@a3o) (@o9)))) (And.intro (And.intro (@c45) (And.intro (@c5Y) (@c5G))) (And.intro (@c5a) (And.intro (@a9M) (@c05))))) (And.intro (And.intro (And.intro (@c30) (And.intro (@c2z) (@c1C))) (And.intro (@b5U) (And.intro (@c5s) (@c5z)))) (And.intro (And.intro (@c5T) (And.intro (@c56) (@b9j))) (And.intro (@b0B) (And.intro (@a8C) (@b85))))))) (And.intro (And.intro (And.intro (And.intro (And.intro (@b7x) (@b3u)) (And.intro (@c2j) (And.intro (@c0Z) (@b9t)))) (And.intro (And.intro (@b6b) (And.intro (@b46) (@b5p))) (And.intro (@b5f) (And.intro (@b3B) (@b6s))))) (And.intro (And.intro (And.intro (@b31) (@b3Q)) (And.intro (@b8I) (And.intro (@b7i) (@b6e)))) (And.intro (And.intro (@b3t) (And.intro (@b4t) (@b4Y))) (And.intro (@a0V) (And.intro (@b8E) (@b1s)))))) (And.intro (And.intro (And.intro (And.intro (@b4h) (@b1e)) (And.intro (@b09) (And.intro (@b68) (@b1c)))) (And.intro (And.intro (@b44) (And.intro (@b32) (@b0P))) (And.intro (@b5W) (And.intro (@b2z) (@b3d))))) (And.intro (And.intro (And.intro (@b1O) (And.intro (@b12) (@Q4))) (And.intro (@b1F) (And.intro (@b1U) (@b3N)))) (And.intro (And.intro (@b3F) (And.intro (@b0R) (@b3Z))) (And.intro (@b1P) (And.intro (@b1C) (@b6i)))))))) (And.intro (And.intro (And.intro (And.intro (And.intro (And.intro (@b4r) (@b4T)) (And.intro (@b0Z) (And.intro (@b2c) (@b2T)))) (And.intro (And.intro (@b3K) (And.intro (@b5q) (@a8Y))) (And.intro (@a9C) (And.intro (@a9i) (@b1k))))) (And.intro (And.intro (And.intro (@b13) (@a8W)) (And.intro (@b2e) (And.intro (@a8Q) (@a9G)))) (And.intro (And.intro (@b4A) (And.intro (@b0O) (@b01))) (And.intro (@a9w) (And.intro (@a9F) (@a8V)))))) (And.intro (And.intro (And.intro (And.intro (@b1R) (@b2M)) (And.intro (@a9n) (And.intro (@a6O) (@b3O)))) (And.intro (And.intro (@a7h) (And.intro (@a7b) (@c6R))) (And.intro (@b0U) (And.intro (@b04) (@b3D))))) (And.intro (And.intro (And.intro (@a9z) (And.intro (@b9N) (@c2P))) (And.intro (@b5u) (And.intro (@c27) (@b8u)))) (And.intro (And.intro (@b7N) (And.intro (@c4j) (@c35))) (And.intro (@c37) (And.intro (@c0P) (@ldAn_ptr))))))) (And.intro (And.intro (And.intro (And.intro (And.intro (@b9l) (@b9v)) (And.intro (@c1N) (And.intro (@c3Z) (@c0F)))) (And.intro (And.intro (@b9G) (And.intro (@c3J) (@c4L))) (And.intro (@c5J) (And.intro (@c1K) (@b36))))) (And.intro (And.intro (And.intro (@c0C) (And.intro (@b4w) (@b3e))) (And.intro (@c4o) (And.intro (@c4d) (@a9r)))) (And.intro (And.intro (@a9b) (And.intro (@b6X) (@b3q))) (And.intro (@b8T) (And.intro (@b8d) (@b8S)))))) (And.intro (And.intro (And.intro (And.intro (@c1M) (@c3i)) (And.intro (@c54) (And.intro (@b3z) (@b3k)))) (And.intro (And.intro (@b9K) (And.intro (@b5L) (@b5K))) (And.intro (@c2A) (And.intro (@c5S) (@c1e))))) (And.intro (And.intro (And.intro (@c57) (And.intro (@c3h) (@c1E))) (And.intro (@c0X) (And.intro (@b4u) (@b98)))) (And.intro (And.intro (@c6d) (And.intro (@c5j) (@c5Z))) (And.intro (@c5b) (And.intro (@c1o) (@c2E))))))))) (And.intro (And.intro (And.intro (And.intro (And.intro (And.intro (And.intro (@c3a) (@c2V)) (And.intro (@c3T) (And.intro (@c1H) (@c1X)))) (And.intro (And.intro (@c4r) (And.intro (@c1c) (@c2J))) (And.intro (@c1v) (And.intro (@c4e) (@c3F))))) (And.intro (And.intro (And.intro (@c4k) (@c4m)) (And.intro (@c1F) (And.intro (@c3j) (@c3A)))) (And.intro (And.intro (@c1S) (And.intro (@b8G) (@b97))) (And.intro (@b99) (And.intro (@b9h) (@c0R)))))) (And.intro (And.intro (And.intro (And.intro (@c0r) (@c2t)) (And.intro (@c3D) (And.intro (@c39) (@c4N)))) (And.intro (And.intro (@c5c) (And.intro (@c6c) (@c33))) (And.intro (@c2Y) (And.intro (@c58) (@b4D))))) (And.intro (And.intro (And.intro (@b4M) (And.intro (@b1f) (@b2v))) (And.intro (@b1l) (And.intro (@b1D) (@b6K)))) (And.intro (And.intro (@b3s) (And.intro (@b2V) (@b4U))) (And.intro (@b3b) (And.intro (@b8y) (@b6k))))))) (And.intro (And.intro (And.intro (And.intro (And.intro (@b62) (@b9I)) (And.intro (@b2b) (And.intro (@b1u) (@a8O)))) (And.intro (And.intro (@a9e) (And.intro (@b3w) (@b3l))) (And.intro (@b2U) (And.intro (@b03) (@b4F))))) (And.intro (And.intro (And.intro (@b4o) (And.intro (@b1h) (@b2g))) (And.intro (@b1q) (And.intro (@b00) (@b21)))) (And.intro (And.intro (@b4W) (And.intro (@b1r) (@b2C))) (And.intro (@b1v) (And.intro (@b2J) (@a8T)))))) (And.intro (And.intro (And.intro (And.intro (@a9x) (@b6g)) (And.intro (@b6Q) (And.intro (@b3W) (@b48)))) (And.intro (And.intro (@b3n) (And.intro (@b2Y) (@b1I))) (And.intro (@b1E) (And.intro (@b0V) (@b05))))) (And.intro (And.intro (And.intro (@a9t) (And.intro (@a9u) (@b1a))) (And.intro (@b15) (And.intro (@a9c) (@a9l)))) (And.intro (And.intro (@b2S) (And.intro (@b1w) (@a9a))) (And.intro (@a9o) (And.intro (@b7t) (@b5T)))))))) (And.intro (And.intro (And.intro (And.intro (And.intro (And.intro (@b4y) (@b5b)) (And.intro (@a9p) (And.intro (@a9f) (@a7q)))) (And.intro (And.intro (@a7k) (And.intro (@b1M) (@b1J))) (And.intro (@a9m) (And.intro (@a8X) (@b2d))))) (And.intro (And.intro (And.intro (@b1b) (@a9y)) (And.intro (@a9h) (And.intro (@a9q) (@b3i)))) (And.intro (And.intro (@b30) (And.intro (@b2i) (@a9B))) (And.intro (@b10) (And.intro (@b02) (@c5L)))))) (And.intro (And.intro (And.intro (And.intro (@c4P) (@c3o)) (And.intro (@c1V) (And.intro (@c3f) (@c1G)))) (And.intro (And.intro (@c3M) (And.intro (@c2v) (@c5N))) (And.intro (@c55) (And.intro (@c5P) (@c4T))))) (And.intro (And.intro (And.intro (@c0W) (And.intro (@c6v) (@c5y))) (And.intro (@c47) (And.intro (@c4G) (@c6g)))) (And.intro (And.intro (@c5e) (And.intro (@c2N) (@c28))) (And.intro (@c6y) (And.intro (@c6r) (@c4U))))))) (And.intro (And.intro (And.intro (And.intro (And.intro (@c5A) (@c6t)) (And.intro (@c42) (And.intro (@c3P) (@c2B)))) (And.intro (And.intro (@c44) (And.intro (@c5H) (@c41))) (And.intro (@c5X) (And.intro (@c5d) (@c6G))))) (And.intro (And.intro (And.intro (@c9O) (And.intro (@c6P) (@d0U))) (And.intro (@c7M) (And.intro (@c4O) (@c5i)))) (And.intro (And.intro (@c49) (And.intro (@c5u) (@eqs))) (And.intro (@nn) (And.intro (@tn) (@c1k)))))) (And.intro (And.intro (And.intro (And.intro (@c1T) (@d0O)) (And.intro (@c9z) (And.intro (@c5f) (@c8G)))) (And.intro (And.intro (@c8s) (And.intro (@c8D) (@c90))) (And.intro (@il0) (And.intro (@it0) (@il1))))) (And.intro (And.intro (And.intro (@it1) (And.intro (@il2) (@it2))) (And.intro (@m41) (And.intro (@W_e) (@d0W)))) (And.intro (And.intro (@b8t) (And.intro (@b7H) (@b9n))) (And.intro (@c5l) (And.intro (@c6e) (@a5u))))))))))
end Go.Cb
/-
 THE ABSTRACT MACHINE, part 48: running told by rules, operation by operation, in place of printed chains.
-/
set_option maxRecDepth 4000
set_option linter.unusedSimpArgs false
set_option linter.unusedVariables false
namespace Go.Cb.V
open Go Go.Cb
def b8 (call:b6) (ops:List AOper) (σ:Sig) (k:Sig→Option Out):Option Out:=obind (g9 call ops σ) k
theorem runR_congr {call:b6} {ops:List AOper} {σ σ':Sig} {k:Sig→Option Out} (h:σ=σ'):b8 call ops σ k=b8 call ops σ' k:=by rw [h]
theorem c1m (call:b6) (σ:Sig) (k:Sig→Option Out):b8 call [] σ k=k σ:=b5 rfl
theorem a0E (call:b6) (o:AOper) (os:List AOper) (σ:Sig) (k:Sig→Option Out):b8 call (o::os) σ k=obind (e8 call o σ) fun σ=>b8 call os σ k:=by
 unfold b8
 simp only [g9]
 cases e8 call o σ <;> rfl
theorem Y5:∀ (as:List Opd) (σ:Sig),(b7 as σ).st=σ.st
 | [],_=>rfl
 | x::xs,σ=>by rw [b7,Y5 xs]; cases x <;> rfl
section
variable (call:b6) (d:Dst) (as:List Opd) (os:List AOper) (σ:Sig) (k:Sig→Option Out)
theorem m5 {K:Kind} (h1:K.setSt=false):b8 call (⟨d,K,as,none,none⟩::os) σ k=obind (p1 (sem K call (as.map (·.read σ)) .undef σ.st)) fun x=>b8 call os (d.put x (b7 as σ)) k:=by
 rw [a0E]
 simp only [e8]
 rw [M2]
 dsimp only
 cases hs:sem K call (as.map (·.read σ)) .undef σ.st with
 | none=>rfl
 | some x =>
  obtain ⟨r,b,st⟩:=x
  obtain rfl:=a1w h1 hs
  simp only [p1,o9]
  have e:({ b7 as σ with st:=σ.st }:Sig)=b7 as σ:=by
   have:=Y5 as σ
   cases h:b7 as σ
   rw [h] at this
   simp only at this
   rw [this]
  rw [e]
theorem N9 {K:Kind}:b8 call (⟨d,K,as,none,none⟩::os) σ k=obind (p2 (sem K call (as.map (·.read σ)) .undef σ.st)) fun x=>b8 call os (d.put x.1 { b7 as σ with st:=x.2 }) k:=by
 rw [a0E]
 simp only [e8]
 rw [M2]
 dsimp only
 cases hs:sem K call (as.map (·.read σ)) .undef σ.st with
 | none=>rfl
 | some x =>
  obtain ⟨r,b,st⟩:=x
  simp only [p2,o9]
theorem a6G {K:Kind} (i:Nat):b8 call (⟨d,K,as,some i,none⟩::os) σ k=obind (sem K call (as.map (·.read σ)) (σ.fr.getD i .undef) σ.st) fun x=>b8 call os (d.put x.1 { b7 as σ with fr:=(b7 as σ).fr.set i x.2.1,st:=x.2.2 }) k:=by
 rw [a0E]
 simp only [e8]
 rw [M2]
 dsimp only
 cases hs:sem K call (as.map (·.read σ)) (σ.fr.getD i .undef) σ.st with
 | none=>rfl
 | some x =>
  obtain ⟨r,b,st⟩:=x
  simp only [o9]
end
theorem c5M {call:b6} {d:Dst} {as:List Opd} {os:List AOper} {σ:Sig} {k:Sig→Option Out} {K:Kind} {box:Option Nat} (h:(K.setSt || K.alters || d8 as)=false) :
 b8 call (⟨d,K,as,box,none⟩::os) σ k=obind (p1 (sem K call (as.map (·.read σ)) (goK.boxOf' box σ) σ.st)) fun r=>b8 call os (d.put r σ) k:=by
 rw [a0E,← a1V]
 simp only [a3n,goK,h]
theorem m9 {call:b6} {d:Dst} {as:List Opd} {os:List AOper} {σ:Sig} {k:Sig→Option Out} {K:Kind} {box:Option Nat} {x:Opd} {w:Bool} (h:(K.setSt || K.alters || d8 as)=false) :
 b8 call (⟨d,K,as,box,some (x,w)⟩::os) σ k=obind (gv (x.read σ) w (p1 (sem K call (as.map (·.read σ)) (goK.boxOf' box σ) σ.st))) fun r=>b8 call os (d.put r σ) k:=by
 rw [a0E,← a1V]
 simp only [a3n,h]
theorem M5 {call:b6} {d:Dst} {as:List Opd} {os:List AOper} {σ:Sig} {k:Sig→Option Out} {K:Kind} {box:Option Nat} {x:Opd} {w:Bool} (h1:K.setSt=true) (h2:K.alters=false) (h:d8 as=false) :
 b8 call (⟨d,K,as,box,some (x,w)⟩::os) σ k=obind (gv2 (x.read σ) w σ.st (p2 (sem K call (as.map (·.read σ)) (goK.boxOf' box σ) σ.st))) fun r=>b8 call os (d.put r.1 { σ with st:=r.2 }) k:=by
 rw [a0E,← a1V]
 simp only [a3n,h1,h2,h,Bool.true_or,Bool.or_false]
theorem c7p:d8 []=false:=b5 rfl
theorem c81 (s:Nat) (xs:List Opd):d8 (.t s::xs)=d8 xs:=b5 rfl
theorem d0n (s:Nat) (xs:List Opd):d8 (.v s::xs)=d8 xs:=b5 rfl
theorem d0T (s:Nat) (xs:List Opd):d8 (.l s::xs)=d8 xs:=b5 rfl
theorem d0C (a:AV) (xs:List Opd):d8 (.c a::xs)=d8 xs:=b5 rfl
theorem b3r (call:b6) (n:Nat) (kill:List Nat) (ps:List AOper) (fr:List AV) (st:St) :
 b9 call n (.reg kill ps) fr st=b8 call ps ⟨e7 kill fr,fun _=>.undef,st⟩ fun σ=>some (.normal,σ.fr,σ.st):=by
 rw [b7f,X0]; rfl
theorem b1K (call:b6) (n:Nat) (kill:List Nat) (ps:List AOper) (c:Opd) (a b:ACode) (fr:List AV) (st:St) :
 b9 call n (.test kill ps c a b) fr st=b8 call ps ⟨e7 kill fr,fun _=>.undef,st⟩ fun σ=>brE (c.read σ) call n a b σ.fr σ.st:=by
 rw [b2r,X0]; rfl
theorem c8v (s:Nat) (fr:List AV) (τ:Nat→AV) (st:St):Opd.read (.t s) ⟨fr,τ,st⟩=(τ s).weak:=b5 rfl
theorem c4R (s:Nat) (fr:List AV) (τ:Nat→AV) (st:St):Opd.read (.ts s) ⟨fr,τ,st⟩=τ s:=b5 rfl
theorem c7E (s:Nat) (fr:List AV) (τ:Nat→AV) (st:St):Opd.read (.v s) ⟨fr,τ,st⟩=(fr.getD s .undef).weak:=b5 rfl
theorem c4A (s:Nat) (fr:List AV) (τ:Nat→AV) (st:St):Opd.read (.vs s) ⟨fr,τ,st⟩=fr.getD s .undef:=b5 rfl
theorem c7j (s:Nat) (fr:List AV) (τ:Nat→AV) (st:St):Opd.read (.l s) ⟨fr,τ,st⟩=b7W s (fr.getD s .undef):=b5 rfl
theorem c7c (a:AV) (σ:Sig):Opd.read (.c a) σ=a:=b5 rfl
theorem c5k (τ:Nat→AV) (s:Nat) (a:AV) (j:Nat):p8 τ s a j=if j=s then a else τ j:=by
 unfold p8
 by_cases h:j=s
 · subst h; simp
 · rw [if_neg h,if_neg]; intro e; exact h (Nat.eq_of_beq_eq_true e)
theorem put_t (s:Nat) (a:AV) (fr:List AV) (τ:Nat→AV) (st:St):Dst.put (.t s) a ⟨fr,τ,st⟩=⟨fr,p8 τ s a.stripB,st⟩:=b5 rfl
theorem put_v (s:Nat) (a:AV) (fr:List AV) (τ:Nat→AV) (st:St):Dst.put (.v s) a ⟨fr,τ,st⟩=⟨fr.set s a.strip,τ,st⟩:=b5 rfl
theorem c5x (a:AV) (σ:Sig):Dst.put .none a σ=σ:=b5 rfl
theorem c5F (a:AV) (σ:Sig):Dst.put .bx a σ=σ:=b5 rfl
theorem d0B (σ:Sig):b7 [] σ=σ:=b5 rfl
theorem c7F (x:Opd) (xs:List Opd) (σ:Sig):b7 (x::xs) σ=b7 xs (x.spend σ):=b5 rfl
theorem c9y (s:Nat) (σ:Sig):Opd.spend (.t s) σ=σ:=b5 rfl
theorem c71 (s:Nat) (σ:Sig):Opd.spend (.v s) σ=σ:=b5 rfl
theorem c6W (s:Nat) (σ:Sig):Opd.spend (.l s) σ=σ:=b5 rfl
theorem c8C (a:AV) (σ:Sig):Opd.spend (.c a) σ=σ:=b5 rfl
theorem c43 (s:Nat) (fr:List AV) (τ:Nat→AV) (st:St):Opd.spend (.ts s) ⟨fr,τ,st⟩=⟨fr,p8 τ s (τ s).weak,st⟩:=b5 rfl
theorem c4J (s:Nat) (fr:List AV) (τ:Nat→AV) (st:St):Opd.spend (.vs s) ⟨fr,τ,st⟩=⟨fr.set s (fr.getD s .undef).weak,τ,st⟩:=b5 rfl
theorem c7t (a d:AV) (l:List AV):(a::l).getD 0 d=a:=b5 rfl
theorem c66 (a d:AV) (l:List AV) (n:Nat):(a::l).getD (n+1) d=l.getD n d:=b5 rfl
theorem c8n (fr:List AV):e7 [] fr=fr:=b5 rfl
theorem c7o (i:Nat) (is:List Nat) (fr:List AV):e7 (i::is) fr=e7 is (fr.set i .undef):=b5 rfl
section
variable (call:b6) (d:Dst) (as:List Opd) (os:List AOper) (fr:List AV) (τ:Nat→AV) (s:St) (k:Sig→Option Out)
theorem c7y :b8 call (⟨d,.mv,as,none,none⟩::os) ⟨fr,τ,s⟩ k=obind (p1 (Y9 call (as.map (·.read ⟨fr,τ,s⟩)) .undef s)) fun x=>b8 call os (d.put x (b7 as ⟨fr,τ,s⟩)) k:=m5 call d as os ⟨fr,τ,s⟩ k rfl
theorem c3S :b8 call (⟨d,.pick,as,none,none⟩::os) ⟨fr,τ,s⟩ k=obind (p1 (w8 call (as.map (·.read ⟨fr,τ,s⟩)) .undef s)) fun x=>b8 call os (d.put x (b7 as ⟨fr,τ,s⟩)) k:=m5 call d as os ⟨fr,τ,s⟩ k rfl
theorem b5N :b8 call (⟨d,.nilchk,as,none,none⟩::os) ⟨fr,τ,s⟩ k=obind (p1 (z7 call (as.map (·.read ⟨fr,τ,s⟩)) .undef s)) fun x=>b8 call os (d.put x (b7 as ⟨fr,τ,s⟩)) k:=m5 call d as os ⟨fr,τ,s⟩ k rfl
theorem b8q (z:List AV) (o:List (Nat×Nat)):b8 call (⟨d,.build z o,as,none,none⟩::os) ⟨fr,τ,s⟩ k=obind (p1 (I3 z o call (as.map (·.read ⟨fr,τ,s⟩)) .undef s)) fun x=>b8 call os (d.put x (b7 as ⟨fr,τ,s⟩)) k:=m5 call d as os ⟨fr,τ,s⟩ k rfl
theorem b5v (q:Nat) (z:List (List AV)) (t:List Nat):b8 call (⟨d,.bslice q z t,as,none,none⟩::os) ⟨fr,τ,s⟩ k=obind (p1 (G7 q z t call (as.map (·.read ⟨fr,τ,s⟩)) .undef s)) fun x=>b8 call os (d.put x (b7 as ⟨fr,τ,s⟩)) k:=m5 call d as os ⟨fr,τ,s⟩ k rfl
theorem b4Z (q:Nat) (z:List (List AV)) (t:List Nat):b8 call (⟨d,.bsliceM q z t,as,none,none⟩::os) ⟨fr,τ,s⟩ k=obind (p1 (E5 q z t call (as.map (·.read ⟨fr,τ,s⟩)) .undef s)) fun x=>b8 call os (d.put x (b7 as ⟨fr,τ,s⟩)) k:=m5 call d as os ⟨fr,τ,s⟩ k rfl
theorem c3X (g:Bool) (n:Nat):b8 call (⟨d,.ldSt g n,as,none,none⟩::os) ⟨fr,τ,s⟩ k=obind (p1 (w9 g n call (as.map (·.read ⟨fr,τ,s⟩)) .undef s)) fun x=>b8 call os (d.put x (b7 as ⟨fr,τ,s⟩)) k:=m5 call d as os ⟨fr,τ,s⟩ k rfl
theorem c2e (g:Bool) (n:Nat):b8 call (⟨d,.ldRo g n,as,none,none⟩::os) ⟨fr,τ,s⟩ k=obind (p1 (I8 g n call (as.map (·.read ⟨fr,τ,s⟩)) .undef s)) fun x=>b8 call os (d.put x (b7 as ⟨fr,τ,s⟩)) k:=m5 call d as os ⟨fr,τ,s⟩ k rfl
theorem c3k (g:Bool) (n:Nat):b8 call (⟨d,.ldAn g n,as,none,none⟩::os) ⟨fr,τ,s⟩ k=obind (p1 (C0 g n call (as.map (·.read ⟨fr,τ,s⟩)) .undef s)) fun x=>b8 call os (d.put x (b7 as ⟨fr,τ,s⟩)) k:=m5 call d as os ⟨fr,τ,s⟩ k rfl
theorem c0J (g:Bool) (n:Nat):b8 call (⟨d,.ldStR g n,as,none,none⟩::os) ⟨fr,τ,s⟩ k=obind (p1 (C3 g n call (as.map (·.read ⟨fr,τ,s⟩)) .undef s)) fun x=>b8 call os (d.put x (b7 as ⟨fr,τ,s⟩)) k:=m5 call d as os ⟨fr,τ,s⟩ k rfl
theorem c40 (n:Nat):b8 call (⟨d,.fad n,as,none,none⟩::os) ⟨fr,τ,s⟩ k=obind (p1 (J8 n call (as.map (·.read ⟨fr,τ,s⟩)) .undef s)) fun x=>b8 call os (d.put x (b7 as ⟨fr,τ,s⟩)) k:=m5 call d as os ⟨fr,τ,s⟩ k rfl
theorem c5w (o n:Nat) (g:Bool):b8 call (⟨d,.fld o n g,as,none,none⟩::os) ⟨fr,τ,s⟩ k=obind (p1 (O4 o n g call (as.map (·.read ⟨fr,τ,s⟩)) .undef s)) fun x=>b8 call os (d.put x (b7 as ⟨fr,τ,s⟩)) k:=m5 call d as os ⟨fr,τ,s⟩ k rfl
theorem c5I (n:Nat):b8 call (⟨d,.iad n,as,none,none⟩::os) ⟨fr,τ,s⟩ k=obind (p1 (H8 n call (as.map (·.read ⟨fr,τ,s⟩)) .undef s)) fun x=>b8 call os (d.put x (b7 as ⟨fr,τ,s⟩)) k:=m5 call d as os ⟨fr,τ,s⟩ k rfl
theorem c3z (l n:Nat):b8 call (⟨d,.iadA l n,as,none,none⟩::os) ⟨fr,τ,s⟩ k=obind (p1 (D3 l n call (as.map (·.read ⟨fr,τ,s⟩)) .undef s)) fun x=>b8 call os (d.put x (b7 as ⟨fr,τ,s⟩)) k:=m5 call d as os ⟨fr,τ,s⟩ k rfl
theorem c4g :b8 call (⟨d,.idxS,as,none,none⟩::os) ⟨fr,τ,s⟩ k=obind (p1 (H2 call (as.map (·.read ⟨fr,τ,s⟩)) .undef s)) fun x=>b8 call os (d.put x (b7 as ⟨fr,τ,s⟩)) k:=m5 call d as os ⟨fr,τ,s⟩ k rfl
theorem c5o (a b:Bool):b8 call (⟨d,.slS a b,as,none,none⟩::os) ⟨fr,τ,s⟩ k=obind (p1 (L7 a b call (as.map (·.read ⟨fr,τ,s⟩)) .undef s)) fun x=>b8 call os (d.put x (b7 as ⟨fr,τ,s⟩)) k:=m5 call d as os ⟨fr,τ,s⟩ k rfl
theorem c6B (n:Nat) (a b:Bool):b8 call (⟨d,.slL n a b,as,none,none⟩::os) ⟨fr,τ,s⟩ k=obind (p1 (J3 n a b call (as.map (·.read ⟨fr,τ,s⟩)) .undef s)) fun x=>b8 call os (d.put x (b7 as ⟨fr,τ,s⟩)) k:=m5 call d as os ⟨fr,τ,s⟩ k rfl
theorem c38 (l n:Nat) (g:Bool):b8 call (⟨d,.idxA l n g,as,none,none⟩::os) ⟨fr,τ,s⟩ k=obind (p1 (L2 l n g call (as.map (·.read ⟨fr,τ,s⟩)) .undef s)) fun x=>b8 call os (d.put x (b7 as ⟨fr,τ,s⟩)) k:=m5 call d as os ⟨fr,τ,s⟩ k rfl
theorem c2I:b8 call (⟨d,.max2,as,none,none⟩::os) ⟨fr,τ,s⟩ k=obind (p1 (L6 call (as.map (·.read ⟨fr,τ,s⟩)) .undef s)) fun x=>b8 call os (d.put x (b7 as ⟨fr,τ,s⟩)) k:=m5 call d as os ⟨fr,τ,s⟩ k rfl
theorem c2g (n:Nat):b8 call (⟨d,.appS n,as,none,none⟩::os) ⟨fr,τ,s⟩ k=obind (p1 (O9 n call (as.map (·.read ⟨fr,τ,s⟩)) .undef s)) fun x=>b8 call os (d.put x (b7 as ⟨fr,τ,s⟩)) k:=m5 call d as os ⟨fr,τ,s⟩ k rfl
theorem c6x (n:Nat):b8 call (⟨d,.slO n,as,none,none⟩::os) ⟨fr,τ,s⟩ k=obind (p1 (R9 n call (as.map (·.read ⟨fr,τ,s⟩)) .undef s)) fun x=>b8 call os (d.put x (b7 as ⟨fr,τ,s⟩)) k:=m5 call d as os ⟨fr,τ,s⟩ k rfl
theorem c4H :b8 call (⟨d,.slZ,as,none,none⟩::os) ⟨fr,τ,s⟩ k=obind (p1 (Q5 call (as.map (·.read ⟨fr,τ,s⟩)) .undef s)) fun x=>b8 call os (d.put x (b7 as ⟨fr,τ,s⟩)) k:=m5 call d as os ⟨fr,τ,s⟩ k rfl
theorem c6k (l n:Nat) (a b:Bool):b8 call (⟨d,.slA l n a b,as,none,none⟩::os) ⟨fr,τ,s⟩ k=obind (p1 (O2 l n a b call (as.map (·.read ⟨fr,τ,s⟩)) .undef s)) fun x=>b8 call os (d.put x (b7 as ⟨fr,τ,s⟩)) k:=m5 call d as os ⟨fr,τ,s⟩ k rfl
theorem c5g (o:BinOp):b8 call (⟨d,.bin o,as,none,none⟩::os) ⟨fr,τ,s⟩ k=obind (p1 (v6 o call (as.map (·.read ⟨fr,τ,s⟩)) .undef s)) fun x=>b8 call os (d.put x (b7 as ⟨fr,τ,s⟩)) k:=m5 call d as os ⟨fr,τ,s⟩ k rfl
theorem c1Q (o:BinOp):b8 call (⟨d,.binB o,as,none,none⟩::os) ⟨fr,τ,s⟩ k=obind (p1 (L3 o call (as.map (·.read ⟨fr,τ,s⟩)) .undef s)) fun x=>b8 call os (d.put x (b7 as ⟨fr,τ,s⟩)) k:=m5 call d as os ⟨fr,τ,s⟩ k rfl
theorem c03 (o:BinOp):b8 call (⟨d,.binP o,as,none,none⟩::os) ⟨fr,τ,s⟩ k=obind (p1 (H6 o call (as.map (·.read ⟨fr,τ,s⟩)) .undef s)) fun x=>b8 call os (d.put x (b7 as ⟨fr,τ,s⟩)) k:=m5 call d as os ⟨fr,τ,s⟩ k rfl
theorem c6N (o:UnOp):b8 call (⟨d,.un o,as,none,none⟩::os) ⟨fr,τ,s⟩ k=obind (p1 (S5 o call (as.map (·.read ⟨fr,τ,s⟩)) .undef s)) fun x=>b8 call os (d.put x (b7 as ⟨fr,τ,s⟩)) k:=m5 call d as os ⟨fr,τ,s⟩ k rfl
theorem c1d (t:IntKind):b8 call (⟨d,.conv t,as,none,none⟩::os) ⟨fr,τ,s⟩ k=obind (p1 (L4 t call (as.map (·.read ⟨fr,τ,s⟩)) .undef s)) fun x=>b8 call os (d.put x (b7 as ⟨fr,τ,s⟩)) k:=m5 call d as os ⟨fr,τ,s⟩ k rfl
theorem c6f (f n:Nat):b8 call (⟨d,.mkF f n,as,none,none⟩::os) ⟨fr,τ,s⟩ k=obind (p1 (Q3 f n call (as.map (·.read ⟨fr,τ,s⟩)) .undef s)) fun x=>b8 call os (d.put x (b7 as ⟨fr,τ,s⟩)) k:=m5 call d as os ⟨fr,τ,s⟩ k rfl
theorem c3R (a:Nat) (z:List AV) (b c:Bool):b8 call (⟨d,.mget a z b c,as,none,none⟩::os) ⟨fr,τ,s⟩ k=obind (p1 (B7 a z b c call (as.map (·.read ⟨fr,τ,s⟩)) .undef s)) fun x=>b8 call os (d.put x (b7 as ⟨fr,τ,s⟩)) k:=m5 call d as os ⟨fr,τ,s⟩ k rfl
theorem b9d (a:Nat) (z:List AV) (b c:Bool):b8 call (⟨d,.mgetR a z b c,as,none,none⟩::os) ⟨fr,τ,s⟩ k=obind (p1 (C7 a z b c call (as.map (·.read ⟨fr,τ,s⟩)) .undef s)) fun x=>b8 call os (d.put x (b7 as ⟨fr,τ,s⟩)) k:=m5 call d as os ⟨fr,τ,s⟩ k rfl
theorem c5q (n:Nat):b8 call (⟨d,.ext n,as,none,none⟩::os) ⟨fr,τ,s⟩ k=obind (p1 (M3 n call (as.map (·.read ⟨fr,τ,s⟩)) .undef s)) fun x=>b8 call os (d.put x (b7 as ⟨fr,τ,s⟩)) k:=m5 call d as os ⟨fr,τ,s⟩ k rfl
theorem c3q :b8 call (⟨d,.lenS,as,none,none⟩::os) ⟨fr,τ,s⟩ k=obind (p1 (N0 call (as.map (·.read ⟨fr,τ,s⟩)) .undef s)) fun x=>b8 call os (d.put x (b7 as ⟨fr,τ,s⟩)) k:=m5 call d as os ⟨fr,τ,s⟩ k rfl
theorem c2U :b8 call (⟨d,.lenL,as,none,none⟩::os) ⟨fr,τ,s⟩ k=obind (p1 (C9 call (as.map (·.read ⟨fr,τ,s⟩)) .undef s)) fun x=>b8 call os (d.put x (b7 as ⟨fr,τ,s⟩)) k:=m5 call d as os ⟨fr,τ,s⟩ k rfl
theorem c4B (n b:Nat):b8 call (⟨d,.app n b,as,none,none⟩::os) ⟨fr,τ,s⟩ k=obind (p1 (O5 n b call (as.map (·.read ⟨fr,τ,s⟩)) .undef s)) fun x=>b8 call os (d.put x (b7 as ⟨fr,τ,s⟩)) k:=m5 call d as os ⟨fr,τ,s⟩ k rfl
theorem c6l :b8 call (⟨d,.b2s,as,none,none⟩::os) ⟨fr,τ,s⟩ k=obind (p1 (O3 call (as.map (·.read ⟨fr,τ,s⟩)) .undef s)) fun x=>b8 call os (d.put x (b7 as ⟨fr,τ,s⟩)) k:=m5 call d as os ⟨fr,τ,s⟩ k rfl
theorem b9p (z:List AV) (o:List (Nat×Nat)) (x:Opd) (w:Bool) (h:d8 as=false):b8 call (⟨d,.build z o,as,none,some (x,w)⟩::os) ⟨fr,τ,s⟩ k=obind (gv (x.read ⟨fr,τ,s⟩) w (p1 (I3 z o call (as.map (·.read ⟨fr,τ,s⟩)) .undef s))) fun r=>b8 call os (d.put r ⟨fr,τ,s⟩) k:=m9 (by rw [h]; rfl)
theorem b6F (q:Nat) (z:List (List AV)) (t:List Nat) (x:Opd) (w:Bool) (h:d8 as=false):b8 call (⟨d,.bslice q z t,as,none,some (x,w)⟩::os) ⟨fr,τ,s⟩ k=obind (gv (x.read ⟨fr,τ,s⟩) w (p1 (G7 q z t call (as.map (·.read ⟨fr,τ,s⟩)) .undef s))) fun r=>b8 call os (d.put r ⟨fr,τ,s⟩) k:=m9 (by rw [h]; rfl)
theorem b28 (q:Nat) (z:List (List AV)) (t:List Nat) (x:Opd) (w:Bool) (h:d8 as=false):b8 call (⟨d,.bsliceM q z t,as,none,some (x,w)⟩::os) ⟨fr,τ,s⟩ k=obind (gv (x.read ⟨fr,τ,s⟩) w (p1 (E5 q z t call (as.map (·.read ⟨fr,τ,s⟩)) .undef s))) fun r=>b8 call os (d.put r ⟨fr,τ,s⟩) k:=m9 (by rw [h]; rfl)
theorem c3r (g:Bool) (n:Nat) (x:Opd) (w:Bool) (h:d8 as=false):b8 call (⟨d,.ldSt g n,as,none,some (x,w)⟩::os) ⟨fr,τ,s⟩ k=obind (gv (x.read ⟨fr,τ,s⟩) w (p1 (w9 g n call (as.map (·.read ⟨fr,τ,s⟩)) .undef s))) fun r=>b8 call os (d.put r ⟨fr,τ,s⟩) k:=m9 (by rw [h]; rfl)
theorem c3m (g:Bool) (n:Nat) (x:Opd) (w:Bool) (h:d8 as=false):b8 call (⟨d,.ldRo g n,as,none,some (x,w)⟩::os) ⟨fr,τ,s⟩ k=obind (gv (x.read ⟨fr,τ,s⟩) w (p1 (I8 g n call (as.map (·.read ⟨fr,τ,s⟩)) .undef s))) fun r=>b8 call os (d.put r ⟨fr,τ,s⟩) k:=m9 (by rw [h]; rfl)
theorem c1x (g:Bool) (n:Nat) (x:Opd) (w:Bool) (h:d8 as=false):b8 call (⟨d,.ldAn g n,as,none,some (x,w)⟩::os) ⟨fr,τ,s⟩ k=obind (gv (x.read ⟨fr,τ,s⟩) w (p1 (C0 g n call (as.map (·.read ⟨fr,τ,s⟩)) .undef s))) fun r=>b8 call os (d.put r ⟨fr,τ,s⟩) k:=m9 (by rw [h]; rfl)
theorem b8R (g:Bool) (n:Nat) (x:Opd) (w:Bool) (h:d8 as=false):b8 call (⟨d,.ldStR g n,as,none,some (x,w)⟩::os) ⟨fr,τ,s⟩ k=obind (gv (x.read ⟨fr,τ,s⟩) w (p1 (C3 g n call (as.map (·.read ⟨fr,τ,s⟩)) .undef s))) fun r=>b8 call os (d.put r ⟨fr,τ,s⟩) k:=m9 (by rw [h]; rfl)
theorem c6E (n:Nat) (x:Opd) (w:Bool) (h:d8 as=false):b8 call (⟨d,.fad n,as,none,some (x,w)⟩::os) ⟨fr,τ,s⟩ k=obind (gv (x.read ⟨fr,τ,s⟩) w (p1 (J8 n call (as.map (·.read ⟨fr,τ,s⟩)) .undef s))) fun r=>b8 call os (d.put r ⟨fr,τ,s⟩) k:=m9 (by rw [h]; rfl)
theorem c4Z (o n:Nat) (g:Bool) (x:Opd) (w:Bool) (h:d8 as=false):b8 call (⟨d,.fld o n g,as,none,some (x,w)⟩::os) ⟨fr,τ,s⟩ k=obind (gv (x.read ⟨fr,τ,s⟩) w (p1 (O4 o n g call (as.map (·.read ⟨fr,τ,s⟩)) .undef s))) fun r=>b8 call os (d.put r ⟨fr,τ,s⟩) k:=m9 (by rw [h]; rfl)
theorem c4Q (n:Nat) (x:Opd) (w:Bool) (h:d8 as=false):b8 call (⟨d,.iad n,as,none,some (x,w)⟩::os) ⟨fr,τ,s⟩ k=obind (gv (x.read ⟨fr,τ,s⟩) w (p1 (H8 n call (as.map (·.read ⟨fr,τ,s⟩)) .undef s))) fun r=>b8 call os (d.put r ⟨fr,τ,s⟩) k:=m9 (by rw [h]; rfl)
theorem c4f (l n:Nat) (x:Opd) (w:Bool) (h:d8 as=false):b8 call (⟨d,.iadA l n,as,none,some (x,w)⟩::os) ⟨fr,τ,s⟩ k=obind (gv (x.read ⟨fr,τ,s⟩) w (p1 (D3 l n call (as.map (·.read ⟨fr,τ,s⟩)) .undef s))) fun r=>b8 call os (d.put r ⟨fr,τ,s⟩) k:=m9 (by rw [h]; rfl)
theorem c53 (a b:Bool) (x:Opd) (w:Bool) (h:d8 as=false):b8 call (⟨d,.slS a b,as,none,some (x,w)⟩::os) ⟨fr,τ,s⟩ k=obind (gv (x.read ⟨fr,τ,s⟩) w (p1 (L7 a b call (as.map (·.read ⟨fr,τ,s⟩)) .undef s))) fun r=>b8 call os (d.put r ⟨fr,τ,s⟩) k:=m9 (by rw [h]; rfl)
theorem c5m (n:Nat) (a b:Bool) (x:Opd) (w:Bool) (h:d8 as=false):b8 call (⟨d,.slL n a b,as,none,some (x,w)⟩::os) ⟨fr,τ,s⟩ k=obind (gv (x.read ⟨fr,τ,s⟩) w (p1 (J3 n a b call (as.map (·.read ⟨fr,τ,s⟩)) .undef s))) fun r=>b8 call os (d.put r ⟨fr,τ,s⟩) k:=m9 (by rw [h]; rfl)
theorem c4C (l n:Nat) (a b:Bool) (x:Opd) (w:Bool) (h:d8 as=false):b8 call (⟨d,.slA l n a b,as,none,some (x,w)⟩::os) ⟨fr,τ,s⟩ k=obind (gv (x.read ⟨fr,τ,s⟩) w (p1 (O2 l n a b call (as.map (·.read ⟨fr,τ,s⟩)) .undef s))) fun r=>b8 call os (d.put r ⟨fr,τ,s⟩) k:=m9 (by rw [h]; rfl)
theorem c6a (o:BinOp) (x:Opd) (w:Bool) (h:d8 as=false):b8 call (⟨d,.bin o,as,none,some (x,w)⟩::os) ⟨fr,τ,s⟩ k=obind (gv (x.read ⟨fr,τ,s⟩) w (p1 (v6 o call (as.map (·.read ⟨fr,τ,s⟩)) .undef s))) fun r=>b8 call os (d.put r ⟨fr,τ,s⟩) k:=m9 (by rw [h]; rfl)
theorem c3t (o:BinOp) (x:Opd) (w:Bool) (h:d8 as=false):b8 call (⟨d,.binB o,as,none,some (x,w)⟩::os) ⟨fr,τ,s⟩ k=obind (gv (x.read ⟨fr,τ,s⟩) w (p1 (L3 o call (as.map (·.read ⟨fr,τ,s⟩)) .undef s))) fun r=>b8 call os (d.put r ⟨fr,τ,s⟩) k:=m9 (by rw [h]; rfl)
theorem c3c (o:BinOp) (x:Opd) (w:Bool) (h:d8 as=false):b8 call (⟨d,.binP o,as,none,some (x,w)⟩::os) ⟨fr,τ,s⟩ k=obind (gv (x.read ⟨fr,τ,s⟩) w (p1 (H6 o call (as.map (·.read ⟨fr,τ,s⟩)) .undef s))) fun r=>b8 call os (d.put r ⟨fr,τ,s⟩) k:=m9 (by rw [h]; rfl)
theorem d0u (o:UnOp) (x:Opd) (w:Bool) (h:d8 as=false):b8 call (⟨d,.un o,as,none,some (x,w)⟩::os) ⟨fr,τ,s⟩ k=obind (gv (x.read ⟨fr,τ,s⟩) w (p1 (S5 o call (as.map (·.read ⟨fr,τ,s⟩)) .undef s))) fun r=>b8 call os (d.put r ⟨fr,τ,s⟩) k:=m9 (by rw [h]; rfl)
theorem c2o (t:IntKind) (x:Opd) (w:Bool) (h:d8 as=false):b8 call (⟨d,.conv t,as,none,some (x,w)⟩::os) ⟨fr,τ,s⟩ k=obind (gv (x.read ⟨fr,τ,s⟩) w (p1 (L4 t call (as.map (·.read ⟨fr,τ,s⟩)) .undef s))) fun r=>b8 call os (d.put r ⟨fr,τ,s⟩) k:=m9 (by rw [h]; rfl)
theorem c6h (f n:Nat) (x:Opd) (w:Bool) (h:d8 as=false):b8 call (⟨d,.mkF f n,as,none,some (x,w)⟩::os) ⟨fr,τ,s⟩ k=obind (gv (x.read ⟨fr,τ,s⟩) w (p1 (Q3 f n call (as.map (·.read ⟨fr,τ,s⟩)) .undef s))) fun r=>b8 call os (d.put r ⟨fr,τ,s⟩) k:=m9 (by rw [h]; rfl)
theorem c2O (a:Nat) (z:List AV) (b c:Bool) (x:Opd) (w:Bool) (h:d8 as=false):b8 call (⟨d,.mget a z b c,as,none,some (x,w)⟩::os) ⟨fr,τ,s⟩ k=obind (gv (x.read ⟨fr,τ,s⟩) w (p1 (B7 a z b c call (as.map (·.read ⟨fr,τ,s⟩)) .undef s))) fun r=>b8 call os (d.put r ⟨fr,τ,s⟩) k:=m9 (by rw [h]; rfl)
theorem b8w (a:Nat) (z:List AV) (b c:Bool) (x:Opd) (w:Bool) (h:d8 as=false):b8 call (⟨d,.mgetR a z b c,as,none,some (x,w)⟩::os) ⟨fr,τ,s⟩ k=obind (gv (x.read ⟨fr,τ,s⟩) w (p1 (C7 a z b c call (as.map (·.read ⟨fr,τ,s⟩)) .undef s))) fun r=>b8 call os (d.put r ⟨fr,τ,s⟩) k:=m9 (by rw [h]; rfl)
theorem c6n (n:Nat) (x:Opd) (w:Bool) (h:d8 as=false):b8 call (⟨d,.ext n,as,none,some (x,w)⟩::os) ⟨fr,τ,s⟩ k=obind (gv (x.read ⟨fr,τ,s⟩) w (p1 (M3 n call (as.map (·.read ⟨fr,τ,s⟩)) .undef s))) fun r=>b8 call os (d.put r ⟨fr,τ,s⟩) k:=m9 (by rw [h]; rfl)
theorem c5R (n b:Nat) (x:Opd) (w:Bool) (h:d8 as=false):b8 call (⟨d,.app n b,as,none,some (x,w)⟩::os) ⟨fr,τ,s⟩ k=obind (gv (x.read ⟨fr,τ,s⟩) w (p1 (O5 n b call (as.map (·.read ⟨fr,τ,s⟩)) .undef s))) fun r=>b8 call os (d.put r ⟨fr,τ,s⟩) k:=m9 (by rw [h]; rfl)
theorem c1Y (i:Nat) (g:Bool) (n:Nat) (j:Nat) (h:d8 as=false):b8 call (⟨d,.ldLc i g n,as,some j,none⟩::os) ⟨fr,τ,s⟩ k=obind (p1 (F8 i g n call (as.map (·.read ⟨fr,τ,s⟩)) (fr.getD j .undef) s)) fun r=>b8 call os (d.put r ⟨fr,τ,s⟩) k:=c5M (by rw [h]; rfl)
theorem b8B (i:Nat) (g:Bool) (n:Nat) (j:Nat) (x:Opd) (w:Bool) (h:d8 as=false):b8 call (⟨d,.ldLc i g n,as,some j,some (x,w)⟩::os) ⟨fr,τ,s⟩ k=obind (gv (x.read ⟨fr,τ,s⟩) w (p1 (F8 i g n call (as.map (·.read ⟨fr,τ,s⟩)) (fr.getD j .undef) s))) fun r=>b8 call os (d.put r ⟨fr,τ,s⟩) k:=m9 (by rw [h]; rfl)
theorem b5y (z:List AV):b8 call (⟨d,.allocO z,as,none,none⟩::os) ⟨fr,τ,s⟩ k=obind (p2 (D5 z call (as.map (·.read ⟨fr,τ,s⟩)) .undef s)) fun x=>b8 call os (d.put x.1 { b7 as ⟨fr,τ,s⟩ with st:=x.2 }) k:=N9 call d as os ⟨fr,τ,s⟩ k
theorem b4s (z:List AV) (x:Opd) (w:Bool) (h:d8 as=false):b8 call (⟨d,.allocO z,as,none,some (x,w)⟩::os) ⟨fr,τ,s⟩ k=obind (gv2 (x.read ⟨fr,τ,s⟩) w s (p2 (D5 z call (as.map (·.read ⟨fr,τ,s⟩)) .undef s))) fun r=>b8 call os (d.put r.1 ⟨fr,τ,r.2⟩) k:=M5 rfl rfl h
theorem c2i:b8 call (⟨d,.boxO,as,none,none⟩::os) ⟨fr,τ,s⟩ k=obind (p2 (I5 call (as.map (·.read ⟨fr,τ,s⟩)) .undef s)) fun x=>b8 call os (d.put x.1 { b7 as ⟨fr,τ,s⟩ with st:=x.2 }) k:=N9 call d as os ⟨fr,τ,s⟩ k
theorem c0v (x:Opd) (w:Bool) (h:d8 as=false):b8 call (⟨d,.boxO,as,none,some (x,w)⟩::os) ⟨fr,τ,s⟩ k=obind (gv2 (x.read ⟨fr,τ,s⟩) w s (p2 (I5 call (as.map (·.read ⟨fr,τ,s⟩)) .undef s))) fun r=>b8 call os (d.put r.1 ⟨fr,τ,r.2⟩) k:=M5 rfl rfl h
theorem b3v (q:Nat) (z:List (List AV)) (t:List Nat):b8 call (⟨d,.bsliceO q z t,as,none,none⟩::os) ⟨fr,τ,s⟩ k=obind (p2 (E7 q z t call (as.map (·.read ⟨fr,τ,s⟩)) .undef s)) fun x=>b8 call os (d.put x.1 { b7 as ⟨fr,τ,s⟩ with st:=x.2 }) k:=N9 call d as os ⟨fr,τ,s⟩ k
theorem b11 (q:Nat) (z:List (List AV)) (t:List Nat) (x:Opd) (w:Bool) (h:d8 as=false):b8 call (⟨d,.bsliceO q z t,as,none,some (x,w)⟩::os) ⟨fr,τ,s⟩ k=obind (gv2 (x.read ⟨fr,τ,s⟩) w s (p2 (E7 q z t call (as.map (·.read ⟨fr,τ,s⟩)) .undef s))) fun r=>b8 call os (d.put r.1 ⟨fr,τ,r.2⟩) k:=M5 rfl rfl h
theorem c1a (n b:Nat):b8 call (⟨d,.appM n b,as,none,none⟩::os) ⟨fr,τ,s⟩ k=obind (p2 (q8 n b call (as.map (·.read ⟨fr,τ,s⟩)) .undef s)) fun x=>b8 call os (d.put x.1 { b7 as ⟨fr,τ,s⟩ with st:=x.2 }) k:=N9 call d as os ⟨fr,τ,s⟩ k
theorem b9k (n b:Nat) (x:Opd) (w:Bool) (h:d8 as=false):b8 call (⟨d,.appM n b,as,none,some (x,w)⟩::os) ⟨fr,τ,s⟩ k=obind (gv2 (x.read ⟨fr,τ,s⟩) w s (p2 (q8 n b call (as.map (·.read ⟨fr,τ,s⟩)) .undef s))) fun r=>b8 call os (d.put r.1 ⟨fr,τ,r.2⟩) k:=M5 rfl rfl h
theorem b5g (n:Nat):b8 call (⟨d,.ldStSR n,as,none,none⟩::os) ⟨fr,τ,s⟩ k=obind (p2 (C1 n call (as.map (·.read ⟨fr,τ,s⟩)) .undef s)) fun x=>b8 call os (d.put x.1 { b7 as ⟨fr,τ,s⟩ with st:=x.2 }) k:=N9 call d as os ⟨fr,τ,s⟩ k
theorem b4p (n:Nat) (x:Opd) (w:Bool) (h:d8 as=false):b8 call (⟨d,.ldStSR n,as,none,some (x,w)⟩::os) ⟨fr,τ,s⟩ k=obind (gv2 (x.read ⟨fr,τ,s⟩) w s (p2 (C1 n call (as.map (·.read ⟨fr,τ,s⟩)) .undef s))) fun r=>b8 call os (d.put r.1 ⟨fr,τ,r.2⟩) k:=M5 rfl rfl h
theorem c0L (n:Nat):b8 call (⟨d,.stStA n,as,none,none⟩::os) ⟨fr,τ,s⟩ k=obind (p2 (B0 n call (as.map (·.read ⟨fr,τ,s⟩)) .undef s)) fun x=>b8 call os (d.put x.1 { b7 as ⟨fr,τ,s⟩ with st:=x.2 }) k:=N9 call d as os ⟨fr,τ,s⟩ k
theorem b5l (n:Nat) (x:Opd) (w:Bool) (h:d8 as=false):b8 call (⟨d,.stStA n,as,none,some (x,w)⟩::os) ⟨fr,τ,s⟩ k=obind (gv2 (x.read ⟨fr,τ,s⟩) w s (p2 (B0 n call (as.map (·.read ⟨fr,τ,s⟩)) .undef s))) fun r=>b8 call os (d.put r.1 ⟨fr,τ,r.2⟩) k:=M5 rfl rfl h
theorem b8U (f m:Nat):b8 call (⟨d,.callA f m,as,none,none⟩::os) ⟨fr,τ,s⟩ k=obind (p2 (z6 f m call (as.map (·.read ⟨fr,τ,s⟩)) .undef s)) fun x=>b8 call os (d.put x.1 { b7 as ⟨fr,τ,s⟩ with st:=x.2 }) k:=N9 call d as os ⟨fr,τ,s⟩ k
theorem b60 (f m:Nat) (x:Opd) (w:Bool) (h:d8 as=false):b8 call (⟨d,.callA f m,as,none,some (x,w)⟩::os) ⟨fr,τ,s⟩ k=obind (gv2 (x.read ⟨fr,τ,s⟩) w s (p2 (z6 f m call (as.map (·.read ⟨fr,τ,s⟩)) .undef s))) fun r=>b8 call os (d.put r.1 ⟨fr,τ,r.2⟩) k:=M5 rfl rfl h
theorem c0Q:b8 call (⟨d,.ldStS,as,none,none⟩::os) ⟨fr,τ,s⟩ k=obind (p2 (y8 call (as.map (·.read ⟨fr,τ,s⟩)) .undef s)) fun x=>b8 call os (d.put x.1 { b7 as ⟨fr,τ,s⟩ with st:=x.2 }) k:=N9 call d as os ⟨fr,τ,s⟩ k
theorem b61 (x:Opd) (w:Bool) (h:d8 as=false):b8 call (⟨d,.ldStS,as,none,some (x,w)⟩::os) ⟨fr,τ,s⟩ k=obind (gv2 (x.read ⟨fr,τ,s⟩) w s (p2 (y8 call (as.map (·.read ⟨fr,τ,s⟩)) .undef s))) fun r=>b8 call os (d.put r.1 ⟨fr,τ,r.2⟩) k:=M5 rfl rfl h
theorem c3w (n:Nat):b8 call (⟨d,.stSt n,as,none,none⟩::os) ⟨fr,τ,s⟩ k=obind (p2 (B9 n call (as.map (·.read ⟨fr,τ,s⟩)) .undef s)) fun x=>b8 call os (d.put x.1 { b7 as ⟨fr,τ,s⟩ with st:=x.2 }) k:=N9 call d as os ⟨fr,τ,s⟩ k
theorem b9U (n:Nat) (x:Opd) (w:Bool) (h:d8 as=false):b8 call (⟨d,.stSt n,as,none,some (x,w)⟩::os) ⟨fr,τ,s⟩ k=obind (gv2 (x.read ⟨fr,τ,s⟩) w s (p2 (B9 n call (as.map (·.read ⟨fr,τ,s⟩)) .undef s))) fun r=>b8 call os (d.put r.1 ⟨fr,τ,r.2⟩) k:=M5 rfl rfl h
theorem c6u:b8 call (⟨d,.mkM,as,none,none⟩::os) ⟨fr,τ,s⟩ k=obind (p2 (Q1 call (as.map (·.read ⟨fr,τ,s⟩)) .undef s)) fun x=>b8 call os (d.put x.1 { b7 as ⟨fr,τ,s⟩ with st:=x.2 }) k:=N9 call d as os ⟨fr,τ,s⟩ k
theorem c0Y:b8 call (⟨d,.clrS,as,none,none⟩::os) ⟨fr,τ,s⟩ k=obind (p2 (J0 call (as.map (·.read ⟨fr,τ,s⟩)) .undef s)) fun x=>b8 call os (d.put x.1 { b7 as ⟨fr,τ,s⟩ with st:=x.2 }) k:=N9 call d as os ⟨fr,τ,s⟩ k
theorem c04 (x:Opd) (w:Bool) (h:d8 as=false):b8 call (⟨d,.mkM,as,none,some (x,w)⟩::os) ⟨fr,τ,s⟩ k=obind (gv2 (x.read ⟨fr,τ,s⟩) w s (p2 (Q1 call (as.map (·.read ⟨fr,τ,s⟩)) .undef s))) fun r=>b8 call os (d.put r.1 ⟨fr,τ,r.2⟩) k:=M5 rfl rfl h
theorem c4n (n:Nat):b8 call (⟨d,.mdel n,as,none,none⟩::os) ⟨fr,τ,s⟩ k=obind (p2 (R1 n call (as.map (·.read ⟨fr,τ,s⟩)) .undef s)) fun x=>b8 call os (d.put x.1 { b7 as ⟨fr,τ,s⟩ with st:=x.2 }) k:=N9 call d as os ⟨fr,τ,s⟩ k
theorem c1p (n:Nat):b8 call (⟨d,.mset n,as,none,none⟩::os) ⟨fr,τ,s⟩ k=obind (p2 (H5 n call (as.map (·.read ⟨fr,τ,s⟩)) .undef s)) fun x=>b8 call os (d.put x.1 { b7 as ⟨fr,τ,s⟩ with st:=x.2 }) k:=N9 call d as os ⟨fr,τ,s⟩ k
theorem b87 (n:Nat) (x:Opd) (w:Bool) (h:d8 as=false):b8 call (⟨d,.mset n,as,none,some (x,w)⟩::os) ⟨fr,τ,s⟩ k=obind (gv2 (x.read ⟨fr,τ,s⟩) w s (p2 (H5 n call (as.map (·.read ⟨fr,τ,s⟩)) .undef s))) fun r=>b8 call os (d.put r.1 ⟨fr,τ,r.2⟩) k:=M5 rfl rfl h
theorem c4q (f:Nat):b8 call (⟨d,.call f,as,none,none⟩::os) ⟨fr,τ,s⟩ k=obind (p2 (q9 f call (as.map (·.read ⟨fr,τ,s⟩)) .undef s)) fun x=>b8 call os (d.put x.1 { b7 as ⟨fr,τ,s⟩ with st:=x.2 }) k:=N9 call d as os ⟨fr,τ,s⟩ k
theorem b9i (f:Nat) (x:Opd) (w:Bool) (h:d8 as=false):b8 call (⟨d,.call f,as,none,some (x,w)⟩::os) ⟨fr,τ,s⟩ k=obind (gv2 (x.read ⟨fr,τ,s⟩) w s (p2 (q9 f call (as.map (·.read ⟨fr,τ,s⟩)) .undef s))) fun r=>b8 call os (d.put r.1 ⟨fr,τ,r.2⟩) k:=M5 rfl rfl h
theorem b8s:b8 call (⟨d,.callV,as,none,none⟩::os) ⟨fr,τ,s⟩ k=obind (p2 (C8 call (as.map (·.read ⟨fr,τ,s⟩)) .undef s)) fun x=>b8 call os (d.put x.1 { b7 as ⟨fr,τ,s⟩ with st:=x.2 }) k:=N9 call d as os ⟨fr,τ,s⟩ k
theorem b51 (x:Opd) (w:Bool) (h:d8 as=false):b8 call (⟨d,.callV,as,none,some (x,w)⟩::os) ⟨fr,τ,s⟩ k=obind (gv2 (x.read ⟨fr,τ,s⟩) w s (p2 (C8 call (as.map (·.read ⟨fr,τ,s⟩)) .undef s))) fun r=>b8 call os (d.put r.1 ⟨fr,τ,r.2⟩) k:=M5 rfl rfl h
theorem b91 (z:List AV) (j:Nat):b8 call (⟨d,.alloc z,as,some j,none⟩::os) ⟨fr,τ,s⟩ k=obind (N5 z call (as.map (·.read ⟨fr,τ,s⟩)) (fr.getD j .undef) s) fun x=>b8 call os (d.put x.1 { b7 as ⟨fr,τ,s⟩ with fr:=(b7 as ⟨fr,τ,s⟩).fr.set j x.2.1,st:=x.2.2 }) k:=a6G call d as os ⟨fr,τ,s⟩ k j
theorem c3n (j:Nat):b8 call (⟨d,.boxV,as,some j,none⟩::os) ⟨fr,τ,s⟩ k=obind (P0 call (as.map (·.read ⟨fr,τ,s⟩)) (fr.getD j .undef) s) fun x=>b8 call os (d.put x.1 { b7 as ⟨fr,τ,s⟩ with fr:=(b7 as ⟨fr,τ,s⟩).fr.set j x.2.1,st:=x.2.2 }) k:=a6G call d as os ⟨fr,τ,s⟩ k j
theorem b8D (i:Nat) (j:Nat):b8 call (⟨d,.ldLcS i,as,some j,none⟩::os) ⟨fr,τ,s⟩ k=obind (H7 i call (as.map (·.read ⟨fr,τ,s⟩)) (fr.getD j .undef) s) fun x=>b8 call os (d.put x.1 { b7 as ⟨fr,τ,s⟩ with fr:=(b7 as ⟨fr,τ,s⟩).fr.set j x.2.1,st:=x.2.2 }) k:=a6G call d as os ⟨fr,τ,s⟩ k j
theorem c2q (i n:Nat) (j:Nat):b8 call (⟨d,.stLc i n,as,some j,none⟩::os) ⟨fr,τ,s⟩ k=obind (I9 i n call (as.map (·.read ⟨fr,τ,s⟩)) (fr.getD j .undef) s) fun x=>b8 call os (d.put x.1 { b7 as ⟨fr,τ,s⟩ with fr:=(b7 as ⟨fr,τ,s⟩).fr.set j x.2.1,st:=x.2.2 }) k:=a6G call d as os ⟨fr,τ,s⟩ k j
theorem c8S (x:Opd) (w:Bool) (h:d8 as=false):b8 call (⟨d,.mv,as,none,some (x,w)⟩::os) ⟨fr,τ,s⟩ k=obind (gv (x.read ⟨fr,τ,s⟩) w (p1 (Y9 call (as.map (·.read ⟨fr,τ,s⟩)) .undef s))) fun r=>b8 call os (d.put r ⟨fr,τ,s⟩) k:=m9 (by rw [h]; rfl)
theorem c4t (x:Opd) (w:Bool) (h:d8 as=false):b8 call (⟨d,.pick,as,none,some (x,w)⟩::os) ⟨fr,τ,s⟩ k=obind (gv (x.read ⟨fr,τ,s⟩) w (p1 (w8 call (as.map (·.read ⟨fr,τ,s⟩)) .undef s))) fun r=>b8 call os (d.put r ⟨fr,τ,s⟩) k:=m9 (by rw [h]; rfl)
theorem b5R (x:Opd) (w:Bool) (h:d8 as=false):b8 call (⟨d,.nilchk,as,none,some (x,w)⟩::os) ⟨fr,τ,s⟩ k=obind (gv (x.read ⟨fr,τ,s⟩) w (p1 (z7 call (as.map (·.read ⟨fr,τ,s⟩)) .undef s))) fun r=>b8 call os (d.put r ⟨fr,τ,s⟩) k:=m9 (by rw [h]; rfl)
theorem c3N (x:Opd) (w:Bool) (h:d8 as=false):b8 call (⟨d,.idxS,as,none,some (x,w)⟩::os) ⟨fr,τ,s⟩ k=obind (gv (x.read ⟨fr,τ,s⟩) w (p1 (H2 call (as.map (·.read ⟨fr,τ,s⟩)) .undef s))) fun r=>b8 call os (d.put r ⟨fr,τ,s⟩) k:=m9 (by rw [h]; rfl)
theorem c4W (x:Opd) (w:Bool) (h:d8 as=false):b8 call (⟨d,.slZ,as,none,some (x,w)⟩::os) ⟨fr,τ,s⟩ k=obind (gv (x.read ⟨fr,τ,s⟩) w (p1 (Q5 call (as.map (·.read ⟨fr,τ,s⟩)) .undef s))) fun r=>b8 call os (d.put r ⟨fr,τ,s⟩) k:=m9 (by rw [h]; rfl)
theorem c2f (x:Opd) (w:Bool) (h:d8 as=false):b8 call (⟨d,.lenS,as,none,some (x,w)⟩::os) ⟨fr,τ,s⟩ k=obind (gv (x.read ⟨fr,τ,s⟩) w (p1 (N0 call (as.map (·.read ⟨fr,τ,s⟩)) .undef s))) fun r=>b8 call os (d.put r ⟨fr,τ,s⟩) k:=m9 (by rw [h]; rfl)
theorem c00 (x:Opd) (w:Bool) (h:d8 as=false):b8 call (⟨d,.lenL,as,none,some (x,w)⟩::os) ⟨fr,τ,s⟩ k=obind (gv (x.read ⟨fr,τ,s⟩) w (p1 (C9 call (as.map (·.read ⟨fr,τ,s⟩)) .undef s))) fun r=>b8 call os (d.put r ⟨fr,τ,s⟩) k:=m9 (by rw [h]; rfl)
theorem c50 (x:Opd) (w:Bool) (h:d8 as=false):b8 call (⟨d,.b2s,as,none,some (x,w)⟩::os) ⟨fr,τ,s⟩ k=obind (gv (x.read ⟨fr,τ,s⟩) w (p1 (O3 call (as.map (·.read ⟨fr,τ,s⟩)) .undef s))) fun r=>b8 call os (d.put r ⟨fr,τ,s⟩) k:=m9 (by rw [h]; rfl)
end
set_option linter.defProp false in
def VV:=And.intro (And.intro (And.intro @b9d @b8w) (And.intro (And.intro (And.intro @c4n @c0Y) @c6x) (And.intro (And.intro @c2I @c2g) @c38))) (And.intro (And.intro (And.intro (And.intro (And.intro (And.intro @c1m (And.intro @b3r @b1K)) (And.intro (And.intro @c8v @c4R) (And.intro @c7E @c4A))) (And.intro (And.intro (And.intro @c7j @c7c) (And.intro @c5k @put_t)) (And.intro (And.intro @put_v @c5x) (And.intro @c5F @d0B)))) (And.intro (And.intro (And.intro (And.intro @c7F @c9y) (And.intro @c71 @c6W)) (And.intro (And.intro @c8C @c43) (And.intro @c4J @c7t))) (And.intro (And.intro (And.intro @c66 @c8n) (And.intro @c7o @c7y)) (And.intro (And.intro @c3S @b5N) (And.intro @b8q @b5v))))) (And.intro (And.intro (And.intro (And.intro @b4Z (And.intro @c3X @c2e)) (And.intro (And.intro @c3k @c0J) (And.intro @c40 @c5w))) (And.intro (And.intro (And.intro @c5I @c3z) (And.intro @c4g @c5o)) (And.intro (And.intro @c6B @c4H) (And.intro @c6k @c5g)))) (And.intro (And.intro (And.intro (And.intro @c1Q @c03) (And.intro @c6N @c1d)) (And.intro (And.intro @c6f @c3R) (And.intro @c5q @c3q))) (And.intro (And.intro (And.intro @c2U @c4B) (And.intro @c6l @b9p)) (And.intro (And.intro @b6F @b28) (And.intro @c3r @c3m)))))) (And.intro (And.intro (And.intro (And.intro (And.intro @c1x (And.intro @b8R @c6E)) (And.intro (And.intro @c4Z @c4Q) (And.intro @c4f @c53))) (And.intro (And.intro (And.intro @c5m @c4C) (And.intro @c6a @c3t)) (And.intro (And.intro @c3c @d0u) (And.intro @c2o @c6h)))) (And.intro (And.intro (And.intro (And.intro @c2O @c6n) (And.intro @c5R @c1Y)) (And.intro (And.intro @b8B @b5y) (And.intro @b4s @c2i))) (And.intro (And.intro (And.intro @c0v @b3v) (And.intro @b11 @c1a)) (And.intro (And.intro @b9k @b5g) (And.intro @b4p @c0L))))) (And.intro (And.intro (And.intro (And.intro (And.intro @b5l @b8U) (And.intro @b60 @c0Q)) (And.intro (And.intro @b61 @c3w) (And.intro @b9U @c6u))) (And.intro (And.intro (And.intro @c04 @c1p) (And.intro @b87 @c4q)) (And.intro (And.intro @b9i @b8s) (And.intro @b51 @b91)))) (And.intro (And.intro (And.intro (And.intro @c3n @b8D) (And.intro @c2q @c7p)) (And.intro (And.intro @c81 @d0n) (And.intro @d0T @d0C))) (And.intro (And.intro (And.intro @c8S @c4t) (And.intro @b5R @c3N)) (And.intro (And.intro @c4W @c2f) (And.intro @c00 @c50)))))))
end Go.Cb.V
/-
 THE ABSTRACT MACHINE, part 60: the same run at a store whose objects lie elsewhere.
-/
set_option maxRecDepth 4000
set_option linter.unusedVariables false
set_option linter.unusedSimpArgs false
namespace Go.Cb
mutual
def AV.rn (ρ:Nat→Nat):AV→AV
 | .undef=>.undef
 | .bool b=>.bool b
 | .int k n=>.int k n
 | .str s=>.str s
 | .list o xs=>.list o (a0O ρ xs)
 | .ptr o f=>.ptr (ρ o) f
 | .nilp=>.nilp
 | .ro cs=>.ro (K5 ρ cs)
 | .loc i f=>.loc i f
 | .box cs=>.box (K5 ρ cs)
 | .map o=>.map (ρ o)
 | .nilm=>.nilm
 | .func f a c=>.func f (K5 ρ a) (K5 ρ c)
 | .nilf=>.nilf
 | .agg cs=>.agg (K5 ρ cs)
 | .tuple vs=>.tuple (K5 ρ vs)
 | .iface t v=>.iface t (v.rn ρ)
 | .nili=>.nili
 | .sl o f n s=>.sl (ρ o) f n s
 | .fresh xs=>.fresh (a0O ρ xs)
 | .nils=>.nils
def K5 (ρ:Nat→Nat):List AV→List AV
 | []=>[]
 | a::as=>a.rn ρ::K5 ρ as
def a0O (ρ:Nat→Nat):List (List AV)→List (List AV)
 | []=>[]
 | r::rs=>K5 ρ r::a0O ρ rs
end
def Obj.rn (ρ:Nat→Nat):Obj→Obj
 | .cells cs=>.cells (cs.map (AV.rn ρ))
 | .map es=>.map (es.map fun e=>(e.1.rn ρ,e.2.rn ρ))
 | .dead=>.dead
structure Rn where
 ρ:Nat→Nat
 ms:St→St
 G:St→Prop
 inj:∀ {a b:Nat},ρ a=ρ b ↔ a=b
 len:∀ {st:St},G st→ρ st.length=(ms st).length
 get:∀ {st:St},G st→∀ o:Nat,(ms st)[ρ o]?=(st[o]?).map (Obj.rn ρ)
 app:∀ {st:St} {x:Obj},G st→G (st++[x])
 apps:∀ {st:St},G st→∀ x:Obj,ms (st++[x])=ms st++[x.rn ρ]
 set:∀ {st:St} {o:Nat} {x:Obj},G st→G (st.set o x)
 sets:∀ {st:St},G st→∀ (o:Nat) (x:Obj),ms (st.set o x)=(ms st).set (ρ o) (x.rn ρ)

namespace RN
open Classical
section
variable {R:Rn}
theorem l9:∀ as:List AV,K5 R.ρ as=as.map (AV.rn R.ρ)
 | []=>rfl
 | a::as=>by rw [K5,l9 as]; rfl
theorem q5:∀ rs:List (List AV),a0O R.ρ rs=rs.map (·.map (AV.rn R.ρ))
 | []=>rfl
 | r::rs=>by rw [a0O,q5 rs,l9]; rfl
theorem b24 {a b:Nat}:Nat.beq a b=false ↔ a≠b:=by
 rw [← Bool.not_eq_true,Nat.beq_eq]
theorem a2f (a:AV):(a.weak1).rn R.ρ=(a.rn R.ρ).weak1:=by cases a <;> simp only [AV.weak1,AV.rn]
theorem U5 (cs:List AV):(cs.map AV.weak1).map (AV.rn R.ρ)=(cs.map (AV.rn R.ρ)).map AV.weak1:=by
 rw [List.map_map,List.map_map]
 exact List.map_congr_left fun a _=>a2f a
theorem R2 (a:AV):(a.weak).rn R.ρ=(a.rn R.ρ).weak:=by
 cases a <;> simp only [AV.weak,AV.rn,l9,U5]
theorem a4y (cs:List AV):(cs.map AV.weak).map (AV.rn R.ρ)=(cs.map (AV.rn R.ρ)).map AV.weak:=by
 rw [List.map_map,List.map_map]
 exact List.map_congr_left fun a _=>R2 a
theorem a00 (a:AV):(a.rn R.ρ).cells=a.cells.map (AV.rn R.ρ):=by cases a <;> simp only [AV.cells,AV.rn,l9,List.map_cons,List.map_nil]
theorem a6j (a:AV):(a.rn R.ρ).cellsW=a.cellsW.map (AV.rn R.ρ):=by
 cases a <;> simp only [AV.cellsW,AV.rn,l9,q5,List.map_cons,List.map_nil,List.isEmpty_map]
theorem b4b (a:AV):(a.rn R.ρ).cellW1=a.cellW1.rn R.ρ:=by
 cases a <;> simp only [AV.cellW1,AV.rn,l9,q5,List.isEmpty_map]
theorem b0Y (cs:List AV):(cs.map (AV.rn R.ρ)).map AV.cellW1=(cs.map AV.cellW1).map (AV.rn R.ρ):=by
 rw [List.map_map,List.map_map]
 exact List.map_congr_left fun a _=>b4b a
theorem K1 (a:AV):(a.rn R.ρ).plain=a.plain:=by cases a <;> rfl
theorem Y8:∀ as:List AV,p5 (as.map (AV.rn R.ρ))=p5 as
 | []=>rfl
 | a::as=>by rw [List.map_cons,p5,p5,K1,Y8 as]
theorem b53 (a:AV):(a.strip).rn R.ρ=(a.rn R.ρ).strip:=by cases a <;> rfl
theorem b4f (a:AV):(a.stripB).rn R.ρ=(a.rn R.ρ).stripB:=by cases a <;> rfl
theorem E3 (ag:Bool) (n:Nat) (cs:List AV):d9 ag n (cs.map (AV.rn R.ρ))=(d9 ag n cs).map (AV.rn R.ρ):=by
 unfold d9
 rw [List.length_map]
 split
 · split
   · rw [Option.map_some,← List.map_take,AV.rn,l9,U5]
   · rfl
 · cases cs with
   | nil=>rfl
   | cons c cs=>rw [List.map_cons]; dsimp only; rw [Option.map_some,a2f]
theorem R5 (n:Nat) (cs:List AV):(cs.map (AV.rn R.ρ)).drop n=(cs.drop n).map (AV.rn R.ρ):=(List.map_drop).symm
theorem a03 (cs new:List AV) (off:Nat):j9 (cs.map (AV.rn R.ρ)) off (new.map (AV.rn R.ρ))=(j9 cs off new).map (AV.rn R.ρ):=by
 unfold j9
 rw [List.map_append,List.map_append,List.length_map,List.map_take,List.map_drop]
theorem H0 (sz:Nat) (xs:List (List AV)):g8 sz (xs.map (·.map (AV.rn R.ρ)))=g8 sz xs:=by
 cases xs with
 | nil=>rfl
 | cons r rs=>simp only [List.map_cons,g8,List.length_map]
theorem a3P:∀ (offs:List (Nat×Nat)) (ps cs out:List AV),s9 offs ps cs=some out→s9 offs (ps.map (AV.rn R.ρ)) (cs.map (AV.rn R.ρ))=some (out.map (AV.rn R.ρ))
 | [],[],cs,out,h=>by simp only [s9] at h ⊢; cases h; rfl
 | (off,n)::offs,p::ps,cs,out,h=>by
  rw [s9] at h
  split at h
  · rename_i hc
    rw [List.map_cons,s9,K1,a00,List.length_map,List.length_map,if_pos hc,a03]
    exact a3P offs ps _ out h
  · cases h
 | [],_::_,_,_,h=>by simp [s9] at h
 | _::_,[],_,_,h=>by simp [s9] at h
theorem a3N (sz:Nat):∀ (is:List Nat) (ps:List AV) (rs out:List (List AV)),r7 sz is ps rs=some out→r7 sz is (ps.map (AV.rn R.ρ)) (rs.map (·.map (AV.rn R.ρ)))=some (out.map (·.map (AV.rn R.ρ)))
 | [],[],rs,out,h=>by simp only [r7] at h ⊢; cases h; rfl
 | i::is,p::ps,rs,out,h=>by
  rw [r7] at h
  split at h
  · rename_i hc
    rw [List.map_cons,r7,K1,a00,List.length_map,List.length_map,if_pos hc,← U5,← List.map_set]
    exact a3N sz is ps _ out h
  · cases h
 | [],_::_,_,_,h=>by simp [r7] at h
 | _::_,[],_,_,h=>by simp [r7] at h
theorem a0I (sz:Nat):∀ (is:List Nat) (ps:List AV) (rs out:List (List AV)),m8 sz is ps rs=some out→m8 sz is (ps.map (AV.rn R.ρ)) (rs.map (·.map (AV.rn R.ρ)))=some (out.map (·.map (AV.rn R.ρ)))
 | [],[],rs,out,h=>by simp only [m8] at h ⊢; cases h; rfl
 | i::is,p::ps,rs,out,h=>by
  rw [m8] at h
  split at h
  · rename_i hc
    rw [List.map_cons,m8,K1,a00,List.length_map,List.length_map,if_pos hc,b0Y,← List.map_set]
    exact a0I sz is ps _ out h
  · cases h
 | [],_::_,_,_,h=>by simp [m8] at h
 | _::_,[],_,_,h=>by simp [m8] at h
theorem b5J (x:AV) (n:Nat):G5 (x.rn R.ρ) n=G5 x n:=by cases x <;> rfl
theorem a1e (lo hi:Bool) (as:List AV) (n:Nat):q7 lo hi (as.map (AV.rn R.ρ)) n=q7 lo hi as n:=by
 cases lo <;> cases hi <;> rcases as with _|⟨a,_|⟨b,_|⟨c,as⟩⟩⟩ <;> simp only [List.map_cons,List.map_nil,q7,b5J]
theorem a7K (kc:Nat) (a b:AV):t6 kc (a.rn R.ρ) (b.rn R.ρ)=t6 kc a b:=by
 cases a <;> cases b <;> rfl
theorem a1X (kc:Nat) (k:AV):∀ (es:List (AV×AV)) (i:Nat),m2 kc (k.rn R.ρ) (es.map fun e=>(e.1.rn R.ρ,e.2.rn R.ρ)) i=(m2 kc k es i).map (Option.map fun r=>(r.1,r.2.rn R.ρ))
 | [],_=>rfl
 | (k',v)::es,i=>by
  rw [List.map_cons,m2,m2,a7K]
  cases t6 kc k k' with
  | none=>rfl
  | some b=>cases b with
   | true=>rfl
   | false=>exact a1X kc k es (i+1)
theorem a4D:∀ xs:List (List AV),z8 (xs.map (·.map (AV.rn R.ρ)))=z8 xs
 | []=>rfl
 | []::_=>rfl
 | [a]::rs=>by
  have ih:=a4D rs
  cases a <;> simp only [List.map_cons,List.map_nil,AV.rn,z8]
  rename_i k n
  cases k <;> simp only [z8]
  rw [ih]
 | (a::b::c)::r=>by
  have h:∀ (x y:AV) (u:List AV) (w:List (List AV)),z8 ((x::y::u)::w)=none:=fun x y u w=>by cases x <;> simp only [z8]
  rw [List.map_cons,List.map_cons,List.map_cons,h,h]
theorem a5M (sz:Nat):∀ (n:Nat) (cs:List AV),O0 sz n (cs.map (AV.rn R.ρ))=(O0 sz n cs).map (·.map (AV.rn R.ρ))
 | 0,_=>rfl
 | n+1,cs=>by rw [O0,O0,List.map_cons,R5,a5M sz n,List.map_take]
theorem a0w (xs:List (List AV)):(xs.map (·.map (AV.rn R.ρ))).flatten=xs.flatten.map (AV.rn R.ρ):=by rw [List.map_flatten]
theorem b8N (op:BinOp) (a b r:AV) (h:i7 op a b=some r):i7 op (a.rn R.ρ) (b.rn R.ρ)=some (r.rn R.ρ):=by
 have hr:r.rn R.ρ=r:=by
  unfold i7 at h
  split at h
  · cases op <;> dsimp only at h <;> (repeat' split at h) <;> first|(cases h; rfl)|cases h
  · cases op <;> dsimp only at h <;> (repeat' split at h) <;> first|(cases h; rfl)|cases h
  · cases h
 rw [hr,← h]
 unfold i7 at h
 split at h
 · rfl
 · rfl
 · cases h
theorem a1a (a:AV):I1 (a.rn R.ρ)=(I1 a).map R.ρ:=by cases a <;> rfl
end

section
variable {R:Rn}
def rnR (R:Rn) (r:AV×AV×St):AV×AV×St:=(r.1.rn R.ρ,r.2.1.rn R.ρ,R.ms r.2.2)
def S2 (R:Rn) (call:b6):Prop:=∀ f as st r st',R.G st→call f as st=some (r,st')→call f (as.map (AV.rn R.ρ)) (R.ms st)=some (r.rn R.ρ,R.ms st')∧R.G st'
def SemRn (R:Rn) (f:List AV→AV→St→Option (AV×AV×St)) (as:List AV) (bx:AV) (st:St):Prop :=
 ∀ r,f as bx st=some r→f (as.map (AV.rn R.ρ)) (bx.rn R.ρ) (R.ms st)=some (rnR R r)∧R.G r.2.2

mutual
def _root_.Go.Cb.AV.shu:AV→Bool
 | .list _ xs=>a0t xs
 | .ptr ..=>false
 | .ro cs=>L0 cs
 | .box cs=>L0 cs
 | .map _=>false
 | .func _ a c=>L0 a && L0 c
 | .agg cs=>L0 cs
 | .tuple vs=>L0 vs
 | .iface _ v=>v.shu
 | .sl ..=>false
 | .fresh xs=>a0t xs
 | _=>true
def L0:List AV→Bool
 | []=>true
 | a::as=>a.shu && L0 as
def a0t:List (List AV)→Bool
 | []=>true
 | r::rs=>L0 r && a0t rs
end
end
mutual
theorem a7t (f:Nat→Nat):∀ a:AV,a.shu=true→a.rn f=a
 | .undef,_=>rfl
 | .bool b,_=>rfl
 | .int k n,_=>rfl
 | .str s,_=>rfl
 | .list o xs,h=>by rw [AV.rn,X4 _ xs (by simpa [AV.shu] using h)]
 | .ptr o f,h=>by simp [AV.shu] at h
 | .nilp,_=>rfl
 | .ro cs,h=>by rw [AV.rn,G2 _ cs (by simpa [AV.shu] using h)]
 | .loc i f,_=>rfl
 | .box cs,h=>by rw [AV.rn,G2 _ cs (by simpa [AV.shu] using h)]
 | .map o,h=>by simp [AV.shu] at h
 | .nilm,_=>rfl
 | .func f a c,h=>by
  simp only [AV.shu,Bool.and_eq_true] at h
  rw [AV.rn,G2 _ a h.1,G2 _ c h.2]
 | .nilf,_=>rfl
 | .agg cs,h=>by rw [AV.rn,G2 _ cs (by simpa [AV.shu] using h)]
 | .tuple vs,h=>by rw [AV.rn,G2 _ vs (by simpa [AV.shu] using h)]
 | .iface t v,h=>by rw [AV.rn,a7t _ v (by simpa [AV.shu] using h)]
 | .nili,_=>rfl
 | .sl o f n s,h=>by simp [AV.shu] at h
 | .fresh xs,h=>by rw [AV.rn,X4 _ xs (by simpa [AV.shu] using h)]
 | .nils,_=>rfl
theorem G2 (f:Nat→Nat):∀ as:List AV,L0 as=true→K5 f as=as
 | [],_=>rfl
 | a::as,h=>by
  simp only [L0,Bool.and_eq_true] at h
  rw [K5,a7t _ a h.1,G2 _ as h.2]
theorem X4 (f:Nat→Nat):∀ rs:List (List AV),a0t rs=true→a0O f rs=rs
 | [],_=>rfl
 | r::rs,h=>by
  simp only [a0t,Bool.and_eq_true] at h
  rw [a0O,G2 _ r h.1,X4 _ rs h.2]
end
def _root_.Go.Cb.Kind.shu:Kind→Bool
 | .alloc z|.allocO z|.build z _|.mget _ z _ _|.mgetR _ z _ _=>L0 z
 | .bslice _ z _|.bsliceM _ z _|.bsliceO _ z _=>a0t z
 | _=>true
section
variable {R:Rn}
theorem a2j {st st':St} (h:R.G st) (h':R.G st'):∀ cs:List AV,J7 st st' cs=true→J7 (R.ms st) (R.ms st') (cs.map (AV.rn R.ρ))=true
 | [],_=>rfl
 | c::cs,hk=>by
  cases c
  case map q =>
   rw [List.map_cons]
   simp only [J7,Bool.and_eq_true,AV.rn] at hk ⊢
   refine ⟨?_,a2j h h' cs hk.2⟩
   have hk:=hk.1
   rw [R.get h,R.get h']
   cases h1:st[q]? with
   | none=>rw [h1] at hk; cases hk
   | some a =>
    cases h2:st'[q]? with
    | none=>rw [h1,h2] at hk; cases hk
    | some b =>
     rw [h1,h2] at hk
     simp only [Option.map_some] at hk ⊢
     rw [(J9 _ _).1 hk]
     exact (J9 _ _).2 rfl
  all_goals
   rw [List.map_cons]
   simp only [J7,AV.rn] at hk ⊢
   exact a2j h h' cs hk
theorem b6d {st st':St} (h:R.G st) (h':R.G st'):∀ a:Obj,a6x st st' a=true→a6x (R.ms st) (R.ms st') (a.rn R.ρ)=true
 | .cells cs,hk=>by
  simp only [a6x,Obj.rn] at hk ⊢
  first|exact a2j h h' cs hk|(rw [l9]; exact a2j h h' cs hk)
 | .map _,_=>rfl
 | .dead,_=>rfl
theorem a2C {o:Nat}:∀ cs:List AV,G3 o cs=true→G3 (R.ρ o) (cs.map (AV.rn R.ρ))=true
 | [],h=>by cases h
 | c::cs,h=>by
  cases c
  case map q =>
   rw [List.map_cons]
   simp only [G3,Bool.or_eq_true,AV.rn] at h ⊢
   rcases h with h|h
   · have e:=Nat.eq_of_beq_eq_true h
     subst e
     exact .inl (by simp)
   · exact .inr (a2C cs h)
  all_goals
   rw [List.map_cons]
   simp only [G3,AV.rn] at h ⊢
   exact a2C cs h
theorem b0m {st st':St} (h:R.G st) (h':R.G st'):∀ gs:List AV,kept st st' gs=true→kept (R.ms st) (R.ms st') (gs.map (AV.rn R.ρ))=true
 | [],_=>rfl
 | g::gs,hk=>by
  rw [List.map_cons]
  simp only [kept,Bool.and_eq_true] at hk ⊢
  refine ⟨?_,b0m h h' gs hk.2⟩
  have hk:=hk.1
  rw [a1a]
  cases hr:I1 g with
  | none=>rw [hr] at hk; cases hk
  | some p =>
   rw [hr] at hk
   simp only [Option.map_some,R.get h,R.get h'] at hk ⊢
   cases h1:st[p]? with
   | none=>rw [h1] at hk; cases hk
   | some a =>
    cases h2:st'[p]? with
    | none=>rw [h1,h2] at hk; cases hk
    | some b =>
     rw [h1,h2] at hk
     simp only [Option.map_some,Bool.and_eq_true] at hk ⊢
     have e:=(J9 _ _).1 hk.1
     subst e
     exact ⟨(J9 _ _).2 rfl,b6d h h' _ hk.2⟩
theorem T7 {st:St} (h:R.G st) (o:Option Nat):∀ gs:List AV,E9 o st.length gs=true→E9 (o.map R.ρ) (R.ms st).length (gs.map (AV.rn R.ρ))=true
 | [],_=>rfl
 | g::gs,hk=>by
  rw [List.map_cons]
  simp only [E9,Bool.and_eq_true] at hk ⊢
  refine ⟨?_,T7 h o gs hk.2⟩
  have hk:=hk.1
  rw [a1a]
  cases hr:I1 g with
  | none=>rw [hr] at hk; cases hk
  | some p =>
   rw [hr] at hk
   simp only [Option.map_some,Bool.and_eq_true] at hk ⊢
   obtain ⟨h1,h2⟩:=hk
   refine ⟨?_,?_⟩
   · rw [Nat.blt_eq] at h1 ⊢
     have hg:=R.get h p
     rw [List.getElem?_eq_getElem h1,Option.map_some] at hg
     exact (List.getElem?_eq_some_iff.1 hg).1
   · cases o with
     | none=>rfl
     | some q =>
      simp only [Option.map_some,Bool.not_eq_true',b24] at h2 ⊢
      exact fun e=>h2 (R.inj.1 e)
end
end RN
end Go.Cb
/-
 THE ABSTRACT MACHINE, part 61: the same run at a store whose objects lie elsewhere: operations.
-/
set_option maxRecDepth 4000
set_option linter.unusedVariables false
set_option linter.unusedSimpArgs false
namespace Go.Cb

namespace RN
open Classical
section
variable {R:Rn} {call:b6} {as:List AV} {bx:AV} {st:St}
theorem n6 {α β:Type} {x:Option α} {f:α→β} {r:β} (h:x.map f=some r):∃ a,x=some a∧f a=r:=Option.map_eq_some_iff.1 h
theorem SemRn.of (hL:R.G st) {f:List AV→AV→St→Option (AV×AV×St)} (h:∀ r b s,f as bx st=some (r,b,s)→s=st∧f (as.map (AV.rn R.ρ)) (bx.rn R.ρ) (R.ms st)=some (r.rn R.ρ,b.rn R.ρ,R.ms st)):SemRn R f as bx st:=by
 rintro ⟨r,b,s⟩ hr
 obtain ⟨rfl,h2⟩:=h r b s hr
 exact ⟨h2,hL⟩
theorem c4V (hL:R.G st):SemRn R (Y9 call) as bx st:=SemRn.of hL fun r b s h=>by
 unfold Y9 at h
 split at h
 · cases h; exact ⟨rfl,rfl⟩
 · cases h
theorem c0M (hL:R.G st):SemRn R (w8 call) as bx st:=SemRn.of hL fun r b s h=>by
 unfold w8 at h
 split at h
 · rename_i c x y
   have:AV.rn R.ρ (.bool c)=.bool c:=rfl
   simp only [w8,List.map_cons,List.map_nil,AV.rn,K1]
   split at h
   · rename_i hc
     rw [if_pos hc]
     split at h
     · rename_i hp; rw [if_pos hp]; cases h; exact ⟨rfl,rfl⟩
     · cases h
   · rename_i hc
     rw [if_neg hc]
     split at h
     · rename_i hp; rw [if_pos hp]; cases h; exact ⟨rfl,rfl⟩
     · cases h
 · cases h
theorem b4e (hL:R.G st):SemRn R (z7 call) as bx st:=SemRn.of hL fun r b s h=>by
 unfold z7 at h
 split at h <;> first|(cases h; exact ⟨rfl,rfl⟩)|cases h
theorem b5D {z:List AV} (hz:L0 z=true) (hL:R.G st):SemRn R (N5 z call) as bx st:=SemRn.of hL fun r b s h=>by
 unfold N5 at h
 split at h
 · cases h
   refine ⟨rfl,?_⟩
   show some (AV.undef,AV.box z,_)=some (AV.undef,AV.box (K5 R.ρ z),_)
   rw [G2 _ _ hz]
 · cases h
theorem b9u (hL:R.G st):SemRn R (P0 call) as bx st:=SemRn.of hL fun r b s h=>by
 unfold P0 at h
 split at h
 · rename_i a
   split at h
   · rename_i hp
     cases h
     refine ⟨rfl,?_⟩
     simp only [P0,List.map_cons,List.map_nil,AV.rn,K1,hp,if_true,a6j,l9]
   · cases h
 · cases h
theorem b6S {z:List AV} {offs:List (Nat×Nat)} (hz:L0 z=true) (hL:R.G st):SemRn R (I3 z offs call) as bx st:=SemRn.of hL fun r b s h=>by
 unfold I3 at h ⊢
 obtain ⟨cs,h1,h2⟩:=n6 h
 cases h2
 refine ⟨rfl,?_⟩
 have:=a3P (R:=R) offs as z cs h1
 rw [← l9 z,G2 _ _ hz] at this
 rw [this,Option.map_some,AV.rn,l9]
theorem b4L {n:Nat} {z:List (List AV)} {at_:List Nat} (hz:a0t z=true) (hL:R.G st):SemRn R (G7 n z at_ call) as bx st:=SemRn.of hL fun r b s h=>by
 unfold G7 at h ⊢
 obtain ⟨cs,h1,h2⟩:=n6 h
 cases h2
 refine ⟨rfl,?_⟩
 have:=a3N (R:=R) n at_ as z cs h1
 rw [← q5 z,X4 _ _ hz] at this
 rw [this,Option.map_some,AV.rn,q5]
theorem b0N {n:Nat} {z:List (List AV)} {at_:List Nat} (hz:a0t z=true) (hL:R.G st):SemRn R (E5 n z at_ call) as bx st:=SemRn.of hL fun r b s h=>by
 unfold E5 at h ⊢
 obtain ⟨cs,h1,h2⟩:=n6 h
 cases h2
 refine ⟨rfl,?_⟩
 have:=a0I (R:=R) n at_ as z cs h1
 rw [← q5 z,X4 _ _ hz] at this
 rw [this,Option.map_some,AV.rn,q5]
theorem b19 {n:Nat} {z:List (List AV)} {at_:List Nat} (hz:a0t z=true) (hL:R.G st):SemRn R (E7 n z at_ call) as bx st:=by
 rintro r h
 unfold E7 at h ⊢
 obtain ⟨cs,h1,rfl⟩:=n6 h
 have:=a0I (R:=R) n at_ as z cs h1
 rw [← q5 z,X4 _ _ hz] at this
 refine ⟨?_,(by first|exact R.app hL|exact R.app (R.set hL)|exact R.set hL)⟩
 rw [this,Option.map_some,rnR,R.apps hL,AV.rn,R.len hL]
 simp only [Obj.rn,a0w]
theorem b8F (hL:R.G st):SemRn R (O8 call) as bx st:=SemRn.of hL fun r b s h=>by
 unfold O8 at h
 split at h
 · rename_i k a k' c
   split at h
   · rename_i hk; cases h; subst hk; exact ⟨rfl,by simp only [O8,List.map_cons,List.map_nil,AV.rn,if_true]⟩
   · cases h
 · cases h
theorem c0G {neg:Bool} (hL:R.G st):SemRn R (P1 neg call) as bx st:=SemRn.of hL fun r b s h=>by
 unfold P1 at h
 split at h
 · split at h
   · rename_i hk; cases h; subst hk; exact ⟨rfl,by simp only [P1,List.map_cons,List.map_nil,AV.rn,K5,if_true]⟩
   · cases h
 · cases h
theorem c0o {i n:Nat} {ag:Bool} (hL:R.G st):SemRn R (F8 i ag n call) as bx st:=SemRn.of hL fun r b s h=>by
 unfold F8 at h
 split at h
 · rename_i j off cs
   split at h
   · rename_i hj
     obtain ⟨a,h1,h2⟩:=n6 h
     cases h2
     refine ⟨rfl,?_⟩
     simp only [F8,List.map_cons,List.map_nil,AV.rn,hj,if_true,l9,R5,E3,h1,Option.map_some]
   · cases h
 · cases h
theorem L5 {o:Nat} {cs:List AV} (hL:R.G st) (h:st[o]?=some (.cells cs)):(R.ms st)[R.ρ o]?=some (.cells (cs.map (AV.rn R.ρ))):=by rw [R.get hL,h]; rfl
theorem b18 {o:Nat} {es:List (AV×AV)} (hL:R.G st) (h:st[o]?=some (.map es)):(R.ms st)[R.ρ o]?=some (.map (es.map fun e=>(e.1.rn R.ρ,e.2.rn R.ρ))):=by rw [R.get hL,h]; rfl
theorem b0F {n:Nat} {ag:Bool} (hL:R.G st):SemRn R (w9 ag n call) as bx st:=SemRn.of hL fun r b s h=>by
 unfold w9 at h
 split at h
 · rename_i o off
   split at h
   · rename_i cs hc
     obtain ⟨a,h1,h2⟩:=n6 h
     cases h2
     refine ⟨rfl,?_⟩
     simp only [w9,List.map_cons,List.map_nil,AV.rn,L5 hL hc,R5,E3,h1,Option.map_some]
   · cases h
 · cases h
theorem b8O {n:Nat} {ag:Bool} (hL:R.G st):SemRn R (I8 ag n call) as bx st:=SemRn.of hL fun r b s h=>by
 unfold I8 at h
 split at h
 · obtain ⟨a,h1,h2⟩:=n6 h
   cases h2
   refine ⟨rfl,?_⟩
   simp only [I8,List.map_cons,List.map_nil,AV.rn,l9,E3,h1,Option.map_some]
 · cases h
theorem b9B {n:Nat} {ag:Bool} (hL:R.G st):SemRn R (C0 ag n call) as bx st:=SemRn.of hL fun r b s h=>by
 unfold C0 at h
 split at h
 · obtain ⟨a,h1,h2⟩:=n6 h
   cases h2
   refine ⟨rfl,?_⟩
   simp only [C0,List.map_cons,List.map_nil,AV.rn,l9,E3,h1,Option.map_some]
 · rename_i o off
   split at h
   · rename_i cs hc
     obtain ⟨a,h1,h2⟩:=n6 h
     cases h2
     refine ⟨rfl,?_⟩
     simp only [C0,List.map_cons,List.map_nil,AV.rn,L5 hL hc,R5,E3,h1,Option.map_some]
   · cases h
 · cases h
theorem b52 {i:Nat} (hL:R.G st):SemRn R (H7 i call) as bx st:=SemRn.of hL fun r b s h=>by
 unfold H7 at h
 split at h
 · rename_i j off cs
   split at h
   · rename_i hj
     split at h
     · rename_i c hc
       cases h
       refine ⟨rfl,?_⟩
       simp only [H7,List.map_cons,List.map_nil,AV.rn,hj,if_true,l9,List.getElem?_map,hc,Option.map_some,List.map_set,a2f]
     · cases h
   · cases h
 · cases h
theorem a8s (hL:R.G st):SemRn R (y8 call) as bx st:=by
 rintro ⟨r,b,s⟩ h
 unfold y8 at h
 split at h
 · rename_i o off
   split at h
   · rename_i cs hc
     split at h
     · rename_i c hcc
       cases h
       refine ⟨?_,(by first|exact hL|exact R.set hL)⟩
       simp only [y8,List.map_cons,List.map_nil,AV.rn,L5 hL hc,List.getElem?_map,hcc,Option.map_some,rnR,R.sets hL,Obj.rn,List.map_set,a2f]
     · cases h
   · cases h
 · cases h
theorem c0b {i n:Nat} (hL:R.G st):SemRn R (I9 i n call) as bx st:=SemRn.of hL fun r b s h=>by
 unfold I9 at h
 split at h
 · rename_i j off x cs
   split at h
   · rename_i hc
     cases h
     refine ⟨rfl,?_⟩
     simp only [I9,List.map_cons,List.map_nil,AV.rn,K1,a00,List.length_map,l9]
     rw [if_pos hc,a03]
   · cases h
 · cases h
theorem b0o {n:Nat} (hL:R.G st):SemRn R (B9 n call) as bx st:=by
 rintro ⟨r,b,s⟩ h
 unfold B9 at h
 split at h
 · rename_i o off x
   split at h
   · rename_i cs hc
     split at h
     · rename_i hp
       rw [fL_eq] at h
       cases h
       refine ⟨?_,(by first|exact hL|exact R.set hL)⟩
       simp only [B9,List.map_cons,List.map_nil,AV.rn,L5 hL hc,K1,a00,List.length_map,fL_eq]
       rw [if_pos hp,a03,rnR,R.sets hL]
       rfl
     · cases h
   · cases h
 · cases h
theorem c2X {n:Nat} (hL:R.G st):SemRn R (J8 n call) as bx st:=SemRn.of hL fun r b s h=>by
 unfold J8 at h
 split at h
 · cases h; exact ⟨rfl,rfl⟩
 · cases h; exact ⟨rfl,rfl⟩
 · cases h; exact ⟨rfl,by simp only [J8,List.map_cons,List.map_nil,AV.rn,l9,R5]⟩
 · cases h
theorem c3C {o n:Nat} {ag:Bool} (hL:R.G st):SemRn R (O4 o n ag call) as bx st:=SemRn.of hL fun r b s h=>by
 unfold O4 at h
 split at h
 · split at h
   · rename_i hc
     obtain ⟨a,h1,h2⟩:=n6 h
     cases h2
     refine ⟨rfl,?_⟩
     simp only [O4,List.map_cons,List.map_nil,AV.rn,l9,List.length_map,hc,if_true,R5,E3,h1,Option.map_some]
   · cases h
 · cases h
theorem c2l {n:Nat} (hL:R.G st):SemRn R (H8 n call) as bx st:=SemRn.of hL fun r b s h=>by
 unfold H8 at h
 split at h
 · rename_i xs k i
   split at h
   · rename_i h0
     split at h
     · rename_i r' hr
       split at h
       · rename_i hl
         cases h
         refine ⟨rfl,?_⟩
         simp only [H8,List.map_cons,List.map_nil,AV.rn,q5,h0,if_true,List.getElem?_map,hr,Option.map_some,List.length_map,hl,l9]
       · cases h
     · cases h
   · cases h
 · rename_i h0
   split at h
   · rename_i hc
     cases h
     refine ⟨rfl,?_⟩
     simp only [H8,List.map_cons,List.map_nil,AV.rn]
     rw [if_pos hc]
   · cases h
 · cases h
theorem c0H {l n:Nat} (hL:R.G st):SemRn R (D3 l n call) as bx st:=SemRn.of hL fun r b s h=>by
 unfold D3 at h
 split at h
 · split at h
   · rename_i hc; cases h; refine ⟨rfl,?_⟩; simp only [D3,List.map_cons,List.map_nil,AV.rn,l9]; rw [if_pos hc,R5]
   · cases h
 · split at h
   · rename_i hc; cases h; refine ⟨rfl,?_⟩; simp only [D3,List.map_cons,List.map_nil,AV.rn]; rw [if_pos hc]
   · cases h
 · split at h
   · rename_i hc; cases h; refine ⟨rfl,?_⟩; simp only [D3,List.map_cons,List.map_nil,AV.rn]; rw [if_pos hc]
   · cases h
 · cases h
theorem b8f (hL:R.G st):SemRn R (H2 call) as bx st:=SemRn.of hL fun r b s h=>by
 unfold H2 at h
 split at h
 · split at h
   · rename_i h0
     split at h
     · rename_i hb; cases h; refine ⟨rfl,?_⟩; simp only [H2,List.map_cons,List.map_nil,AV.rn,h0,if_true,hb]
     · cases h
   · cases h
 · cases h
theorem c3p {lo hi:Bool} (hL:R.G st):SemRn R (L7 lo hi call) as bx st:=SemRn.of hL fun r b s h=>by
 unfold L7 at h
 split at h
 · obtain ⟨p,h1,h2⟩:=n6 h
   cases h2
   refine ⟨rfl,?_⟩
   simp only [L7,List.map_cons,AV.rn,a1e,h1,Option.map_some]
 · cases h
theorem c2M {n:Nat} {lo hi:Bool} (hL:R.G st):SemRn R (J3 n lo hi call) as bx st:=SemRn.of hL fun r b s h=>by
 unfold J3 at h
 split at h
 · split at h
   · rename_i hr
     obtain ⟨p,h1,h2⟩:=n6 h
     cases h2
     refine ⟨rfl,?_⟩
     simp only [J3,List.map_cons,AV.rn,q5,H0,hr,if_true,List.length_map,a1e,h1,Option.map_some,List.map_take,List.map_drop]
   · cases h
 · split at h
   · rename_i hr
     obtain ⟨p,h1,h2⟩:=n6 h
     cases h2
     refine ⟨rfl,?_⟩
     simp only [J3,List.map_cons,AV.rn,hr,if_true]
     unfold slB at h1 ⊢
     rw [a1e,h1]
     rfl
   · cases h
 · cases h
theorem b96 (hL:R.G st):SemRn R (L6 call) as bx st:=SemRn.of hL fun r b s h=>by
 unfold L6 at h
 split at h
 · split at h
   · rename_i hk; cases h; subst hk; exact ⟨rfl,by simp only [L6,List.map_cons,List.map_nil,AV.rn,if_true]⟩
   · cases h
 · cases h
theorem b92 {len n:Nat} {ag:Bool} (hL:R.G st):SemRn R (L2 len n ag call) as bx st:=SemRn.of hL fun r b s h=>by
 unfold L2 at h
 split at h
 · split at h
   · rename_i hc
     obtain ⟨v,h1,h2⟩:=n6 h
     cases h2
     refine ⟨rfl,?_⟩
     simp only [L2,List.map_cons,List.map_nil,AV.rn,l9,List.length_map,hc,and_self,if_true,R5,E3,h1,Option.map_some]
   · cases h
 · cases h
theorem c3b {n:Nat} (hL:R.G st):SemRn R (R9 n call) as bx st:=SemRn.of hL fun r b s h=>by
 unfold R9 at h
 split at h
 · split at h
   · rename_i hr
     cases h
     refine ⟨rfl,?_⟩
     simp only [R9,List.map_cons,List.map_nil,AV.rn,q5,H0,hr,List.length_map,List.map_drop,if_true,and_self,true_and]
   · cases h
 · cases h
theorem c3G (hL:R.G st):SemRn R (Q5 call) as bx st:=SemRn.of hL fun r b s h=>by
 unfold Q5 at h
 split at h
 · cases h; exact ⟨rfl,rfl⟩
 · cases h
theorem c08 {l n:Nat} {lo hi:Bool} (hL:R.G st):SemRn R (O2 l n lo hi call) as bx st:=SemRn.of hL fun r b s h=>by
 unfold O2 at h
 split at h
 · split at h
   · rename_i hr
     obtain ⟨p,h1,h2⟩:=n6 h
     cases h2
     refine ⟨rfl,?_⟩
     simp only [O2,List.map_cons,AV.rn,l9,List.length_map,hr,if_true,a1e,h1,Option.map_some,a5M,q5,List.map_take,List.map_drop]
   · cases h
 · cases h
theorem c4l {op:BinOp} (hL:R.G st):SemRn R (v6 op call) as bx st:=SemRn.of hL fun r b s h=>by
 unfold v6 at h
 split at h
 · obtain ⟨p,h1,h2⟩:=n6 h
   cases h2
   refine ⟨rfl,?_⟩
   simp only [v6,List.map_cons,List.map_nil,b8N op _ _ _ h1,Option.map_some]
 · cases h
theorem b9s {op:BinOp} (hL:R.G st):SemRn R (L3 op call) as bx st:=SemRn.of hL fun r b s h=>by
 unfold L3 at h
 split at h
 · rename_i x y
   obtain ⟨p,h1,h2⟩:=n6 h
   cases h2
   refine ⟨rfl,?_⟩
   unfold a3l at h1
   split at h1
   · split at h1 <;> first|(cases h1; rfl)|cases h1
   · cases h1
 · cases h
theorem b9g {op:BinOp} (hL:R.G st):SemRn R (H6 op call) as bx st:=SemRn.of hL fun r b s h=>by
 unfold H6 at h
 split at h
 · rename_i x y
   obtain ⟨p,h1,h2⟩:=n6 h
   cases h2
   refine ⟨rfl,?_⟩
   unfold W3 at h1
   split at h1
   all_goals first|cases h1|skip
   all_goals (split at h1 <;> first|(cases h1; rfl)|cases h1)
 · cases h
theorem c52 {op:UnOp} (hL:R.G st):SemRn R (S5 op call) as bx st:=SemRn.of hL fun r b s h=>by
 unfold S5 at h
 split at h <;> first|(cases h; exact ⟨rfl,rfl⟩)|cases h
theorem c0j {k:IntKind} (hL:R.G st):SemRn R (L4 k call) as bx st:=SemRn.of hL fun r b s h=>by
 unfold L4 at h
 split at h <;> first|(cases h; exact ⟨rfl,rfl⟩)|cases h
theorem c2d {f n:Nat} (hL:R.G st):SemRn R (Q3 f n call) as bx st:=SemRn.of hL fun r b s h=>by
 unfold Q3 at h ⊢
 split at h
 · rename_i hp
   cases h
   refine ⟨rfl,?_⟩
   rw [Y8,if_pos hp,AV.rn,l9,l9,← a4y,List.map_take,List.map_drop]
 · cases h
theorem c34 (hL:R.G st):SemRn R (Q1 call) as bx st:=by
 rintro ⟨r,b,s⟩ h
 unfold Q1 at h
 split at h
 · cases h
   refine ⟨?_,(by first|exact R.app hL|exact R.app (R.set hL)|exact R.set hL)⟩
   simp only [Q1,List.map_nil,rnR,R.apps hL,AV.rn,R.len hL]
   rfl
 · cases h
theorem b35 {z:List AV} (hz:L0 z=true) (hL:R.G st):SemRn R (D5 z call) as bx st:=by
 rintro ⟨r,b,s⟩ h
 unfold D5 at h
 split at h
 · cases h
   refine ⟨?_,(by first|exact R.app hL|exact R.app (R.set hL)|exact R.set hL)⟩
   simp only [D5,List.map_nil,rnR,R.apps hL,AV.rn,R.len hL,Obj.rn,← l9,G2 _ _ hz]
 · cases h
theorem c0E (hL:R.G st):SemRn R (I5 call) as bx st:=by
 rintro ⟨r,b,s⟩ h
 unfold I5 at h
 split at h
 · split at h
   · rename_i hp
     cases h
     refine ⟨?_,(by first|exact R.app hL|exact R.app (R.set hL)|exact R.set hL)⟩
     simp only [I5,List.map_cons,List.map_nil,K1,hp,if_true,rnR,R.apps hL,AV.rn,R.len hL,Obj.rn,a6j]
   · cases h
 · cases h
end
end RN
end Go.Cb
/-
 THE ABSTRACT MACHINE, part 62: the same run at a store whose objects lie elsewhere: code, calls.
-/
set_option maxRecDepth 4000
set_option linter.unusedVariables false
set_option linter.unusedSimpArgs false
namespace Go.Cb

namespace RN
open Classical
section
variable {R:Rn} {call:b6} {as:List AV} {bx:AV} {st:St}
theorem b0A {kc:Nat} {z:List AV} {ag ok:Bool} (hz:L0 z=true) (hL:R.G st):SemRn R (B7 kc z ag ok call) as bx st:=SemRn.of hL fun r b s h=>by
 have hz':z.map (AV.rn R.ρ)=z:=by rw [← l9,G2 _ _ hz]
 have key:∀ (k:AV) (es:List (AV×AV)),(match m2 kc k es 0 with
  | some r=>match (match r with|some (_,v)=>some v|none=>d9 ag z.length z) with
   | some v=>some (if ok then AV.tuple [v,.bool r.isSome] else v,bx,st)
   | none=>none
  | none=>none)=some (r,b,s)→s=st∧(match m2 kc (k.rn R.ρ) (es.map fun e=>(e.1.rn R.ρ,e.2.rn R.ρ)) 0 with
  | some r=>match (match r with|some (_,v)=>some v|none=>d9 ag z.length z) with
   | some v=>some (if ok then AV.tuple [v,.bool r.isSome] else v,bx.rn R.ρ,R.ms st)
   | none=>none
  | none=>none)=some (r.rn R.ρ,b.rn R.ρ,R.ms st):=by
  intro k es h
  rw [a1X]
  cases hm:m2 kc k es 0 with
  | none=>rw [hm] at h; cases h
  | some o =>
   rw [hm] at h
   cases o with
   | some p =>
    obtain ⟨i,v⟩:=p
    dsimp only [Option.map_some] at h ⊢
    cases h
    refine ⟨rfl,?_⟩
    cases ok <;> rfl
   | none =>
    dsimp only [Option.map_some,Option.map_none] at h ⊢
    have ht:=E3 (R:=R) ag z.length z
    rw [hz'] at ht
    cases hv:d9 ag z.length z with
    | none=>rw [hv] at h; cases h
    | some v =>
     rw [hv] at h ht
     have e:v.rn R.ρ=v:=by simpa using ht.symm
     dsimp only at h ⊢
     cases h
     refine ⟨rfl,?_⟩
     cases ok
     · simp only [Bool.false_eq_true,if_false,e]
     · simp only [if_true,AV.rn,K5,e]
 unfold B7 at h ⊢
 dsimp only at h ⊢
 split at h
 · rename_i k
   exact key k [] h
 · rename_i o k
   split at h
   · rename_i es ho
     simp only [List.map_cons,List.map_nil,AV.rn,b18 hL ho]
     exact key k es h
   · cases h
 · cases h
theorem a6l {α β:Type} (f:α→β):∀ (l:List α) (i:Nat),(l.eraseIdx i).map f=(l.map f).eraseIdx i
 | [],_=>rfl
 | _::_,0=>rfl
 | x::l,i+1=>congrArg (f x::·) (a6l f l i)
theorem b8j (hL:R.G st):SemRn R (J0 call) as bx st:=by
 rintro ⟨r,b,s⟩ h
 unfold J0 at h
 split at h
 · rename_i o f n sz
   split at h
   · rename_i cs hc
     split at h
     · rename_i hp
       rw [fL_eq] at h
       cases h
       refine ⟨?_,(by first|exact hL|exact R.set hL)⟩
       simp only [J0,List.map_cons,List.map_nil,AV.rn,L5 hL hc,List.length_map,fL_eq]
       have e:j9 (cs.map (AV.rn R.ρ)) f (List.replicate n (AV.str []))=(j9 cs f (List.replicate n (AV.str []))).map (AV.rn R.ρ):=by
        conv=>lhs; rw [show List.replicate n (AV.str [])=(List.replicate n (AV.str [])).map (AV.rn R.ρ) from by rw [List.map_replicate]; rfl]
        rw [a03]
       rw [if_pos hp,e,rnR,R.sets hL]
       rfl
     · cases h
   · cases h
 · cases h
   refine ⟨?_,hL⟩
   rfl
 · cases h
theorem b82 {kc:Nat} (hL:R.G st):SemRn R (R1 kc call) as bx st:=by
 rintro ⟨r,b,s⟩ h
 unfold R1 at h
 split at h
 · rename_i o k
   split at h
   · rename_i es ho
     simp only [R1,List.map_cons,List.map_nil,AV.rn,b18 hL ho,a1X]
     cases hm:m2 kc k es 0 with
     | none=>rw [hm] at h; cases h
     | some q =>
      rw [hm] at h
      cases q with
      | some p =>
       obtain ⟨i,w⟩:=p
       dsimp only [Option.map_some] at h ⊢
       cases h
       refine ⟨?_,(by first|exact hL|exact R.set hL)⟩
       simp only [rnR,R.sets hL,Obj.rn,a6l]
       rfl
      | none =>
       dsimp only [Option.map_some,Option.map_none] at h ⊢
       cases h
       refine ⟨?_,(by first|exact hL|exact R.set hL)⟩
       simp only [rnR,R.sets hL,Obj.rn]
       rfl
   · cases h
 · cases h
theorem b8M {kc:Nat} (hL:R.G st):SemRn R (H5 kc call) as bx st:=by
 rintro ⟨r,b,s⟩ h
 unfold H5 at h
 split at h
 · rename_i o k v
   split at h
   · rename_i hp
     split at h
     · rename_i es ho
       simp only [H5,List.map_cons,List.map_nil,AV.rn,K1,hp,if_true,b18 hL ho,a1X]
       cases hm:m2 kc k es 0 with
       | none=>rw [hm] at h; cases h
       | some q =>
        rw [hm] at h
        cases q with
        | some p =>
         obtain ⟨i,w⟩:=p
         dsimp only [Option.map_some] at h ⊢
         cases h
         refine ⟨?_,(by first|exact hL|exact R.set hL)⟩
         simp only [rnR,R.sets hL,Obj.rn,List.map_set,R2]
         rfl
        | none =>
         dsimp only [Option.map_some,Option.map_none] at h ⊢
         rw [a7K]
         cases hk:t6 kc k k with
         | none=>rw [hk] at h; cases h
         | some e =>
          rw [hk] at h
          simp only [Option.bind_some] at h ⊢
          cases h
          refine ⟨?_,(by first|exact hL|exact R.set hL)⟩
          simp only [rnR,R.sets hL,Obj.rn,List.map_append,List.map_cons,List.map_nil,R2]
          rfl
     · cases h
   · cases h
 · cases h
theorem c01 {i:Nat} (hL:R.G st):SemRn R (M3 i call) as bx st:=SemRn.of hL fun r b s h=>by
 unfold M3 at h
 split at h
 · split at h
   · rename_i v hv
     cases h
     refine ⟨rfl,?_⟩
     simp only [M3,List.map_cons,List.map_nil,AV.rn,l9,List.getElem?_map,hv,Option.map_some,R2]
   · cases h
 · cases h
theorem b0v {f:Nat} (hc:S2 R call) (hL:R.G st):SemRn R (q9 f call) as bx st:=by
 rintro ⟨r,b,s⟩ h
 unfold q9 at h ⊢
 split at h
 · rename_i hp
   obtain ⟨⟨v,s'⟩,h1,h2⟩:=n6 h
   cases h2
   obtain ⟨h3,h4⟩:=hc _ _ _ _ _ hL h1
   refine ⟨?_,h4⟩
   rw [Y8,if_pos hp,← a4y,h3]
   rfl
 · cases h
theorem b7K (hc:S2 R call) (hL:R.G st):SemRn R (C8 call) as bx st:=by
 rintro ⟨r,b,s⟩ h
 unfold C8 at h
 split at h
 · rename_i f first caps as'
   split at h
   · rename_i hp
     obtain ⟨⟨v,s'⟩,h1,h2⟩:=n6 h
     cases h2
     obtain ⟨h3,h4⟩:=hc _ _ _ _ _ hL h1
     refine ⟨?_,h4⟩
     simp only [C8,List.map_cons,AV.rn,l9]
     rw [Y8,if_pos hp,← List.map_append,← List.map_append,← a4y,h3]
     rfl
   · cases h
 · cases h
theorem b5G {f m:Nat} (hc:S2 R call) (hL:R.G st):SemRn R (z6 f m call) as bx st:=by
 rintro ⟨r,b,s⟩ h
 unfold z6 at h ⊢
 cases hq:q9 f call (as.take m) bx st with
 | none=>rw [hq] at h; cases h
 | some x =>
  obtain ⟨v,b',s'⟩:=x
  rw [hq] at h
  dsimp only at h
  obtain ⟨h3,h4⟩:=b0v hc hL _ hq
  split at h
  · rename_i hk
    cases h
    refine ⟨?_,h4⟩
    rw [← List.map_take,h3,← List.map_drop]
    have hk':=b0m (R:=R) hL h4 _ hk
    simp only [rnR]
    exact if_pos hk'
  · cases h
theorem c0l (hL:R.G st):SemRn R (N0 call) as bx st:=SemRn.of hL fun r b s h=>by
 unfold N0 at h
 split at h <;> first|(cases h; exact ⟨rfl,rfl⟩)|cases h
theorem c0g (hL:R.G st):SemRn R (C9 call) as bx st:=SemRn.of hL fun r b s h=>by
 unfold C9 at h
 split at h
 · cases h; exact ⟨rfl,by simp only [C9,List.map_cons,List.map_nil,AV.rn,q5,List.length_map]⟩
 · cases h; exact ⟨rfl,rfl⟩
 · cases h; exact ⟨rfl,rfl⟩
 · cases h
theorem c3B {n b':Nat} (hL:R.G st):SemRn R (O5 n b' call) as bx st:=SemRn.of hL fun r b s h=>by
 unfold O5 at h
 split at h
 · split at h
   · rename_i hc
     cases h
     refine ⟨rfl,?_⟩
     simp only [O5,List.map_cons,List.map_nil,AV.rn,q5,H0,List.length_map]
     rw [if_pos hc,List.map_append]
   · cases h
 · cases h
theorem b9a {n b':Nat} (hL:R.G st):SemRn R (q8 n b' call) as bx st:=by
 rintro ⟨r,b,s⟩ h
 unfold q8 at h
 split at h
 · split at h
   · rename_i hc
     cases h
     refine ⟨?_,(by first|exact R.app hL|exact R.app (R.set hL)|exact R.set hL)⟩
     have ha:=T7 (R:=R) hL none _ hc.2.2.2
     simp only [Option.map_none] at ha
     simp only [q8,List.map_cons,AV.rn,q5,List.isEmpty_map,H0,List.length_map,List.map_nil]
     rw [if_pos ⟨hc.1,hc.2.1,hc.2.2.1,ha⟩]
     simp only [rnR,AV.rn,R.apps hL,R.len hL,Obj.rn,a0w]
   · cases h
 · split at h
   · rename_i hc
     cases h
     refine ⟨?_,(by first|exact R.app hL|exact R.app (R.set hL)|exact R.set hL)⟩
     have ha:=T7 (R:=R) hL none _ hc.2.2.2
     simp only [Option.map_none] at ha
     simp only [q8,List.map_cons,AV.rn,q5,List.isEmpty_map,H0,List.length_map]
     rw [if_pos ⟨hc.1,hc.2.1,hc.2.2.1,ha⟩]
     simp only [rnR,AV.rn,R.apps hL,R.len hL,Obj.rn,a0w]
   · cases h
 · split at h
   · rename_i hc
     cases h
     refine ⟨?_,hL⟩
     have ha:=T7 (R:=R) hL none _ hc
     simp only [Option.map_none] at ha
     simp only [q8,List.map_cons,AV.rn]
     rw [if_pos ha]
     simp only [rnR,AV.rn]
   · cases h
 · rename_i o k sz ys gs
   split at h
   · rename_i xs ho
     split at h
     · rename_i hc
       cases h
       refine ⟨?_,(by first|exact R.app hL|exact R.app (R.set hL)|exact R.set hL)⟩
       have ha:=T7 (R:=R) hL (some o) _ hc.2.2.2.2.2
       simp only [Option.map_some] at ha
       simp only [q8,List.map_cons,AV.rn,q5,List.isEmpty_map,H0,List.length_map,L5 hL ho]
       rw [if_pos ⟨hc.1,hc.2.1,hc.2.2.1,hc.2.2.2.1,hc.2.2.2.2.1,ha⟩]
       simp only [rnR,AV.rn,R.apps (st:=st.set o .dead) ((by first|exact hL|exact R.set hL)),R.sets hL,R.len hL,Obj.rn,a0w,List.map_append]
     · cases h
   · cases h
 · split at h
   · rename_i hc
     cases h
     refine ⟨?_,hL⟩
     have ha:=T7 (R:=R) hL none _ hc
     simp only [Option.map_none] at ha
     simp only [q8,List.map_cons,AV.rn]
     rw [if_pos ha]
     simp only [rnR,AV.rn]
   · cases h
 · cases h
theorem b6W {ρ:Nat→Nat} (s:List Nat):(s.map U1).map (fun r=>r.map (AV.rn ρ))=s.map U1:=by
 rw [List.map_map]
 exact List.map_congr_left fun _ _=>rfl
theorem c0D {b':Nat} (hL:R.G st):SemRn R (O9 b' call) as bx st:=SemRn.of hL fun r b s h=>by
 unfold O9 at h
 split at h
 · split at h
   · rename_i hc
     cases h
     refine ⟨rfl,?_⟩
     simp only [O9,List.map_cons,List.map_nil,AV.rn,q5,H0,List.length_map]
     rw [if_pos hc,List.map_append,b6W]
   · cases h
 · cases h
theorem b9V {b':Nat} (hL:R.G st):SemRn R (Q9 b' call) as bx st:=SemRn.of hL fun r b s h=>by
 unfold Q9 at h
 split at h
 · rename_i xs
   split at h
   · rename_i hc
     cases h
     refine ⟨rfl,?_⟩
     simp only [Q9,List.map_cons,List.map_nil,AV.rn,q5,H0,List.length_map]
     rw [if_pos hc]
   · cases h
 · rename_i xs o n
   split at h
   · rename_i cs ho
     split at h
     · rename_i hc
       cases h
       refine ⟨rfl,?_⟩
       simp only [Q9,List.map_cons,List.map_nil,AV.rn,q5,H0,List.length_map,L5 hL ho]
       rw [if_pos hc]
       simp only [rnR,AV.rn,q5,List.map_append,List.map_map]
       rfl
     · cases h
   · cases h
 · cases h
theorem c3U (hL:R.G st):SemRn R (O3 call) as bx st:=SemRn.of hL fun r b s h=>by
 unfold O3 at h
 split at h
 · obtain ⟨a,h1,h2⟩:=n6 h
   cases h2
   refine ⟨rfl,?_⟩
   simp only [O3,List.map_cons,List.map_nil,AV.rn,q5,a4D,h1,Option.map_some]
 · cases h
theorem b6c {kc:Nat} {z:List AV} {ag ok:Bool} (hz:L0 z=true) (hL:R.G st):SemRn R (C7 kc z ag ok call) as bx st:=by
 rintro x h
 unfold C7 at h
 split at h
 · rename_i o k p f
   split at h
   · rename_i cs hp
     split at h
     · rename_i hm
       obtain ⟨h1,h2⟩:=b0A (call:=call) hz hL _ h
       refine ⟨?_,h2⟩
       simp only [C7,List.map_cons,List.map_nil,AV.rn,L5 hL hp,a2C cs hm,if_true]
       exact h1
     · cases h
   · cases h
 · cases h
theorem b7o {n:Nat} {ag:Bool} (hL:R.G st):SemRn R (C3 ag n call) as bx st:=by
 rintro x h
 unfold C3 at h
 split at h
 · rename_i o off r
   split at h
   · rename_i p hp
     split at h
     · rename_i he
       obtain ⟨h1,h2⟩:=b0F (call:=call) hL _ h
       refine ⟨?_,h2⟩
       have e:o=p:=by simpa using he
       subst e
       simp only [C3,List.map_cons,List.map_nil,AV.rn,a1a,hp,Option.map_some]
       rw [if_pos (by simp)]
       exact h1
     · cases h
   · cases h
 · cases h
theorem b4C {n:Nat} (hL:R.G st):SemRn R (C1 n call) as bx st:=by
 rintro x h
 unfold C1 at h
 split at h
 · rename_i o off p f
   split at h
   · rename_i he
     obtain ⟨h1,h2⟩:=a8s (call:=call) hL _ h
     refine ⟨?_,h2⟩
     have e:o=p:=by simpa using he.1
     subst e
     simp only [C1,List.map_cons,List.map_nil,AV.rn]
     rw [if_pos ⟨by simp,he.2⟩]
     exact h1
   · cases h
 · cases h
theorem b7l {n:Nat} (hL:R.G st):SemRn R (B0 n call) as bx st:=by
 rintro x h
 unfold B0 at h
 split at h
 · rename_i o off y r gs
   split at h
   · rename_i p hp
     split at h
     · rename_i he
       obtain ⟨h1,h2⟩:=b0o (call:=call) hL _ h
       refine ⟨?_,h2⟩
       have e:o=p:=by simpa using he.1
       subst e
       have ha:=T7 (R:=R) hL (some o) _ he.2
       simp only [B0,List.map_cons,AV.rn,a1a,hp,Option.map_some] at ha ⊢
       rw [if_pos ⟨by simp,ha⟩]
       exact h1
     · cases h
   · cases h
 · cases h
theorem c1D {k:Kind} (hk:k.shu=true) (hc:S2 R call) (hL:R.G st):SemRn R (sem k call) as bx st:=by
 cases k
 case mv=>exact c4V (call:=call) hL
 case pick=>exact c0M (call:=call) hL
 case nilchk=>exact b4e (call:=call) hL
 case alloc z=>exact b5D (call:=call) hk hL
 case allocO z=>exact b35 (call:=call) hk hL
 case boxV=>exact b9u (call:=call) hL
 case boxO=>exact c0E (call:=call) hL
 case build z o=>exact b6S (call:=call) hk hL
 case bslice n z a=>exact b4L (call:=call) hk hL
 case bsliceM n z a=>exact b0N (call:=call) hk hL
 case bsliceO n z a=>exact b19 (call:=call) hk hL
 case min2=>exact b8F (call:=call) hL
 case stuck=>intro r h; cases h
 case eqIS neg=>exact c0G (call:=call) hL
 case ldLc=>exact c0o (call:=call) hL
 case ldSt=>exact b0F (call:=call) hL
 case ldRo=>exact b8O (call:=call) hL
 case ldAn=>exact b9B (call:=call) hL
 case ldLcS=>exact b52 (call:=call) hL
 case ldStS=>exact a8s (call:=call) hL
 case ldStR=>exact b7o (call:=call) hL
 case ldStSR=>exact b4C (call:=call) hL
 case stStA=>exact b7l (call:=call) hL
 case callA=>exact b5G (call:=call) hc hL
 case stLc=>exact c0b (call:=call) hL
 case stSt=>exact b0o (call:=call) hL
 case fad=>exact c2X (call:=call) hL
 case fld=>exact c3C (call:=call) hL
 case iad=>exact c2l (call:=call) hL
 case iadA=>exact c0H (call:=call) hL
 case idxS=>exact b8f (call:=call) hL
 case slS=>exact c3p (call:=call) hL
 case slL=>exact c2M (call:=call) hL
 case slZ=>exact c3G (call:=call) hL
 case slA=>exact c08 (call:=call) hL
 case bin=>exact c4l (call:=call) hL
 case binB=>exact b9s (call:=call) hL
 case binP=>exact b9g (call:=call) hL
 case un=>exact c52 (call:=call) hL
 case conv=>exact c0j (call:=call) hL
 case mkF=>exact c2d (call:=call) hL
 case mkM=>exact c34 (call:=call) hL
 case mget=>exact b0A (call:=call) hk hL
 case mgetR=>exact b6c (call:=call) hk hL
 case mset=>exact b8M (call:=call) hL
 case mdel=>exact b82 (call:=call) hL
 case clrS=>exact b8j (call:=call) hL
 case slO=>exact c3b (call:=call) hL
 case max2=>exact b96 (call:=call) hL
 case idxA=>exact b92 (call:=call) hL
 case appS=>exact c0D (call:=call) hL
 case ext=>exact c01 (call:=call) hL
 case call=>exact b0v (call:=call) hc hL
 case callV=>exact b7K (call:=call) hc hL
 case lenS=>exact c0l (call:=call) hL
 case lenL=>exact c0g (call:=call) hL
 case app=>exact c3B (call:=call) hL
 case appM=>exact b9a (call:=call) hL
 case appA=>exact b9V (call:=call) hL
 case b2s=>exact c3U (call:=call) hL
end
def _root_.Go.Cb.Opd.shu:Opd→Bool
 | .c a=>a.shu
 | _=>true
def _root_.Go.Cb.AOper.shu (o:AOper):Bool:=o.kind.shu && o.args.all Opd.shu && (match o.guard with|some (x,_)=>x.shu|none=>true)
def _root_.Go.Cb.ACode.shu:ACode→Bool
 | .reg _ ops=>ops.all AOper.shu
 | .test _ ops c a b=>ops.all AOper.shu && c.shu && a.shu && b.shu
 | .seq a b=>a.shu && b.shu
 | .blk _ a=>a.shu
 | .loop a=>a.shu
 | .either _ a b=>a.shu && b.shu
 | _=>true
section
variable {R:Rn} {call:b6}
def _root_.Go.Cb.Sig.rn (R:Rn) (σ:Sig):Sig:=⟨σ.fr.map (AV.rn R.ρ),fun j=>(σ.τ j).rn R.ρ,R.ms σ.st⟩
theorem R3 (fr:List AV) (i:Nat):(fr.map (AV.rn R.ρ)).getD i AV.undef=(fr.getD i AV.undef).rn R.ρ:=by
 simp only [List.getD_eq_getElem?_getD,List.getElem?_map]
 cases fr[i]? <;> rfl
theorem a5r {x:Opd} (hx:x.shu=true) (σ:Sig):x.read (σ.rn R)=(x.read σ).rn R.ρ:=by
 cases x with
 | t s=>exact (R2 _).symm
 | ts s=>rfl
 | v i=>show ((σ.fr.map _).getD i AV.undef).weak=_; rw [R3,← R2]; rfl
 | vs i=>exact R3 _ _
 | l i =>
  show (match (σ.fr.map _).getD i AV.undef with|.box _=>AV.loc i 0|_=>AV.undef)=(match σ.fr.getD i AV.undef with|.box _=>AV.loc i 0|_=>AV.undef).rn R.ρ
  rw [R3]
  cases σ.fr.getD i AV.undef <;> rfl
 | c a=>exact (a7t _ _ hx).symm
theorem b7w (x:Opd) (σ:Sig):x.spend (σ.rn R)=(x.spend σ).rn R:=by
 cases x with
 | ts s =>
  show Sig.mk _ _ _=Sig.mk _ _ _
  congr 1
  funext j
  show p8 _ _ _ _=(p8 _ _ _ _).rn R.ρ
  unfold p8
  split
  · exact (R2 _).symm
  · rfl
 | vs i =>
  show Sig.mk _ _ _=Sig.mk _ _ _
  congr 1
  show (σ.fr.map _).set i ((σ.fr.map _).getD i AV.undef).weak=(σ.fr.set i (σ.fr.getD i AV.undef).weak).map _
  rw [R3,List.map_set,R2]
 | _=>rfl
theorem a3J:∀ (xs:List Opd) (σ:Sig),b7 xs (σ.rn R)=(b7 xs σ).rn R
 | [],_=>rfl
 | x::xs,σ=>by rw [b7,b7,b7w,a3J xs]
theorem a7Q (d:Dst) (a:AV) (σ:Sig):d.put (a.rn R.ρ) (σ.rn R)=(d.put a σ).rn R:=by
 cases d with
 | none=>rfl
 | bx=>rfl
 | t s =>
  show Sig.mk _ _ _=Sig.mk _ _ _
  congr 1
  funext j
  show p8 _ _ _ _=(p8 _ _ _ _).rn R.ρ
  unfold p8
  split
  · exact (b4f _).symm
  · rfl
 | v i =>
  show Sig.mk _ _ _=Sig.mk _ _ _
  congr 1
  show (σ.fr.map _).set i (a.rn R.ρ).strip=(σ.fr.set i a.strip).map _
  rw [List.map_set,b53]
theorem a6K:∀ {xs:List Opd},xs.all Opd.shu=true→∀ σ:Sig,xs.map (·.read (σ.rn R))=(xs.map (·.read σ)).map (AV.rn R.ρ)
 | [],_,_=>rfl
 | x::xs,h,σ=>by
  simp only [List.all_cons,Bool.and_eq_true] at h
  rw [List.map_cons,List.map_cons,List.map_cons,a5r h.1,a6K h.2]
theorem b0s (hc:S2 R call) {o:AOper} (ho:o.shu=true) {σ σ':Sig} (hL:R.G σ.st) (h:C2 call o σ=some σ'):C2 call o (σ.rn R)=some (σ'.rn R)∧R.G σ'.st:=by
 have hst:∀ (d:Dst) (a:AV) (σ:Sig),(d.put a σ).st=σ.st:=fun d a σ=>by cases d <;> rfl
 unfold AOper.shu at ho
 simp only [Bool.and_eq_true] at ho
 obtain ⟨⟨hk,ha⟩,_⟩:=ho
 obtain ⟨r,b,s,hs,rfl⟩:=k9 h
 have hb:q6 o (σ.rn R)=(q6 o σ).rn R.ρ:=by
  unfold q6
  cases o.box with
  | none=>rfl
  | some i=>exact R3 _ _
 obtain ⟨h1,h2⟩:=c1D (R:=R) hk hc hL _ hs
 rw [← a6K ha,← hb] at h1
 refine ⟨?_,by rw [hst]; exact h2⟩
 rw [a1K h1,a3J]
 refine congrArg some (Eq.trans ?_ (a7Q (R:=R) o.dst r _))
 refine congrArg (o.dst.put _) ?_
 show Sig.mk _ _ _=Sig.mk _ _ _
 congr 1
 cases o.box with
 | none=>rfl
 | some i=>exact List.map_set.symm
theorem b4O (hc:S2 R call) {o:AOper} (ho:o.shu=true) {σ σ':Sig} (hL:R.G σ.st) (h:e8 call o σ=some σ'):e8 call o (σ.rn R)=some (σ'.rn R)∧R.G σ'.st:=by
 have hst:∀ (d:Dst) (a:AV) (σ:Sig),(d.put a σ).st=σ.st:=fun d a σ=>by cases d <;> rfl
 unfold e8 at h ⊢
 cases hg:o.guard with
 | none=>rw [hg] at h; exact b0s hc ho hL h
 | some xw =>
  obtain ⟨x,w⟩:=xw
  rw [hg] at h
  have hx:x.shu=true:=by
   unfold AOper.shu at ho
   simp only [Bool.and_eq_true,hg] at ho
   exact ho.2
  dsimp only at h ⊢
  rw [a5r hx]
  cases hr:x.read σ <;> rw [hr] at h <;> try cases h
  · dsimp only [AV.rn] at h ⊢
    split at h
    · rename_i hb; rw [if_pos hb]; exact b0s hc ho hL h
    · rename_i hb; rw [if_neg hb]; cases h; exact ⟨congrArg some (a7Q (R:=R) o.dst (.tuple []) σ),by rw [hst]; exact hL⟩
  · rename_i vs
    cases vs with
    | nil=>dsimp only at h; cases h; exact ⟨congrArg some (a7Q (R:=R) o.dst (.tuple []) σ),by rw [hst]; exact hL⟩
    | cons v vs=>cases h
theorem a3g (hc:S2 R call):∀ {os:List AOper},os.all AOper.shu=true→∀ {σ σ':Sig},R.G σ.st→g9 call os σ=some σ'→g9 call os (σ.rn R)=some (σ'.rn R)∧R.G σ'.st
 | [],_,σ,σ',hL,h=>by simp only [g9] at h ⊢; cases h; exact ⟨rfl,hL⟩
 | o::os,ho,σ,σ',hL,h=>by
  simp only [List.all_cons,Bool.and_eq_true] at ho
  simp only [g9] at h ⊢
  cases hs:e8 call o σ with
  | none=>rw [hs] at h; cases h
  | some σ1 =>
   rw [hs] at h
   obtain ⟨h1,h2⟩:=b4O hc ho.1 hL hs
   rw [h1]
   exact a3g hc ho.2 h2 h
theorem a0o:∀ (is:List Nat) (fr:List AV),e7 is (fr.map (AV.rn R.ρ))=(e7 is fr).map (AV.rn R.ρ)
 | [],_=>rfl
 | i::is,fr=>by
  rw [e7,e7,← a0o is,List.map_set]
  rfl
def a08 (R:Rn) (o:Out):Out:=(o.1,o.2.1.map (AV.rn R.ρ),R.ms o.2.2)
theorem b0y {body:List AV→St→Option Out} (hb:∀ fr st o,R.G st→body fr st=some o→body (fr.map (AV.rn R.ρ)) (R.ms st)=some (a08 R o)∧R.G o.2.2) :
 ∀ (n:Nat) {fr:List AV} {st:St} {o:Out},R.G st→F0 body n fr st=some o→F0 body n (fr.map (AV.rn R.ρ)) (R.ms st)=some (a08 R o)∧R.G o.2.2
 | 0,_,_,_,_,h=>by simp [F0] at h
 | n+1,fr,st,o,hL,h=>by
  simp only [F0] at h ⊢
  cases hq:body fr st with
  | none=>rw [hq] at h; cases h
  | some x =>
   obtain ⟨e,fr1,st1⟩:=x
   rw [hq] at h
   obtain ⟨h1,h2⟩:=hb _ _ _ hL hq
   rw [h1]
   cases e with
   | normal=>exact b0y hb n h2 h
   | exit id=>cases h; exact ⟨rfl,h2⟩
   | ret=>cases h; exact ⟨rfl,h2⟩
theorem Q7 (hc:S2 R call) (n:Nat):∀ {x:ACode},x.shu=true→∀ {fr:List AV} {st:St} {o:Out},R.G st→b9 call n x fr st=some o→b9 call n x (fr.map (AV.rn R.ρ)) (R.ms st)=some (a08 R o)∧R.G o.2.2
 | .skip,_,_,_,_,hL,h=>by simp only [b9] at h ⊢; cases h; exact ⟨rfl,hL⟩
 | .exit _,_,_,_,_,hL,h=>by simp only [b9] at h ⊢; cases h; exact ⟨rfl,hL⟩
 | .ret,_,_,_,_,hL,h=>by simp only [b9] at h ⊢; cases h; exact ⟨rfl,hL⟩
 | .reg kill ops,hs,fr,st,o,hL,h=>by
  simp only [b9,fL_eq] at h ⊢
  cases hq:g9 call ops ⟨e7 kill fr,fun _=>.undef,st⟩ with
  | none=>simp [hq] at h
  | some σ =>
   obtain ⟨h1,h2⟩:=a3g hc hs hL hq
   simp only [hq] at h
   cases h
   have e:(Sig.rn R ⟨e7 kill fr,fun _=>.undef,st⟩)=⟨e7 kill (fr.map (AV.rn R.ρ)),fun _=>.undef,R.ms st⟩:=by
    rw [a0o]; rfl
   rw [e] at h1
   rw [h1]
   exact ⟨rfl,h2⟩
 | .test kill ops c a b,hs,fr,st,o,hL,h=>by
  simp only [ACode.shu,Bool.and_eq_true] at hs
  obtain ⟨⟨⟨h1,h2⟩,h3⟩,h4⟩:=hs
  rw [a2W] at h ⊢
  rw [X0] at h ⊢
  cases hq:g9 call ops ⟨e7 kill fr,fun _=>.undef,st⟩ with
  | none=>rw [hq] at h; cases h
  | some σ =>
   obtain ⟨k1,k2⟩:=a3g hc h1 hL hq
   have e:(Sig.rn R ⟨e7 kill fr,fun _=>.undef,st⟩)=⟨e7 kill (fr.map (AV.rn R.ρ)),fun _=>.undef,R.ms st⟩:=by
    rw [a0o]; rfl
   rw [e] at k1
   rw [hq,o9] at h
   rw [k1,o9,a5r h2]
   unfold br at h ⊢
   cases hr:c.read σ <;> rw [hr] at h <;> try cases h
   rename_i bb
   cases bb
   · exact Q7 hc n h4 k2 h
   · exact Q7 hc n h3 k2 h
 | .either kill a b,hs,fr,st,o,hL,h=>by
  simp only [ACode.shu,Bool.and_eq_true] at hs
  simp only [b9] at h ⊢
  obtain ⟨oa,ob,ea,eb,ka,kb⟩:=a0n h
  obtain ⟨a1,a2⟩:=Q7 hc n hs.1 hL ea
  obtain ⟨b1,b2⟩:=Q7 hc n hs.2 hL eb
  have hk:∀ x:Out,G0 kill (a08 R x)=a08 R (G0 kill x):=fun x=>by
   unfold G0 a08
   rw [a0o]
  rw [a1,b1,a5j (by rw [hk,hk,ka,kb]),hk,ka]
  refine ⟨rfl,?_⟩
  rw [← ka]
  exact a2
 | .seq a b,hs,fr,st,o,hL,h=>by
  simp only [ACode.shu,Bool.and_eq_true] at hs
  rw [exec_seqK] at h ⊢
  cases hq:b9 call n a fr st with
  | none=>rw [hq] at h; cases h
  | some x =>
   obtain ⟨e,fr1,st1⟩:=x
   obtain ⟨h1,h2⟩:=Q7 hc n hs.1 hL hq
   rw [hq] at h
   rw [h1]
   cases e with
   | normal=>exact Q7 hc n hs.2 h2 h
   | exit id=>cases h; exact ⟨rfl,h2⟩
   | ret=>cases h; exact ⟨rfl,h2⟩
 | .blk id a,hs,fr,st,o,hL,h=>by
  simp only [b9] at h ⊢
  cases hq:b9 call n a fr st with
  | none=>rw [hq] at h; cases h
  | some x =>
   obtain ⟨e,fr1,st1⟩:=x
   obtain ⟨h1,h2⟩:=Q7 hc n (x:=a) hs hL hq
   rw [hq] at h
   rw [h1]
   cases e with
   | normal=>cases h; exact ⟨rfl,h2⟩
   | exit id'=>cases h; exact ⟨rfl,h2⟩
   | ret=>cases h; exact ⟨rfl,h2⟩
 | .loop a,hs,fr,st,o,hL,h=>by
  simp only [b9] at h ⊢
  exact b0y (fun fr st o hL h=>Q7 hc n (x:=a) hs hL h) n hL h
def ExtRn (e:List AV→St→Option (AV×St)):Prop:=∀ (R:Rn) as st r st',R.G st→e as st=some (r,st')→e (as.map (AV.rn R.ρ)) (R.ms st)=some (r.rn R.ρ,R.ms st')∧R.G st'
def TblRn (tbl:Nat→Option AFn):Prop:=∀ f fn,tbl f=some fn→fn.code.shu=true∧∀ e,fn.ext=some e→ExtRn e
theorem b34 (r:ResK) (fr:List AV) {st:St} (hL:R.G st):r.get (fr.map (AV.rn R.ρ)) (R.ms st)=(r.get fr st).map (AV.rn R.ρ):=by
 cases r with
 | po i ag n =>
  simp only [ResK.get]
  rw [R3]
  cases fr.getD i AV.undef <;> try rfl
  rename_i o off
  simp only [AV.rn]
  rw [R.get hL]
  cases st[o]? with
  | none=>rfl
  | some ob =>
   cases ob with
   | cells cs=>simp only [Option.map_some,Obj.rn,R5,E3]
   | map _=>rfl
   | dead=>rfl
 | v i=>show some _=some _; rw [R3,← R2]
 | vs i=>show some _=some _; rw [R3]
 | bx i ag n =>
  simp only [ResK.get]
  rw [R3]
  cases fr.getD i AV.undef <;> try rfl
  rename_i cs
  simp only [AV.rn,l9,E3]
theorem a2H {st:St} (hL:R.G st):∀ (rs:List ResK) (fr:List AV),B8 rs (fr.map (AV.rn R.ρ)) (R.ms st)=(B8 rs fr st).map (·.map (AV.rn R.ρ))
 | [],_=>rfl
 | r::rs,fr=>by
  rw [B8,B8,b34 r fr hL,a2H hL rs]
  cases r.get fr st <;> cases B8 rs fr st <;> rfl
theorem c1q (hc:S2 R call) (n:Nat) {fn:AFn} (hf:fn.code.shu=true) {as:List AV} {st st':St} {r:AV} (hL:R.G st) (h:fn.run call n as st=some (r,st')):fn.run call n (as.map (AV.rn R.ρ)) (R.ms st)=some (r.rn R.ρ,R.ms st')∧R.G st':=by
 have hl:as.length=fn.np:=by
  unfold AFn.run at h
  split at h
  · assumption
  · cases h
 rw [a0Y _ _ _ _ _ hl] at h
 rw [a0Y _ _ _ _ _ (by rw [List.length_map]; exact hl)]
 cases hq:b9 call n fn.code (as++List.replicate (fn.nv - fn.np) .undef) st with
 | none=>rw [hq] at h; cases h
 | some o =>
  obtain ⟨e,fr,s⟩:=o
  obtain ⟨h1,h2⟩:=Q7 hc n hf hL hq
  rw [hq] at h
  rw [List.map_append,List.map_replicate] at h1
  rw [show AV.rn R.ρ .undef=.undef from rfl] at h1
  rw [h1]
  cases e with
  | exit id=>cases h
  | normal =>
   simp only [finK,a08,a2H (show R.G s from h2)] at h ⊢
   cases hg:B8 fn.results fr s with
   | none=>rw [hg] at h; cases h
   | some vs =>
    rw [hg] at h
    match vs,h with
    | [],h=>cases h; exact ⟨rfl,h2⟩
    | [v],h=>cases h; exact ⟨rfl,h2⟩
    | v::w::vs,h=>cases h; exact ⟨by simp only [Option.map_some,List.map_cons,AV.rn,l9,K5],h2⟩
  | ret =>
   simp only [finK,a08,a2H (show R.G s from h2)] at h ⊢
   cases hg:B8 fn.results fr s with
   | none=>rw [hg] at h; cases h
   | some vs =>
    rw [hg] at h
    match vs,h with
    | [],h=>cases h; exact ⟨rfl,h2⟩
    | [v],h=>cases h; exact ⟨rfl,h2⟩
    | v::w::vs,h=>cases h; exact ⟨by simp only [Option.map_some,List.map_cons,AV.rn,l9,K5],h2⟩
theorem a7E {tbl:Nat→Option AFn} (ht:TblRn tbl):∀ n,S2 R (l3 tbl n)
 | 0,_,_,_,_,_,_,h=>by simp [l3] at h
 | n+1,f,as,st,r,st',hL,h=>by
  simp only [l3] at h ⊢
  cases htb:tbl f with
  | none=>simp [htb] at h
  | some fn =>
   simp only [htb] at h ⊢
   obtain ⟨h1,h2⟩:=ht f fn htb
   cases he:fn.ext with
   | some e=>simp only [he] at h ⊢; exact h2 e he R _ _ _ _ hL h
   | none =>
    simp only [he] at h ⊢
    exact c1q (a7E ht n) n h1 hL h
theorem c4D {tbl:Nat→Option AFn} (ht:TblRn tbl) {f:Nat} {as:List AV} {st:St} {r:AV} {st':St} (hG:R.G st) (h:Ev tbl f as st r st'):Ev tbl f (as.map (AV.rn R.ρ)) (R.ms st) (r.rn R.ρ) (R.ms st')∧R.G st':=by
 obtain ⟨n,hn⟩:=h
 obtain ⟨h1,h2⟩:=a7E ht n _ _ _ _ _ hG hn
 exact ⟨⟨n,h1⟩,h2⟩
end
end RN
end Go.Cb
/-
 THE ABSTRACT MACHINE, part 63: an answer in a small store holds in any store that has its objects somewhere; what else is there stays.
-/
set_option maxRecDepth 4000
set_option linter.unusedVariables false
namespace Go.Cb
namespace RN
section
variable (T:St) (n:Nat) (q:Nat→Nat)
def rho (a:Nat):Nat:=if a < n then q a else a - n+T.length
def low (st:St) (j:Nat):Obj:=match (List.range n).find? fun i=>Nat.beq (q i) j with
 | some i=>((st[i]?).getD .dead).rn (rho T n q)
 | none=>(T[j]?).getD .dead
def mst (st:St):St:=(List.range T.length).map (low T n q st)++(st.drop n).map (Obj.rn (rho T n q))
variable {T n q} (hi:∀ a b,a < n→b < n→q a=q b→a=b) (hl:∀ a,a < n→q a < T.length)
include hi in
theorem b8k {a:Nat} (ha:a < n):(List.range n).find? (fun i=>Nat.beq (q i) (q a))=some a:=by
 cases h:(List.range n).find? (fun i=>Nat.beq (q i) (q a)) with
 | none =>
  have:=List.find?_eq_none.1 h a (List.mem_range.2 ha)
  simp at this
 | some b =>
  have h1:=List.find?_some h
  have h2:=List.mem_range.1 (List.mem_of_find?_eq_some h)
  rw [hi b a h2 ha (Nat.eq_of_beq_eq_true h1)]
theorem c2b {j:Nat} (hj:∀ a,a < n→q a≠j):(List.range n).find? (fun i=>Nat.beq (q i) j)=none:=by
 rw [List.find?_eq_none]
 intro x hx hb
 exact hj x (List.mem_range.1 hx) (Nat.eq_of_beq_eq_true hb)
include hi hl in
theorem b0b {a b:Nat}:rho T n q a=rho T n q b ↔ a=b:=by
 refine ⟨fun h=>?_,fun h=>h ▸ rfl⟩
 unfold rho at h
 split at h <;> split at h <;> rename_i h1 h2
 · exact hi a b h1 h2 h
 · have:=hl a h1; omega
 · have:=hl b h2; omega
 · omega
theorem a3v {st:St}:(mst T n q st).length=T.length+(st.length - n):=by simp [mst]
include hi hl in
theorem a1x {st:St} (hs:n≤st.length) (o:Nat):(mst T n q st)[rho T n q o]?=(st[o]?).map (Obj.rn (rho T n q)):=by
 unfold mst
 by_cases ho:o < n
 · have e:rho T n q o=q o:=by unfold rho; rw [if_pos ho]
   have hq:=hl o ho
   rw [e,List.getElem?_append_left (by simpa using hq),List.getElem?_map,List.getElem?_range hq]
   have:(st[o]?)=some st[o]:=List.getElem?_eq_getElem (by omega)
   rw [this,Option.map_some,Option.map_some,low,b8k hi ho]
   dsimp only
   rw [this]
   rfl
 · have e:rho T n q o=o - n+T.length:=by unfold rho; rw [if_neg ho]
   rw [e,List.getElem?_append_right (by simp),List.getElem?_map,List.getElem?_drop]
   congr 2
   simp
   omega
theorem a06 {st:St} {j:Nat} (hj:j < T.length) (hn:∀ a,a < n→q a≠j):(mst T n q st)[j]?=T[j]?:=by
 unfold mst
 rw [List.getElem?_append_left (by simpa using hj),List.getElem?_map,List.getElem?_range hj,Option.map_some,low,c2b hn,List.getElem?_eq_getElem hj]
 rfl
include hi hl in
theorem b90 {st:St} (hs:n≤st.length) (o:Nat) (x:Obj):mst T n q (st.set o x)=(mst T n q st).set (rho T n q o) (x.rn (rho T n q)):=by
 apply List.ext_getElem?
 intro j
 by_cases hj:∃ i,j=rho T n q i
 · obtain ⟨i,rfl⟩:=hj
   rw [a1x hi hl (by simpa using hs),List.getElem?_set,List.getElem?_set]
   by_cases e:o=i
   · subst e
     rw [if_pos rfl,if_pos rfl,a3v]
     by_cases h:o < st.length
     · have:rho T n q o < T.length+(st.length - n):=by
        unfold rho
        split
        · rename_i h1; have:=hl o h1; omega
        · omega
       rw [if_pos h,if_pos this]; rfl
     · have:¬ rho T n q o < T.length+(st.length - n):=by
        unfold rho
        rw [if_neg (by omega)]
        omega
       rw [if_neg h,if_neg this]; rfl
   · rw [if_neg e,if_neg (fun h=>e ((b0b hi hl).1 h)),a1x hi hl hs]
 · have hne:rho T n q o≠j:=fun e=>hj ⟨o,e.symm⟩
   rw [List.getElem?_set,if_neg hne]
   by_cases hjl:j < T.length
   · have hn:∀ a,a < n→q a≠j:=fun a ha e=>hj ⟨a,by unfold rho; rw [if_pos ha,e]⟩
     rw [a06 hjl hn,a06 hjl hn]
   · exfalso
     exact hj ⟨j - T.length+n,by unfold rho; rw [if_neg (by omega)]; omega⟩
def b2h:Rn where
 ρ:=rho T n q
 ms:=mst T n q
 G:=fun st=>n≤st.length
 inj:=b0b hi hl
 len:=fun {st} hs=>by
  rw [a3v]; unfold rho; rw [if_neg (by omega)]; omega
 get:=fun hs o=>a1x hi hl hs o
 app:=fun {st x} hs=>by simp; omega
 apps:=fun {st} hs x=>by
  unfold mst
  rw [List.drop_append_of_le_length hs,List.map_append,← List.append_assoc]
  congr 2
  refine List.map_congr_left fun j _=>?_
  unfold low
  cases h:(List.range n).find? (fun i=>Nat.beq (q i) j) with
  | none=>rfl
  | some i =>
   have:=List.mem_range.1 (List.mem_of_find?_eq_some h)
   dsimp only
   rw [List.getElem?_append_left (by omega)]
 set:=fun {st o x} hs=>by simpa using hs
 sets:=fun hs o x=>b90 hi hl hs o x
include hi hl in
theorem Ev.framed {tbl:Nat→Option AFn} (ht:TblRn tbl) {f:Nat} {as:List AV} {st:St} {r:AV} {st':St} (hn:n=st.length) (hT:∀ a,a < n→T[q a]?=(st[a]?).map (Obj.rn (rho T n q))) (h:Ev tbl f as st r st') :
 ∃ T',Ev tbl f (as.map (AV.rn (rho T n q))) T (r.rn (rho T n q)) T'∧T.length≤T'.length∧(∀ j,j < T.length→(∀ a,a < n→q a≠j)→T'[j]?=T[j]?)∧∀ o,T'[rho T n q o]?=(st'[o]?).map (Obj.rn (rho T n q)):=by
 obtain ⟨h1,h2⟩:=c4D (R:=b2h hi hl) ht (show n≤st.length by omega) h
 have e:mst T n q st=T:=by
  apply List.ext_getElem?
  intro j
  by_cases hj:∃ a,a < n∧q a=j
  · obtain ⟨a,ha,rfl⟩:=hj
    have:=a1x (T:=T) hi hl (st:=st) (by omega) a
    rw [show rho T n q a=q a by unfold rho; rw [if_pos ha]] at this
    rw [this,hT a ha]
  · have hn':∀ a,a < n→q a≠j:=fun a ha e=>hj ⟨a,ha,e⟩
    by_cases hjl:j < T.length
    · exact a06 hjl hn'
    · rw [List.getElem?_eq_none (by rw [a3v]; omega),List.getElem?_eq_none (by omega)]
 have h1:Ev tbl f (as.map (AV.rn (rho T n q))) (mst T n q st) (r.rn (rho T n q)) (mst T n q st'):=h1
 rw [e] at h1
 exact ⟨_,h1,by rw [a3v]; omega,fun j hj hn'=>a06 hj hn',fun o=>a1x hi hl h2 o⟩
end
end RN
end Go.Cb
